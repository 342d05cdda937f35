/- Parts of the proof, merged in build order: MSend, MCut, MBlk, MWhl, MExa, MExb, MExc, MExd, MExec. -/
import Derived.Test.YteonloecenodbaaB4
import Derived.Defers
/- (*interp.machine).send. -/
namespace Go.Proofs.Yteonloecenodbaa.PX
open Go.RowKit Go.Shelf Go.Proofs.YteonloecenodbaaW.PrintWords Go.Proofs.YteonloecenodbaaW.PrintLast Go.Proofs.YteonloecenodbaaW.PrintMore
set_option linter.unusedVariables false
set_option maxRecDepth 100000 in
set_option maxHeartbeats 4000000 in
theorem send_calls {w0 W : World} {p : PV} {E : Env} {AR : Option Addr} {cR b : Nat} {V : VV} {M M' : St} (hO : Ok w0 p E AR cR W b V M) (s : ByteArray) (v : Int) (hv : sendE E M s v = some M') :
    Calls Try.prog 102 #[.pointer (some ⟨b, 0, none⟩), .string s, .int .i16 v] W fun e W' => e = .returned (.tuple #[]) ∧ ∃ cs1, Ok w0 p E AR cR W' b { V with cs := cs1 } M' ∧ Step W W' b V { V with cs := cs1 } := by
  have HO := Aside0.mk hO
  clear hO
  unfold sendE at hv
  replace hv := Option.bind_eq_some_iff.1 hv
  obtain ⟨⟨r1, r2, r3⟩, hr, hv⟩ := hv
  simp only at hv
  split at hv
  case isFalse => cases hv
  rename_i hi
  obtain ⟨hi0, hi1, hi2⟩ := hi
  obtain ⟨v0, v1, v2, v3, v4, v5⟩ := p
  obtain ⟨Ac, cc, hp4, hC4⟩ := HO.out.P.c4
  simp only at hp4
  subst hp4
  obtain ⟨adc, rfl, q0, q1, q2⟩ := at_T131 hC4 r2 hi0 hi2
  simp only [show rd_T131 E.l4 r2 = E.l4.getD r2.toNat z131 from rfl] at q0 q1 q2
  generalize hcap : E.l4.getD r2.toNat z131 = cp at q0 q1 q2 hv
  obtain ⟨AG, cG, hG, _⟩ := Kd.Q_slice HO.out.m.C.q
  have hgl := HO.out.m.cr.len
  generalize hrow : M.channels.getD r2.toNat [] = row at hv
  have HG := Aside0.mk hG
  have HGL := Aside0.mk hgl
  have Q1 := Aside0.mk q1
  clear q0 q1 q2 hC4 hG hgl
  have d0 := HO.out.m.cell 0 rfl
  have d1 := HO.out.m.cell 1 rfl
  have d2 := HO.out.m.cell 2 rfl
  have d3 := HO.out.m.cell 3 rfl
  have d4 := HO.out.m.cell 4 rfl
  have d5 := HO.out.m.cell 5 rfl
  go_enter Try.func102, Try.ntmps102
  go_wp2_with (first
    | (go_at_call 74; refine (HO.out.P.look HO.out.B hr).mono ?_; rintro e W2 ⟨rfl, hB2⟩; clear d0 d1 d2 d3 d5; have hO2 := HO.out.up hB2; have d7 := hO2.m.cell 7 rfl; rw [HG.out] at d7; obtain ⟨ad, rfl, hn, A1, c1, hs, hx0, hq⟩ := row_of (HG.out ▸ hO2.m.C) hO2.m.cr r2 hi0 hi1; rw [HGL.out] at d7; rw [hrow] at hs hx0 hq; replace d4 := cell_up hB2 d4; have q1 := cell_up hO2.B Q1.out; have d10 := hO2.m.cell 10 rfl; have f10 := hO2.m.frozen 10; have HO2 := Aside0.mk hO2; have HB2 := Aside0.mk hB2; have HQ := Aside0.mk hq; have HS := Aside0.mk hs; have HR := Aside0.mk hr; clear hq hs hO2 hB2 hr))
  go_region_held3 (fun w' => w'.cell? ⟨b, 7, none⟩ = some (.slice (some ad) M.channels.length cG) ∧ w'.cell? (ad.add r2.toNat) = some (.slice A1 row.length c1) ∧ w'.cell? ⟨b, 4, none⟩ = some (.slice (some adc) E.l4.length cc) ∧ w'.cell? ⟨(adc.add (r2.toNat * 3)).block, (adc.add (r2.toNat * 3)).off + 1, none⟩ = some (.int .i64 cp.f1)) (go_keep) (fail)
  by_cases hlc : (row.length : Int) < cp.f1
  · rw [if_pos hlc] at hv
    split at hv
    case isFalse => cases hv
    rename_i hlm
    obtain rfl := Option.some.inj hv
    have hlb : decide (cp.f1 ≤ (row.length : Int)) = false := decide_eq_false (by omega)
    go_wp2
    obtain ⟨W3, hW3⟩ : ∃ W3, W3 = W2.drew := ⟨_, rfl⟩
    rw [← hW3]
    have hB3 : Below W2.heap.size W2 W3 := by rw [hW3]; exact below_drew1 (Below.refl _ _)
    have hO4 := HO2.out.up (hB3.trans (below_drew1 (Below.refl W3.heap.size W3) |>.mono hB3.size))
    have HO4 : Aside0 (Ok w0 ⟨v0, v1, v2, v3, .slice (some adc) E.l4.length cc, v5⟩ E AR cR W3.drew b V M) := ⟨hO4⟩
    have HB4 : Aside0 (Below W2.heap.size W2 W3.drew) := ⟨hB3.trans (below_drew1 (Below.refl W3.heap.size W3) |>.mono hB3.size)⟩
    have d7 := cell_up hB3 d7
    have hx0 := cell_up hB3 hx0
    clear hO4 hB3 hW3
    refine start_ (n := 21) (S := (fun w' => w'.cell? ⟨b, 7, none⟩ = some (.slice (some ad) M.channels.length cG) ∧ w'.cell? (ad.add r2.toNat) = some (.slice A1 row.length c1))) (ds := [20]) #[false, false, false, false, false, false, false, false, false, false, false, false, false, false, false, false, false, false, false, false, false] (by kernel_rfl) rfl rfl ⟨d7, hx0⟩ (fun hHeld => ?_)
    generalize W3.drew = W4 at HO4 HB4 hHeld ⊢
    have hst := ((Step.of_below HB2.out b V).trans (Step.of_below HB4.out b V))
    have HST := Aside0.mk hst
    have hrw := row_of (HG.out ▸ HO4.out.m.C) HO4.out.m.cr r2 hi0 hi1
    obtain ⟨_, e1_, _, _, _, hs4, hx4, hq4⟩ := hrw
    cases e1_
    rw [HS.out] at hs4
    rw [hrow] at hs4 hx4 hq4
    obtain ⟨rfl, _, rfl⟩ := Sl.mk.inj (Option.some.inj hs4)
    have HQ4 : Aside0 (kI.Q 29 W4 w0.heap.size (fun _ => True) (.slice A1 row.length c1) row) := ⟨hq4.q⟩
    have HR1 : Aside0 (QQ kI 29 W4 w0.heap.size (.slice A1 row.length c1) row) := ⟨hq4⟩
    have HX4 := Aside0.mk hx4
    have HADL : Aside0 ((ad.add r2.toNat).block < W4.heap.size) := ⟨World.block_lt_of_cell? _ _ hx4⟩
    have HADN : Aside0 (¬ some (ad.add r2.toNat).block = (Value.slice A1 row.length c1).ownBlock) := ⟨fun e => HO4.out.m.C.ne hq4 (by decide) ad.block (by rw [HG.out]; rfl) (by rw [← e, add_blk])⟩
    have HLIM := Aside0.mk hlm
    clear hst hs4 hx4 hq4 d7 hx0
    refine pure_ (i := 0) (N := some 50) (v := ?_) (a' := ?_) #[true, false, false, false, false, false, false, false, false, false, false, false, false, false, false, false, false, false, false, false, false] rfl rfl (by kernel_rfl) (fun _ _ _ h => h) (Or.inl ⟨by rfl, ?_⟩) ?_ ?_
    rotate_left
    · intro w'
      go_simp
      with_reducible rfl
    rotate_left
    · simp only [Act.put, List.setIfInBounds_toArray, List.set_cons_zero, List.set_cons_succ]
      rfl
    refine pure_ (i := 1) (N := some 51) (v := ?_) (a' := ?_) #[true, true, false, false, false, false, false, false, false, false, false, false, false, false, false, false, false, false, false, false, false] rfl rfl (by kernel_rfl) (fun _ _ _ h => h) (Or.inl ⟨by rfl, ?_⟩) ?_ ?_
    rotate_left
    · intro w'
      go_simp
      with_reducible rfl
    rotate_left
    · simp only [Act.put, List.setIfInBounds_toArray, List.set_cons_zero, List.set_cons_succ]
      rfl
    refine pure_ (i := 2) (N := some 52) (v := ?_) (a' := ?_) #[true, true, true, false, false, false, false, false, false, false, false, false, false, false, false, false, false, false, false, false, false] rfl rfl (by kernel_rfl) (fun _ _ _ h => h) (Or.inl ⟨by rfl, ?_⟩) ?_ ?_
    rotate_left
    · intro w'
      go_simp
      with_reducible rfl
    rotate_left
    · simp only [Act.put, List.setIfInBounds_toArray, List.set_cons_zero, List.set_cons_succ]
      rfl
    refine pure_ (i := 3) (N := some 53) (v := ?_) (a' := ?_) #[true, true, true, true, false, false, false, false, false, false, false, false, false, false, false, false, false, false, false, false, false] rfl rfl (by kernel_rfl) (fun _ _ _ h => h) (Or.inl ⟨by rfl, ?_⟩) ?_ ?_
    rotate_left
    · intro w'
      go_simp
      with_reducible rfl
    rotate_left
    · simp only [Act.put, List.setIfInBounds_toArray, List.set_cons_zero, List.set_cons_succ]
      rfl
    refine pure_ (i := 4) (N := some 54) (v := ?_) (a' := ?_) #[true, true, true, true, true, false, false, false, false, false, false, false, false, false, false, false, false, false, false, false, false] rfl rfl (by kernel_rfl) (fun _ _ _ h => h) (Or.inl ⟨by rfl, ?_⟩) ?_ ?_
    rotate_left
    · intro w'
      go_simp
      with_reducible rfl
    rotate_left
    · simp only [Act.put, List.setIfInBounds_toArray, List.set_cons_zero, List.set_cons_succ]
      rfl
    refine take_ (i := 5) (N := some 55) (v := ?_) (a' := ?_) #[true, true, true, true, true, true, false, false, false, false, false, false, false, false, false, false, false, false, false, false, false] rfl rfl (by kernel_rfl) (fun _ _ _ h => h) (Or.inl ⟨by rfl, ?_⟩) hHeld ?_ ?_
    rotate_left
    · rintro w' ⟨s0, s1⟩
      go_simp
      with_reducible rfl
    rotate_left
    · simp only [Act.put, List.setIfInBounds_toArray, List.set_cons_zero, List.set_cons_succ]
      rfl
    refine pure_ (i := 6) (N := some 56) (v := ?_) (a' := ?_) #[true, true, true, true, true, true, true, false, false, false, false, false, false, false, false, false, false, false, false, false, false] rfl rfl (by kernel_rfl) (fun _ _ _ h => h) (Or.inl ⟨by rfl, ?_⟩) ?_ ?_
    rotate_left
    · intro w'
      go_simp
      with_reducible rfl
    rotate_left
    · simp only [Act.put, List.setIfInBounds_toArray, List.set_cons_zero, List.set_cons_succ]
      rfl
    refine pure_ (i := 7) (N := some 57) (v := ?_) (a' := ?_) #[true, true, true, true, true, true, true, true, false, false, false, false, false, false, false, false, false, false, false, false, false] rfl rfl (by kernel_rfl) (fun _ _ _ h => h) (Or.inl ⟨by rfl, ?_⟩) ?_ ?_
    rotate_left
    · intro w'
      go_simp
      with_reducible rfl
    rotate_left
    · simp only [Act.put, List.setIfInBounds_toArray, List.set_cons_zero, List.set_cons_succ]
      rfl
    refine pure_ (i := 8) (N := some 58) (v := ?_) (a' := ?_) #[true, true, true, true, true, true, true, true, true, false, false, false, false, false, false, false, false, false, false, false, false] rfl rfl (by kernel_rfl) (fun _ _ _ h => h) (Or.inl ⟨by rfl, ?_⟩) ?_ ?_
    rotate_left
    · intro w'
      go_simp
      with_reducible rfl
    rotate_left
    · simp only [Act.put, List.setIfInBounds_toArray, List.set_cons_zero, List.set_cons_succ]
      rfl
    refine pure_ (i := 9) (N := some 59) (v := ?_) (a' := ?_) #[true, true, true, true, true, true, true, true, true, true, false, false, false, false, false, false, false, false, false, false, false] rfl rfl (by kernel_rfl) (fun _ _ _ h => h) (Or.inl ⟨by rfl, ?_⟩) ?_ ?_
    rotate_left
    · intro w'
      go_simp
      with_reducible rfl
    rotate_left
    · simp only [Act.put, List.setIfInBounds_toArray, List.set_cons_zero, List.set_cons_succ]
      rfl
    refine pure_ (i := 10) (N := some 60) (v := ?_) (a' := ?_) #[true, true, true, true, true, true, true, true, true, true, true, false, false, false, false, false, false, false, false, false, false] rfl rfl (by kernel_rfl) (fun _ _ _ h => h) (Or.inl ⟨by rfl, ?_⟩) ?_ ?_
    rotate_left
    · intro w'
      go_simp
      with_reducible rfl
    rotate_left
    · simp only [Act.put, List.setIfInBounds_toArray, List.set_cons_zero, List.set_cons_succ]
      rfl
    refine pure_ (i := 11) (N := some 61) (v := ?_) (a' := ?_) #[true, true, true, true, true, true, true, true, true, true, true, true, false, false, false, false, false, false, false, false, false] rfl rfl (by kernel_rfl) (fun _ _ _ h => h) (Or.inl ⟨by rfl, ?_⟩) ?_ ?_
    rotate_left
    · intro w'
      go_simp
      with_reducible rfl
    rotate_left
    · simp only [Act.put, List.setIfInBounds_toArray, List.set_cons_zero, List.set_cons_succ]
      rfl
    refine take_ (i := 12) (N := some 62) (v := ?_) (a' := ?_) #[true, true, true, true, true, true, true, true, true, true, true, true, true, false, false, false, false, false, false, false, false] rfl rfl (by kernel_rfl) (fun _ _ _ h => h) (Or.inl ⟨by rfl, ?_⟩) hHeld ?_ ?_
    rotate_left
    · rintro w' ⟨s0, s1⟩
      go_simp
      with_reducible rfl
    rotate_left
    · simp only [Act.put, List.setIfInBounds_toArray, List.set_cons_zero, List.set_cons_succ]
      rfl
    refine pure_ (i := 13) (N := some 63) (v := ?_) (a' := ?_) #[true, true, true, true, true, true, true, true, true, true, true, true, true, true, false, false, false, false, false, false, false] rfl rfl (by kernel_rfl) (fun _ _ _ h => h) (Or.inl ⟨by rfl, ?_⟩) ?_ ?_
    rotate_left
    · intro w'
      go_simp
      with_reducible rfl
    rotate_left
    · simp only [Act.put, List.setIfInBounds_toArray, List.set_cons_zero, List.set_cons_succ]
      rfl
    refine pure_ (i := 14) (N := some 64) (v := ?_) (a' := ?_) #[true, true, true, true, true, true, true, true, true, true, true, true, true, true, true, false, false, false, false, false, false] rfl rfl (by kernel_rfl) (fun _ _ _ h => h) (Or.inl ⟨by rfl, ?_⟩) ?_ ?_
    rotate_left
    · intro w'
      go_simp
      with_reducible rfl
    rotate_left
    · simp only [Act.put, List.setIfInBounds_toArray, List.set_cons_zero, List.set_cons_succ]
      rfl
    refine take_ (i := 15) (N := some 65) (v := ?_) (a' := ?_) #[true, true, true, true, true, true, true, true, true, true, true, true, true, true, true, true, false, false, false, false, false] rfl rfl (by kernel_rfl) (fun _ _ _ h => h) (Or.inl ⟨by rfl, ?_⟩) hHeld ?_ ?_
    rotate_left
    · rintro w' ⟨s0, s1⟩
      go_simp
      with_reducible rfl
    rotate_left
    · simp only [Act.put, List.setIfInBounds_toArray, List.set_cons_zero, List.set_cons_succ]
      rfl
    refine pure_ (i := 16) (N := some 66) (v := ?_) (a' := ?_) #[true, true, true, true, true, true, true, true, true, true, true, true, true, true, true, true, true, false, false, false, false] rfl rfl (by kernel_rfl) (fun _ _ _ h => h) (Or.inl ⟨by rfl, ?_⟩) ?_ ?_
    rotate_left
    · intro w'
      go_simp
      with_reducible rfl
    rotate_left
    · simp only [Act.put, List.setIfInBounds_toArray, List.set_cons_zero, List.set_cons_succ]
      rfl
    refine one_ (i := 17) (N := some 67) #[true, true, true, true, true, true, true, true, true, true, true, true, true, true, true, true, true, true, false, false, false] rfl rfl (by kernel_rfl) (by decide) (fun K hK => ?_)
    refine event_step (w1 := W4.alloc (.cells #[.int .i16 v] 29)) (v := .slice (some ⟨W4.heap.size, 0, none⟩) 1 1) (by rfl) (by first | (go_simp; done) | (go_simp; rfl)) ?_
    have h7 := cell_up (below_alloc (Below.refl W4.heap.size W4) (.cells #[.int .i16 v] 29)) hHeld.1
    have h8 := cell_up (below_alloc (Below.refl W4.heap.size W4) (.cells #[.int .i16 v] 29)) hHeld.2
    clear hHeld
    refine hK.out _ _ ⟨h7, h8⟩ (fun hHeld => ?_)
    clear hK K
    refine norm_ (a' := ?_) ?_ ?_
    rotate_left
    · show Act.put _ (some 67) _ = _
      simp only [Act.put, List.setIfInBounds_toArray, List.set_cons_zero, List.set_cons_succ]
      rfl
    refine one_ (i := 18) (N := some 68) #[true, true, true, true, true, true, true, true, true, true, true, true, true, true, true, true, true, true, true, false, false] rfl rfl (by kernel_rfl) (by decide) (fun K hK => ?_)
    refine Kd.Q_append_step kI (w0 := w0) w0.heap.size ?hw (.tmp 65) (.tmp 67) 33 29 (.int .i16 0) 2 rfl Try.underlying33 info29 rfl (by decide) (by decide) (.slice A1 row.length c1) row v [.int .i16 v] (fun _ => True) (fun _ => False) rfl rfl ?aP (fun _ hk => hk.elim) ?aF ?aO ?aB ?aS ?aL ?_
    case hw => rfl
    case aP => exact rfl
    case aF => exact fun _ _ => trivial
    case aO => exact HQ4.out
    case aB => exact HO4.out.B
    case aS => exact HO4.out.B.size
    case aL => have := HLIM.out; unfold lim at this; omega
    intro u1 w5 ho5 hb5 hg5 ha5
    obtain ⟨A5, c5, rfl, _⟩ := Kd.Q_slice ho5
    rw [show (row ++ [v]).length = row.length + 1 by simp] at ho5 ha5
    have hpc := HO4.out.m.put_chan (s1 := ⟨A5, row.length + 1, c5⟩) HS.out HG.out ho5 hg5 ha5
    have hfz := hpc.2.2.1
    have e7 := (World.cell?_of_block (hg5.block b HO4.out.m.lt (fun e => HR1.out.neb HO4.out.m.blk (by decide) e.symm))).trans (HO4.out.m.cell 7 rfl)
    rw [HG.out, HGL.out] at e7
    have e8 : w5.cell? (ad.add r2.toNat) = some (.slice A1 row.length c1) := (World.cell?_of_block (hg5.block _ HADL.out (fun e => HADN.out e))).trans HX4.out
    have HPC := Aside0.mk hpc
    have HB5 := Aside0.mk hb5
    have HG5 := Aside0.mk hg5
    clear hHeld hpc ho5 hb5 hg5 ha5
    refine hK.out _ _ ⟨e7, e8⟩ (fun hHeld => ?_)
    clear hK K
    refine norm_ (a' := ?_) ?_ ?_
    rotate_left
    · show Act.put _ (some 68) _ = _
      simp only [Act.put, List.setIfInBounds_toArray, List.set_cons_zero, List.set_cons_succ]
      rfl
    refine pure_ (i := 19) (N := some 69) (v := ?_) (a' := ?_) #[true, true, true, true, true, true, true, true, true, true, true, true, true, true, true, true, true, true, true, true, false] rfl rfl (by kernel_rfl) (fun _ _ _ h => h) (Or.inl ⟨by rfl, ?_⟩) ?_ ?_
    rotate_left
    · intro w'
      go_simp
      with_reducible rfl
    rotate_left
    · simp only [Act.put, List.setIfInBounds_toArray, List.set_cons_zero, List.set_cons_succ]
      rfl
    refine last_ (i := 20) (N := none) #[true, true, true, true, true, true, true, true, true, true, true, true, true, true, true, true, true, true, true, true, true] rfl rfl (by kernel_rfl) (by decide) (fun K hK => ?_)
    go_simp
    refine hK.out _ _ ?_
    clear hK K
    refine done_ (by kernel_rfl) ?_
    go_end0
    exact ⟨rfl, _, HO4.out.next HPC.out.1 (HB5.out.setCell (p := ad.add r2.toNat) HPC.out.2.2.2 _) HO4.out.len rfl, (HST.out).trans HPC.out.2.1⟩
  · rw [if_neg hlc] at hv
    split at hv
    case isFalse => cases hv
    rename_i hdr
    obtain rfl := Option.some.inj hv
    have hlb : decide (cp.f1 ≤ (row.length : Int)) = true := decide_eq_true (by omega)
    have hw : wrap64 (M.dropped + 1) = M.dropped + 1 := by unfold wrap64; unfold lim at hdr; omega
    have HW := Aside0.mk hw
    clear hw
    go_wp2
    refine bodyPost_ret (results_none rfl _ _ _) rfl ?_
    rw [HW.out]
    have hO3 := HO2.out.up (below_drew1 (Below.refl W2.heap.size W2))
    obtain ⟨hM, hS⟩ := hO3.m.put_dropped (M.dropped + 1)
    exact ⟨rfl, V.cs, hO3.next hM (hO3.B.setCell (p := ⟨b, 10, none⟩) hO3.m.base _) hO3.len rfl, ((Step.of_below HB2.out b V).trans (Step.of_below (below_drew1 (Below.refl _ _)) b V)).trans hS⟩
end Go.Proofs.Yteonloecenodbaa.PX
/- (*interp.machine).block's deferred closure: the locals of the block go. -/
namespace Go.Proofs.Yteonloecenodbaa.PX
open Go.RowKit Go.Shelf Go.Proofs.YteonloecenodbaaW.PrintWords Go.Proofs.YteonloecenodbaaW.PrintLast Go.Proofs.YteonloecenodbaaW.PrintMore
set_option linter.unusedVariables false
theorem info115 : (Try.prog.info? 115).map (fun i => (i.zero, i.size, i.bytes)) = some (some (.agg #[.string ⟨#[]⟩, .int .i16 0]), 2, 24) := by kernel_rfl
set_option maxRecDepth 100000 in
set_option maxHeartbeats 4000000 in
theorem cut_deferred {w0 W : World} {p : PV} {E : Env} {AR : Option Addr} {cR b : Nat} {V : VV} {M : St} (hO : Ok w0 p E AR cR W b V M) (g0 g1 n : Nat) (hn : n ≤ M.locals.length) (h0 : W.cell? ⟨g0, 0, none⟩ = some (.pointer (some ⟨b, 0, none⟩))) (h1 : W.cell? ⟨g1, 0, none⟩ = some (.int .i64 (n : Int))) (u : FrameMode) :
    CallsD Try.prog 75 #[.pointer (some ⟨g0, 0, none⟩), .pointer (some ⟨g1, 0, none⟩)] u W fun e u' W' => u' = u ∧ (e = .returned (.tuple #[]) ∧ ∃ v1, Ok w0 p E AR cR W' b { V with L := v1 } { M with locals := M.locals.take n } ∧ Step W W' b V { V with L := v1 }) := by
  obtain ⟨A, c, hV, hc⟩ := Kd.Q_slice hO.m.L.q
  have c14 : W.cell? ⟨b, 14, none⟩ = some (.slice A M.locals.length c) := (hO.m.cell 14 rfl).trans (by rw [hV])
  have f14 := hO.m.frozen 14
  have hlen := hO.len
  have HO := Aside0.mk hO
  have HV := Aside0.mk hV
  clear hO hV
  obtain ⟨i0, hi, hzz⟩ := Option.map_eq_some_iff.1 info115
  have hsl : ∀ W : World, (Instr.slice 101 (.slice A M.locals.length c) none (some (.int .i64 (n : Int))) none).run Try.prog W = .ok (.slice A n c) W := fun W => by
    have := cut_to (P := Try.prog) 101 115 .i64 Try.underlying101 hi A M.locals.length c (n : Int) (by omega) (by omega) hc W
    rwa [Int.toNat_natCast] at this
  clear hzz hi
  go_enter_d Try.func75, Try.ntmps75
  refine start_ (n := 10) (S := (fun w' => w'.cell? ⟨g0, 0, none⟩ = some (.pointer (some ⟨b, 0, none⟩)) ∧ w'.cell? ⟨b, 14, none⟩ = some (.slice A M.locals.length c) ∧ w'.cell? ⟨g1, 0, none⟩ = some (.int .i64 (n : Int)))) (ds := [9]) #[false, false, false, false, false, false, false, false, false, false] (by kernel_rfl) rfl rfl ⟨h0, c14, h1⟩ (fun hHeld => ?_)
  refine take_ (i := 0) (N := some 2) (v := ?_) (a' := ?_) #[true, false, false, false, false, false, false, false, false, false] rfl rfl (by kernel_rfl) (fun _ _ _ h => h) (Or.inl ⟨by rfl, ?_⟩) hHeld ?_ ?_
  rotate_left
  · rintro w' ⟨s0, s1, s2⟩
    go_simp
    with_reducible rfl
  rotate_left
  · simp only [Act.put, List.setIfInBounds_toArray, List.set_cons_zero, List.set_cons_succ]
    rfl
  refine take_ (i := 1) (N := some 3) (v := ?_) (a' := ?_) #[true, true, false, false, false, false, false, false, false, false] rfl rfl (by kernel_rfl) (fun _ _ _ h => h) (Or.inl ⟨by rfl, ?_⟩) hHeld ?_ ?_
  rotate_left
  · rintro w' ⟨s0, s1, s2⟩
    go_simp
    with_reducible rfl
  rotate_left
  · simp only [Act.put, List.setIfInBounds_toArray, List.set_cons_zero, List.set_cons_succ]
    rfl
  refine pure_ (i := 2) (N := some 4) (v := ?_) (a' := ?_) #[true, true, true, false, false, false, false, false, false, false] rfl rfl (by kernel_rfl) (fun _ _ _ h => h) (Or.inl ⟨by rfl, ?_⟩) ?_ ?_
  rotate_left
  · intro w'
    go_simp
    with_reducible rfl
  rotate_left
  · simp only [Act.put, List.setIfInBounds_toArray, List.set_cons_zero, List.set_cons_succ]
    rfl
  refine pure_ (i := 3) (N := some 5) (v := ?_) (a' := ?_) #[true, true, true, true, false, false, false, false, false, false] rfl rfl (by kernel_rfl) (fun _ _ _ h => h) (Or.inl ⟨by rfl, ?_⟩) ?_ ?_
  rotate_left
  · intro w'
    go_simp
    with_reducible rfl
  rotate_left
  · simp only [Act.put, List.setIfInBounds_toArray, List.set_cons_zero, List.set_cons_succ]
    rfl
  refine take_ (i := 4) (N := some 6) (v := ?_) (a' := ?_) #[true, true, true, true, true, false, false, false, false, false] rfl rfl (by kernel_rfl) (fun _ _ _ h => h) (Or.inl ⟨by rfl, ?_⟩) hHeld ?_ ?_
  rotate_left
  · rintro w' ⟨s0, s1, s2⟩
    go_simp
    with_reducible rfl
  rotate_left
  · simp only [Act.put, List.setIfInBounds_toArray, List.set_cons_zero, List.set_cons_succ]
    rfl
  refine take_ (i := 5) (N := some 7) (v := ?_) (a' := ?_) #[true, true, true, true, true, true, false, false, false, false] rfl rfl (by kernel_rfl) (fun _ _ _ h => h) (Or.inl ⟨by rfl, ?_⟩) hHeld ?_ ?_
  rotate_left
  · rintro w' ⟨s0, s1, s2⟩
    go_simp
    with_reducible rfl
  rotate_left
  · simp only [Act.put, List.setIfInBounds_toArray, List.set_cons_zero, List.set_cons_succ]
    rfl
  refine pure_ (i := 6) (N := some 8) (v := ?_) (a' := ?_) #[true, true, true, true, true, true, true, false, false, false] rfl rfl (by kernel_rfl) (fun _ _ _ h => h) (Or.inl ⟨by rfl, ?_⟩) ?_ ?_
  rotate_left
  · intro w'
    go_simp
    with_reducible rfl
  rotate_left
  · simp only [Act.put, List.setIfInBounds_toArray, List.set_cons_zero, List.set_cons_succ]
    rfl
  refine pure_ (i := 7) (N := some 9) (v := ?_) (a' := ?_) #[true, true, true, true, true, true, true, true, false, false] rfl rfl (by kernel_rfl) (fun _ _ _ h => h) (Or.inl ⟨by rfl, ?_⟩) ?_ ?_
  rotate_left
  · intro w'
    go_simp
    with_reducible rfl
  rotate_left
  · simp only [Act.put, List.setIfInBounds_toArray, List.set_cons_zero, List.set_cons_succ]
    rfl
  refine pure_ (i := 8) (N := some 10) (v := ?_) (a' := ?_) #[true, true, true, true, true, true, true, true, true, false] rfl rfl (by kernel_rfl) (fun _ _ _ h => h) (Or.inl ⟨by rfl, ?_⟩) ?_ ?_
  rotate_left
  · intro w'
    go_simp
    with_reducible rfl
  rotate_left
  · simp only [Act.put, List.setIfInBounds_toArray, List.set_cons_zero, List.set_cons_succ]
    rfl
  refine last_ (i := 9) (N := none) #[true, true, true, true, true, true, true, true, true, true] rfl rfl (by kernel_rfl) (by decide) (fun K hK => ?_)
  have d14 := cell_up (below_drew1 (Below.refl _ W)) c14
  have e14 : W.drew.frozen? ⟨b, 14, none⟩ = false := f14
  go_simp
  refine hK.out _ _ ?_
  clear hK K
  refine done_ (by kernel_rfl) ?_
  go_end0
  have hO1 := HO.out.up (below_drew1 (Below.refl W.heap.size W))
  have hq := hO1.m.L.q
  rw [HV.out] at hq
  have hq1 := Kd.Q_take hq hn
  obtain ⟨hM, hS⟩ := hO1.m.put_L hq1 (grown_of_below (Below.refl W.drew.heap.size W.drew) V.L.ownBlock) (.inl (by rw [HV.out]; cases A <;> rfl))
  exact ⟨rfl, _, hO1.next hM (hO1.B.setCell (p := ⟨b, 14, none⟩) hO1.m.base _) (by show (M.locals.take n).length ≤ lim; rw [List.length_take]; have := hO1.len; omega) rfl, (Step.of_below (below_drew1 (Below.refl _ _)) b V).trans hS⟩
end Go.Proofs.Yteonloecenodbaa.PX
/- (*interp.machine).block. -/
namespace Go.Proofs.Yteonloecenodbaa.PX
open Go.RowKit Go.Shelf Go.Proofs.YteonloecenodbaaW.PrintWords Go.Proofs.YteonloecenodbaaW.PrintLast Go.Proofs.YteonloecenodbaaW.PrintMore
set_option linter.unusedVariables false
/-- What a statement, a block leaves. -/
def ExPost (w0 : World) (p : PV) (E : Env) (AR : Option Addr) (cR : Nat) (W : World) (b : Nat) (V : VV) (M' : St) (g : Int) (e : Ending) (W' : World) : Prop :=
  e = .returned (.int .i64 g) ∧ ∃ V1, Ok w0 p E AR cR W' b V1 M' ∧ Step W W' b V V1
/-- The contract of exec at k. -/
def ExC (w0 : World) (p : PV) (E : Env) (AR : Option Addr) (cR b k : Nat) : Prop :=
  ∀ {W : World} {V : VV} {M M' : St} {x : S59} {g : Int} {A3 A4 A5 : Option Addr} {c3 c4 c5 : Nat}, Ok w0 p E AR cR W b V M → x.f3.length ≤ c3 → Kd.C k56 w0 A3 x.f3.length x.f3 → x.f4.length ≤ c4 → Kd.C k59 w0 A4 x.f4.length x.f4 → x.f5.length ≤ c5 → Kd.C k59 w0 A5 x.f5.length x.f5 →
    stmtE E k M x = some (g, M') → Calls Try.prog 76 #[.pointer (some ⟨b, 0, none⟩), .agg #[.int .i64 x.f0, .string x.f1, .int .i64 x.f2, .slice A3 x.f3.length c3, .slice A4 x.f4.length c4, .slice A5 x.f5.length c5, .int .i64 x.f6]] W (ExPost w0 p E AR cR W b V M' g)
set_option maxRecDepth 100000 in
set_option maxHeartbeats 4000000 in
theorem block_calls {w0 : World} {p : PV} {E : Env} {AR : Option Addr} {cR b k : Nat} (hX : ExC w0 p E AR cR b k) {W : World} {V : VV} {M M' : St} {l : List S59} {g : Int} {A : Option Addr} {c : Nat} (hO : Ok w0 p E AR cR W b V M) (hlc : l.length ≤ c) (hC : Kd.C k59 w0 A l.length l) (hll : l.length ≤ maxLen)
    (h : scopeE (stmtE E k) l M = some (g, M')) : Calls Try.prog 51 #[.pointer (some ⟨b, 0, none⟩), .slice A l.length c] W (ExPost w0 p E AR cR W b V M' g) := by
  have HX := Aside0.mk (@hX)
  have HC := Aside0.mk hC
  have HO := Aside0.mk hO
  obtain ⟨AL, cL, hV, hcL⟩ := Kd.Q_slice hO.m.L.q
  have c14 : W.cell? ⟨b, 14, none⟩ = some (.slice AL M.locals.length cL) := (hO.m.cell 14 rfl).trans (by rw [hV])
  replace c14 := cell_up (below_alloc (Below.refl W.heap.size W) (.cells #[.pointer (some ⟨b, 0, none⟩)] 100)) c14
  clear hX hC hO hV
  replace h := Option.bind_eq_some_iff.1 h
  obtain ⟨⟨g1, M1⟩, hb, h⟩ := h
  simp only at h
  split at h
  case isFalse => cases h
  rename_i hle
  obtain ⟨rfl, rfl⟩ := Prod.mk.inj (Option.some.inj h)
  clear h
  have HBE := Aside0.mk hb
  clear hb
  have hmf : ∀ (fn : Fn) (first cap : Array Value) (w : World), (Instr.makeFunc fn first cap).run Try.prog w = .ok (.func fn first cap) w := fun _ _ _ _ => rfl
  go_enter_defers Try.func51, Try.ntmps51
  go_wp2
  obtain ⟨W2, hW2⟩ : ∃ W2, W2 = (W.alloc (.cells #[.pointer (some ⟨b, 0, none⟩)] 100)).alloc (.cells #[.int .i64 (M.locals.length : Int)] 3) := ⟨_, rfl⟩
  have hB2 : Below W.heap.size W W2 := by rw [hW2]; exact below_alloc (below_alloc (Below.refl _ _) _) _
  have hk0 : W2.heap[W.heap.size]? = some (.cells #[.pointer (some ⟨b, 0, none⟩)] 100 (0, 0)) := by
    rw [hW2]; exact (Below.heap_alloc _ _ _ (by simp)).trans (World.alloc_heap_new W _)
  have hk1 : W2.heap[W.heap.size + 1]? = some (.cells #[.int .i64 (M.locals.length : Int)] 3 (0, 0)) := by
    rw [hW2]; have := World.alloc_heap_new (W.alloc (.cells #[.pointer (some ⟨b, 0, none⟩)] 100)) (.cells #[.int .i64 (M.locals.length : Int)] 3); rwa [World.size_alloc] at this
  have hO2 := HO.out.up hB2
  have hn0 : ¬ Foot b V W.heap.size := fun hf => by have := (HO.out.m.foot_lt hf).2; omega
  have hn1 : ¬ Foot b V (W.heap.size + 1) := fun hf => by have := (HO.out.m.foot_lt hf).2; omega
  have hS2 := Step.of_below hB2 b V
  rw [← hW2]
  clear hW2 c14 hB2
  have HBOX : Aside0 (∀ {wr : World} {Vi : VV}, Step W2 wr b V Vi → wr.cell? ⟨W.heap.size, 0, none⟩ = some (.pointer (some ⟨b, 0, none⟩)) ∧ wr.cell? ⟨W.heap.size + 1, 0, none⟩ = some (.int .i64 (M.locals.length : Int))) :=
    ⟨fun hs => ⟨(blk_cell (hs.blk hk0 hn0) 0).trans rfl, (blk_cell (hs.blk hk1 hn1) 0).trans rfl⟩⟩
  have HO2 := Aside0.mk hO2
  have HS2 := Aside0.mk hS2
  clear hO2 hS2 hk0 hk1 hn0 hn1
  go_loopw [17] (fun v17 wr => ∃ (i : Nat) (Vi : VV) (Mi : St), v17 = .int .i64 (i : Int) ∧ Aside0 (i ≤ l.length) ∧ Aside0 (blockE (stmtE E k) (l.drop i) Mi = some (g1, M1)) ∧ Aside0 (Ok w0 p E AR cR wr b Vi Mi) ∧ Aside0 (Step W2 wr b V Vi)) (fun v17 _ => l.length - (intOf v17).toNat)
  case atStart => exact ⟨0, V, M, rfl, ⟨Nat.zero_le _⟩, HBE, HO2, ⟨Step.refl _ _ _⟩⟩
  case round =>
    obtain ⟨i, Vi, Mi, rfl, HI, HE, HOI, HSI⟩ := hrel
    obtain ⟨b0, b1⟩ := HBOX.out HSI.out
    by_cases hil : i < l.length
    · have hlt : (i : Int) < (l.length : Int) := by omega
      have hge : (0 : Int) ≤ (i : Int) := by omega
      obtain ⟨ad, A3, c3, A4, c4, A5, c5, rfl, x0, x1, x2, x3, x4, x5, x6, l3, C3, l4, C4, l5, C5⟩ := at_T59 HC.out (i : Int) hge hlt
      simp only [show rd_T59 l (i : Int) = l.getD i z59 from rfl, Int.toNat_natCast] at x0 x1 x2 x3 x4 x5 x6 l3 C3 l4 C4 l5 C5
      have hdr : l.drop i = l.getD i z59 :: l.drop (i + 1) := by
        rw [List.drop_eq_getElem_cons hil, List.getD_eq_getElem?_getD, List.getElem?_eq_getElem hil]; rfl
      have he := HE.out
      rw [hdr, blockE] at he
      generalize l.getD i z59 = x at x0 x1 x2 x3 x4 x5 x6 l3 C3 l4 C4 l5 C5 he
      clear hdr HE
      obtain ⟨⟨g2, M2⟩, hx, he⟩ := Option.bind_eq_some_iff.1 he
      simp only at he
      replace x0 := cell_up HOI.out.B x0
      replace x1 := cell_up HOI.out.B x1
      replace x2 := cell_up HOI.out.B x2
      replace x3 := cell_up HOI.out.B x3
      replace x4 := cell_up HOI.out.B x4
      replace x5 := cell_up HOI.out.B x5
      replace x6 := cell_up HOI.out.B x6
      have HL3 := Aside0.mk l3
      have HC3 := Aside0.mk C3
      have HL4 := Aside0.mk l4
      have HC4 := Aside0.mk C4
      have HL5 := Aside0.mk l5
      have HC5 := Aside0.mk C5
      have HXX := Aside0.mk hx
      have b0' := cell_up (below_alloc (Below.refl wr.heap.size wr) (.cells #[.int .i64 x.f0, .string x.f1, .int .i64 x.f2, .slice A3 x.f3.length c3, .slice A4 x.f4.length c4, .slice A5 x.f5.length c5, .int .i64 x.f6] 59)) b0
      have hw : wrap64 ((i : Int) + 1) = ((i + 1 : Nat) : Int) := by unfold wrap64; unfold maxLen at hll; omega
      have HW := Aside0.mk hw
      clear l3 C3 l4 C4 l5 C5 hx b1 hw
      by_cases hg : g2 = 0
      · rw [if_pos hg] at he
        subst hg
        have HE2 := Aside0.mk he
        clear he
        go_wp2_with (first
          | (go_at_call 76; refine (HX.out (HOI.out.up (below_alloc (Below.refl _ _) _)) HL3.out HC3.out HL4.out HC4.out HL5.out HC5.out HXX.out).mono ?_; rintro e W3 ⟨rfl, V3, hO3, hS3⟩; have HO3 := Aside0.mk hO3; have HS3 := Aside0.mk hS3; clear hO3 hS3))
        go_roundw
        case rel => exact ⟨i + 1, V3, M2, by rw [HW.out], ⟨hil⟩, HE2, HO3, ⟨HSI.out.trans ((Step.of_below (below_alloc (Below.refl _ _) _) b Vi).trans HS3.out)⟩⟩
        case measure =>
          have hz := HW.out
          clear HW
          generalize wrap64 ((i : Int) + 1) = z at hz ⊢
          subst hz
          show l.length - (((i + 1 : Nat) : Int)).toNat < l.length - ((i : Nat) : Int).toNat
          rw [Int.toNat_natCast, Int.toNat_natCast]
          exact Nat.sub_lt_sub_left hil (Nat.lt_succ_self i)
      · rw [if_neg hg] at he
        have hgb : (g2 != 0) = true := bne_iff_ne.mpr hg
        obtain ⟨rfl, rfl⟩ := Prod.mk.inj (Option.some.inj he)
        clear he
        go_wp2_with (first
          | (go_at_call 76; refine (HX.out (HOI.out.up (below_alloc (Below.refl _ _) _)) HL3.out HC3.out HL4.out HC4.out HL5.out HC5.out HXX.out).mono ?_; rintro e W3 ⟨rfl, V3, hO3, hS3⟩; have HO3 := Aside0.mk hO3; have HS3 := Aside0.mk hS3; clear hO3 hS3))
        have hs := HSI.out.trans ((Step.of_below (below_alloc (Below.refl _ _) _) b Vi).trans HS3.out)
        obtain ⟨e0, e1⟩ := HBOX.out hs
        refine leaves_cons (f := 75) (args := #[.pointer (some ⟨W.heap.size, 0, none⟩), .pointer (some ⟨W.heap.size + 1, 0, none⟩)]) (by simp) (by simp [go_sem]) ?_
        refine (cut_deferred HO3.out _ _ _ hle e0 e1 .returning).mono ?_
        rintro e u' w'' ⟨rfl, rfl, v1, hO', hS'⟩
        exact ⟨_, results_tmp rfl _ _ _, rfl, _, hO', (HS2.out.trans hs).trans hS'⟩
    · have hge2 : ¬ (i : Int) < (l.length : Int) := by omega
      have he := HE.out
      rw [List.drop_eq_nil_of_le (by omega), blockE] at he
      obtain ⟨rfl, rfl⟩ := Prod.mk.inj (Option.some.inj he)
      clear he HE
      go_wp2
      refine leaves_cons (f := 75) (args := #[.pointer (some ⟨W.heap.size, 0, none⟩), .pointer (some ⟨W.heap.size + 1, 0, none⟩)]) (by simp) (by simp [go_sem]) ?_
      refine (cut_deferred HOI.out _ _ _ hle b0 b1 .returning).mono ?_
      rintro e u' w'' ⟨rfl, rfl, v1, hO', hS'⟩
      exact ⟨_, results_tmp rfl _ _ _, rfl, _, hO', (HS2.out.trans HSI.out).trans hS'⟩
end Go.Proofs.Yteonloecenodbaa.PX
/- (*interp.machine).while. -/
namespace Go.Proofs.Yteonloecenodbaa.PX
open Go.RowKit Go.Shelf Go.Proofs.YteonloecenodbaaW.PrintWords Go.Proofs.YteonloecenodbaaW.PrintLast Go.Proofs.YteonloecenodbaaW.PrintMore
set_option linter.unusedVariables false
set_option maxRecDepth 100000 in
set_option maxHeartbeats 4000000 in
theorem while_calls {w0 : World} {p : PV} {E : Env} {AR : Option Addr} {cR b k : Nat} (hX : ExC w0 p E AR cR b k) {W : World} {V : VV} {M M' : St} {x : S59} {g : Int} {A3 A4 A5 : Option Addr} {c3 c4 c5 n : Nat} (hO : Ok w0 p E AR cR W b V M) (hl3 : x.f3.length ≤ c3) (hC3 : Kd.C k56 w0 A3 x.f3.length x.f3) (hl4 : x.f4.length ≤ c4) (hC4 : Kd.C k59 w0 A4 x.f4.length x.f4)
    (hpos : 0 < x.f3.length) (h : whileE (fun M => evalE E k M (x.f3.getD 0 z56)) (scopeE (stmtE E k) x.f4) n M = some (g, M')) :
    Calls Try.prog 101 #[.pointer (some ⟨b, 0, none⟩), .agg #[.int .i64 x.f0, .string x.f1, .int .i64 x.f2, .slice A3 x.f3.length c3, .slice A4 x.f4.length c4, .slice A5 x.f5.length c5, .int .i64 x.f6]] W (ExPost w0 p E AR cR W b V M' g) := by
  have HX := Aside0.mk (@hX)
  have HO := Aside0.mk hO
  have HC4 := Aside0.mk hC4
  have HL4 := Aside0.mk hl4
  have H := Aside0.mk h
  obtain ⟨f0, f1, f2, f3, f4, f5, f6⟩ := x
  simp only at hl3 hC3 HC4 HL4 hpos H ⊢
  obtain ⟨ad, A6, c6, rfl, g0, g1, g2, g3, g4, g5, l6, C6⟩ := at_T56 hC3 0 (by omega) (by omega)
  simp only [show (0 : Int).toNat * 6 = 0 from rfl, aadd0, show rd_T56 f3 0 = f3.getD 0 z56 from rfl] at g0 g1 g2 g3 g4 g5 l6 C6
  generalize f3.getD 0 z56 = y at g0 g1 g2 g3 g4 g5 l6 C6 H
  have HC6 := Aside0.mk C6
  have HL6 := Aside0.mk l6
  have hn0 : ¬ Foot b V W.heap.size := fun hf => by have := (HO.out.m.foot_lt hf).2; omega
  clear hX hO hC4 hl4 h C6 l6
  obtain ⟨W2, hW2⟩ : ∃ W2, W2 = W.alloc (.cells #[.int .i64 f0, .string f1, .int .i64 f2, .slice (some ad) f3.length c3, .slice A4 f4.length c4, .slice A5 f5.length c5, .int .i64 f6] 59) := ⟨_, rfl⟩
  have hk0 : W2.heap[W.heap.size]? = some (.cells #[.int .i64 f0, .string f1, .int .i64 f2, .slice (some ad) f3.length c3, .slice A4 f4.length c4, .slice A5 f5.length c5, .int .i64 f6] 59 (0, 0)) := by
    rw [hW2]; exact World.alloc_heap_new W _
  have hB2 : Below W.heap.size W W2 := by rw [hW2]; exact below_alloc (Below.refl _ _) _
  have HO2 := Aside0.mk (HO.out.up hB2)
  have HS2 := Aside0.mk (Step.of_below hB2 b V)
  have HBOX : Aside0 (∀ {wr : World} {Vi : VV}, Below w0.heap.size w0 wr → Step W2 wr b V Vi → wr.cell? ⟨W.heap.size, 3, none⟩ = some (.slice (some ad) f3.length c3) ∧ wr.cell? ⟨W.heap.size, 4, none⟩ = some (.slice A4 f4.length c4) ∧
      wr.cell? ad = some (.int .i64 y.f0) ∧ wr.cell? ⟨ad.block, ad.off + 1, none⟩ = some (.string y.f1) ∧ wr.cell? ⟨ad.block, ad.off + 2, none⟩ = some (.int .i16 y.f2) ∧ wr.cell? ⟨ad.block, ad.off + 3, none⟩ = some (.int .i64 y.f3) ∧ wr.cell? ⟨ad.block, ad.off + 4, none⟩ = some (.slice A6 y.f4.length c6) ∧ wr.cell? ⟨ad.block, ad.off + 5, none⟩ = some (.int .i64 y.f5)) :=
    ⟨fun hb hs => ⟨(blk_cell (hs.blk hk0 hn0) 3).trans rfl, (blk_cell (hs.blk hk0 hn0) 4).trans rfl, cell_up hb g0, cell_up hb g1, cell_up hb g2, cell_up hb g3, cell_up hb g4, cell_up hb g5⟩⟩
  clear g0 g1 g2 g3 g4 g5 hk0 hn0 hB2 hC3
  go_enter Try.func101, Try.ntmps101
  go_wp2
  rw [← hW2]
  clear hW2
  go_loopg [5] n (fun kq v5 wr => ∃ (Vi : VV) (Mi : St), Aside0 (whileE (fun M => evalE E k M y) (scopeE (stmtE E k) f4) kq Mi = some (g, M')) ∧ Aside0 (kq ≤ n) ∧ Aside0 (Ok w0 p E AR cR wr b Vi Mi) ∧ Aside0 (Step W2 wr b V Vi))
  case atStart => exact ⟨V, M, H, ⟨Nat.le_refl _⟩, HO2, ⟨Step.refl _ _ _⟩⟩
  case round =>
    obtain ⟨Vi, Mi, HA, HK1, HOI, HSI⟩ := hrel
    cases gk with
    | zero => exact absurd HA.out (by simp [whileE])
    | succ k1 =>
      have h := HA.out
      rw [whileE] at h
      clear HA
      replace h := Option.bind_eq_some_iff.1 h
      obtain ⟨⟨r, Ma⟩, ha, h⟩ := h
      simp only at h
      have HEV := Aside0.mk ha
      have HSAME := Aside0.mk (evalE_same k ha)
      obtain ⟨b3, b4, y0, y1, y2, y3, y4, y5⟩ := HBOX.out HOI.out.B HSI.out
      clear ha
      by_cases hr0 : r = 0
      · rw [if_pos hr0] at h
        subst hr0
        obtain ⟨rfl, rfl⟩ := Prod.mk.inj (Option.some.inj h)
        clear h
        go_wp2_with (first
          | (go_at_call 43; refine (eval_calls k HOI.out HL6.out HC6.out HEV.out).mono ?_; rintro e W3 ⟨rfl, S3, hO3, hS3⟩; have HO3 := Aside0.mk hO3; have HS3 := Aside0.mk hS3; clear hO3 hS3))
        go_ret
        exact ⟨rfl, _, HO3.out, (HS2.out.trans HSI.out).trans HS3.out⟩
      · rw [if_neg hr0] at h
        have hrb : (r != 0) = true := bne_iff_ne.mpr hr0
        by_cases hl0 : Ma.left = 0
        · rw [if_pos hl0] at h
          obtain ⟨rfl, rfl⟩ := Prod.mk.inj (Option.some.inj h)
          clear h
          go_wp2_with (first
            | (go_at_call 43; refine (eval_calls k HOI.out HL6.out HC6.out HEV.out).mono ?_; rintro e W3 ⟨rfl, S3, hO3, hS3⟩; have d15 := hO3.m.cell 15 rfl; rw [hl0] at d15; have HO3 := Aside0.mk hO3; have HS3 := Aside0.mk hS3; clear hO3 hS3))
          go_ret
          exact ⟨rfl, _, HO3.out, (HS2.out.trans HSI.out).trans HS3.out⟩
        · rw [if_neg hl0] at h
          split at h
          case isFalse => cases h
          rename_i hlm
          replace h := Option.bind_eq_some_iff.1 h
          obtain ⟨⟨g2, M2⟩, hbl, h⟩ := h
          simp only at h
          have hw : wrap64 (Ma.left - 1) = Ma.left - 1 := by unfold wrap64; unfold lim at hlm; omega
          have HBL : Aside0 (scopeE (stmtE E k) f4 { Ma with left := wrap64 (Ma.left - 1) } = some (g2, M2)) := ⟨by rw [hw]; exact hbl⟩
          have hlb : (Ma.left == 0) = false := beq_eq_false_iff_ne.mpr hl0
          clear hbl hw hlm
          by_cases hg : g2 = 0
          · rw [if_pos hg] at h
            subst hg
            have H' := Aside0.mk h
            clear h
            go_wp2_with (first
              | (go_at_call 43; refine (eval_calls k HOI.out HL6.out HC6.out HEV.out).mono ?_; rintro e W3 ⟨rfl, S3, hO3, hS3⟩; have d15 := hO3.m.cell 15 rfl; have f15 := hO3.m.frozen 15; obtain ⟨hM4, hS4⟩ := hO3.m.put_left (wrap64 (Ma.left - 1)); have hB4 := hO3.B.setCell (p := ⟨b, 15, none⟩) hO3.m.base (.int .i64 (wrap64 (Ma.left - 1))); have hO4 := hO3.next hM4 hB4 hO3.len rfl; have hSS := HSI.out.trans (hS3.trans hS4); obtain ⟨_, z4, _⟩ := HBOX.out hB4 hSS; have HO4 := Aside0.mk hO4; have HSS := Aside0.mk hSS; clear hO3 hS3 hM4 hS4 hB4 hO4 hSS b3 b4 y0 y1 y2 y3 y4 y5)
              | (go_at_call 51; refine (block_calls HX.out HO4.out HL4.out HC4.out HC4.out.2.1 HBL.out).mono ?_; rintro e W5 ⟨rfl, V5, hO5, hS5⟩; have HO5 := Aside0.mk hO5; have HS5 := Aside0.mk hS5; clear hO5 hS5))
            go_roundg k1
            case measure => have := HK1.out; omega
            case rel => exact ⟨V5, M2, H', ⟨by have := HK1.out; omega⟩, HO5, ⟨HSS.out.trans HS5.out⟩⟩
          · rw [if_neg hg] at h
            have hgb : (g2 != 0) = true := bne_iff_ne.mpr hg
            obtain ⟨rfl, rfl⟩ := Prod.mk.inj (Option.some.inj h)
            clear h
            go_wp2_with (first
              | (go_at_call 43; refine (eval_calls k HOI.out HL6.out HC6.out HEV.out).mono ?_; rintro e W3 ⟨rfl, S3, hO3, hS3⟩; have d15 := hO3.m.cell 15 rfl; have f15 := hO3.m.frozen 15; obtain ⟨hM4, hS4⟩ := hO3.m.put_left (wrap64 (Ma.left - 1)); have hB4 := hO3.B.setCell (p := ⟨b, 15, none⟩) hO3.m.base (.int .i64 (wrap64 (Ma.left - 1))); have hO4 := hO3.next hM4 hB4 hO3.len rfl; have hSS := HSI.out.trans (hS3.trans hS4); obtain ⟨_, z4, _⟩ := HBOX.out hB4 hSS; have HO4 := Aside0.mk hO4; have HSS := Aside0.mk hSS; clear hO3 hS3 hM4 hS4 hB4 hO4 hSS b3 b4 y0 y1 y2 y3 y4 y5)
              | (go_at_call 51; refine (block_calls HX.out HO4.out HL4.out HC4.out HC4.out.2.1 HBL.out).mono ?_; rintro e W5 ⟨rfl, V5, hO5, hS5⟩; have HO5 := Aside0.mk hO5; have HS5 := Aside0.mk hS5; clear hO5 hS5))
            go_ret
            exact ⟨rfl, V5, HO5.out, (HS2.out.trans HSS.out).trans HS5.out⟩
end Go.Proofs.Yteonloecenodbaa.PX
/- (*interp.machine).exec, kind by kind (gen_exec.py). -/
namespace Go.Proofs.Yteonloecenodbaa.PX
open Go.RowKit Go.Shelf Go.Proofs.YteonloecenodbaaW.PrintWords Go.Proofs.YteonloecenodbaaW.PrintLast Go.Proofs.YteonloecenodbaaW.PrintMore
set_option linter.unusedVariables false
/-- A statement's rows as they lie. -/
structure SA (w0 : World) (x : S59) (A3 A4 A5 : Option Addr) (c3 c4 c5 : Nat) : Prop where
  l3 : x.f3.length ≤ c3
  C3 : Kd.C k56 w0 A3 x.f3.length x.f3
  l4 : x.f4.length ≤ c4
  C4 : Kd.C k59 w0 A4 x.f4.length x.f4
  l5 : x.f5.length ≤ c5
  C5 : Kd.C k59 w0 A5 x.f5.length x.f5
set_option maxRecDepth 100000 in
set_option maxHeartbeats 4000000 in
theorem exec_skip {w0 : World} {p : PV} {E : Env} {AR : Option Addr} {cR b k : Nat} (hX : ExC w0 p E AR cR b k) {W : World} {V : VV} {M M' : St} {x : S59} {g : Int} {A3 A4 A5 : Option Addr} {c3 c4 c5 : Nat} (hO : Ok w0 p E AR cR W b V M) (hS : SA w0 x A3 A4 A5 c3 c4 c5) (hk : x.f0 = 12)
    (h : stmtE E (k + 1) M x = some (g, M')) :
    Calls Try.prog 76 #[.pointer (some ⟨b, 0, none⟩), .agg #[.int .i64 x.f0, .string x.f1, .int .i64 x.f2, .slice A3 x.f3.length c3, .slice A4 x.f4.length c4, .slice A5 x.f5.length c5, .int .i64 x.f6]] W (ExPost w0 p E AR cR W b V M' g) := by
  have HX := Aside0.mk (@hX)
  have HO := Aside0.mk hO
  have HS := Aside0.mk hS
  obtain ⟨f0, f1, f2, f3, f4, f5, f6⟩ := x
  simp only at hk
  subst hk
  rw [stmtE] at h
  simp only at h
  rw [if_neg (by decide), if_neg (by decide), if_neg (by decide), if_neg (by decide), if_neg (by decide), if_neg (by decide), if_neg (by decide), if_neg (by decide), if_neg (by decide), if_neg (by decide), if_pos (by decide)] at h
  clear hX hO hS
  have hn0 : ¬ Foot b V W.heap.size := fun hf => by have := (HO.out.m.foot_lt hf).2; omega
  simp only at HS ⊢
  have hk0 : (W.alloc (.cells #[.int .i64 12, .string f1, .int .i64 f2, .slice A3 f3.length c3, .slice A4 f4.length c4, .slice A5 f5.length c5, .int .i64 f6] 59)).heap[W.heap.size]? = some (.cells #[.int .i64 12, .string f1, .int .i64 f2, .slice A3 f3.length c3, .slice A4 f4.length c4, .slice A5 f5.length c5, .int .i64 f6] 59 (0, 0)) := World.alloc_heap_new W _
  have hB2 : Below W.heap.size W (W.alloc (.cells #[.int .i64 12, .string f1, .int .i64 f2, .slice A3 f3.length c3, .slice A4 f4.length c4, .slice A5 f5.length c5, .int .i64 f6] 59)) := below_alloc (Below.refl _ _) _
  have HO2 := Aside0.mk (HO.out.up hB2)
  have HS2 := Aside0.mk (Step.of_below hB2 b V)
  have HBOX : Aside0 (∀ {wr : World} {Vi : VV}, Below w0.heap.size w0 wr → Step (W.alloc (.cells #[.int .i64 12, .string f1, .int .i64 f2, .slice A3 f3.length c3, .slice A4 f4.length c4, .slice A5 f5.length c5, .int .i64 f6] 59)) wr b V Vi → wr.cell? ⟨W.heap.size, 0, none⟩ = some (.int .i64 12) ∧ wr.cell? ⟨W.heap.size, 1, none⟩ = some (.string f1) ∧ wr.cell? ⟨W.heap.size, 2, none⟩ = some (.int .i64 f2) ∧ wr.cell? ⟨W.heap.size, 3, none⟩ = some (.slice A3 f3.length c3) ∧ wr.cell? ⟨W.heap.size, 4, none⟩ = some (.slice A4 f4.length c4) ∧ wr.cell? ⟨W.heap.size, 5, none⟩ = some (.slice A5 f5.length c5) ∧ wr.cell? ⟨W.heap.size, 6, none⟩ = some (.int .i64 f6)) :=
    ⟨fun hb hs => ⟨(blk_cell (hs.blk hk0 hn0) 0).trans rfl, (blk_cell (hs.blk hk0 hn0) 1).trans rfl, (blk_cell (hs.blk hk0 hn0) 2).trans rfl, (blk_cell (hs.blk hk0 hn0) 3).trans rfl, (blk_cell (hs.blk hk0 hn0) 4).trans rfl, (blk_cell (hs.blk hk0 hn0) 5).trans rfl, (blk_cell (hs.blk hk0 hn0) 6).trans rfl⟩⟩
  clear hk0 hn0 hB2
  obtain ⟨s0, s1, s2, s3, s4, s5, s6⟩ := HBOX.out HO2.out.B (Step.refl _ b V)
  go_enter Try.func76, Try.ntmps76
  obtain ⟨rfl, rfl⟩ := Prod.mk.inj (Option.some.inj h)
  clear h
  go_wp2
  go_ret
  exact ⟨rfl, V, HO2.out, HS2.out⟩
set_option maxRecDepth 100000 in
set_option maxHeartbeats 4000000 in
theorem exec_return {w0 : World} {p : PV} {E : Env} {AR : Option Addr} {cR b k : Nat} (hX : ExC w0 p E AR cR b k) {W : World} {V : VV} {M M' : St} {x : S59} {g : Int} {A3 A4 A5 : Option Addr} {c3 c4 c5 : Nat} (hO : Ok w0 p E AR cR W b V M) (hS : SA w0 x A3 A4 A5 c3 c4 c5) (hk : x.f0 = 13)
    (h : stmtE E (k + 1) M x = some (g, M')) :
    Calls Try.prog 76 #[.pointer (some ⟨b, 0, none⟩), .agg #[.int .i64 x.f0, .string x.f1, .int .i64 x.f2, .slice A3 x.f3.length c3, .slice A4 x.f4.length c4, .slice A5 x.f5.length c5, .int .i64 x.f6]] W (ExPost w0 p E AR cR W b V M' g) := by
  have HX := Aside0.mk (@hX)
  have HO := Aside0.mk hO
  have HS := Aside0.mk hS
  obtain ⟨f0, f1, f2, f3, f4, f5, f6⟩ := x
  simp only at hk
  subst hk
  rw [stmtE] at h
  simp only at h
  rw [if_neg (by decide), if_neg (by decide), if_neg (by decide), if_neg (by decide), if_neg (by decide), if_neg (by decide), if_neg (by decide), if_neg (by decide), if_neg (by decide), if_neg (by decide), if_neg (by decide), if_pos (by decide)] at h
  clear hX hO hS
  have hn0 : ¬ Foot b V W.heap.size := fun hf => by have := (HO.out.m.foot_lt hf).2; omega
  simp only at HS ⊢
  have hk0 : (W.alloc (.cells #[.int .i64 13, .string f1, .int .i64 f2, .slice A3 f3.length c3, .slice A4 f4.length c4, .slice A5 f5.length c5, .int .i64 f6] 59)).heap[W.heap.size]? = some (.cells #[.int .i64 13, .string f1, .int .i64 f2, .slice A3 f3.length c3, .slice A4 f4.length c4, .slice A5 f5.length c5, .int .i64 f6] 59 (0, 0)) := World.alloc_heap_new W _
  have hB2 : Below W.heap.size W (W.alloc (.cells #[.int .i64 13, .string f1, .int .i64 f2, .slice A3 f3.length c3, .slice A4 f4.length c4, .slice A5 f5.length c5, .int .i64 f6] 59)) := below_alloc (Below.refl _ _) _
  have HO2 := Aside0.mk (HO.out.up hB2)
  have HS2 := Aside0.mk (Step.of_below hB2 b V)
  have HBOX : Aside0 (∀ {wr : World} {Vi : VV}, Below w0.heap.size w0 wr → Step (W.alloc (.cells #[.int .i64 13, .string f1, .int .i64 f2, .slice A3 f3.length c3, .slice A4 f4.length c4, .slice A5 f5.length c5, .int .i64 f6] 59)) wr b V Vi → wr.cell? ⟨W.heap.size, 0, none⟩ = some (.int .i64 13) ∧ wr.cell? ⟨W.heap.size, 1, none⟩ = some (.string f1) ∧ wr.cell? ⟨W.heap.size, 2, none⟩ = some (.int .i64 f2) ∧ wr.cell? ⟨W.heap.size, 3, none⟩ = some (.slice A3 f3.length c3) ∧ wr.cell? ⟨W.heap.size, 4, none⟩ = some (.slice A4 f4.length c4) ∧ wr.cell? ⟨W.heap.size, 5, none⟩ = some (.slice A5 f5.length c5) ∧ wr.cell? ⟨W.heap.size, 6, none⟩ = some (.int .i64 f6)) :=
    ⟨fun hb hs => ⟨(blk_cell (hs.blk hk0 hn0) 0).trans rfl, (blk_cell (hs.blk hk0 hn0) 1).trans rfl, (blk_cell (hs.blk hk0 hn0) 2).trans rfl, (blk_cell (hs.blk hk0 hn0) 3).trans rfl, (blk_cell (hs.blk hk0 hn0) 4).trans rfl, (blk_cell (hs.blk hk0 hn0) 5).trans rfl, (blk_cell (hs.blk hk0 hn0) 6).trans rfl⟩⟩
  clear hk0 hn0 hB2
  obtain ⟨s0, s1, s2, s3, s4, s5, s6⟩ := HBOX.out HO2.out.B (Step.refl _ b V)
  go_enter Try.func76, Try.ntmps76
  obtain ⟨rfl, rfl⟩ := Prod.mk.inj (Option.some.inj h)
  clear h
  go_wp2
  go_ret
  exact ⟨rfl, V, HO2.out, HS2.out⟩
set_option maxRecDepth 100000 in
set_option maxHeartbeats 4000000 in
theorem exec_fresh {w0 : World} {p : PV} {E : Env} {AR : Option Addr} {cR b k : Nat} (hX : ExC w0 p E AR cR b k) {W : World} {V : VV} {M M' : St} {x : S59} {g : Int} {A3 A4 A5 : Option Addr} {c3 c4 c5 : Nat} (hO : Ok w0 p E AR cR W b V M) (hS : SA w0 x A3 A4 A5 c3 c4 c5) (hk : x.f0 = 10)
    (h : stmtE E (k + 1) M x = some (g, M')) :
    Calls Try.prog 76 #[.pointer (some ⟨b, 0, none⟩), .agg #[.int .i64 x.f0, .string x.f1, .int .i64 x.f2, .slice A3 x.f3.length c3, .slice A4 x.f4.length c4, .slice A5 x.f5.length c5, .int .i64 x.f6]] W (ExPost w0 p E AR cR W b V M' g) := by
  have HX := Aside0.mk (@hX)
  have HO := Aside0.mk hO
  have HS := Aside0.mk hS
  obtain ⟨f0, f1, f2, f3, f4, f5, f6⟩ := x
  simp only at hk
  subst hk
  rw [stmtE] at h
  simp only at h
  rw [if_neg (by decide), if_neg (by decide), if_neg (by decide), if_neg (by decide), if_neg (by decide), if_neg (by decide), if_neg (by decide), if_neg (by decide), if_neg (by decide), if_pos (by decide)] at h
  clear hX hO hS
  have hn0 : ¬ Foot b V W.heap.size := fun hf => by have := (HO.out.m.foot_lt hf).2; omega
  simp only at HS ⊢
  have hk0 : (W.alloc (.cells #[.int .i64 10, .string f1, .int .i64 f2, .slice A3 f3.length c3, .slice A4 f4.length c4, .slice A5 f5.length c5, .int .i64 f6] 59)).heap[W.heap.size]? = some (.cells #[.int .i64 10, .string f1, .int .i64 f2, .slice A3 f3.length c3, .slice A4 f4.length c4, .slice A5 f5.length c5, .int .i64 f6] 59 (0, 0)) := World.alloc_heap_new W _
  have hB2 : Below W.heap.size W (W.alloc (.cells #[.int .i64 10, .string f1, .int .i64 f2, .slice A3 f3.length c3, .slice A4 f4.length c4, .slice A5 f5.length c5, .int .i64 f6] 59)) := below_alloc (Below.refl _ _) _
  have HO2 := Aside0.mk (HO.out.up hB2)
  have HS2 := Aside0.mk (Step.of_below hB2 b V)
  have HBOX : Aside0 (∀ {wr : World} {Vi : VV}, Below w0.heap.size w0 wr → Step (W.alloc (.cells #[.int .i64 10, .string f1, .int .i64 f2, .slice A3 f3.length c3, .slice A4 f4.length c4, .slice A5 f5.length c5, .int .i64 f6] 59)) wr b V Vi → wr.cell? ⟨W.heap.size, 0, none⟩ = some (.int .i64 10) ∧ wr.cell? ⟨W.heap.size, 1, none⟩ = some (.string f1) ∧ wr.cell? ⟨W.heap.size, 2, none⟩ = some (.int .i64 f2) ∧ wr.cell? ⟨W.heap.size, 3, none⟩ = some (.slice A3 f3.length c3) ∧ wr.cell? ⟨W.heap.size, 4, none⟩ = some (.slice A4 f4.length c4) ∧ wr.cell? ⟨W.heap.size, 5, none⟩ = some (.slice A5 f5.length c5) ∧ wr.cell? ⟨W.heap.size, 6, none⟩ = some (.int .i64 f6)) :=
    ⟨fun hb hs => ⟨(blk_cell (hs.blk hk0 hn0) 0).trans rfl, (blk_cell (hs.blk hk0 hn0) 1).trans rfl, (blk_cell (hs.blk hk0 hn0) 2).trans rfl, (blk_cell (hs.blk hk0 hn0) 3).trans rfl, (blk_cell (hs.blk hk0 hn0) 4).trans rfl, (blk_cell (hs.blk hk0 hn0) 5).trans rfl, (blk_cell (hs.blk hk0 hn0) 6).trans rfl⟩⟩
  clear hk0 hn0 hB2
  obtain ⟨s0, s1, s2, s3, s4, s5, s6⟩ := HBOX.out HO2.out.B (Step.refl _ b V)
  go_enter Try.func76, Try.ntmps76
  have H := Aside0.mk h
  clear h
  go_wp2_with (first
    | (go_at_call 51; refine (block_calls HX.out HO2.out HS.out.l4 HS.out.C4 HS.out.C4.2.1 H.out).mono ?_; rintro e W5 ⟨rfl, V5, hO5, hS5⟩; have HO5 := Aside0.mk hO5; have HS5 := Aside0.mk hS5; clear hO5 hS5))
  go_ret
  exact ⟨rfl, V5, HO5.out, HS2.out.trans HS5.out⟩
set_option maxRecDepth 100000 in
set_option maxHeartbeats 4000000 in
theorem exec_together {w0 : World} {p : PV} {E : Env} {AR : Option Addr} {cR b k : Nat} (hX : ExC w0 p E AR cR b k) {W : World} {V : VV} {M M' : St} {x : S59} {g : Int} {A3 A4 A5 : Option Addr} {c3 c4 c5 : Nat} (hO : Ok w0 p E AR cR W b V M) (hS : SA w0 x A3 A4 A5 c3 c4 c5) (hk : x.f0 = 11)
    (h : stmtE E (k + 1) M x = some (g, M')) :
    Calls Try.prog 76 #[.pointer (some ⟨b, 0, none⟩), .agg #[.int .i64 x.f0, .string x.f1, .int .i64 x.f2, .slice A3 x.f3.length c3, .slice A4 x.f4.length c4, .slice A5 x.f5.length c5, .int .i64 x.f6]] W (ExPost w0 p E AR cR W b V M' g) := by
  have HX := Aside0.mk (@hX)
  have HO := Aside0.mk hO
  have HS := Aside0.mk hS
  obtain ⟨f0, f1, f2, f3, f4, f5, f6⟩ := x
  simp only at hk
  subst hk
  rw [stmtE] at h
  simp only at h
  rw [if_neg (by decide), if_neg (by decide), if_neg (by decide), if_neg (by decide), if_neg (by decide), if_neg (by decide), if_neg (by decide), if_neg (by decide), if_neg (by decide), if_pos (by decide)] at h
  clear hX hO hS
  have hn0 : ¬ Foot b V W.heap.size := fun hf => by have := (HO.out.m.foot_lt hf).2; omega
  simp only at HS ⊢
  have hk0 : (W.alloc (.cells #[.int .i64 11, .string f1, .int .i64 f2, .slice A3 f3.length c3, .slice A4 f4.length c4, .slice A5 f5.length c5, .int .i64 f6] 59)).heap[W.heap.size]? = some (.cells #[.int .i64 11, .string f1, .int .i64 f2, .slice A3 f3.length c3, .slice A4 f4.length c4, .slice A5 f5.length c5, .int .i64 f6] 59 (0, 0)) := World.alloc_heap_new W _
  have hB2 : Below W.heap.size W (W.alloc (.cells #[.int .i64 11, .string f1, .int .i64 f2, .slice A3 f3.length c3, .slice A4 f4.length c4, .slice A5 f5.length c5, .int .i64 f6] 59)) := below_alloc (Below.refl _ _) _
  have HO2 := Aside0.mk (HO.out.up hB2)
  have HS2 := Aside0.mk (Step.of_below hB2 b V)
  have HBOX : Aside0 (∀ {wr : World} {Vi : VV}, Below w0.heap.size w0 wr → Step (W.alloc (.cells #[.int .i64 11, .string f1, .int .i64 f2, .slice A3 f3.length c3, .slice A4 f4.length c4, .slice A5 f5.length c5, .int .i64 f6] 59)) wr b V Vi → wr.cell? ⟨W.heap.size, 0, none⟩ = some (.int .i64 11) ∧ wr.cell? ⟨W.heap.size, 1, none⟩ = some (.string f1) ∧ wr.cell? ⟨W.heap.size, 2, none⟩ = some (.int .i64 f2) ∧ wr.cell? ⟨W.heap.size, 3, none⟩ = some (.slice A3 f3.length c3) ∧ wr.cell? ⟨W.heap.size, 4, none⟩ = some (.slice A4 f4.length c4) ∧ wr.cell? ⟨W.heap.size, 5, none⟩ = some (.slice A5 f5.length c5) ∧ wr.cell? ⟨W.heap.size, 6, none⟩ = some (.int .i64 f6)) :=
    ⟨fun hb hs => ⟨(blk_cell (hs.blk hk0 hn0) 0).trans rfl, (blk_cell (hs.blk hk0 hn0) 1).trans rfl, (blk_cell (hs.blk hk0 hn0) 2).trans rfl, (blk_cell (hs.blk hk0 hn0) 3).trans rfl, (blk_cell (hs.blk hk0 hn0) 4).trans rfl, (blk_cell (hs.blk hk0 hn0) 5).trans rfl, (blk_cell (hs.blk hk0 hn0) 6).trans rfl⟩⟩
  clear hk0 hn0 hB2
  obtain ⟨s0, s1, s2, s3, s4, s5, s6⟩ := HBOX.out HO2.out.B (Step.refl _ b V)
  go_enter Try.func76, Try.ntmps76
  have H := Aside0.mk h
  clear h
  go_wp2_with (first
    | (go_at_call 51; refine (block_calls HX.out HO2.out HS.out.l4 HS.out.C4 HS.out.C4.2.1 H.out).mono ?_; rintro e W5 ⟨rfl, V5, hO5, hS5⟩; have HO5 := Aside0.mk hO5; have HS5 := Aside0.mk hS5; clear hO5 hS5))
  go_ret
  exact ⟨rfl, V5, HO5.out, HS2.out.trans HS5.out⟩
set_option maxRecDepth 100000 in
set_option maxHeartbeats 4000000 in
theorem exec_if {w0 : World} {p : PV} {E : Env} {AR : Option Addr} {cR b k : Nat} (hX : ExC w0 p E AR cR b k) {W : World} {V : VV} {M M' : St} {x : S59} {g : Int} {A3 A4 A5 : Option Addr} {c3 c4 c5 : Nat} (hO : Ok w0 p E AR cR W b V M) (hS : SA w0 x A3 A4 A5 c3 c4 c5) (hk : x.f0 = 4)
    (h : stmtE E (k + 1) M x = some (g, M')) :
    Calls Try.prog 76 #[.pointer (some ⟨b, 0, none⟩), .agg #[.int .i64 x.f0, .string x.f1, .int .i64 x.f2, .slice A3 x.f3.length c3, .slice A4 x.f4.length c4, .slice A5 x.f5.length c5, .int .i64 x.f6]] W (ExPost w0 p E AR cR W b V M' g) := by
  have HX := Aside0.mk (@hX)
  have HO := Aside0.mk hO
  have HS := Aside0.mk hS
  obtain ⟨f0, f1, f2, f3, f4, f5, f6⟩ := x
  simp only at hk
  subst hk
  rw [stmtE] at h
  simp only at h
  rw [if_neg (by decide), if_neg (by decide), if_neg (by decide), if_pos (by decide)] at h
  clear hX hO hS
  have hn0 : ¬ Foot b V W.heap.size := fun hf => by have := (HO.out.m.foot_lt hf).2; omega
  simp only at HS ⊢
  have hpos : 0 < f3.length := Decidable.byContradiction fun d => by rw [if_neg d] at h; cases h
  rw [if_pos hpos] at h
  obtain ⟨ad, A6, c6, rfl, g0, g1, g2, g3, g4, g5, l6, C6⟩ := at_T56 HS.out.C3 0 (by omega) (by show (0 : Int) < (f3.length : Int); omega)
  simp only [show (0 : Int).toNat * 6 = 0 from rfl, aadd0, show rd_T56 f3 0 = f3.getD 0 z56 from rfl] at g0 g1 g2 g3 g4 g5 l6 C6
  generalize f3.getD 0 z56 = y at g0 g1 g2 g3 g4 g5 l6 C6 h
  have HC6 := Aside0.mk C6
  have HL6 := Aside0.mk l6
  clear C6 l6
  have hk0 : (W.alloc (.cells #[.int .i64 4, .string f1, .int .i64 f2, .slice (some ad) f3.length c3, .slice A4 f4.length c4, .slice A5 f5.length c5, .int .i64 f6] 59)).heap[W.heap.size]? = some (.cells #[.int .i64 4, .string f1, .int .i64 f2, .slice (some ad) f3.length c3, .slice A4 f4.length c4, .slice A5 f5.length c5, .int .i64 f6] 59 (0, 0)) := World.alloc_heap_new W _
  have hB2 : Below W.heap.size W (W.alloc (.cells #[.int .i64 4, .string f1, .int .i64 f2, .slice (some ad) f3.length c3, .slice A4 f4.length c4, .slice A5 f5.length c5, .int .i64 f6] 59)) := below_alloc (Below.refl _ _) _
  have HO2 := Aside0.mk (HO.out.up hB2)
  have HS2 := Aside0.mk (Step.of_below hB2 b V)
  have HBOX : Aside0 (∀ {wr : World} {Vi : VV}, Below w0.heap.size w0 wr → Step (W.alloc (.cells #[.int .i64 4, .string f1, .int .i64 f2, .slice (some ad) f3.length c3, .slice A4 f4.length c4, .slice A5 f5.length c5, .int .i64 f6] 59)) wr b V Vi → wr.cell? ⟨W.heap.size, 0, none⟩ = some (.int .i64 4) ∧ wr.cell? ⟨W.heap.size, 1, none⟩ = some (.string f1) ∧ wr.cell? ⟨W.heap.size, 2, none⟩ = some (.int .i64 f2) ∧ wr.cell? ⟨W.heap.size, 3, none⟩ = some (.slice (some ad) f3.length c3) ∧ wr.cell? ⟨W.heap.size, 4, none⟩ = some (.slice A4 f4.length c4) ∧ wr.cell? ⟨W.heap.size, 5, none⟩ = some (.slice A5 f5.length c5) ∧ wr.cell? ⟨W.heap.size, 6, none⟩ = some (.int .i64 f6) ∧ wr.cell? ad = some (.int .i64 y.f0) ∧ wr.cell? ⟨ad.block, ad.off + 1, none⟩ = some (.string y.f1) ∧ wr.cell? ⟨ad.block, ad.off + 2, none⟩ = some (.int .i16 y.f2) ∧ wr.cell? ⟨ad.block, ad.off + 3, none⟩ = some (.int .i64 y.f3) ∧ wr.cell? ⟨ad.block, ad.off + 4, none⟩ = some (.slice A6 y.f4.length c6) ∧ wr.cell? ⟨ad.block, ad.off + 5, none⟩ = some (.int .i64 y.f5)) :=
    ⟨fun hb hs => ⟨(blk_cell (hs.blk hk0 hn0) 0).trans rfl, (blk_cell (hs.blk hk0 hn0) 1).trans rfl, (blk_cell (hs.blk hk0 hn0) 2).trans rfl, (blk_cell (hs.blk hk0 hn0) 3).trans rfl, (blk_cell (hs.blk hk0 hn0) 4).trans rfl, (blk_cell (hs.blk hk0 hn0) 5).trans rfl, (blk_cell (hs.blk hk0 hn0) 6).trans rfl, cell_up hb g0, cell_up hb g1, cell_up hb g2, cell_up hb g3, cell_up hb g4, cell_up hb g5⟩⟩
  clear hk0 hn0 hB2 g0 g1 g2 g3 g4 g5
  obtain ⟨s0, s1, s2, s3, s4, s5, s6, s7, s8, s9, s10, s11, s12⟩ := HBOX.out HO2.out.B (Step.refl _ b V)
  go_enter Try.func76, Try.ntmps76
  replace h := Option.bind_eq_some_iff.1 h
  obtain ⟨⟨r, M1⟩, he, h⟩ := h
  simp only at h
  have HEV := Aside0.mk he
  have HSAME := Aside0.mk (evalE_same k he)
  clear he
  by_cases hr : r = 0
  · rw [if_pos hr] at h
    subst hr
    have H := Aside0.mk h
    clear h
    go_wp2_with (first
      | (go_at_call 43; refine (eval_calls k (HO2.out) HL6.out HC6.out HEV.out).mono ?_; rintro e W3 ⟨rfl, S3, hO3, hS3⟩; have hSS := hS3; clear s0 s1 s2 s3 s4 s5 s6 s7 s8 s9 s10 s11 s12; obtain ⟨z0, z1, z2, z3, z4, z5, z6, z7, z8, z9, z10, z11, z12⟩ := HBOX.out hO3.B hSS; have HO3 := Aside0.mk hO3; have HS3 := Aside0.mk hSS; clear hO3 hS3 hSS)
      | (go_at_call 51; refine (block_calls HX.out HO3.out HS.out.l5 HS.out.C5 HS.out.C5.2.1 H.out).mono ?_; rintro e W5 ⟨rfl, V5, hO5, hS5⟩; have HO5 := Aside0.mk hO5; have HS5 := Aside0.mk hS5; clear hO5 hS5))
    go_ret
    exact ⟨rfl, V5, HO5.out, (HS2.out.trans HS3.out).trans HS5.out⟩
  · rw [if_neg hr] at h
    have hrb : (r != 0) = true := bne_iff_ne.mpr hr
    have H := Aside0.mk h
    clear h
    go_wp2_with (first
      | (go_at_call 43; refine (eval_calls k (HO2.out) HL6.out HC6.out HEV.out).mono ?_; rintro e W3 ⟨rfl, S3, hO3, hS3⟩; have hSS := hS3; clear s0 s1 s2 s3 s4 s5 s6 s7 s8 s9 s10 s11 s12; obtain ⟨z0, z1, z2, z3, z4, z5, z6, z7, z8, z9, z10, z11, z12⟩ := HBOX.out hO3.B hSS; have HO3 := Aside0.mk hO3; have HS3 := Aside0.mk hSS; clear hO3 hS3 hSS)
      | (go_at_call 51; refine (block_calls HX.out HO3.out HS.out.l4 HS.out.C4 HS.out.C4.2.1 H.out).mono ?_; rintro e W5 ⟨rfl, V5, hO5, hS5⟩; have HO5 := Aside0.mk hO5; have HS5 := Aside0.mk hS5; clear hO5 hS5))
    go_ret
    exact ⟨rfl, V5, HO5.out, (HS2.out.trans HS3.out).trans HS5.out⟩
set_option maxRecDepth 100000 in
set_option maxHeartbeats 4000000 in
theorem exec_while {w0 : World} {p : PV} {E : Env} {AR : Option Addr} {cR b k : Nat} (hX : ExC w0 p E AR cR b k) {W : World} {V : VV} {M M' : St} {x : S59} {g : Int} {A3 A4 A5 : Option Addr} {c3 c4 c5 : Nat} (hO : Ok w0 p E AR cR W b V M) (hS : SA w0 x A3 A4 A5 c3 c4 c5) (hk : x.f0 = 6)
    (h : stmtE E (k + 1) M x = some (g, M')) :
    Calls Try.prog 76 #[.pointer (some ⟨b, 0, none⟩), .agg #[.int .i64 x.f0, .string x.f1, .int .i64 x.f2, .slice A3 x.f3.length c3, .slice A4 x.f4.length c4, .slice A5 x.f5.length c5, .int .i64 x.f6]] W (ExPost w0 p E AR cR W b V M' g) := by
  have HX := Aside0.mk (@hX)
  have HO := Aside0.mk hO
  have HS := Aside0.mk hS
  obtain ⟨f0, f1, f2, f3, f4, f5, f6⟩ := x
  simp only at hk
  subst hk
  rw [stmtE] at h
  simp only at h
  rw [if_neg (by decide), if_neg (by decide), if_neg (by decide), if_neg (by decide), if_neg (by decide), if_pos (by decide)] at h
  clear hX hO hS
  have hn0 : ¬ Foot b V W.heap.size := fun hf => by have := (HO.out.m.foot_lt hf).2; omega
  simp only at HS ⊢
  have hpos : 0 < f3.length := Decidable.byContradiction fun d => by rw [if_neg d] at h; cases h
  rw [if_pos hpos] at h
  obtain ⟨ad, A6, c6, rfl, g0, g1, g2, g3, g4, g5, l6, C6⟩ := at_T56 HS.out.C3 0 (by omega) (by show (0 : Int) < (f3.length : Int); omega)
  simp only [show (0 : Int).toNat * 6 = 0 from rfl, aadd0, show rd_T56 f3 0 = f3.getD 0 z56 from rfl] at g0 g1 g2 g3 g4 g5 l6 C6
  generalize hy : f3.getD 0 z56 = y at g0 g1 g2 g3 g4 g5 l6 C6 h
  have HC6 := Aside0.mk C6
  have HL6 := Aside0.mk l6
  clear C6 l6
  have hk0 : (W.alloc (.cells #[.int .i64 6, .string f1, .int .i64 f2, .slice (some ad) f3.length c3, .slice A4 f4.length c4, .slice A5 f5.length c5, .int .i64 f6] 59)).heap[W.heap.size]? = some (.cells #[.int .i64 6, .string f1, .int .i64 f2, .slice (some ad) f3.length c3, .slice A4 f4.length c4, .slice A5 f5.length c5, .int .i64 f6] 59 (0, 0)) := World.alloc_heap_new W _
  have hB2 : Below W.heap.size W (W.alloc (.cells #[.int .i64 6, .string f1, .int .i64 f2, .slice (some ad) f3.length c3, .slice A4 f4.length c4, .slice A5 f5.length c5, .int .i64 f6] 59)) := below_alloc (Below.refl _ _) _
  have HO2 := Aside0.mk (HO.out.up hB2)
  have HS2 := Aside0.mk (Step.of_below hB2 b V)
  have HBOX : Aside0 (∀ {wr : World} {Vi : VV}, Below w0.heap.size w0 wr → Step (W.alloc (.cells #[.int .i64 6, .string f1, .int .i64 f2, .slice (some ad) f3.length c3, .slice A4 f4.length c4, .slice A5 f5.length c5, .int .i64 f6] 59)) wr b V Vi → wr.cell? ⟨W.heap.size, 0, none⟩ = some (.int .i64 6) ∧ wr.cell? ⟨W.heap.size, 1, none⟩ = some (.string f1) ∧ wr.cell? ⟨W.heap.size, 2, none⟩ = some (.int .i64 f2) ∧ wr.cell? ⟨W.heap.size, 3, none⟩ = some (.slice (some ad) f3.length c3) ∧ wr.cell? ⟨W.heap.size, 4, none⟩ = some (.slice A4 f4.length c4) ∧ wr.cell? ⟨W.heap.size, 5, none⟩ = some (.slice A5 f5.length c5) ∧ wr.cell? ⟨W.heap.size, 6, none⟩ = some (.int .i64 f6) ∧ wr.cell? ad = some (.int .i64 y.f0) ∧ wr.cell? ⟨ad.block, ad.off + 1, none⟩ = some (.string y.f1) ∧ wr.cell? ⟨ad.block, ad.off + 2, none⟩ = some (.int .i16 y.f2) ∧ wr.cell? ⟨ad.block, ad.off + 3, none⟩ = some (.int .i64 y.f3) ∧ wr.cell? ⟨ad.block, ad.off + 4, none⟩ = some (.slice A6 y.f4.length c6) ∧ wr.cell? ⟨ad.block, ad.off + 5, none⟩ = some (.int .i64 y.f5)) :=
    ⟨fun hb hs => ⟨(blk_cell (hs.blk hk0 hn0) 0).trans rfl, (blk_cell (hs.blk hk0 hn0) 1).trans rfl, (blk_cell (hs.blk hk0 hn0) 2).trans rfl, (blk_cell (hs.blk hk0 hn0) 3).trans rfl, (blk_cell (hs.blk hk0 hn0) 4).trans rfl, (blk_cell (hs.blk hk0 hn0) 5).trans rfl, (blk_cell (hs.blk hk0 hn0) 6).trans rfl, cell_up hb g0, cell_up hb g1, cell_up hb g2, cell_up hb g3, cell_up hb g4, cell_up hb g5⟩⟩
  clear hk0 hn0 hB2 g0 g1 g2 g3 g4 g5
  obtain ⟨s0, s1, s2, s3, s4, s5, s6, s7, s8, s9, s10, s11, s12⟩ := HBOX.out HO2.out.B (Step.refl _ b V)
  go_enter Try.func76, Try.ntmps76
  have H := Aside0.mk h
  clear h
  go_wp2_with (first
    | (go_at_call 101; refine (while_calls (x := ⟨6, f1, f2, f3, f4, f5, f6⟩) (A5 := A5) (c5 := c5) HX.out HO2.out HS.out.l3 HS.out.C3 HS.out.l4 HS.out.C4 hpos (by rw [hy]; exact H.out)).mono ?_; rintro e W5 ⟨rfl, V5, hO5, hS5⟩; have HO5 := Aside0.mk hO5; have HS5 := Aside0.mk hS5; clear hO5 hS5))
  go_ret
  exact ⟨rfl, V5, HO5.out, HS2.out.trans HS5.out⟩
end Go.Proofs.Yteonloecenodbaa.PX
/- (*interp.machine).exec, kind by kind (gen_exec.py). -/
namespace Go.Proofs.Yteonloecenodbaa.PX
open Go.RowKit Go.Shelf Go.Proofs.YteonloecenodbaaW.PrintWords Go.Proofs.YteonloecenodbaaW.PrintLast Go.Proofs.YteonloecenodbaaW.PrintMore
set_option linter.unusedVariables false
set_option maxRecDepth 100000 in
set_option maxHeartbeats 4000000 in
theorem exec_assign {w0 : World} {p : PV} {E : Env} {AR : Option Addr} {cR b k : Nat} (hX : ExC w0 p E AR cR b k) {W : World} {V : VV} {M M' : St} {x : S59} {g : Int} {A3 A4 A5 : Option Addr} {c3 c4 c5 : Nat} (hO : Ok w0 p E AR cR W b V M) (hS : SA w0 x A3 A4 A5 c3 c4 c5) (hk : x.f0 = 2)
    (h : stmtE E (k + 1) M x = some (g, M')) :
    Calls Try.prog 76 #[.pointer (some ⟨b, 0, none⟩), .agg #[.int .i64 x.f0, .string x.f1, .int .i64 x.f2, .slice A3 x.f3.length c3, .slice A4 x.f4.length c4, .slice A5 x.f5.length c5, .int .i64 x.f6]] W (ExPost w0 p E AR cR W b V M' g) := by
  have HX := Aside0.mk (@hX)
  have HO := Aside0.mk hO
  have HS := Aside0.mk hS
  obtain ⟨f0, f1, f2, f3, f4, f5, f6⟩ := x
  simp only at hk
  subst hk
  rw [stmtE] at h
  simp only at h
  rw [if_neg (by decide), if_pos (by decide)] at h
  clear hX hO hS
  have hn0 : ¬ Foot b V W.heap.size := fun hf => by have := (HO.out.m.foot_lt hf).2; omega
  simp only at HS ⊢
  have hpos : 0 < f3.length := Decidable.byContradiction fun d => by rw [if_neg d] at h; cases h
  rw [if_pos hpos] at h
  obtain ⟨ad, A6, c6, rfl, g0, g1, g2, g3, g4, g5, l6, C6⟩ := at_T56 HS.out.C3 0 (by omega) (by show (0 : Int) < (f3.length : Int); omega)
  simp only [show (0 : Int).toNat * 6 = 0 from rfl, aadd0, show rd_T56 f3 0 = f3.getD 0 z56 from rfl] at g0 g1 g2 g3 g4 g5 l6 C6
  generalize f3.getD 0 z56 = y at g0 g1 g2 g3 g4 g5 l6 C6 h
  have HC6 := Aside0.mk C6
  have HL6 := Aside0.mk l6
  clear C6 l6
  have hk0 : (W.alloc (.cells #[.int .i64 2, .string f1, .int .i64 f2, .slice (some ad) f3.length c3, .slice A4 f4.length c4, .slice A5 f5.length c5, .int .i64 f6] 59)).heap[W.heap.size]? = some (.cells #[.int .i64 2, .string f1, .int .i64 f2, .slice (some ad) f3.length c3, .slice A4 f4.length c4, .slice A5 f5.length c5, .int .i64 f6] 59 (0, 0)) := World.alloc_heap_new W _
  have hB2 : Below W.heap.size W (W.alloc (.cells #[.int .i64 2, .string f1, .int .i64 f2, .slice (some ad) f3.length c3, .slice A4 f4.length c4, .slice A5 f5.length c5, .int .i64 f6] 59)) := below_alloc (Below.refl _ _) _
  have HO2 := Aside0.mk (HO.out.up hB2)
  have HS2 := Aside0.mk (Step.of_below hB2 b V)
  have HBOX : Aside0 (∀ {wr : World} {Vi : VV}, Below w0.heap.size w0 wr → Step (W.alloc (.cells #[.int .i64 2, .string f1, .int .i64 f2, .slice (some ad) f3.length c3, .slice A4 f4.length c4, .slice A5 f5.length c5, .int .i64 f6] 59)) wr b V Vi → wr.cell? ⟨W.heap.size, 0, none⟩ = some (.int .i64 2) ∧ wr.cell? ⟨W.heap.size, 1, none⟩ = some (.string f1) ∧ wr.cell? ⟨W.heap.size, 2, none⟩ = some (.int .i64 f2) ∧ wr.cell? ⟨W.heap.size, 3, none⟩ = some (.slice (some ad) f3.length c3) ∧ wr.cell? ⟨W.heap.size, 4, none⟩ = some (.slice A4 f4.length c4) ∧ wr.cell? ⟨W.heap.size, 5, none⟩ = some (.slice A5 f5.length c5) ∧ wr.cell? ⟨W.heap.size, 6, none⟩ = some (.int .i64 f6) ∧ wr.cell? ad = some (.int .i64 y.f0) ∧ wr.cell? ⟨ad.block, ad.off + 1, none⟩ = some (.string y.f1) ∧ wr.cell? ⟨ad.block, ad.off + 2, none⟩ = some (.int .i16 y.f2) ∧ wr.cell? ⟨ad.block, ad.off + 3, none⟩ = some (.int .i64 y.f3) ∧ wr.cell? ⟨ad.block, ad.off + 4, none⟩ = some (.slice A6 y.f4.length c6) ∧ wr.cell? ⟨ad.block, ad.off + 5, none⟩ = some (.int .i64 y.f5)) :=
    ⟨fun hb hs => ⟨(blk_cell (hs.blk hk0 hn0) 0).trans rfl, (blk_cell (hs.blk hk0 hn0) 1).trans rfl, (blk_cell (hs.blk hk0 hn0) 2).trans rfl, (blk_cell (hs.blk hk0 hn0) 3).trans rfl, (blk_cell (hs.blk hk0 hn0) 4).trans rfl, (blk_cell (hs.blk hk0 hn0) 5).trans rfl, (blk_cell (hs.blk hk0 hn0) 6).trans rfl, cell_up hb g0, cell_up hb g1, cell_up hb g2, cell_up hb g3, cell_up hb g4, cell_up hb g5⟩⟩
  clear hk0 hn0 hB2 g0 g1 g2 g3 g4 g5
  obtain ⟨s0, s1, s2, s3, s4, s5, s6, s7, s8, s9, s10, s11, s12⟩ := HBOX.out HO2.out.B (Step.refl _ b V)
  go_enter Try.func76, Try.ntmps76
  replace h := Option.bind_eq_some_iff.1 h
  obtain ⟨⟨r, M1⟩, he, h⟩ := h
  simp only at h
  have HEV := Aside0.mk he
  have HSAME := Aside0.mk (evalE_same k he)
  clear he
  replace h := Option.bind_eq_some_iff.1 h
  obtain ⟨M2, hn, h⟩ := h
  obtain ⟨rfl, rfl⟩ := Prod.mk.inj (Option.some.inj h)
  have HN := Aside0.mk hn
  clear hn h
  go_wp2
  go_region_held3 (fun w' => w'.cell? ⟨W.heap.size, 1, none⟩ = some (.string f1) ∧ w'.cell? ⟨W.heap.size, 3, none⟩ = some (.slice (some ad) f3.length c3) ∧ w'.cell? ad = some (.int .i64 y.f0) ∧ w'.cell? ⟨ad.block, ad.off + 1, none⟩ = some (.string y.f1) ∧ w'.cell? ⟨ad.block, ad.off + 2, none⟩ = some (.int .i16 y.f2) ∧ w'.cell? ⟨ad.block, ad.off + 3, none⟩ = some (.int .i64 y.f3) ∧ w'.cell? ⟨ad.block, ad.off + 4, none⟩ = some (.slice A6 y.f4.length c6) ∧ w'.cell? ⟨ad.block, ad.off + 5, none⟩ = some (.int .i64 y.f5)) (go_keep)
    (first
      | (go_at_call 43; refine (eval_calls k (HO2.out.up (below_drew1 (Below.refl _ _))) HL6.out HC6.out HEV.out).mono ?_; rintro e W3 ⟨rfl, S3, hO3, hS3⟩; have hSS := (Step.of_below (below_drew1 (Below.refl _ _)) b V).trans hS3; clear s0 s1 s2 s3 s4 s5 s6 s7 s8 s9 s10 s11 s12; obtain ⟨z0, z1, z2, z3, z4, z5, z6, z7, z8, z9, z10, z11, z12⟩ := HBOX.out hO3.B hSS; have HO3 := Aside0.mk hO3; have HS3 := Aside0.mk hSS; clear hO3 hS3 hSS)
      | (go_at_call 100; refine (assign_calls HO3.out f1 r HN.out).mono ?_; rintro e W5 ⟨rfl, hO5, hS5⟩; have hSS := HS3.out.trans hS5; clear z0 z1 z2 z3 z4 z5 z6 z7 z8 z9 z10 z11 z12; obtain ⟨y_0, y_1, y_2, y_3, y_4, y_5, y_6, y_7, y_8, y_9, y_10, y_11, y_12⟩ := HBOX.out hO5.B hSS; have HO5 := Aside0.mk hO5; have HS5 := Aside0.mk hSS; clear hO5 hS5 hSS))
  go_wp2
  go_ret
  exact ⟨rfl, _, HO5.out, HS2.out.trans HS5.out⟩
set_option maxRecDepth 100000 in
set_option maxHeartbeats 4000000 in
theorem exec_send {w0 : World} {p : PV} {E : Env} {AR : Option Addr} {cR b k : Nat} (hX : ExC w0 p E AR cR b k) {W : World} {V : VV} {M M' : St} {x : S59} {g : Int} {A3 A4 A5 : Option Addr} {c3 c4 c5 : Nat} (hO : Ok w0 p E AR cR W b V M) (hS : SA w0 x A3 A4 A5 c3 c4 c5) (hk : x.f0 = 7)
    (h : stmtE E (k + 1) M x = some (g, M')) :
    Calls Try.prog 76 #[.pointer (some ⟨b, 0, none⟩), .agg #[.int .i64 x.f0, .string x.f1, .int .i64 x.f2, .slice A3 x.f3.length c3, .slice A4 x.f4.length c4, .slice A5 x.f5.length c5, .int .i64 x.f6]] W (ExPost w0 p E AR cR W b V M' g) := by
  have HX := Aside0.mk (@hX)
  have HO := Aside0.mk hO
  have HS := Aside0.mk hS
  obtain ⟨f0, f1, f2, f3, f4, f5, f6⟩ := x
  simp only at hk
  subst hk
  rw [stmtE] at h
  simp only at h
  rw [if_neg (by decide), if_neg (by decide), if_neg (by decide), if_neg (by decide), if_neg (by decide), if_neg (by decide), if_pos (by decide)] at h
  clear hX hO hS
  have hn0 : ¬ Foot b V W.heap.size := fun hf => by have := (HO.out.m.foot_lt hf).2; omega
  simp only at HS ⊢
  have hpos : 0 < f3.length := Decidable.byContradiction fun d => by rw [if_neg d] at h; cases h
  rw [if_pos hpos] at h
  obtain ⟨ad, A6, c6, rfl, g0, g1, g2, g3, g4, g5, l6, C6⟩ := at_T56 HS.out.C3 0 (by omega) (by show (0 : Int) < (f3.length : Int); omega)
  simp only [show (0 : Int).toNat * 6 = 0 from rfl, aadd0, show rd_T56 f3 0 = f3.getD 0 z56 from rfl] at g0 g1 g2 g3 g4 g5 l6 C6
  generalize f3.getD 0 z56 = y at g0 g1 g2 g3 g4 g5 l6 C6 h
  have HC6 := Aside0.mk C6
  have HL6 := Aside0.mk l6
  clear C6 l6
  have hk0 : (W.alloc (.cells #[.int .i64 7, .string f1, .int .i64 f2, .slice (some ad) f3.length c3, .slice A4 f4.length c4, .slice A5 f5.length c5, .int .i64 f6] 59)).heap[W.heap.size]? = some (.cells #[.int .i64 7, .string f1, .int .i64 f2, .slice (some ad) f3.length c3, .slice A4 f4.length c4, .slice A5 f5.length c5, .int .i64 f6] 59 (0, 0)) := World.alloc_heap_new W _
  have hB2 : Below W.heap.size W (W.alloc (.cells #[.int .i64 7, .string f1, .int .i64 f2, .slice (some ad) f3.length c3, .slice A4 f4.length c4, .slice A5 f5.length c5, .int .i64 f6] 59)) := below_alloc (Below.refl _ _) _
  have HO2 := Aside0.mk (HO.out.up hB2)
  have HS2 := Aside0.mk (Step.of_below hB2 b V)
  have HBOX : Aside0 (∀ {wr : World} {Vi : VV}, Below w0.heap.size w0 wr → Step (W.alloc (.cells #[.int .i64 7, .string f1, .int .i64 f2, .slice (some ad) f3.length c3, .slice A4 f4.length c4, .slice A5 f5.length c5, .int .i64 f6] 59)) wr b V Vi → wr.cell? ⟨W.heap.size, 0, none⟩ = some (.int .i64 7) ∧ wr.cell? ⟨W.heap.size, 1, none⟩ = some (.string f1) ∧ wr.cell? ⟨W.heap.size, 2, none⟩ = some (.int .i64 f2) ∧ wr.cell? ⟨W.heap.size, 3, none⟩ = some (.slice (some ad) f3.length c3) ∧ wr.cell? ⟨W.heap.size, 4, none⟩ = some (.slice A4 f4.length c4) ∧ wr.cell? ⟨W.heap.size, 5, none⟩ = some (.slice A5 f5.length c5) ∧ wr.cell? ⟨W.heap.size, 6, none⟩ = some (.int .i64 f6) ∧ wr.cell? ad = some (.int .i64 y.f0) ∧ wr.cell? ⟨ad.block, ad.off + 1, none⟩ = some (.string y.f1) ∧ wr.cell? ⟨ad.block, ad.off + 2, none⟩ = some (.int .i16 y.f2) ∧ wr.cell? ⟨ad.block, ad.off + 3, none⟩ = some (.int .i64 y.f3) ∧ wr.cell? ⟨ad.block, ad.off + 4, none⟩ = some (.slice A6 y.f4.length c6) ∧ wr.cell? ⟨ad.block, ad.off + 5, none⟩ = some (.int .i64 y.f5)) :=
    ⟨fun hb hs => ⟨(blk_cell (hs.blk hk0 hn0) 0).trans rfl, (blk_cell (hs.blk hk0 hn0) 1).trans rfl, (blk_cell (hs.blk hk0 hn0) 2).trans rfl, (blk_cell (hs.blk hk0 hn0) 3).trans rfl, (blk_cell (hs.blk hk0 hn0) 4).trans rfl, (blk_cell (hs.blk hk0 hn0) 5).trans rfl, (blk_cell (hs.blk hk0 hn0) 6).trans rfl, cell_up hb g0, cell_up hb g1, cell_up hb g2, cell_up hb g3, cell_up hb g4, cell_up hb g5⟩⟩
  clear hk0 hn0 hB2 g0 g1 g2 g3 g4 g5
  obtain ⟨s0, s1, s2, s3, s4, s5, s6, s7, s8, s9, s10, s11, s12⟩ := HBOX.out HO2.out.B (Step.refl _ b V)
  go_enter Try.func76, Try.ntmps76
  replace h := Option.bind_eq_some_iff.1 h
  obtain ⟨⟨r, M1⟩, he, h⟩ := h
  simp only at h
  have HEV := Aside0.mk he
  have HSAME := Aside0.mk (evalE_same k he)
  clear he
  replace h := Option.bind_eq_some_iff.1 h
  obtain ⟨M2, hn, h⟩ := h
  obtain ⟨rfl, rfl⟩ := Prod.mk.inj (Option.some.inj h)
  have HN := Aside0.mk hn
  clear hn h
  go_wp2
  go_region_held3 (fun w' => w'.cell? ⟨W.heap.size, 1, none⟩ = some (.string f1) ∧ w'.cell? ⟨W.heap.size, 3, none⟩ = some (.slice (some ad) f3.length c3) ∧ w'.cell? ad = some (.int .i64 y.f0) ∧ w'.cell? ⟨ad.block, ad.off + 1, none⟩ = some (.string y.f1) ∧ w'.cell? ⟨ad.block, ad.off + 2, none⟩ = some (.int .i16 y.f2) ∧ w'.cell? ⟨ad.block, ad.off + 3, none⟩ = some (.int .i64 y.f3) ∧ w'.cell? ⟨ad.block, ad.off + 4, none⟩ = some (.slice A6 y.f4.length c6) ∧ w'.cell? ⟨ad.block, ad.off + 5, none⟩ = some (.int .i64 y.f5)) (go_keep)
    (first
      | (go_at_call 43; refine (eval_calls k (HO2.out.up (below_drew1 (Below.refl _ _))) HL6.out HC6.out HEV.out).mono ?_; rintro e W3 ⟨rfl, S3, hO3, hS3⟩; have hSS := (Step.of_below (below_drew1 (Below.refl _ _)) b V).trans hS3; clear s0 s1 s2 s3 s4 s5 s6 s7 s8 s9 s10 s11 s12; obtain ⟨z0, z1, z2, z3, z4, z5, z6, z7, z8, z9, z10, z11, z12⟩ := HBOX.out hO3.B hSS; have HO3 := Aside0.mk hO3; have HS3 := Aside0.mk hSS; clear hO3 hS3 hSS)
      | (go_at_call 102; refine (send_calls HO3.out f1 r HN.out).mono ?_; rintro e W5 ⟨rfl, cs1, hO5, hS5⟩; have hSS := HS3.out.trans hS5; clear z0 z1 z2 z3 z4 z5 z6 z7 z8 z9 z10 z11 z12; obtain ⟨y_0, y_1, y_2, y_3, y_4, y_5, y_6, y_7, y_8, y_9, y_10, y_11, y_12⟩ := HBOX.out hO5.B hSS; have HO5 := Aside0.mk hO5; have HS5 := Aside0.mk hSS; clear hO5 hS5 hSS))
  go_wp2
  go_ret
  exact ⟨rfl, _, HO5.out, HS2.out.trans HS5.out⟩
set_option maxRecDepth 100000 in
set_option maxHeartbeats 4000000 in
theorem exec_assignAt {w0 : World} {p : PV} {E : Env} {AR : Option Addr} {cR b k : Nat} (hX : ExC w0 p E AR cR b k) {W : World} {V : VV} {M M' : St} {x : S59} {g : Int} {A3 A4 A5 : Option Addr} {c3 c4 c5 : Nat} (hO : Ok w0 p E AR cR W b V M) (hS : SA w0 x A3 A4 A5 c3 c4 c5) (hk : x.f0 = 3)
    (h : stmtE E (k + 1) M x = some (g, M')) :
    Calls Try.prog 76 #[.pointer (some ⟨b, 0, none⟩), .agg #[.int .i64 x.f0, .string x.f1, .int .i64 x.f2, .slice A3 x.f3.length c3, .slice A4 x.f4.length c4, .slice A5 x.f5.length c5, .int .i64 x.f6]] W (ExPost w0 p E AR cR W b V M' g) := by
  have HX := Aside0.mk (@hX)
  have HO := Aside0.mk hO
  have HS := Aside0.mk hS
  obtain ⟨f0, f1, f2, f3, f4, f5, f6⟩ := x
  simp only at hk
  subst hk
  rw [stmtE] at h
  simp only at h
  rw [if_neg (by decide), if_neg (by decide), if_pos (by decide)] at h
  clear hX hO hS
  have hn0 : ¬ Foot b V W.heap.size := fun hf => by have := (HO.out.m.foot_lt hf).2; omega
  simp only at HS ⊢
  have hpos : 1 < f3.length := Decidable.byContradiction fun d => by rw [if_neg d] at h; cases h
  rw [if_pos hpos] at h
  obtain ⟨ad, A6, c6, rfl, g0, g1, g2, g3, g4, g5, l6, C6⟩ := at_T56 HS.out.C3 0 (by omega) (by show (0 : Int) < (f3.length : Int); omega)
  simp only [show (0 : Int).toNat * 6 = 0 from rfl, aadd0, show rd_T56 f3 0 = f3.getD 0 z56 from rfl] at g0 g1 g2 g3 g4 g5 l6 C6
  generalize f3.getD 0 z56 = y at g0 g1 g2 g3 g4 g5 l6 C6 h
  have HC6 := Aside0.mk C6
  have HL6 := Aside0.mk l6
  clear C6 l6
  obtain ⟨ad_, A7, c7, ea, k0, k1, k2, k3, k4, k5, l7, C7⟩ := at_T56 HS.out.C3 1 (by omega) (by show (1 : Int) < (f3.length : Int); omega)
  cases ea
  simp only [show (1 : Int).toNat * 6 = 6 from rfl, aadd6, show rd_T56 f3 1 = f3.getD 1 z56 from rfl] at k0 k1 k2 k3 k4 k5 l7 C7
  have dI : (1 : Int) < (f3.length : Int) := by omega
  generalize f3.getD 1 z56 = y1 at k0 k1 k2 k3 k4 k5 l7 C7 h
  have HC7 := Aside0.mk C7
  have HL7 := Aside0.mk l7
  clear C7 l7
  have hk0 : (W.alloc (.cells #[.int .i64 3, .string f1, .int .i64 f2, .slice (some ad) f3.length c3, .slice A4 f4.length c4, .slice A5 f5.length c5, .int .i64 f6] 59)).heap[W.heap.size]? = some (.cells #[.int .i64 3, .string f1, .int .i64 f2, .slice (some ad) f3.length c3, .slice A4 f4.length c4, .slice A5 f5.length c5, .int .i64 f6] 59 (0, 0)) := World.alloc_heap_new W _
  have hB2 : Below W.heap.size W (W.alloc (.cells #[.int .i64 3, .string f1, .int .i64 f2, .slice (some ad) f3.length c3, .slice A4 f4.length c4, .slice A5 f5.length c5, .int .i64 f6] 59)) := below_alloc (Below.refl _ _) _
  have HO2 := Aside0.mk (HO.out.up hB2)
  have HS2 := Aside0.mk (Step.of_below hB2 b V)
  have HBOX : Aside0 (∀ {wr : World} {Vi : VV}, Below w0.heap.size w0 wr → Step (W.alloc (.cells #[.int .i64 3, .string f1, .int .i64 f2, .slice (some ad) f3.length c3, .slice A4 f4.length c4, .slice A5 f5.length c5, .int .i64 f6] 59)) wr b V Vi → wr.cell? ⟨W.heap.size, 0, none⟩ = some (.int .i64 3) ∧ wr.cell? ⟨W.heap.size, 1, none⟩ = some (.string f1) ∧ wr.cell? ⟨W.heap.size, 2, none⟩ = some (.int .i64 f2) ∧ wr.cell? ⟨W.heap.size, 3, none⟩ = some (.slice (some ad) f3.length c3) ∧ wr.cell? ⟨W.heap.size, 4, none⟩ = some (.slice A4 f4.length c4) ∧ wr.cell? ⟨W.heap.size, 5, none⟩ = some (.slice A5 f5.length c5) ∧ wr.cell? ⟨W.heap.size, 6, none⟩ = some (.int .i64 f6) ∧ wr.cell? ad = some (.int .i64 y.f0) ∧ wr.cell? ⟨ad.block, ad.off + 1, none⟩ = some (.string y.f1) ∧ wr.cell? ⟨ad.block, ad.off + 2, none⟩ = some (.int .i16 y.f2) ∧ wr.cell? ⟨ad.block, ad.off + 3, none⟩ = some (.int .i64 y.f3) ∧ wr.cell? ⟨ad.block, ad.off + 4, none⟩ = some (.slice A6 y.f4.length c6) ∧ wr.cell? ⟨ad.block, ad.off + 5, none⟩ = some (.int .i64 y.f5) ∧ wr.cell? ⟨ad.block, ad.off + 6, none⟩ = some (.int .i64 y1.f0) ∧ wr.cell? ⟨ad.block, ad.off + 6 + 1, none⟩ = some (.string y1.f1) ∧ wr.cell? ⟨ad.block, ad.off + 6 + 2, none⟩ = some (.int .i16 y1.f2) ∧ wr.cell? ⟨ad.block, ad.off + 6 + 3, none⟩ = some (.int .i64 y1.f3) ∧ wr.cell? ⟨ad.block, ad.off + 6 + 4, none⟩ = some (.slice A7 y1.f4.length c7) ∧ wr.cell? ⟨ad.block, ad.off + 6 + 5, none⟩ = some (.int .i64 y1.f5)) :=
    ⟨fun hb hs => ⟨(blk_cell (hs.blk hk0 hn0) 0).trans rfl, (blk_cell (hs.blk hk0 hn0) 1).trans rfl, (blk_cell (hs.blk hk0 hn0) 2).trans rfl, (blk_cell (hs.blk hk0 hn0) 3).trans rfl, (blk_cell (hs.blk hk0 hn0) 4).trans rfl, (blk_cell (hs.blk hk0 hn0) 5).trans rfl, (blk_cell (hs.blk hk0 hn0) 6).trans rfl, cell_up hb g0, cell_up hb g1, cell_up hb g2, cell_up hb g3, cell_up hb g4, cell_up hb g5, cell_up hb k0, cell_up hb k1, cell_up hb k2, cell_up hb k3, cell_up hb k4, cell_up hb k5⟩⟩
  clear hk0 hn0 hB2 g0 g1 g2 g3 g4 g5 k0 k1 k2 k3 k4 k5
  obtain ⟨s0, s1, s2, s3, s4, s5, s6, s7, s8, s9, s10, s11, s12, s13, s14, s15, s16, s17, s18⟩ := HBOX.out HO2.out.B (Step.refl _ b V)
  go_enter Try.func76, Try.ntmps76
  replace h := Option.bind_eq_some_iff.1 h
  obtain ⟨⟨r, M1⟩, he, h⟩ := h
  simp only at h
  have HEV := Aside0.mk he
  have HSAME := Aside0.mk (evalE_same k he)
  clear he
  replace h := Option.bind_eq_some_iff.1 h
  obtain ⟨⟨r2, M2⟩, he2, h⟩ := h
  simp only at h
  have HEV2 := Aside0.mk he2
  have HSAME2 := Aside0.mk (evalE_same k he2)
  replace h := Option.bind_eq_some_iff.1 h
  obtain ⟨q, hq, h⟩ := h
  obtain ⟨rfl, rfl⟩ := Prod.mk.inj (Option.some.inj h)
  have HQ := Aside0.mk hq
  clear he2 hq h
  go_wp2_with (first
    | (go_at_call 43; refine (eval_calls k (HO3.out) HL7.out HC7.out HEV2.out).mono ?_; rintro e W4 ⟨rfl, S4, hO3, hS3⟩; have hSS := HS3.out.trans hS3; clear z0 z1 z2 z3 z4 z5 z6 z7 z8 z9 z10 z11 z12 z13 z14 z15 z16 z17 z18; obtain ⟨y_0, y_1, y_2, y_3, y_4, y_5, y_6, y_7, y_8, y_9, y_10, y_11, y_12, y_13, y_14, y_15, y_16, y_17, y_18⟩ := HBOX.out hO3.B hSS; have HO4 := Aside0.mk hO3; have HS4 := Aside0.mk hSS; clear hO3 hS3 hSS)
    | (go_at_call 43; refine (eval_calls k (HO2.out) HL6.out HC6.out HEV.out).mono ?_; rintro e W3 ⟨rfl, S3, hO3, hS3⟩; have hSS := hS3; clear s0 s1 s2 s3 s4 s5 s6 s7 s8 s9 s10 s11 s12 s13 s14 s15 s16 s17 s18; obtain ⟨z0, z1, z2, z3, z4, z5, z6, z7, z8, z9, z10, z11, z12, z13, z14, z15, z16, z17, z18⟩ := HBOX.out hO3.B hSS; have HO3 := Aside0.mk hO3; have HS3 := Aside0.mk hSS; clear hO3 hS3 hSS)
    | (go_at_call 63; refine (element_calls HO4.out.P HO4.out.m HO4.out.B f1 r q HQ.out).mono ?_; rintro e W5 ⟨hB5, ad1, c1, rfl, hgs, hq1, hq2⟩; have hO5 := HO4.out.up hB5; have zz := elem_cell hO5.m hgs hq1 hq2; have hpe := hO5.m.put_elem hgs hq1 hq2 r2; have hfz := hpe.2.2.1; have HPE := Aside0.mk hpe; have HO5 := Aside0.mk hO5; have HB5 := Aside0.mk hB5; generalize atE M2 q = u at zz; clear hpe hO5 hB5))
  go_ret
  exact ⟨rfl, _, HO5.out.next HPE.out.1 (HO5.out.B.setCell (p := ad1.add q.2) HPE.out.2.2.2 _) HO5.out.len rfl, ((HS2.out.trans HS4.out).trans (Step.of_below HB5.out b _)).trans HPE.out.2.1⟩
end Go.Proofs.Yteonloecenodbaa.PX
/- (*interp.machine).exec, kind by kind (gen_exec.py). -/
namespace Go.Proofs.Yteonloecenodbaa.PX
open Go.RowKit Go.Shelf Go.Proofs.YteonloecenodbaaW.PrintWords Go.Proofs.YteonloecenodbaaW.PrintLast Go.Proofs.YteonloecenodbaaW.PrintMore
set_option linter.unusedVariables false
set_option maxRecDepth 100000 in
set_option maxHeartbeats 4000000 in
theorem exec_repeat {w0 : World} {p : PV} {E : Env} {AR : Option Addr} {cR b k : Nat} (hX : ExC w0 p E AR cR b k) {W : World} {V : VV} {M M' : St} {x : S59} {g : Int} {A3 A4 A5 : Option Addr} {c3 c4 c5 : Nat} (hO : Ok w0 p E AR cR W b V M) (hS : SA w0 x A3 A4 A5 c3 c4 c5) (hk : x.f0 = 5)
    (h : stmtE E (k + 1) M x = some (g, M')) :
    Calls Try.prog 76 #[.pointer (some ⟨b, 0, none⟩), .agg #[.int .i64 x.f0, .string x.f1, .int .i64 x.f2, .slice A3 x.f3.length c3, .slice A4 x.f4.length c4, .slice A5 x.f5.length c5, .int .i64 x.f6]] W (ExPost w0 p E AR cR W b V M' g) := by
  have HX := Aside0.mk (@hX)
  have HO := Aside0.mk hO
  have HS := Aside0.mk hS
  obtain ⟨f0, f1, f2, f3, f4, f5, f6⟩ := x
  simp only at hk
  subst hk
  rw [stmtE] at h
  simp only at h
  rw [if_neg (by decide), if_neg (by decide), if_neg (by decide), if_neg (by decide), if_pos (by decide)] at h
  clear hX hO hS
  have hn0 : ¬ Foot b V W.heap.size := fun hf => by have := (HO.out.m.foot_lt hf).2; omega
  simp only at HS ⊢
  have hk0 : (W.alloc (.cells #[.int .i64 5, .string f1, .int .i64 f2, .slice A3 f3.length c3, .slice A4 f4.length c4, .slice A5 f5.length c5, .int .i64 f6] 59)).heap[W.heap.size]? = some (.cells #[.int .i64 5, .string f1, .int .i64 f2, .slice A3 f3.length c3, .slice A4 f4.length c4, .slice A5 f5.length c5, .int .i64 f6] 59 (0, 0)) := World.alloc_heap_new W _
  have hB2 : Below W.heap.size W (W.alloc (.cells #[.int .i64 5, .string f1, .int .i64 f2, .slice A3 f3.length c3, .slice A4 f4.length c4, .slice A5 f5.length c5, .int .i64 f6] 59)) := below_alloc (Below.refl _ _) _
  have HO2 := Aside0.mk (HO.out.up hB2)
  have HS2 := Aside0.mk (Step.of_below hB2 b V)
  have HBOX : Aside0 (∀ {wr : World} {Vi : VV}, Below w0.heap.size w0 wr → Step (W.alloc (.cells #[.int .i64 5, .string f1, .int .i64 f2, .slice A3 f3.length c3, .slice A4 f4.length c4, .slice A5 f5.length c5, .int .i64 f6] 59)) wr b V Vi → wr.cell? ⟨W.heap.size, 0, none⟩ = some (.int .i64 5) ∧ wr.cell? ⟨W.heap.size, 1, none⟩ = some (.string f1) ∧ wr.cell? ⟨W.heap.size, 2, none⟩ = some (.int .i64 f2) ∧ wr.cell? ⟨W.heap.size, 3, none⟩ = some (.slice A3 f3.length c3) ∧ wr.cell? ⟨W.heap.size, 4, none⟩ = some (.slice A4 f4.length c4) ∧ wr.cell? ⟨W.heap.size, 5, none⟩ = some (.slice A5 f5.length c5) ∧ wr.cell? ⟨W.heap.size, 6, none⟩ = some (.int .i64 f6)) :=
    ⟨fun hb hs => ⟨(blk_cell (hs.blk hk0 hn0) 0).trans rfl, (blk_cell (hs.blk hk0 hn0) 1).trans rfl, (blk_cell (hs.blk hk0 hn0) 2).trans rfl, (blk_cell (hs.blk hk0 hn0) 3).trans rfl, (blk_cell (hs.blk hk0 hn0) 4).trans rfl, (blk_cell (hs.blk hk0 hn0) 5).trans rfl, (blk_cell (hs.blk hk0 hn0) 6).trans rfl⟩⟩
  clear hk0 hn0 hB2
  obtain ⟨s0, s1, s2, s3, s4, s5, s6⟩ := HBOX.out HO2.out.B (Step.refl _ b V)
  go_enter Try.func76, Try.ntmps76
  have hlm : f2 < (lim : Int) := Decidable.byContradiction fun d => by rw [if_neg d] at h; cases h
  rw [if_pos hlm] at h
  have H := Aside0.mk h
  clear h
  go_wp2
  obtain ⟨W2, hW2⟩ : ∃ W2, W2 = W.alloc (.cells #[.int .i64 5, .string f1, .int .i64 f2, .slice A3 f3.length c3, .slice A4 f4.length c4, .slice A5 f5.length c5, .int .i64 f6] 59) := ⟨_, rfl⟩
  rw [← hW2] at HO2 HS2 HBOX ⊢
  clear hW2 s0 s1 s2 s3 s4 s5 s6
  go_loopw [88] (fun v88 wr => ∃ (i : Nat) (Vi : VV) (Mi : St), v88 = .int .i64 (i : Int) ∧ Aside0 (i ≤ f2.toNat) ∧ Aside0 (repE (scopeE (stmtE E k) f4) (f2.toNat - i) Mi = some (g, M')) ∧ Aside0 (Ok w0 p E AR cR wr b Vi Mi) ∧ Aside0 (Step W2 wr b V Vi)) (fun v88 _ => f2.toNat - (intOf v88).toNat)
  case atStart => exact ⟨0, V, M, rfl, ⟨Nat.zero_le _⟩, H, HO2, ⟨Step.refl _ _ _⟩⟩
  case round =>
    obtain ⟨i, Vi, Mi, rfl, HI, HA, HOI, HSI⟩ := hrel
    obtain ⟨z0, z1, z2, z3, z4, z5, z6⟩ := HBOX.out HOI.out.B HSI.out
    by_cases hil : i < f2.toNat
    · have hlt : (i : Int) < f2 := by omega
      have h := HA.out
      rw [show f2.toNat - i = (f2.toNat - (i + 1)) + 1 by omega, repE] at h
      clear HA
      replace h := Option.bind_eq_some_iff.1 h
      obtain ⟨⟨g2, M2⟩, hb, h⟩ := h
      simp only at h
      have HBL := Aside0.mk hb
      have hw : wrap64 ((i : Int) + 1) = ((i + 1 : Nat) : Int) := by unfold wrap64; unfold lim at hlm; omega
      have HW := Aside0.mk hw
      clear hb hw
      by_cases hg : g2 = 0
      · rw [if_pos hg] at h
        subst hg
        have H' := Aside0.mk h
        clear h
        go_wp2_with (first
          | (go_at_call 51; refine (block_calls HX.out HOI.out HS.out.l4 HS.out.C4 HS.out.C4.2.1 HBL.out).mono ?_; rintro e W5 ⟨rfl, V5, hO5, hS5⟩; have HO5 := Aside0.mk hO5; have HS5 := Aside0.mk hS5; clear hO5 hS5))
        go_roundw
        case rel => exact ⟨i + 1, V5, M2, by rw [HW.out], ⟨hil⟩, H', HO5, ⟨HSI.out.trans HS5.out⟩⟩
        case measure =>
          have hz := HW.out
          clear HW
          generalize wrap64 ((i : Int) + 1) = z at hz ⊢
          subst hz
          show f2.toNat - (((i + 1 : Nat) : Int)).toNat < f2.toNat - ((i : Nat) : Int).toNat
          rw [Int.toNat_natCast, Int.toNat_natCast]
          exact Nat.sub_lt_sub_left hil (Nat.lt_succ_self i)
      · rw [if_neg hg] at h
        have hgb : (g2 != 0) = true := bne_iff_ne.mpr hg
        obtain ⟨rfl, rfl⟩ := Prod.mk.inj (Option.some.inj h)
        clear h
        go_wp2_with (first
          | (go_at_call 51; refine (block_calls HX.out HOI.out HS.out.l4 HS.out.C4 HS.out.C4.2.1 HBL.out).mono ?_; rintro e W5 ⟨rfl, V5, hO5, hS5⟩; have HO5 := Aside0.mk hO5; have HS5 := Aside0.mk hS5; clear hO5 hS5))
        go_ret
        exact ⟨rfl, V5, HO5.out, (HS2.out.trans HSI.out).trans HS5.out⟩
    · have hge2 : ¬ (i : Int) < f2 := by have := HI.out; omega
      have h := HA.out
      rw [show f2.toNat - i = 0 by omega, repE] at h
      obtain ⟨rfl, rfl⟩ := Prod.mk.inj (Option.some.inj h)
      clear h HA
      go_wp2
      go_ret
      exact ⟨rfl, Vi, HOI.out, HS2.out.trans HSI.out⟩
set_option maxRecDepth 100000 in
set_option maxHeartbeats 4000000 in
theorem exec_output {w0 : World} {p : PV} {E : Env} {AR : Option Addr} {cR b k : Nat} (hX : ExC w0 p E AR cR b k) {W : World} {V : VV} {M M' : St} {x : S59} {g : Int} {A3 A4 A5 : Option Addr} {c3 c4 c5 : Nat} (hO : Ok w0 p E AR cR W b V M) (hS : SA w0 x A3 A4 A5 c3 c4 c5) (hk : x.f0 = 9)
    (h : stmtE E (k + 1) M x = some (g, M')) :
    Calls Try.prog 76 #[.pointer (some ⟨b, 0, none⟩), .agg #[.int .i64 x.f0, .string x.f1, .int .i64 x.f2, .slice A3 x.f3.length c3, .slice A4 x.f4.length c4, .slice A5 x.f5.length c5, .int .i64 x.f6]] W (ExPost w0 p E AR cR W b V M' g) := by
  have HX := Aside0.mk (@hX)
  have HO := Aside0.mk hO
  have HS := Aside0.mk hS
  obtain ⟨f0, f1, f2, f3, f4, f5, f6⟩ := x
  simp only at hk
  subst hk
  rw [stmtE] at h
  simp only at h
  rw [if_neg (by decide), if_neg (by decide), if_neg (by decide), if_neg (by decide), if_neg (by decide), if_neg (by decide), if_neg (by decide), if_neg (by decide), if_pos (by decide)] at h
  clear hX hO hS
  have hn0 : ¬ Foot b V W.heap.size := fun hf => by have := (HO.out.m.foot_lt hf).2; omega
  simp only at HS ⊢
  have hpos : 0 < f3.length := Decidable.byContradiction fun d => by rw [if_neg d] at h; cases h
  rw [if_pos hpos] at h
  obtain ⟨ad, A6, c6, rfl, g0, g1, g2, g3, g4, g5, l6, C6⟩ := at_T56 HS.out.C3 0 (by omega) (by show (0 : Int) < (f3.length : Int); omega)
  simp only [show (0 : Int).toNat * 6 = 0 from rfl, aadd0, show rd_T56 f3 0 = f3.getD 0 z56 from rfl] at g0 g1 g2 g3 g4 g5 l6 C6
  generalize f3.getD 0 z56 = y at g0 g1 g2 g3 g4 g5 l6 C6 h
  have HC6 := Aside0.mk C6
  have HL6 := Aside0.mk l6
  clear C6 l6
  have hk0 : (W.alloc (.cells #[.int .i64 9, .string f1, .int .i64 f2, .slice (some ad) f3.length c3, .slice A4 f4.length c4, .slice A5 f5.length c5, .int .i64 f6] 59)).heap[W.heap.size]? = some (.cells #[.int .i64 9, .string f1, .int .i64 f2, .slice (some ad) f3.length c3, .slice A4 f4.length c4, .slice A5 f5.length c5, .int .i64 f6] 59 (0, 0)) := World.alloc_heap_new W _
  have hB2 : Below W.heap.size W (W.alloc (.cells #[.int .i64 9, .string f1, .int .i64 f2, .slice (some ad) f3.length c3, .slice A4 f4.length c4, .slice A5 f5.length c5, .int .i64 f6] 59)) := below_alloc (Below.refl _ _) _
  have HO2 := Aside0.mk (HO.out.up hB2)
  have HS2 := Aside0.mk (Step.of_below hB2 b V)
  have HBOX : Aside0 (∀ {wr : World} {Vi : VV}, Below w0.heap.size w0 wr → Step (W.alloc (.cells #[.int .i64 9, .string f1, .int .i64 f2, .slice (some ad) f3.length c3, .slice A4 f4.length c4, .slice A5 f5.length c5, .int .i64 f6] 59)) wr b V Vi → wr.cell? ⟨W.heap.size, 0, none⟩ = some (.int .i64 9) ∧ wr.cell? ⟨W.heap.size, 1, none⟩ = some (.string f1) ∧ wr.cell? ⟨W.heap.size, 2, none⟩ = some (.int .i64 f2) ∧ wr.cell? ⟨W.heap.size, 3, none⟩ = some (.slice (some ad) f3.length c3) ∧ wr.cell? ⟨W.heap.size, 4, none⟩ = some (.slice A4 f4.length c4) ∧ wr.cell? ⟨W.heap.size, 5, none⟩ = some (.slice A5 f5.length c5) ∧ wr.cell? ⟨W.heap.size, 6, none⟩ = some (.int .i64 f6) ∧ wr.cell? ad = some (.int .i64 y.f0) ∧ wr.cell? ⟨ad.block, ad.off + 1, none⟩ = some (.string y.f1) ∧ wr.cell? ⟨ad.block, ad.off + 2, none⟩ = some (.int .i16 y.f2) ∧ wr.cell? ⟨ad.block, ad.off + 3, none⟩ = some (.int .i64 y.f3) ∧ wr.cell? ⟨ad.block, ad.off + 4, none⟩ = some (.slice A6 y.f4.length c6) ∧ wr.cell? ⟨ad.block, ad.off + 5, none⟩ = some (.int .i64 y.f5)) :=
    ⟨fun hb hs => ⟨(blk_cell (hs.blk hk0 hn0) 0).trans rfl, (blk_cell (hs.blk hk0 hn0) 1).trans rfl, (blk_cell (hs.blk hk0 hn0) 2).trans rfl, (blk_cell (hs.blk hk0 hn0) 3).trans rfl, (blk_cell (hs.blk hk0 hn0) 4).trans rfl, (blk_cell (hs.blk hk0 hn0) 5).trans rfl, (blk_cell (hs.blk hk0 hn0) 6).trans rfl, cell_up hb g0, cell_up hb g1, cell_up hb g2, cell_up hb g3, cell_up hb g4, cell_up hb g5⟩⟩
  clear hk0 hn0 hB2 g0 g1 g2 g3 g4 g5
  obtain ⟨s0, s1, s2, s3, s4, s5, s6, s7, s8, s9, s10, s11, s12⟩ := HBOX.out HO2.out.B (Step.refl _ b V)
  obtain ⟨v0, v1, v2, v3, v4, v5⟩ := p
  go_enter Try.func76, Try.ntmps76
  replace h := Option.bind_eq_some_iff.1 h
  obtain ⟨⟨r, M1⟩, he, h⟩ := h
  simp only at h
  have HEV := Aside0.mk he
  have HSAME := Aside0.mk (evalE_same k he)
  clear he
  replace h := Option.bind_eq_some_iff.1 h
  obtain ⟨⟨r1, r2, r3⟩, hr, h⟩ := h
  simp only at h
  have hlm : M1.outputs.length < lim := Decidable.byContradiction fun d => by rw [if_neg d] at h; cases h
  rw [if_pos hlm] at h
  obtain ⟨rfl, rfl⟩ := Prod.mk.inj (Option.some.inj h)
  clear h
  go_wp2_with (first
    | (go_at_call 43; refine (eval_calls k (HO2.out) HL6.out HC6.out HEV.out).mono ?_; rintro e W3 ⟨rfl, S3, hO3, hS3⟩; have hSS := hS3; clear s0 s1 s2 s3 s4 s5 s6 s7 s8 s9 s10 s11 s12; obtain ⟨z0, z1, z2, z3, z4, z5, z6, z7, z8, z9, z10, z11, z12⟩ := HBOX.out hO3.B hSS; have d0 := hO3.m.cell 0 rfl; have d1 := hO3.m.cell 1 rfl; have d2 := hO3.m.cell 2 rfl; have d3 := hO3.m.cell 3 rfl; have d4 := hO3.m.cell 4 rfl; have d5 := hO3.m.cell 5 rfl; have HO3 := Aside0.mk hO3; have HS3 := Aside0.mk hSS; clear hO3 hS3 hSS))
  go_region_held3 (fun w' => w'.cell? ⟨b, 0, none⟩ = some v0 ∧ w'.cell? ⟨b, 1, none⟩ = some v1 ∧ w'.cell? ⟨b, 2, none⟩ = some v2 ∧ w'.cell? ⟨b, 3, none⟩ = some v3 ∧ w'.cell? ⟨b, 4, none⟩ = some v4 ∧ w'.cell? ⟨b, 5, none⟩ = some v5 ∧ w'.cell? ⟨W.heap.size, 1, none⟩ = some (.string f1)) (go_keep)
    (first
      | (go_at_call 74; refine (HO3.out.P.look (HO3.out.B.trans ((below_drew1 (Below.refl _ _)).mono HO3.out.B.size)) hr).mono ?_; rintro e W5 ⟨rfl, hB5⟩; have hB6 := (below_drew1 (Below.refl W3.heap.size W3)).trans (hB5.mono (below_drew1 (Below.refl W3.heap.size W3)).size); have hO5 := HO3.out.up hB6; have hSS := HS3.out.trans (Step.of_below hB6 b _); clear z0 z1 z2 z3 z4 z5 z6 z7 z8 z9 z10 z11 z12 d0 d1 d2 d3 d4 d5; obtain ⟨y_0, y_1, y_2, y_3, y_4, y_5, y_6, y_7, y_8, y_9, y_10, y_11, y_12⟩ := HBOX.out hO5.B hSS; have d0 := hO5.m.cell 0 rfl; have d1 := hO5.m.cell 1 rfl; have d2 := hO5.m.cell 2 rfl; have d3 := hO5.m.cell 3 rfl; have d4 := hO5.m.cell 4 rfl; have d5 := hO5.m.cell 5 rfl; have d9 := hO5.m.cell 9 rfl; have HO5 := Aside0.mk hO5; have HS5 := Aside0.mk hSS; clear hO5 hSS hB5 hB6))
  go_wp2_with (first
    | ((with_reducible refine gate_builtin (b := .append) (xs := #[.tmp 161, .tmp 165]) rfl ?_); at_builtin; refine Kd.Q_append k110 (w0 := w0) w0.heap.size rfl (.tmp 161) (.tmp 165) 39 110 (.agg #[.int .i64 0, .int .i16 0]) 16 rfl Try.underlying39 info110 rfl (by decide) (by decide) V.O M1.outputs (⟨r2, r⟩ : S110) [.int .i64 r2, .int .i16 r] (fun _ => True) (fun _ => False) rfl rfl ?aP (fun _ hk => hk.elim) ?aF ?aO ?aB ?aS ?aL ?_; (case aP => exact k110_mkM _ _ _ (⟨r2, r⟩ : S110)); (case aF => exact fun _ _ => trivial); (case aO => exact HO5.out.m.O.q); (case aB => exact HO5.out.B); (case aS => exact HO5.out.B.size); (case aL => unfold lim at hlm; omega); intro u1 w6 ho6 hb6 hg6 ha6; obtain ⟨A9, c9, rfl, _⟩ := Kd.Q_slice ho6; rw [show (M1.outputs ++ [(⟨r2, r⟩ : S110)]).length = M1.outputs.length + 1 by simp] at ho6 ha6; have hpo := HO5.out.m.put_O ho6 hg6 ha6; have hbk := (hg6.block b HO5.out.m.lt (fun e => HO5.out.m.O.neb HO5.out.m.blk (by decide) e.symm)).trans HO5.out.m.blk; have e9 : w6.cell? ⟨b, 9, none⟩ = some V.O := (blk_cell hbk 9).trans rfl; have f9 := blk_frozen hbk 9; have HPO := Aside0.mk hpo; have HB6 := Aside0.mk hb6; clear hpo ho6 hb6 hg6 ha6 hbk d9))
  go_ret
  exact ⟨rfl, _, HO5.out.next HPO.out.1 (HB6.out.setCell (p := ⟨b, 9, none⟩) HO5.out.m.base _) HO5.out.len rfl, (HS2.out.trans HS5.out).trans HPO.out.2⟩
end Go.Proofs.Yteonloecenodbaa.PX
/- (*interp.machine).exec, kind by kind (gen_exec.py). -/
namespace Go.Proofs.Yteonloecenodbaa.PX
open Go.RowKit Go.Shelf Go.Proofs.YteonloecenodbaaW.PrintWords Go.Proofs.YteonloecenodbaaW.PrintLast Go.Proofs.YteonloecenodbaaW.PrintMore
set_option linter.unusedVariables false
set_option maxRecDepth 100000 in
set_option maxHeartbeats 4000000 in
theorem exec_emit {w0 : World} {p : PV} {E : Env} {AR : Option Addr} {cR b k : Nat} (hX : ExC w0 p E AR cR b k) {W : World} {V : VV} {M M' : St} {x : S59} {g : Int} {A3 A4 A5 : Option Addr} {c3 c4 c5 : Nat} (hO : Ok w0 p E AR cR W b V M) (hS : SA w0 x A3 A4 A5 c3 c4 c5) (hk : x.f0 = 8)
    (h : stmtE E (k + 1) M x = some (g, M')) :
    Calls Try.prog 76 #[.pointer (some ⟨b, 0, none⟩), .agg #[.int .i64 x.f0, .string x.f1, .int .i64 x.f2, .slice A3 x.f3.length c3, .slice A4 x.f4.length c4, .slice A5 x.f5.length c5, .int .i64 x.f6]] W (ExPost w0 p E AR cR W b V M' g) := by
  have HX := Aside0.mk (@hX)
  have HO := Aside0.mk hO
  have HS := Aside0.mk hS
  obtain ⟨f0, f1, f2, f3, f4, f5, f6⟩ := x
  simp only at hk
  subst hk
  rw [stmtE] at h
  simp only at h
  rw [if_neg (by decide), if_neg (by decide), if_neg (by decide), if_neg (by decide), if_neg (by decide), if_neg (by decide), if_neg (by decide), if_pos (by decide)] at h
  clear hX hO hS
  have hn0 : ¬ Foot b V W.heap.size := fun hf => by have := (HO.out.m.foot_lt hf).2; omega
  simp only at HS ⊢
  have hpos : 0 < f3.length := Decidable.byContradiction fun d => by rw [if_neg d] at h; cases h
  rw [if_pos hpos] at h
  obtain ⟨ad, A6, c6, rfl, g0, g1, g2, g3, g4, g5, l6, C6⟩ := at_T56 HS.out.C3 0 (by omega) (by show (0 : Int) < (f3.length : Int); omega)
  simp only [show (0 : Int).toNat * 6 = 0 from rfl, aadd0, show rd_T56 f3 0 = f3.getD 0 z56 from rfl] at g0 g1 g2 g3 g4 g5 l6 C6
  generalize f3.getD 0 z56 = y at g0 g1 g2 g3 g4 g5 l6 C6 h
  have HC6 := Aside0.mk C6
  have HL6 := Aside0.mk l6
  clear C6 l6
  have hk0 : (W.alloc (.cells #[.int .i64 8, .string f1, .int .i64 f2, .slice (some ad) f3.length c3, .slice A4 f4.length c4, .slice A5 f5.length c5, .int .i64 f6] 59)).heap[W.heap.size]? = some (.cells #[.int .i64 8, .string f1, .int .i64 f2, .slice (some ad) f3.length c3, .slice A4 f4.length c4, .slice A5 f5.length c5, .int .i64 f6] 59 (0, 0)) := World.alloc_heap_new W _
  have hB2 : Below W.heap.size W (W.alloc (.cells #[.int .i64 8, .string f1, .int .i64 f2, .slice (some ad) f3.length c3, .slice A4 f4.length c4, .slice A5 f5.length c5, .int .i64 f6] 59)) := below_alloc (Below.refl _ _) _
  have HO2 := Aside0.mk (HO.out.up hB2)
  have HS2 := Aside0.mk (Step.of_below hB2 b V)
  have HBOX : Aside0 (∀ {wr : World} {Vi : VV}, Below w0.heap.size w0 wr → Step (W.alloc (.cells #[.int .i64 8, .string f1, .int .i64 f2, .slice (some ad) f3.length c3, .slice A4 f4.length c4, .slice A5 f5.length c5, .int .i64 f6] 59)) wr b V Vi → wr.cell? ⟨W.heap.size, 0, none⟩ = some (.int .i64 8) ∧ wr.cell? ⟨W.heap.size, 1, none⟩ = some (.string f1) ∧ wr.cell? ⟨W.heap.size, 2, none⟩ = some (.int .i64 f2) ∧ wr.cell? ⟨W.heap.size, 3, none⟩ = some (.slice (some ad) f3.length c3) ∧ wr.cell? ⟨W.heap.size, 4, none⟩ = some (.slice A4 f4.length c4) ∧ wr.cell? ⟨W.heap.size, 5, none⟩ = some (.slice A5 f5.length c5) ∧ wr.cell? ⟨W.heap.size, 6, none⟩ = some (.int .i64 f6) ∧ wr.cell? ad = some (.int .i64 y.f0) ∧ wr.cell? ⟨ad.block, ad.off + 1, none⟩ = some (.string y.f1) ∧ wr.cell? ⟨ad.block, ad.off + 2, none⟩ = some (.int .i16 y.f2) ∧ wr.cell? ⟨ad.block, ad.off + 3, none⟩ = some (.int .i64 y.f3) ∧ wr.cell? ⟨ad.block, ad.off + 4, none⟩ = some (.slice A6 y.f4.length c6) ∧ wr.cell? ⟨ad.block, ad.off + 5, none⟩ = some (.int .i64 y.f5)) :=
    ⟨fun hb hs => ⟨(blk_cell (hs.blk hk0 hn0) 0).trans rfl, (blk_cell (hs.blk hk0 hn0) 1).trans rfl, (blk_cell (hs.blk hk0 hn0) 2).trans rfl, (blk_cell (hs.blk hk0 hn0) 3).trans rfl, (blk_cell (hs.blk hk0 hn0) 4).trans rfl, (blk_cell (hs.blk hk0 hn0) 5).trans rfl, (blk_cell (hs.blk hk0 hn0) 6).trans rfl, cell_up hb g0, cell_up hb g1, cell_up hb g2, cell_up hb g3, cell_up hb g4, cell_up hb g5⟩⟩
  clear hk0 hn0 hB2 g0 g1 g2 g3 g4 g5
  obtain ⟨s0, s1, s2, s3, s4, s5, s6, s7, s8, s9, s10, s11, s12⟩ := HBOX.out HO2.out.B (Step.refl _ b V)
  go_enter Try.func76, Try.ntmps76
  replace h := Option.bind_eq_some_iff.1 h
  obtain ⟨⟨r, M1⟩, he, h⟩ := h
  simp only at h
  have HEV := Aside0.mk he
  have HSAME := Aside0.mk (evalE_same k he)
  clear he
  have hlm : M1.emitted.length < lim := Decidable.byContradiction fun d => by rw [if_neg d] at h; cases h
  rw [if_pos hlm] at h
  obtain ⟨rfl, rfl⟩ := Prod.mk.inj (Option.some.inj h)
  have HLIM := Aside0.mk hlm
  have dE := HO2.out.m.cell 8 rfl
  clear h hlm
  go_wp2
  refine start_ (n := 20) (S := (fun w' => w'.cell? ⟨b, 8, none⟩ = some V.E ∧ w'.cell? ⟨W.heap.size, 0, none⟩ = some (.int .i64 8) ∧ w'.cell? ⟨W.heap.size, 1, none⟩ = some (.string f1) ∧ w'.cell? ⟨W.heap.size, 2, none⟩ = some (.int .i64 f2) ∧ w'.cell? ⟨W.heap.size, 3, none⟩ = some (.slice (some ad) f3.length c3) ∧ w'.cell? ⟨W.heap.size, 4, none⟩ = some (.slice A4 f4.length c4) ∧ w'.cell? ⟨W.heap.size, 5, none⟩ = some (.slice A5 f5.length c5) ∧ w'.cell? ⟨W.heap.size, 6, none⟩ = some (.int .i64 f6) ∧ w'.cell? ad = some (.int .i64 y.f0) ∧ w'.cell? ⟨ad.block, ad.off + 1, none⟩ = some (.string y.f1) ∧ w'.cell? ⟨ad.block, ad.off + 2, none⟩ = some (.int .i16 y.f2) ∧ w'.cell? ⟨ad.block, ad.off + 3, none⟩ = some (.int .i64 y.f3) ∧ w'.cell? ⟨ad.block, ad.off + 4, none⟩ = some (.slice A6 y.f4.length c6) ∧ w'.cell? ⟨ad.block, ad.off + 5, none⟩ = some (.int .i64 y.f5))) (ds := [19]) #[false, false, false, false, false, false, false, false, false, false, false, false, false, false, false, false, false, false, false, false] (by kernel_rfl) rfl rfl ⟨dE, s0, s1, s2, s3, s4, s5, s6, s7, s8, s9, s10, s11, s12⟩ (fun hHeld => ?_)
  refine pure_ (i := 0) (N := some 117) (v := ?_) (a' := ?_) #[true, false, false, false, false, false, false, false, false, false, false, false, false, false, false, false, false, false, false, false] rfl rfl (by kernel_rfl) (fun _ _ _ h => h) (Or.inl ⟨by rfl, ?_⟩) ?_ ?_
  rotate_left
  · intro w'
    go_simp
    with_reducible rfl
  rotate_left
  · simp only [Act.put, List.setIfInBounds_toArray, List.set_cons_zero, List.set_cons_succ]
    rfl
  refine pure_ (i := 1) (N := some 118) (v := ?_) (a' := ?_) #[true, true, false, false, false, false, false, false, false, false, false, false, false, false, false, false, false, false, false, false] rfl rfl (by kernel_rfl) (fun _ _ _ h => h) (Or.inl ⟨by rfl, ?_⟩) ?_ ?_
  rotate_left
  · intro w'
    go_simp
    with_reducible rfl
  rotate_left
  · simp only [Act.put, List.setIfInBounds_toArray, List.set_cons_zero, List.set_cons_succ]
    rfl
  refine pure_ (i := 2) (N := some 119) (v := ?_) (a' := ?_) #[true, true, true, false, false, false, false, false, false, false, false, false, false, false, false, false, false, false, false, false] rfl rfl (by kernel_rfl) (fun _ _ _ h => h) (Or.inl ⟨by rfl, ?_⟩) ?_ ?_
  rotate_left
  · intro w'
    go_simp
    with_reducible rfl
  rotate_left
  · simp only [Act.put, List.setIfInBounds_toArray, List.set_cons_zero, List.set_cons_succ]
    rfl
  refine pure_ (i := 3) (N := some 120) (v := ?_) (a' := ?_) #[true, true, true, true, false, false, false, false, false, false, false, false, false, false, false, false, false, false, false, false] rfl rfl (by kernel_rfl) (fun _ _ _ h => h) (Or.inl ⟨by rfl, ?_⟩) ?_ ?_
  rotate_left
  · intro w'
    go_simp
    with_reducible rfl
  rotate_left
  · simp only [Act.put, List.setIfInBounds_toArray, List.set_cons_zero, List.set_cons_succ]
    rfl
  refine pure_ (i := 4) (N := some 121) (v := ?_) (a' := ?_) #[true, true, true, true, true, false, false, false, false, false, false, false, false, false, false, false, false, false, false, false] rfl rfl (by kernel_rfl) (fun _ _ _ h => h) (Or.inl ⟨by rfl, ?_⟩) ?_ ?_
  rotate_left
  · intro w'
    go_simp
    with_reducible rfl
  rotate_left
  · simp only [Act.put, List.setIfInBounds_toArray, List.set_cons_zero, List.set_cons_succ]
    rfl
  refine pure_ (i := 5) (N := some 122) (v := ?_) (a' := ?_) #[true, true, true, true, true, true, false, false, false, false, false, false, false, false, false, false, false, false, false, false] rfl rfl (by kernel_rfl) (fun _ _ _ h => h) (Or.inl ⟨by rfl, ?_⟩) ?_ ?_
  rotate_left
  · intro w'
    go_simp
    with_reducible rfl
  rotate_left
  · simp only [Act.put, List.setIfInBounds_toArray, List.set_cons_zero, List.set_cons_succ]
    rfl
  refine take_ (i := 6) (N := some 123) (v := ?_) (a' := ?_) #[true, true, true, true, true, true, true, false, false, false, false, false, false, false, false, false, false, false, false, false] rfl rfl (by kernel_rfl) (fun _ _ _ h => h) (Or.inl ⟨by rfl, ?_⟩) hHeld ?_ ?_
  rotate_left
  · rintro w' ⟨p_0, p_1, p_2, p_3, p_4, p_5, p_6, p_7, p_8, p_9, p_10, p_11, p_12, p_13⟩
    go_simp
    with_reducible rfl
  rotate_left
  · simp only [Act.put, List.setIfInBounds_toArray, List.set_cons_zero, List.set_cons_succ]
    rfl
  refine pure_ (i := 7) (N := some 124) (v := ?_) (a' := ?_) #[true, true, true, true, true, true, true, true, false, false, false, false, false, false, false, false, false, false, false, false] rfl rfl (by kernel_rfl) (fun _ _ _ h => h) (Or.inl ⟨by rfl, ?_⟩) ?_ ?_
  rotate_left
  · intro w'
    go_simp
    with_reducible rfl
  rotate_left
  · simp only [Act.put, List.setIfInBounds_toArray, List.set_cons_zero, List.set_cons_succ]
    rfl
  refine pure_ (i := 8) (N := some 125) (v := ?_) (a' := ?_) #[true, true, true, true, true, true, true, true, true, false, false, false, false, false, false, false, false, false, false, false] rfl rfl (by kernel_rfl) (fun _ _ _ h => h) (Or.inl ⟨by rfl, ?_⟩) ?_ ?_
  rotate_left
  · intro w'
    go_simp
    with_reducible rfl
  rotate_left
  · simp only [Act.put, List.setIfInBounds_toArray, List.set_cons_zero, List.set_cons_succ]
    rfl
  refine take_ (i := 9) (N := some 126) (v := ?_) (a' := ?_) #[true, true, true, true, true, true, true, true, true, true, false, false, false, false, false, false, false, false, false, false] rfl rfl (by kernel_rfl) (fun _ _ _ h => h) (Or.inl ⟨by rfl, ?_⟩) hHeld ?_ ?_
  rotate_left
  · rintro w' ⟨p_0, p_1, p_2, p_3, p_4, p_5, p_6, p_7, p_8, p_9, p_10, p_11, p_12, p_13⟩
    go_simp
    with_reducible rfl
  rotate_left
  · simp only [Act.put, List.setIfInBounds_toArray, List.set_cons_zero, List.set_cons_succ]
    rfl
  refine pure_ (i := 10) (N := some 127) (v := ?_) (a' := ?_) #[true, true, true, true, true, true, true, true, true, true, true, false, false, false, false, false, false, false, false, false] rfl rfl (by kernel_rfl) (fun _ _ _ h => h) (Or.inl ⟨by rfl, ?_⟩) ?_ ?_
  rotate_left
  · intro w'
    go_simp
    with_reducible rfl
  rotate_left
  · simp only [Act.put, List.setIfInBounds_toArray, List.set_cons_zero, List.set_cons_succ]
    rfl
  refine take_ (i := 11) (N := some 128) (v := ?_) (a' := ?_) #[true, true, true, true, true, true, true, true, true, true, true, true, false, false, false, false, false, false, false, false] rfl rfl (by kernel_rfl) (fun _ _ _ h => h) (Or.inl ⟨by rfl, ?_⟩) hHeld ?_ ?_
  rotate_left
  · rintro w' ⟨p_0, p_1, p_2, p_3, p_4, p_5, p_6, p_7, p_8, p_9, p_10, p_11, p_12, p_13⟩
    go_simp
    with_reducible rfl
  rotate_left
  · simp only [Act.put, List.setIfInBounds_toArray, List.set_cons_zero, List.set_cons_succ]
    rfl
  refine one_ (i := 12) (N := some 129) #[true, true, true, true, true, true, true, true, true, true, true, true, true, false, false, false, false, false, false, false] rfl rfl (by kernel_rfl) (by decide) (fun K hK => ?_)
  refine goes_ Try.func43 (by kernel_rfl) rfl #[.pointer (some ⟨b, 0, none⟩), .agg #[.int .i64 y.f0, .string y.f1, .int .i16 y.f2, .int .i64 y.f3, .slice A6 y.f4.length c6, .int .i64 y.f5]] (by rfl) rfl rfl (by (try simp only [List.map_toArray, List.map_cons, List.map_nil]); first | done | rfl | (simp only [List.length_drop, List.length_take]; rfl)) ?_
  refine (eval_calls k (HO2.out.up (below_drew1 (Below.refl _ _))) HL6.out HC6.out HEV.out).mono ?_
  rintro e W3 ⟨rfl, S3, hO3, hS3⟩
  refine ⟨_, rfl, ?_⟩
  have hSS := (Step.of_below (below_drew1 (Below.refl _ _)) b V).trans hS3
  clear hHeld s0 s1 s2 s3 s4 s5 s6 s7 s8 s9 s10 s11 s12 dE
  obtain ⟨z0, z1, z2, z3, z4, z5, z6, z7, z8, z9, z10, z11, z12⟩ := HBOX.out hO3.B hSS
  have dE := hO3.m.cell 8 rfl
  have HO3 := Aside0.mk hO3
  have HS3 := Aside0.mk hSS
  clear hO3 hS3 hSS
  refine hK.out _ _ ⟨dE, z0, z1, z2, z3, z4, z5, z6, z7, z8, z9, z10, z11, z12⟩ (fun hHeld => ?_)
  clear hK K
  refine norm_ (a' := ?_) ?_ ?_
  rotate_left
  · show Act.put _ (some 129) _ = _
    simp only [Act.put, List.setIfInBounds_toArray, List.set_cons_zero, List.set_cons_succ]
    rfl
  refine one_ (i := 13) (N := some 130) #[true, true, true, true, true, true, true, true, true, true, true, true, true, true, false, false, false, false, false, false] rfl rfl (by kernel_rfl) (by decide) (fun K hK => ?_)
  refine event_step (w1 := W3.alloc (.cells #[.int .i16 r] 29)) (v := .slice (some ⟨W3.heap.size, 0, none⟩) 1 1) (by rfl) (by first | (go_simp; done) | (go_simp; rfl)) ?_
  have hB4 := below_alloc (Below.refl W3.heap.size W3) (.cells #[.int .i16 r] 29)
  have hO4 := HO3.out.up hB4
  have hSS := HS3.out.trans (Step.of_below hB4 b _)
  clear hHeld z0 z1 z2 z3 z4 z5 z6 z7 z8 z9 z10 z11 z12 dE
  obtain ⟨y_0, y_1, y_2, y_3, y_4, y_5, y_6, y_7, y_8, y_9, y_10, y_11, y_12⟩ := HBOX.out hO4.B hSS
  have dE := hO4.m.cell 8 rfl
  clear hO4 hSS hB4
  refine hK.out _ _ ⟨dE, y_0, y_1, y_2, y_3, y_4, y_5, y_6, y_7, y_8, y_9, y_10, y_11, y_12⟩ (fun hHeld => ?_)
  clear hK K
  refine norm_ (a' := ?_) ?_ ?_
  rotate_left
  · show Act.put _ (some 130) _ = _
    simp only [Act.put, List.setIfInBounds_toArray, List.set_cons_zero, List.set_cons_succ]
    rfl
  refine one_ (i := 14) (N := some 131) #[true, true, true, true, true, true, true, true, true, true, true, true, true, true, true, false, false, false, false, false] rfl rfl (by kernel_rfl) (by decide) (fun K hK => ?_)
  refine Kd.Q_append_step kI (w0 := w0) w0.heap.size ?hw (.tmp 123) (.tmp 130) 33 29 (.int .i16 0) 2 rfl Try.underlying33 info29 rfl (by decide) (by decide) V.E M1.emitted r [.int .i16 r] (fun _ => True) (fun _ => False) rfl rfl ?aP (fun _ hk => hk.elim) ?aF ?aO ?aB ?aS ?aL ?_
  case hw => rfl
  case aP => exact rfl
  case aF => exact fun _ _ => trivial
  case aO => exact HO3.out.m.E.q
  case aB => exact HO3.out.B
  case aS => exact HO3.out.B.size
  case aL => have := HLIM.out; unfold lim at this; omega
  intro u1 w6 ho6 hb6 hg6 ha6
  obtain ⟨A9, c9, rfl, _⟩ := Kd.Q_slice ho6
  rw [show (M1.emitted ++ [r]).length = M1.emitted.length + 1 by simp] at ho6 ha6
  have hpo := HO3.out.m.put_E ho6 hg6 ha6
  have hbk := (hg6.block b HO3.out.m.lt (fun e => HO3.out.m.E.neb HO3.out.m.blk (by decide) e.symm)).trans HO3.out.m.blk
  clear hHeld y_0 y_1 y_2 y_3 y_4 y_5 y_6 y_7 y_8 y_9 y_10 y_11 y_12 dE
  have dE : w6.cell? ⟨b, 8, none⟩ = some V.E := (blk_cell hbk 8).trans rfl
  have fE := blk_frozen hbk 8
  have hS6 : Step W3 w6 b { V with S := S3 } { V with S := S3 } := Step.of_turn (Turn.of_grown hg6) hg6.size (fun k hk => ⟨.inr (.inr (.inr (.inl hk)))⟩) (fun _ _ hf => hf)
  obtain ⟨q_0, q_1, q_2, q_3, q_4, q_5, q_6, q_7, q_8, q_9, q_10, q_11, q_12⟩ := HBOX.out hb6 (HS3.out.trans hS6)
  have HPO := Aside0.mk hpo
  have HB6 := Aside0.mk hb6
  clear hpo ho6 hb6 hg6 ha6 hbk hS6
  refine hK.out _ _ ⟨dE, q_0, q_1, q_2, q_3, q_4, q_5, q_6, q_7, q_8, q_9, q_10, q_11, q_12⟩ (fun hHeld => ?_)
  clear hK K
  refine norm_ (a' := ?_) ?_ ?_
  rotate_left
  · show Act.put _ (some 131) _ = _
    simp only [Act.put, List.setIfInBounds_toArray, List.set_cons_zero, List.set_cons_succ]
    rfl
  refine pure_ (i := 15) (N := some 132) (v := ?_) (a' := ?_) #[true, true, true, true, true, true, true, true, true, true, true, true, true, true, true, true, false, false, false, false] rfl rfl (by kernel_rfl) (fun _ _ _ h => h) (Or.inl ⟨by rfl, ?_⟩) ?_ ?_
  rotate_left
  · intro w'
    go_simp
    with_reducible rfl
  rotate_left
  · simp only [Act.put, List.setIfInBounds_toArray, List.set_cons_zero, List.set_cons_succ]
    rfl
  refine pure_ (i := 16) (N := some 133) (v := ?_) (a' := ?_) #[true, true, true, true, true, true, true, true, true, true, true, true, true, true, true, true, true, false, false, false] rfl rfl (by kernel_rfl) (fun _ _ _ h => h) (Or.inl ⟨by rfl, ?_⟩) ?_ ?_
  rotate_left
  · intro w'
    go_simp
    with_reducible rfl
  rotate_left
  · simp only [Act.put, List.setIfInBounds_toArray, List.set_cons_zero, List.set_cons_succ]
    rfl
  refine pure_ (i := 17) (N := some 134) (v := ?_) (a' := ?_) #[true, true, true, true, true, true, true, true, true, true, true, true, true, true, true, true, true, true, false, false] rfl rfl (by kernel_rfl) (fun _ _ _ h => h) (Or.inl ⟨by rfl, ?_⟩) ?_ ?_
  rotate_left
  · intro w'
    go_simp
    with_reducible rfl
  rotate_left
  · simp only [Act.put, List.setIfInBounds_toArray, List.set_cons_zero, List.set_cons_succ]
    rfl
  refine pure_ (i := 18) (N := some 135) (v := ?_) (a' := ?_) #[true, true, true, true, true, true, true, true, true, true, true, true, true, true, true, true, true, true, true, false] rfl rfl (by kernel_rfl) (fun _ _ _ h => h) (Or.inl ⟨by rfl, ?_⟩) ?_ ?_
  rotate_left
  · intro w'
    go_simp
    with_reducible rfl
  rotate_left
  · simp only [Act.put, List.setIfInBounds_toArray, List.set_cons_zero, List.set_cons_succ]
    rfl
  refine last_ (i := 19) (N := none) #[true, true, true, true, true, true, true, true, true, true, true, true, true, true, true, true, true, true, true, true] rfl rfl (by kernel_rfl) (by decide) (fun K hK => ?_)
  go_simp
  refine hK.out _ _ ?_
  clear hK K
  refine done_ (by kernel_rfl) ?_
  go_wp2
  go_ret
  exact ⟨rfl, _, HO3.out.next HPO.out.1 (HB6.out.setCell (p := ⟨b, 8, none⟩) HO3.out.m.base _) HO3.out.len rfl, (HS2.out.trans HS3.out).trans HPO.out.2⟩
set_option maxRecDepth 100000 in
set_option maxHeartbeats 4000000 in
theorem exec_let {w0 : World} {p : PV} {E : Env} {AR : Option Addr} {cR b k : Nat} (hX : ExC w0 p E AR cR b k) {W : World} {V : VV} {M M' : St} {x : S59} {g : Int} {A3 A4 A5 : Option Addr} {c3 c4 c5 : Nat} (hO : Ok w0 p E AR cR W b V M) (hS : SA w0 x A3 A4 A5 c3 c4 c5) (hk : x.f0 = 1)
    (h : stmtE E (k + 1) M x = some (g, M')) :
    Calls Try.prog 76 #[.pointer (some ⟨b, 0, none⟩), .agg #[.int .i64 x.f0, .string x.f1, .int .i64 x.f2, .slice A3 x.f3.length c3, .slice A4 x.f4.length c4, .slice A5 x.f5.length c5, .int .i64 x.f6]] W (ExPost w0 p E AR cR W b V M' g) := by
  have HX := Aside0.mk (@hX)
  have HO := Aside0.mk hO
  have HS := Aside0.mk hS
  obtain ⟨f0, f1, f2, f3, f4, f5, f6⟩ := x
  simp only at hk
  subst hk
  rw [stmtE] at h
  simp only at h
  rw [if_pos (by decide)] at h
  clear hX hO hS
  have hn0 : ¬ Foot b V W.heap.size := fun hf => by have := (HO.out.m.foot_lt hf).2; omega
  simp only at HS ⊢
  have hpos : 0 < f3.length := Decidable.byContradiction fun d => by rw [if_neg d] at h; cases h
  rw [if_pos hpos] at h
  obtain ⟨ad, A6, c6, rfl, g0, g1, g2, g3, g4, g5, l6, C6⟩ := at_T56 HS.out.C3 0 (by omega) (by show (0 : Int) < (f3.length : Int); omega)
  simp only [show (0 : Int).toNat * 6 = 0 from rfl, aadd0, show rd_T56 f3 0 = f3.getD 0 z56 from rfl] at g0 g1 g2 g3 g4 g5 l6 C6
  generalize f3.getD 0 z56 = y at g0 g1 g2 g3 g4 g5 l6 C6 h
  have HC6 := Aside0.mk C6
  have HL6 := Aside0.mk l6
  clear C6 l6
  have hk0 : (W.alloc (.cells #[.int .i64 1, .string f1, .int .i64 f2, .slice (some ad) f3.length c3, .slice A4 f4.length c4, .slice A5 f5.length c5, .int .i64 f6] 59)).heap[W.heap.size]? = some (.cells #[.int .i64 1, .string f1, .int .i64 f2, .slice (some ad) f3.length c3, .slice A4 f4.length c4, .slice A5 f5.length c5, .int .i64 f6] 59 (0, 0)) := World.alloc_heap_new W _
  have hB2 : Below W.heap.size W (W.alloc (.cells #[.int .i64 1, .string f1, .int .i64 f2, .slice (some ad) f3.length c3, .slice A4 f4.length c4, .slice A5 f5.length c5, .int .i64 f6] 59)) := below_alloc (Below.refl _ _) _
  have HO2 := Aside0.mk (HO.out.up hB2)
  have HS2 := Aside0.mk (Step.of_below hB2 b V)
  have HBOX : Aside0 (∀ {wr : World} {Vi : VV}, Below w0.heap.size w0 wr → Step (W.alloc (.cells #[.int .i64 1, .string f1, .int .i64 f2, .slice (some ad) f3.length c3, .slice A4 f4.length c4, .slice A5 f5.length c5, .int .i64 f6] 59)) wr b V Vi → wr.cell? ⟨W.heap.size, 0, none⟩ = some (.int .i64 1) ∧ wr.cell? ⟨W.heap.size, 1, none⟩ = some (.string f1) ∧ wr.cell? ⟨W.heap.size, 2, none⟩ = some (.int .i64 f2) ∧ wr.cell? ⟨W.heap.size, 3, none⟩ = some (.slice (some ad) f3.length c3) ∧ wr.cell? ⟨W.heap.size, 4, none⟩ = some (.slice A4 f4.length c4) ∧ wr.cell? ⟨W.heap.size, 5, none⟩ = some (.slice A5 f5.length c5) ∧ wr.cell? ⟨W.heap.size, 6, none⟩ = some (.int .i64 f6) ∧ wr.cell? ad = some (.int .i64 y.f0) ∧ wr.cell? ⟨ad.block, ad.off + 1, none⟩ = some (.string y.f1) ∧ wr.cell? ⟨ad.block, ad.off + 2, none⟩ = some (.int .i16 y.f2) ∧ wr.cell? ⟨ad.block, ad.off + 3, none⟩ = some (.int .i64 y.f3) ∧ wr.cell? ⟨ad.block, ad.off + 4, none⟩ = some (.slice A6 y.f4.length c6) ∧ wr.cell? ⟨ad.block, ad.off + 5, none⟩ = some (.int .i64 y.f5)) :=
    ⟨fun hb hs => ⟨(blk_cell (hs.blk hk0 hn0) 0).trans rfl, (blk_cell (hs.blk hk0 hn0) 1).trans rfl, (blk_cell (hs.blk hk0 hn0) 2).trans rfl, (blk_cell (hs.blk hk0 hn0) 3).trans rfl, (blk_cell (hs.blk hk0 hn0) 4).trans rfl, (blk_cell (hs.blk hk0 hn0) 5).trans rfl, (blk_cell (hs.blk hk0 hn0) 6).trans rfl, cell_up hb g0, cell_up hb g1, cell_up hb g2, cell_up hb g3, cell_up hb g4, cell_up hb g5⟩⟩
  clear hk0 hn0 hB2 g0 g1 g2 g3 g4 g5
  obtain ⟨s0, s1, s2, s3, s4, s5, s6, s7, s8, s9, s10, s11, s12⟩ := HBOX.out HO2.out.B (Step.refl _ b V)
  go_enter Try.func76, Try.ntmps76
  replace h := Option.bind_eq_some_iff.1 h
  obtain ⟨⟨r, M1⟩, he, h⟩ := h
  simp only at h
  have HEV := Aside0.mk he
  have HSAME := Aside0.mk (evalE_same k he)
  clear he
  have hlm : M1.locals.length < lim := Decidable.byContradiction fun d => by rw [if_neg d] at h; cases h
  rw [if_pos hlm] at h
  obtain ⟨rfl, rfl⟩ := Prod.mk.inj (Option.some.inj h)
  have HLIM := Aside0.mk hlm
  have dE := HO2.out.m.cell 14 rfl
  clear h hlm
  go_wp2
  refine start_ (n := 19) (S := (fun w' => w'.cell? ⟨b, 14, none⟩ = some V.L ∧ w'.cell? ⟨W.heap.size, 0, none⟩ = some (.int .i64 1) ∧ w'.cell? ⟨W.heap.size, 1, none⟩ = some (.string f1) ∧ w'.cell? ⟨W.heap.size, 2, none⟩ = some (.int .i64 f2) ∧ w'.cell? ⟨W.heap.size, 3, none⟩ = some (.slice (some ad) f3.length c3) ∧ w'.cell? ⟨W.heap.size, 4, none⟩ = some (.slice A4 f4.length c4) ∧ w'.cell? ⟨W.heap.size, 5, none⟩ = some (.slice A5 f5.length c5) ∧ w'.cell? ⟨W.heap.size, 6, none⟩ = some (.int .i64 f6) ∧ w'.cell? ad = some (.int .i64 y.f0) ∧ w'.cell? ⟨ad.block, ad.off + 1, none⟩ = some (.string y.f1) ∧ w'.cell? ⟨ad.block, ad.off + 2, none⟩ = some (.int .i16 y.f2) ∧ w'.cell? ⟨ad.block, ad.off + 3, none⟩ = some (.int .i64 y.f3) ∧ w'.cell? ⟨ad.block, ad.off + 4, none⟩ = some (.slice A6 y.f4.length c6) ∧ w'.cell? ⟨ad.block, ad.off + 5, none⟩ = some (.int .i64 y.f5))) (ds := [18]) #[false, false, false, false, false, false, false, false, false, false, false, false, false, false, false, false, false, false, false] (by kernel_rfl) rfl rfl ⟨dE, s0, s1, s2, s3, s4, s5, s6, s7, s8, s9, s10, s11, s12⟩ (fun hHeld => ?_)
  refine pure_ (i := 0) (N := some 16) (v := ?_) (a' := ?_) #[true, false, false, false, false, false, false, false, false, false, false, false, false, false, false, false, false, false, false] rfl rfl (by kernel_rfl) (fun _ _ _ h => h) (Or.inl ⟨by rfl, ?_⟩) ?_ ?_
  rotate_left
  · intro w'
    go_simp
    with_reducible rfl
  rotate_left
  · simp only [Act.put, List.setIfInBounds_toArray, List.set_cons_zero, List.set_cons_succ]
    rfl
  refine pure_ (i := 1) (N := some 17) (v := ?_) (a' := ?_) #[true, true, false, false, false, false, false, false, false, false, false, false, false, false, false, false, false, false, false] rfl rfl (by kernel_rfl) (fun _ _ _ h => h) (Or.inl ⟨by rfl, ?_⟩) ?_ ?_
  rotate_left
  · intro w'
    go_simp
    with_reducible rfl
  rotate_left
  · simp only [Act.put, List.setIfInBounds_toArray, List.set_cons_zero, List.set_cons_succ]
    rfl
  refine pure_ (i := 2) (N := some 18) (v := ?_) (a' := ?_) #[true, true, true, false, false, false, false, false, false, false, false, false, false, false, false, false, false, false, false] rfl rfl (by kernel_rfl) (fun _ _ _ h => h) (Or.inl ⟨by rfl, ?_⟩) ?_ ?_
  rotate_left
  · intro w'
    go_simp
    with_reducible rfl
  rotate_left
  · simp only [Act.put, List.setIfInBounds_toArray, List.set_cons_zero, List.set_cons_succ]
    rfl
  refine pure_ (i := 3) (N := some 19) (v := ?_) (a' := ?_) #[true, true, true, true, false, false, false, false, false, false, false, false, false, false, false, false, false, false, false] rfl rfl (by kernel_rfl) (fun _ _ _ h => h) (Or.inl ⟨by rfl, ?_⟩) ?_ ?_
  rotate_left
  · intro w'
    go_simp
    with_reducible rfl
  rotate_left
  · simp only [Act.put, List.setIfInBounds_toArray, List.set_cons_zero, List.set_cons_succ]
    rfl
  refine take_ (i := 4) (N := some 20) (v := ?_) (a' := ?_) #[true, true, true, true, true, false, false, false, false, false, false, false, false, false, false, false, false, false, false] rfl rfl (by kernel_rfl) (fun _ _ _ h => h) (Or.inl ⟨by rfl, ?_⟩) hHeld ?_ ?_
  rotate_left
  · rintro w' ⟨p_0, p_1, p_2, p_3, p_4, p_5, p_6, p_7, p_8, p_9, p_10, p_11, p_12, p_13⟩
    go_simp
    with_reducible rfl
  rotate_left
  · simp only [Act.put, List.setIfInBounds_toArray, List.set_cons_zero, List.set_cons_succ]
    rfl
  refine pure_ (i := 5) (N := some 21) (v := ?_) (a' := ?_) #[true, true, true, true, true, true, false, false, false, false, false, false, false, false, false, false, false, false, false] rfl rfl (by kernel_rfl) (fun _ _ _ h => h) (Or.inl ⟨by rfl, ?_⟩) ?_ ?_
  rotate_left
  · intro w'
    go_simp
    with_reducible rfl
  rotate_left
  · simp only [Act.put, List.setIfInBounds_toArray, List.set_cons_zero, List.set_cons_succ]
    rfl
  refine take_ (i := 6) (N := some 22) (v := ?_) (a' := ?_) #[true, true, true, true, true, true, true, false, false, false, false, false, false, false, false, false, false, false, false] rfl rfl (by kernel_rfl) (fun _ _ _ h => h) (Or.inl ⟨by rfl, ?_⟩) hHeld ?_ ?_
  rotate_left
  · rintro w' ⟨p_0, p_1, p_2, p_3, p_4, p_5, p_6, p_7, p_8, p_9, p_10, p_11, p_12, p_13⟩
    go_simp
    with_reducible rfl
  rotate_left
  · simp only [Act.put, List.setIfInBounds_toArray, List.set_cons_zero, List.set_cons_succ]
    rfl
  refine pure_ (i := 7) (N := some 23) (v := ?_) (a' := ?_) #[true, true, true, true, true, true, true, true, false, false, false, false, false, false, false, false, false, false, false] rfl rfl (by kernel_rfl) (fun _ _ _ h => h) (Or.inl ⟨by rfl, ?_⟩) ?_ ?_
  rotate_left
  · intro w'
    go_simp
    with_reducible rfl
  rotate_left
  · simp only [Act.put, List.setIfInBounds_toArray, List.set_cons_zero, List.set_cons_succ]
    rfl
  refine pure_ (i := 8) (N := some 24) (v := ?_) (a' := ?_) #[true, true, true, true, true, true, true, true, true, false, false, false, false, false, false, false, false, false, false] rfl rfl (by kernel_rfl) (fun _ _ _ h => h) (Or.inl ⟨by rfl, ?_⟩) ?_ ?_
  rotate_left
  · intro w'
    go_simp
    with_reducible rfl
  rotate_left
  · simp only [Act.put, List.setIfInBounds_toArray, List.set_cons_zero, List.set_cons_succ]
    rfl
  refine take_ (i := 9) (N := some 25) (v := ?_) (a' := ?_) #[true, true, true, true, true, true, true, true, true, true, false, false, false, false, false, false, false, false, false] rfl rfl (by kernel_rfl) (fun _ _ _ h => h) (Or.inl ⟨by rfl, ?_⟩) hHeld ?_ ?_
  rotate_left
  · rintro w' ⟨p_0, p_1, p_2, p_3, p_4, p_5, p_6, p_7, p_8, p_9, p_10, p_11, p_12, p_13⟩
    go_simp
    with_reducible rfl
  rotate_left
  · simp only [Act.put, List.setIfInBounds_toArray, List.set_cons_zero, List.set_cons_succ]
    rfl
  refine pure_ (i := 10) (N := some 26) (v := ?_) (a' := ?_) #[true, true, true, true, true, true, true, true, true, true, true, false, false, false, false, false, false, false, false] rfl rfl (by kernel_rfl) (fun _ _ _ h => h) (Or.inl ⟨by rfl, ?_⟩) ?_ ?_
  rotate_left
  · intro w'
    go_simp
    with_reducible rfl
  rotate_left
  · simp only [Act.put, List.setIfInBounds_toArray, List.set_cons_zero, List.set_cons_succ]
    rfl
  refine take_ (i := 11) (N := some 27) (v := ?_) (a' := ?_) #[true, true, true, true, true, true, true, true, true, true, true, true, false, false, false, false, false, false, false] rfl rfl (by kernel_rfl) (fun _ _ _ h => h) (Or.inl ⟨by rfl, ?_⟩) hHeld ?_ ?_
  rotate_left
  · rintro w' ⟨p_0, p_1, p_2, p_3, p_4, p_5, p_6, p_7, p_8, p_9, p_10, p_11, p_12, p_13⟩
    go_simp
    with_reducible rfl
  rotate_left
  · simp only [Act.put, List.setIfInBounds_toArray, List.set_cons_zero, List.set_cons_succ]
    rfl
  refine one_ (i := 12) (N := some 28) #[true, true, true, true, true, true, true, true, true, true, true, true, true, false, false, false, false, false, false] rfl rfl (by kernel_rfl) (by decide) (fun K hK => ?_)
  refine goes_ Try.func43 (by kernel_rfl) rfl #[.pointer (some ⟨b, 0, none⟩), .agg #[.int .i64 y.f0, .string y.f1, .int .i16 y.f2, .int .i64 y.f3, .slice A6 y.f4.length c6, .int .i64 y.f5]] (by rfl) rfl rfl (by (try simp only [List.map_toArray, List.map_cons, List.map_nil]); first | done | rfl | (simp only [List.length_drop, List.length_take]; rfl)) ?_
  refine (eval_calls k (HO2.out.up (below_drew1 (Below.refl _ _))) HL6.out HC6.out HEV.out).mono ?_
  rintro e W3 ⟨rfl, S3, hO3, hS3⟩
  refine ⟨_, rfl, ?_⟩
  have hSS := (Step.of_below (below_drew1 (Below.refl _ _)) b V).trans hS3
  clear hHeld s0 s1 s2 s3 s4 s5 s6 s7 s8 s9 s10 s11 s12 dE
  obtain ⟨z0, z1, z2, z3, z4, z5, z6, z7, z8, z9, z10, z11, z12⟩ := HBOX.out hO3.B hSS
  have dE := hO3.m.cell 14 rfl
  have HO3 := Aside0.mk hO3
  have HS3 := Aside0.mk hSS
  clear hO3 hS3 hSS
  refine hK.out _ _ ⟨dE, z0, z1, z2, z3, z4, z5, z6, z7, z8, z9, z10, z11, z12⟩ (fun hHeld => ?_)
  clear hK K
  refine norm_ (a' := ?_) ?_ ?_
  rotate_left
  · show Act.put _ (some 28) _ = _
    simp only [Act.put, List.setIfInBounds_toArray, List.set_cons_zero, List.set_cons_succ]
    rfl
  refine pure_ (i := 13) (N := some 29) (v := ?_) (a' := ?_) #[true, true, true, true, true, true, true, true, true, true, true, true, true, true, false, false, false, false, false] rfl rfl (by kernel_rfl) (fun _ _ _ h => h) (Or.inl ⟨by rfl, ?_⟩) ?_ ?_
  rotate_left
  · intro w'
    go_simp
    with_reducible rfl
  rotate_left
  · simp only [Act.put, List.setIfInBounds_toArray, List.set_cons_zero, List.set_cons_succ]
    rfl
  refine one_ (i := 14) (N := some 30) #[true, true, true, true, true, true, true, true, true, true, true, true, true, true, true, false, false, false, false] rfl rfl (by kernel_rfl) (by decide) (fun K hK => ?_)
  refine event_step (w1 := W3.alloc (.cells #[.string f1, .int .i16 r] 115)) (v := .slice (some ⟨W3.heap.size, 0, none⟩) 1 1) (by rfl) (by first | (go_simp; done) | (go_simp; rfl)) ?_
  have hB4 := below_alloc (Below.refl W3.heap.size W3) (.cells #[.string f1, .int .i16 r] 115)
  have hO4 := HO3.out.up hB4
  have hSS := HS3.out.trans (Step.of_below hB4 b _)
  clear hHeld z0 z1 z2 z3 z4 z5 z6 z7 z8 z9 z10 z11 z12 dE
  obtain ⟨y_0, y_1, y_2, y_3, y_4, y_5, y_6, y_7, y_8, y_9, y_10, y_11, y_12⟩ := HBOX.out hO4.B hSS
  have dE := hO4.m.cell 14 rfl
  clear hO4 hSS hB4
  refine hK.out _ _ ⟨dE, y_0, y_1, y_2, y_3, y_4, y_5, y_6, y_7, y_8, y_9, y_10, y_11, y_12⟩ (fun hHeld => ?_)
  clear hK K
  refine norm_ (a' := ?_) ?_ ?_
  rotate_left
  · show Act.put _ (some 30) _ = _
    simp only [Act.put, List.setIfInBounds_toArray, List.set_cons_zero, List.set_cons_succ]
    rfl
  refine one_ (i := 15) (N := some 31) #[true, true, true, true, true, true, true, true, true, true, true, true, true, true, true, true, false, false, false] rfl rfl (by kernel_rfl) (by decide) (fun K hK => ?_)
  refine Kd.Q_append_step kLoc (w0 := w0) w0.heap.size ?hw (.tmp 20) (.tmp 30) 101 115 (.agg #[.string ⟨#[]⟩, .int .i16 0]) 24 rfl Try.underlying101 info115 rfl (by decide) (by decide) V.L M1.locals (f1, r) [.string f1, .int .i16 r] (fun _ => True) (fun _ => False) rfl rfl ?aP (fun _ hk => hk.elim) ?aF ?aO ?aB ?aS ?aL ?_
  case hw => rfl
  case aP => exact ⟨[.string f1], [.int .i16 r], rfl, rfl, rfl⟩
  case aF => exact fun _ _ => trivial
  case aO => exact HO3.out.m.L.q
  case aB => exact HO3.out.B
  case aS => exact HO3.out.B.size
  case aL => have := HLIM.out; unfold lim at this; omega
  intro u1 w6 ho6 hb6 hg6 ha6
  obtain ⟨A9, c9, rfl, _⟩ := Kd.Q_slice ho6
  rw [show (M1.locals ++ [(f1, r)]).length = M1.locals.length + 1 by simp] at ho6 ha6
  have hpo := HO3.out.m.put_L ho6 hg6 ha6
  have hbk := (hg6.block b HO3.out.m.lt (fun e => HO3.out.m.L.neb HO3.out.m.blk (by decide) e.symm)).trans HO3.out.m.blk
  clear hHeld y_0 y_1 y_2 y_3 y_4 y_5 y_6 y_7 y_8 y_9 y_10 y_11 y_12 dE
  have dE : w6.cell? ⟨b, 14, none⟩ = some V.L := (blk_cell hbk 14).trans rfl
  have fE := blk_frozen hbk 14
  have hS6 : Step W3 w6 b { V with S := S3 } { V with S := S3 } := Step.of_turn (Turn.of_grown hg6) hg6.size (fun k hk => ⟨.inr (.inr (.inr (.inr (.inr (.inr (.inl hk))))))⟩) (fun _ _ hf => hf)
  obtain ⟨q_0, q_1, q_2, q_3, q_4, q_5, q_6, q_7, q_8, q_9, q_10, q_11, q_12⟩ := HBOX.out hb6 (HS3.out.trans hS6)
  have HPO := Aside0.mk hpo
  have HB6 := Aside0.mk hb6
  clear hpo ho6 hb6 hg6 ha6 hbk hS6
  refine hK.out _ _ ⟨dE, q_0, q_1, q_2, q_3, q_4, q_5, q_6, q_7, q_8, q_9, q_10, q_11, q_12⟩ (fun hHeld => ?_)
  clear hK K
  refine norm_ (a' := ?_) ?_ ?_
  rotate_left
  · show Act.put _ (some 31) _ = _
    simp only [Act.put, List.setIfInBounds_toArray, List.set_cons_zero, List.set_cons_succ]
    rfl
  refine pure_ (i := 16) (N := some 32) (v := ?_) (a' := ?_) #[true, true, true, true, true, true, true, true, true, true, true, true, true, true, true, true, true, false, false] rfl rfl (by kernel_rfl) (fun _ _ _ h => h) (Or.inl ⟨by rfl, ?_⟩) ?_ ?_
  rotate_left
  · intro w'
    go_simp
    with_reducible rfl
  rotate_left
  · simp only [Act.put, List.setIfInBounds_toArray, List.set_cons_zero, List.set_cons_succ]
    rfl
  refine pure_ (i := 17) (N := some 33) (v := ?_) (a' := ?_) #[true, true, true, true, true, true, true, true, true, true, true, true, true, true, true, true, true, true, false] rfl rfl (by kernel_rfl) (fun _ _ _ h => h) (Or.inl ⟨by rfl, ?_⟩) ?_ ?_
  rotate_left
  · intro w'
    go_simp
    with_reducible rfl
  rotate_left
  · simp only [Act.put, List.setIfInBounds_toArray, List.set_cons_zero, List.set_cons_succ]
    rfl
  refine last_ (i := 18) (N := none) #[true, true, true, true, true, true, true, true, true, true, true, true, true, true, true, true, true, true, true] rfl rfl (by kernel_rfl) (by decide) (fun K hK => ?_)
  go_simp
  refine hK.out _ _ ?_
  clear hK K
  refine done_ (by kernel_rfl) ?_
  go_wp2
  go_ret
  exact ⟨rfl, _, HO3.out.next HPO.out.1 (HB6.out.setCell (p := ⟨b, 14, none⟩) HO3.out.m.base _) (by show (M1.locals ++ [(f1, r)]).length ≤ lim; rw [List.length_append, List.length_singleton]; exact HLIM.out) rfl, (HS2.out.trans HS3.out).trans HPO.out.2⟩
end Go.Proofs.Yteonloecenodbaa.PX
/- (*interp.machine).exec: every kind of statement. -/
namespace Go.Proofs.Yteonloecenodbaa.PX
open Go.RowKit Go.Shelf Go.Proofs.YteonloecenodbaaW.PrintWords Go.Proofs.YteonloecenodbaaW.PrintLast Go.Proofs.YteonloecenodbaaW.PrintMore
set_option linter.unusedVariables false
theorem exec_calls {w0 : World} {p : PV} {E : Env} {AR : Option Addr} {cR b : Nat} : ∀ k, ExC w0 p E AR cR b k
  | 0 => by intro _ _ _ _ _ _ _ h; cases h
  | k + 1 => by
    rename_i W V M M' x g A3 A4 A5 c3 c4 c5
    intro hO l3 C3 l4 C4 l5 C5 h
    have ih : ExC w0 p E AR cR b k := exec_calls k
    have hS : SA w0 x A3 A4 A5 c3 c4 c5 := ⟨l3, C3, l4, C4, l5, C5⟩
    by_cases k1 : x.f0 = 1; · exact exec_let ih hO hS k1 h
    by_cases k2 : x.f0 = 2; · exact exec_assign ih hO hS k2 h
    by_cases k3 : x.f0 = 3; · exact exec_assignAt ih hO hS k3 h
    by_cases k4 : x.f0 = 4; · exact exec_if ih hO hS k4 h
    by_cases k5 : x.f0 = 5; · exact exec_repeat ih hO hS k5 h
    by_cases k6 : x.f0 = 6; · exact exec_while ih hO hS k6 h
    by_cases k7 : x.f0 = 7; · exact exec_send ih hO hS k7 h
    by_cases k8 : x.f0 = 8; · exact exec_emit ih hO hS k8 h
    by_cases k9 : x.f0 = 9; · exact exec_output ih hO hS k9 h
    by_cases k10 : x.f0 = 10; · exact exec_fresh ih hO hS k10 h
    by_cases k11 : x.f0 = 11; · exact exec_together ih hO hS k11 h
    by_cases k12 : x.f0 = 12; · exact exec_skip ih hO hS k12 h
    by_cases k13 : x.f0 = 13; · exact exec_return ih hO hS k13 h
    rw [stmtE, if_neg k1, if_neg k2, if_neg k3, if_neg k4, if_neg k5, if_neg k6, if_neg k7, if_neg k8, if_neg k9, if_neg (fun e => e.elim k10 k11), if_neg k12, if_neg k13] at h
    cases h
end Go.Proofs.Yteonloecenodbaa.PX
