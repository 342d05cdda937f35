/- trace.Valid: what it computes, and that the call computes it. -/
import Derived.Test.YtakkifbcaedcoaaDoorPXx4
import Derived.Test.YtakkifbcaedcoaaDoorPXx3
namespace Go.Proofs.YtakkifbcaedcoaaDoor.PX
open Go.RowKit Go.Proofs.YtakkifbcaedcoaaDoorW.PrintWords Go.Proofs.YtakkifbcaedcoaaDoorW.PrintLast Go.Proofs.YtakkifbcaedcoaaDoorW.PrintMore
set_option linter.unusedVariables false
set_option linter.unusedSimpArgs false
attribute [local go_sem high] eqA55
def eq6 (x0 y0 x1 y1 x2 y2 x3 y3 x4 y4 x5 y5 : Int) : Bool := x0 == y0 && (x1 == y1 && (x2 == y2 && (x3 == y3 && (x4 == y4 && (x5 == y5)))))
/-- What the loop over the fields of an event computes: e, the fields that are left, the copy so far. -/
def vloop (e0 e1 e2 e3 e4 e5 : Int) : List Int → Int → Int → Int → Int → Int → Int → Option Bool
  | [], s0, s1, s2, s3, s4, s5 => some (eq6 s0 e0 s1 e1 s2 e2 s3 e3 s4 e4 s5 e5)
  | f :: r, s0, s1, s2, s3, s4, s5 => (trace_get.f e0 e1 e2 e3 e4 e5 f).bind fun v =>
    (trace_set.f s0 s1 s2 s3 s4 s5 f v).bind fun q => if q.1 = true then vloop e0 e1 e2 e3 e4 e5 r q.2.1 q.2.2.1 q.2.2.2.1 q.2.2.2.2.1 q.2.2.2.2.2.1 q.2.2.2.2.2.2 else some false
def trace_Valid.f (a0_0 : Int) (a0_1 : Int) (a0_2 : Int) (a0_3 : Int) (a0_4 : Int) (a0_5 : Int) : Option Bool :=
  if 1 ≤ a0_0 ∧ a0_0 < 13 ∧ 0 ≤ a0_1 ∧ a0_1 ≤ 1099511627776 then vloop a0_0 a0_1 a0_2 a0_3 a0_4 a0_5 (flds a0_0) a0_0 a0_1 0 0 0 0 else some false
theorem flds_small (k : Int) : (flds k).length ≤ 4 := by
  unfold flds
  have h : ∀ i : Nat, (fldsN.getD i []).length ≤ 4 := by
    intro i
    by_cases hi : i < 13
    · revert i; decide
    · have : fldsN.getD i [] = [] := by
        simp only [List.getD_eq_getElem?_getD]
        rw [List.getElem?_eq_none (by simp [fldsN]; omega)]
        rfl
      rw [this]; simp
  exact h _
set_option maxHeartbeats 400000 in
set_option maxRecDepth 100000 in
theorem valid_yes (a0_0 : Int) (a0_1 : Int) (a0_2 : Int) (a0_3 : Int) (a0_4 : Int) (a0_5 : Int) (r : Bool) (w : World) (hG : GW w) (h1 : 1 ≤ a0_0) (h2 : a0_0 < 13) (h3 : 0 ≤ a0_1) (h4 : a0_1 ≤ 1099511627776)
    (h : vloop a0_0 a0_1 a0_2 a0_3 a0_4 a0_5 (flds a0_0) a0_0 a0_1 0 0 0 0 = some r) :
    Calls Tryd.prog 24 #[.agg #[.int .i64 a0_0, .int .i64 a0_1, .int .i64 a0_2, .int .i64 a0_3, .int .i16 a0_4, .int .i64 a0_5]] w fun e w' => e = .returned (.bool r) ∧ Below w.heap.size w w' := by
  have hu55 := Tryd.underlying55
  obtain ⟨a, hc, hj⟩ := hG.at_ a0_0 h1 h2
  clear hG
  have hF := flds_small a0_0
  generalize flds a0_0 = F at h hc hj hF
  have H' := Aside0.mk h
  clear h
  have hk : trace_known.f a0_0 = some true := by unfold trace_known.f; rw [if_pos h1]; simp [h2]
  have HK := Aside0.mk hk
  clear hk
  have HC := Aside0.mk hc
  have HJ := Aside0.mk hj
  clear hj
  have h0 := World.block_lt_of_cell? w _ hc
  simp only at h0
  have e1 : decide (a0_1 < 0) = false := decide_eq_false (by omega)
  have e2 : decide (1099511627776 < a0_1) = false := decide_eq_false (by omega)
  go_enter Tryd.func24, Tryd.ntmps24
  go_wp2_with (first | (go_at_call 43; refine (trace_known.calls _ true _ HK.out).mono ?_; rintro e w' ⟨rfl, ⟨nd, rfl⟩⟩))
  clear hc e1 e2
  go_loopg [31] F.length (fun n v31 W => ∃ (j : Nat) (s0 s1 s2 s3 s4 s5 : Int), v31 = .int .i64 j ∧ j ≤ F.length ∧ Aside0 (n + j = F.length) ∧ Aside0 (vloop a0_0 a0_1 a0_2 a0_3 a0_4 a0_5 (F.drop j) s0 s1 s2 s3 s4 s5 = some r) ∧ Aside0 (IsS55 w W w.heap.size a0_0 a0_1 a0_2 a0_3 a0_4 a0_5) ∧ Aside0 (IsS55 w W (w.heap.size + 1) s0 s1 s2 s3 s4 s5) ∧ Aside0 (Below w.heap.size w W))
  case atStart => exact ⟨0, a0_0, a0_1, 0, 0, 0, 0, rfl, Nat.zero_le _, ⟨rfl⟩, ⟨H'.out⟩, ⟨by exact IsS55.alloc (IsS55.drewN (IsS55.new w w _ _ _ _ _ _ (Below.refl _ _)) nd) _⟩, ⟨by have h := IsS55.new w ((w.alloc (.cells #[.int .i64 a0_0, .int .i64 a0_1, .int .i64 a0_2, .int .i64 a0_3, .int .i16 a0_4, .int .i64 a0_5] 55)).drewN nd) a0_0 a0_1 0 0 0 0 (pw_below_drewN (below_alloc (Below.refl _ _) _) _); simpa using h⟩, ⟨below_alloc (pw_below_drewN (below_alloc (Below.refl _ _) _) _) _⟩⟩
  case round =>
    obtain ⟨j, s0, s1, s2, s3, s4, s5, rfl, hjl, HN, HV, HE, HS, HB⟩ := hrel
    clear H'
    obtain ⟨HGe, _⟩ := HE.out
    have hcz0 := cellS55_0 HGe
    have hcz1 := cellS55_1 HGe
    have hcz2 := cellS55_2 HGe
    have hcz3 := cellS55_3 HGe
    have hcz4 := cellS55_4 HGe
    have hcz5 := cellS55_5 HGe
    clear HGe
    by_cases hlt : j < F.length
    · have hv := HV.out
      rw [List.drop_eq_getElem_cons hlt] at hv
      simp only [vloop] at hv
      obtain ⟨v, hg, hv⟩ := Option.bind_eq_some_iff.mp hv
      obtain ⟨⟨ok, s0', s1', s2', s3', s4', s5'⟩, hs, hv⟩ := Option.bind_eq_some_iff.mp hv
      simp only at hv
      have HG2 := Aside0.mk hg
      have HS2 := Aside0.mk hs
      have HV2 := Aside0.mk hv
      clear hg hs hv HV
      have hcj := (HB.out.cell (World.block_lt_of_cell? w _ (HJ.out j hlt))).trans (HJ.out j hlt)
      rw [List.getD_eq_getElem?_getD, List.getElem?_eq_getElem hlt, Option.getD_some] at hcj
      cases ok with
      | true =>
        go_wp2_with (first | (go_at_call 45; refine (trace_get.calls _ _ _ _ _ _ _ _ _ HG2.out).mono ?_; rintro e w1 ⟨rfl, hb1⟩; have HI1 := Aside0.mk (IsS55.below HS.out hb1); have HI2 := Aside0.mk (IsS55.below HE.out hb1); have HB1 := Aside0.mk (below_step HB.out hb1); clear hb1 HB) | (go_at_call 44; refine (trace_set.calls _ _ _ _ _ _ _ _ _ _ _ _ _ _ _ _ w _ HI1.out HB1.out HS2.out).mono ?_; rintro e w2 ⟨rfl, hi2, hb2, hk2⟩; have HI3 := Aside0.mk hi2; have HB2 := Aside0.mk hb2; have HI4 := Aside0.mk (show IsS55 w w2 w.heap.size a0_0 a0_1 a0_2 a0_3 a0_4 a0_5 from ⟨hk2.blk HI2.out.1 (by omega) (by simp), HI2.out.2⟩); clear hi2 hb2 hk2))
        go_roundg (F.length - (j + 1))
        case measure => have := HN.out; omega
        case rel => exact ⟨j + 1, _, _, _, _, _, _, by go_num, by omega, ⟨by omega⟩, HV2, HI4, HI3, HB2⟩
      | false =>
        go_wp2_with (first | (go_at_call 45; refine (trace_get.calls _ _ _ _ _ _ _ _ _ HG2.out).mono ?_; rintro e w1 ⟨rfl, hb1⟩; have HI1 := Aside0.mk (IsS55.below HS.out hb1); have HI2 := Aside0.mk (IsS55.below HE.out hb1); have HB1 := Aside0.mk (below_step HB.out hb1); clear hb1 HB) | (go_at_call 44; refine (trace_set.calls _ _ _ _ _ _ _ _ _ _ _ _ _ _ _ _ w _ HI1.out HB1.out HS2.out).mono ?_; rintro e w2 ⟨rfl, hi2, hb2, hk2⟩; have HI3 := Aside0.mk hi2; have HB2 := Aside0.mk hb2; have HI4 := Aside0.mk (show IsS55 w w2 w.heap.size a0_0 a0_1 a0_2 a0_3 a0_4 a0_5 from ⟨hk2.blk HI2.out.1 (by omega) (by simp), HI2.out.2⟩); clear hi2 hb2 hk2))
        go_ret
        have hv := HV2.out
        simp at hv
        exact ⟨by rw [hv]; rfl, HB2.out⟩
    · obtain rfl : F.length = j := by omega
      obtain ⟨HGs, _⟩ := HS.out
      have hcs0 := cellS55_0 HGs
      have hcs1 := cellS55_1 HGs
      have hcs2 := cellS55_2 HGs
      have hcs3 := cellS55_3 HGs
      have hcs4 := cellS55_4 HGs
      have hcs5 := cellS55_5 HGs
      clear HGs
      have hv := HV.out
      rw [List.drop_of_length_le (Nat.le_refl _)] at hv
      simp only [vloop, Option.some.injEq] at hv
      have HV2 := Aside0.mk hv
      clear hv HV
      go_wp2
      go_ret
      exact ⟨by rw [← HV2.out]; rfl, HB.out⟩
set_option maxHeartbeats 400000 in
set_option maxRecDepth 100000 in
theorem valid_no (a0_0 : Int) (a0_1 : Int) (a0_2 : Int) (a0_3 : Int) (a0_4 : Int) (a0_5 : Int) (w : World) (hn : ¬ (1 ≤ a0_0 ∧ a0_0 < 13 ∧ 0 ≤ a0_1 ∧ a0_1 ≤ 1099511627776)) :
    Calls Tryd.prog 24 #[.agg #[.int .i64 a0_0, .int .i64 a0_1, .int .i64 a0_2, .int .i64 a0_3, .int .i16 a0_4, .int .i64 a0_5]] w fun e w' => e = .returned (.bool false) ∧ Below w.heap.size w w' := by
  have hu55 := Tryd.underlying55
  by_cases hk : 1 ≤ a0_0 ∧ a0_0 < 13
  · have hK : trace_known.f a0_0 = some true := by unfold trace_known.f; rw [if_pos hk.1]; simp [hk.2]
    have HK := Aside0.mk hK
    clear hK
    by_cases h3 : a0_1 < 0
    · have e1 : decide (a0_1 < 0) = true := decide_eq_true h3
      clear hn h3 hk
      go_enter Tryd.func24, Tryd.ntmps24
      go_wp2_with (first | (go_at_call 43; refine (trace_known.calls _ true _ HK.out).mono ?_; rintro e w' ⟨rfl, ⟨nd, rfl⟩⟩))
      go_ret
      exact ⟨rfl, pw_below_drewN (below_alloc (Below.refl _ _) _) _⟩
    · have e1 : decide (a0_1 < 0) = false := decide_eq_false h3
      have e2 : decide (1099511627776 < a0_1) = true := decide_eq_true (by omega)
      clear hn h3 hk
      go_enter Tryd.func24, Tryd.ntmps24
      go_wp2_with (first | (go_at_call 43; refine (trace_known.calls _ true _ HK.out).mono ?_; rintro e w' ⟨rfl, ⟨nd, rfl⟩⟩))
      go_ret
      exact ⟨rfl, pw_below_drewN (below_alloc (Below.refl _ _) _) _⟩
  · have hK : trace_known.f a0_0 = some false := by
      unfold trace_known.f
      by_cases h1 : a0_0 ≥ 1
      · rw [if_pos h1, decide_eq_false (by omega)]
      · rw [if_neg h1]
    have HK := Aside0.mk hK
    clear hK hk hn
    go_enter Tryd.func24, Tryd.ntmps24
    go_wp2_with (first | (go_at_call 43; refine (trace_known.calls _ false _ HK.out).mono ?_; rintro e w' ⟨rfl, ⟨nd, rfl⟩⟩))
    go_ret
    exact ⟨rfl, pw_below_drewN (below_alloc (Below.refl _ _) _) _⟩
theorem trace_Valid.calls (a0_0 : Int) (a0_1 : Int) (a0_2 : Int) (a0_3 : Int) (a0_4 : Int) (a0_5 : Int) (r : Bool) (w : World) (hG : GW w) (h : trace_Valid.f a0_0 a0_1 a0_2 a0_3 a0_4 a0_5 = some r) :
    Calls Tryd.prog 24 #[.agg #[.int .i64 a0_0, .int .i64 a0_1, .int .i64 a0_2, .int .i64 a0_3, .int .i16 a0_4, .int .i64 a0_5]] w fun e w' => e = .returned (.bool r) ∧ Below w.heap.size w w' := by
  unfold trace_Valid.f at h
  split at h
  · rename_i hc
    exact valid_yes _ _ _ _ _ _ r w hG hc.1 hc.2.1 hc.2.2.1 hc.2.2.2 h
  · rename_i hc
    obtain rfl := Option.some.inj h
    exact valid_no _ _ _ _ _ _ w hc
end Go.Proofs.YtakkifbcaedcoaaDoor.PX
