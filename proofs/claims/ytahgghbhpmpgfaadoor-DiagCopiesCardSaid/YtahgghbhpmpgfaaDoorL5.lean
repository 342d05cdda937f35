/- Parts of the proof, merged in build order: MLawC, MLawC2, PureDiagCopies. -/
import Derived.Test.YtahgghbhpmpgfaaDoorL3
/- DiagCopies, walked by hand. -/
namespace Go.Proofs.YtahgghbhpmpgfaaDoor.PX
open Go.RowKit Go.Sort Go.Shelf Go.Lib Go.Proofs.YtahgghbhpmpgfaaDoorW.PrintWords Go.Proofs.YtahgghbhpmpgfaaDoorW.PrintLast Go.Proofs.YtahgghbhpmpgfaaDoorW.PrintMore
set_option linter.unusedVariables false
set_option linter.unusedSimpArgs false
/-- The cells of a row of m diagnostics are there, and none is frozen. -/
def Wrt (W : World) (g m : Nat) : Prop := ∀ j, j < m * 2 → (∃ u, W.cell? ⟨g, j, none⟩ = some u) ∧ W.frozen? ⟨g, j, none⟩ = false
theorem wrt_of_holds {W : World} {g m : Nat} {d : List S39} (hm : d.length = m) (h : HoldsK encD 2 W g 0 d.toArray) : Wrt W g m := fun j hj => by
  have h1 := h j (by rw [size_flatK]; simpa [hm] using hj)
  rw [Nat.zero_add] at h1
  exact ⟨⟨_, h1.1⟩, h1.2⟩
theorem wrt_set {W : World} {g m : Nat} (h : Wrt W g m) (p : Addr) (u : Value) : Wrt (W.setCell p u) g m := fun j hj => by
  obtain ⟨⟨y, hy⟩, hf⟩ := h j hj
  exact ⟨cell?_setCell_some hy, by rw [World.frozen?_setCell]; exact hf⟩
set_option maxHeartbeats 8000000 in
set_option maxRecDepth 100000 in
theorem copies_walk (k : Nat) (A0 : Option Addr) (c0 : Nat) (l0 : List S39) (w : World) (hr0 : Kd.C k39 w A0 l0.length l0) (hc0 : l0.length ≤ c0) (hG : GW w) (hgr : trickleref14_Great.f k l0 = some false) (hex : tricklelaw14_examples.f k = some true) (hn : l0.length ≤ 40)
    (Wt D : Nat → List S39) (r : Nat → Bool) (hW0 : Wt 0 = []) (hD0 : D 0 = []) (hW : ∀ i (h : i < l0.length), trickleref14_Add.f k (Wt i) l0[i].f0 l0[i].f1 = some (Wt (i + 1))) (hr : ∀ i (h : i < l0.length), api_Diagnostic_38.f k (D i) l0[i].f0 l0[i].f1 = some (r i))
    (hD : ∀ i (h : i < l0.length), D (i + 1) = if r i = true then D i else D i ++ [l0[i]]) (hDl : ∀ i, i ≤ l0.length → (D i).length ≤ 100000 ∧ (0 < i ↔ 0 < (D i).length)) (hS : trickleref14_Same.f k (sortD (D l0.length)) (Wt l0.length) = some true) :
    Calls Tryd.prog 9 #[.slice A0 l0.length c0] w fun e w' => e = .returned (.bool true) ∧ Below w.heap.size w w' := by
  have HG := Aside0.mk hG
  have HR0 := Aside0.mk hr0
  have HEX := Aside0.mk hex
  have HN := Aside0.mk hn
  have HW := Aside0.mk hW
  have HR := Aside0.mk hr
  have HDD := Aside0.mk hD
  have HDL := Aside0.mk hDl
  have HS := Aside0.mk hS
  have HW0 := Aside0.mk hW0
  have HD0 := Aside0.mk hD0
  clear hG hr0 hex hn hW hr hD hDl hS hW0 hD0
  go_enter Tryd.func9, Tryd.ntmps9
  go_wp2_with (go_at_call 16; refine (trickleref14_Great.calls k _ _ l0 false _ HR0.out hc0 hgr).mono ?_; rintro e w1 ⟨rfl, hb1⟩; have HB1 := Aside0.mk hb1; clear hb1)
  have HSZ : Aside0 (w.heap.size ≤ w1.heap.size) := ⟨below_size HB1.out⟩
  have b0 := blk_new w1 (.cells #[.slice none 0 0] 37)
  have HB2 := Aside0.mk (below_alloc HB1.out (.cells #[.slice none 0 0] 37))
  generalize w1.heap.size = B at *
  generalize (w1.alloc (.cells #[.slice none 0 0] 37)) = wl at *
  have HB0 := Aside0.mk b0
  clear b0 HB1
  go_loopw [4, 14] (fun v4 v12 wr => ∃ (i : Nat) (v : Value), v12 = .int .i64 (i : Int) ∧ Aside0 (i ≤ l0.length) ∧ Aside0 (Ls wr w.heap.size B v (D i)) ∧ Aside0 (Kd.V k39 39 wr w.heap.size (fun k_ => k_ ≠ B ∧ some k_ ≠ v.ownBlock) v4 (Wt i)) ∧ Aside0 (Below w.heap.size w wr)) (fun _ v12 _ => l0.length - (intOf v12).toNat)
  case atStart => exact ⟨0, .slice none 0 0, rfl, ⟨Nat.zero_le _⟩, ⟨⟨HB0.out, by rw [HD0.out]; exact Kd.R_nil _ _ _ _ _⟩⟩, ⟨by rw [HW0.out]; exact Kd.V_nil _ _ _ _ _⟩, HB2⟩
  case round =>
    obtain ⟨i, v, rfl, HI, HL, HV, HB⟩ := hrel
    by_cases hlt : i < l0.length
    · have HLT := Aside0.mk hlt
      have HWR : Aside0 (wrap64 ((i : Int) + 1) = ((i + 1 : Nat) : Int)) := ⟨wrap_nat hlt (by have := HN.out; omega)⟩
      obtain ⟨A4, c4, e4⟩ := Kd.V_slice HV.out
      subst e4
      obtain ⟨ad, e0, hx0, hx1⟩ := at_T39 HR0.out (i : Int) (by omega) (by omega)
      cases e0
      have hrd : rd_T39 l0 (i : Int) = l0[i] := by unfold rd_T39; rw [Int.toNat_natCast, List.getD_eq_getElem?_getD, List.getElem?_eq_getElem hlt, Option.getD_some]
      rw [hrd] at hx0 hx1
      simp only [Int.toNat_natCast] at hx0 hx1
      replace hx0 := (HB.out.cell (World.block_lt_of_cell? w _ hx0)).trans hx0
      replace hx1 := (HB.out.cell (World.block_lt_of_cell? w _ hx1)).trans hx1
      have hlt2 : (i : Int) < (l0.length : Int) := by omega
      have hge0 : (0 : Int) ≤ (i : Int) := by omega
      have hw1 := HW.out i hlt
      have hr1 := HR.out i hlt
      have hd1 := HDD.out i hlt
      have hp1 := (HDL.out (i + 1) (by omega)).2.1 (by omega)
      have hl1 := (HDL.out i (by omega)).1
      obtain ⟨x, hx⟩ : ∃ x, x = l0[i] := ⟨_, rfl⟩
      rw [← hx] at hx0 hx1 hw1 hr1 hd1
      clear hrd hx
      have HW1 := Aside0.mk hw1
      have HR1 := Aside0.mk hr1
      have HD1 := Aside0.mk hd1
      have HP1 := Aside0.mk hp1
      have HL1 := Aside0.mk hl1
      clear hw1 hr1 hd1 hp1 hl1
      have LTB : Aside0 (B < wr.heap.size) := ⟨blk_lt HL.out.blk⟩
      have XNE : Aside0 (some wr.heap.size ≠ v.ownBlock) := ⟨fun e => by have := Kd.R_lt HL.out.row wr.heap.size e.symm; omega⟩
      have HS2 : Aside0 (w.heap.size ≤ wr.heap.size) := ⟨below_size HB.out⟩
      have HBG : Aside0 (w.heap.size ≤ B) := HSZ
      go_wp2_with (first
        | (go_at_call 23; refine (add_calls w.heap.size B HBG.out x.f0 x.f1 v (D i) _ (HL.out.below (below_alloc (Below.refl _ _) _)) (Nat.le_trans HS2.out (by simp)) HL1.out k (r i) HR1.out).mono ?_; rintro e w2 ⟨rfl, v', hLs, hb2, hk2, hat2⟩;
            have HL2 : Aside0 (Ls w2 w.heap.size B v' (D (i + 1))) := (⟨by rw [HD1.out]; exact hLs⟩);
            have HV2 : Aside0 (Kd.V k39 39 w2 w2.heap.size (fun k_ => k_ ≠ B ∧ some k_ ≠ v'.ownBlock) (.slice A4 (Wt i).length c4) (Wt i)) := (⟨V_moved (Kd.V_alloc HV.out _) hk2 hat2⟩);
            have HB2 : Aside0 (Below w.heap.size w w2) := (⟨(below_alloc HB.out _).trans hb2⟩);
            have xb : w2.heap[wr.heap.size]? = some (.cells #[.int .i64 x.f0, .string x.f1] 39 (0, 0)) := (hk2.2 _ (by simp) (Ne.symm (Nat.ne_of_lt LTB.out)) XNE.out).trans (blk_new wr _);
            have x0 : w2.cell? ⟨wr.heap.size, 0, none⟩ = some (.int .i64 x.f0) := (blk_cell xb 0).trans rfl;
            have x1 : w2.cell? ⟨wr.heap.size, 1, none⟩ = some (.string x.f1) := (blk_cell xb 1).trans rfl;
            clear hLs hb2 hk2 hat2 xb HL HV HB)
        | (go_at_call 26; refine (trickleref14_Add.calls k (fun k_ => k_ ≠ B ∧ some k_ ≠ v'.ownBlock) A4 c4 (Wt i) x.f0 x.f1 (Wt (i + 1)) w2 HV2.out HW1.out).mono ?_; rintro e w3 ⟨u3, rfl, hV3, hb3⟩;
            have HL3 := Aside0.mk (HL2.out.below hb3);
            have HV3 : Aside0 (Kd.V k39 39 w3 w.heap.size (fun k_ => k_ ≠ B ∧ some k_ ≠ v'.ownBlock) u3 (Wt (i + 1))) := (⟨V_joined HL2.out hV3⟩);
            have HB3 := Aside0.mk (below_step HB2.out hb3);
            clear hV3 hb3 HL2 HV2 HB2 x0 x1))
      go_roundw
      case rel => exact ⟨i + 1, v', by rw [HWR.out], ⟨by have := HLT.out; omega⟩, HL3, HV3, HB3⟩
      case measure => exact meas2 i _ _ HLT.out HWR.out
    · obtain rfl : i = l0.length := by have := HI.out; omega
      obtain ⟨A4, c4, e4⟩ := Kd.V_slice HV.out
      subst e4
      obtain ⟨hDl, hDp⟩ := HDL.out l0.length (Nat.le_refl _)
      have hpp : decide (0 < (D l0.length).length) = decide (0 < l0.length) := decide_eq_decide.2 hDp.symm
      have HDN := Aside0.mk hDl
      have HPP := Aside0.mk hpp
      clear hDl hDp hpp
      go_wp2_with (first
        | (go_at_call 25; refine (all_calls w.heap.size B v (D l0.length) wr HL.out HDN.out).mono ?_; rintro e w2 ⟨A5, c5, rfl, h51, h52, hb2, hg2⟩;
            have HCL5 := Aside0.mk h51; have HG2 := Aside0.mk hg2; have HBB := Aside0.mk hb2; have HC5 := Aside0.mk h52; clear h51 h52 hb2 hg2))
      have HWR2 : Aside0 (∀ ad, A5 = some ad → ∃ g, ad = ⟨g, 0, none⟩ ∧ wr.heap.size ≤ g ∧ Wrt w2 g (D l0.length).length) := ⟨fun ad h_ => by
        obtain ⟨g, h1, h2, h3⟩ := HG2.out ad h_
        exact ⟨g, h1, h2, wrt_of_holds (by rw [sortD_length]) h3⟩⟩
      obtain ⟨m, hm⟩ : ∃ m, m = (D l0.length).length := ⟨_, rfl⟩
      rw [← hm] at HWR2
      have HM := Aside0.mk hm
      clear HG2
      have DL := Aside0.mk HL.out
      have DV := Aside0.mk HV.out
      have DB := Aside0.mk HB.out
      clear HL HV HB
      obtain ⟨wo, rfl⟩ : ∃ wo : World, wo = wr := ⟨_, rfl⟩
      go_loopw [30] (fun v30 wq => ∃ i : Nat, v30 = .int .i64 (i : Int) ∧ Aside0 (i ≤ m) ∧ Aside0 (Below wo.heap.size wo wq) ∧ Aside0 (∀ ad, A5 = some ad → ∃ g, ad = ⟨g, 0, none⟩ ∧ wo.heap.size ≤ g ∧ Wrt wq g m)) (fun v30 _ => m - (intOf v30).toNat)
      case atStart => exact ⟨0, rfl, ⟨Nat.zero_le _⟩, HBB, HWR2⟩
      case round =>
        obtain ⟨i, rfl, HI2, HBQ, HWQ⟩ := hrel
        by_cases hlt : i < m
        · have HLT := Aside0.mk hlt
          have HWR : Aside0 (wrap64 ((i : Int) + 1) = ((i + 1 : Nat) : Int)) := ⟨wrap_nat hlt (by have := HDN.out; omega)⟩
          have hA : ∃ g, A5 = some ⟨g, 0, none⟩ ∧ wo.heap.size ≤ g ∧ Wrt wr g m := by
            obtain ⟨ad, e, _⟩ := HC5.out.2.2 (by rw [← hm]; omega)
            obtain ⟨g, rfl, h2, h3⟩ := HWQ.out ad e
            exact ⟨g, e, h2, h3⟩
          obtain ⟨g, rfl, hg2, hw2⟩ := hA
          obtain ⟨⟨y0, e0⟩, f0⟩ := hw2 (i * 2) (by omega)
          have hw3 := wrt_set hw2 ⟨g, i * 2, none⟩ (.int .i64 (-7))
          obtain ⟨⟨y1, e1⟩, f1⟩ := hw3 (i * 2 + 1) (by omega)
          have HGE := Aside0.mk hg2
          have HWW := Aside0.mk (wrt_set hw3 ⟨g, i * 2 + 1, none⟩ (.string ⟨#[99, 104, 97, 110, 103, 101, 100]⟩))
          have HBW := Aside0.mk ((HBQ.out.setCell (p := ⟨g, i * 2, none⟩) hg2 (.int .i64 (-7))).setCell (p := ⟨g, i * 2 + 1, none⟩) hg2 (.string ⟨#[99, 104, 97, 110, 103, 101, 100]⟩))
          have hlt2 : (i : Int) < ((D l0.length).length : Int) := by omega
          have hge0 : (0 : Int) ≤ (i : Int) := by omega
          clear hg2 hw2 hw3 hlt
          go_wp2
          go_roundw
          case rel => exact ⟨i + 1, by rw [HWR.out], ⟨by have := HLT.out; omega⟩, HBW, ⟨fun ad h_ => by cases h_; exact ⟨g, rfl, HGE.out, HWW.out⟩⟩⟩
          case measure => exact meas2 i _ _ HLT.out HWR.out
        · obtain rfl : i = m := by have := HI2.out; omega
          have HL1 := Aside0.mk (DL.out.below HBQ.out)
          have HV1 := Aside0.mk (Kd.V_below DV.out HBQ.out)
          have HB1 := Aside0.mk (below_step DB.out HBQ.out)
          have hnl : ¬ ((i : Int) < ((D l0.length).length : Int)) := by omega
          go_wp2_with (first
            | (go_at_call 25; refine (all_calls w.heap.size B v (D l0.length) wr HL1.out HDN.out).mono ?_; rintro e w2' ⟨A6, c6, rfl, h51, h52, hb2, -⟩;
                have HC6 := Aside0.mk h52; have HCL6 := Aside0.mk h51; have HV2 := Aside0.mk (Kd.V_below HV1.out hb2); have HB2 := Aside0.mk (below_step HB1.out hb2); clear h51 h52 hb2 HV1 HL1 HB1)
            | (go_at_call 24; refine (show Calls Tryd.prog 24 #[.slice A6 (D l0.length).length c6, .slice A4 (Wt l0.length).length c4] w2' (fun e w' => e = .returned (.bool true) ∧ Drawn0 w2' w') from by
                  have h := trickleref14_Same.calls k A6 c6 (sortD (D l0.length)) A4 c4 (Wt l0.length) true w2' (by rw [sortD_length]; exact HC6.out) (by rw [sortD_length]; exact HCL6.out) (Kd.V_reads' HV2.out).2.2 (Kd.V_reads' HV2.out).2.1 HS.out
                  rw [sortD_length] at h
                  exact h).mono ?_; rintro e w3 ⟨rfl, nd, rfl⟩;
                have HB3 := Aside0.mk (pw_below_drewN HB2.out nd); clear HB2 HV2 HC6; generalize w2'.drewN nd = w3 at HB3 ⊢)
            | (go_at_call 11; refine (tricklelaw14_examples.calls k true w3 (HG.out.below HB3.out) HEX.out).mono ?_; rintro e w5 ⟨rfl, hb5⟩; have HB5 := Aside0.mk (below_step HB3.out hb5); clear hb5))
          go_ret
          exact ⟨rfl, HB5.out⟩
end Go.Proofs.YtahgghbhpmpgfaaDoor.PX
/- DiagCopies in the form of the printed laws, where it returns true. -/
namespace Go.Proofs.YtahgghbhpmpgfaaDoor.PX
open Go.RowKit Go.Sort Go.Shelf Go.Lib Go.Proofs.YtahgghbhpmpgfaaDoorW.PrintWords Go.Proofs.YtahgghbhpmpgfaaDoorW.PrintLast Go.Proofs.YtahgghbhpmpgfaaDoorW.PrintMore
set_option linter.unusedVariables false
set_option maxHeartbeats 4000000 in
set_option maxRecDepth 100000 in
theorem copies_great (k : Nat) (A0 : Option Addr) (c0 : Nat) (l0 : List S39) (w : World) (hr0 : Kd.C k39 w A0 l0.length l0) (hc0 : l0.length ≤ c0) (hG : GW w) (hgr : trickleref14_Great.f k l0 = some true) (hex : tricklelaw14_examples.f k = some true) :
    Calls Tryd.prog 9 #[.slice A0 l0.length c0] w fun e w' => e = .returned (.bool true) ∧ Below w.heap.size w w' := by
  have HG := Aside0.mk hG
  have HR0 := Aside0.mk hr0
  have HEX := Aside0.mk hex
  clear hG hr0 hex
  go_enter Tryd.func9, Tryd.ntmps9
  go_wp2_with (first
    | (go_at_call 16; refine (trickleref14_Great.calls k _ _ l0 true _ HR0.out hc0 hgr).mono ?_; rintro e w1 ⟨rfl, hb1⟩; have HB1 := Aside0.mk hb1; clear hb1)
    | (go_at_call 11; refine (tricklelaw14_examples.calls k true w1 (HG.out.below HB1.out) HEX.out).mono ?_; rintro e w5 ⟨rfl, hb5⟩; have HB5 := Aside0.mk (below_step HB1.out hb5); clear hb5))
  go_ret
  exact ⟨rfl, HB5.out⟩
open Classical in
noncomputable def tricklelaw14_DiagCopies.f (k : Nat) (l0 : List S39) : Option Bool := if ListOk k l0 then some true else none
theorem tricklelaw14_DiagCopies.calls (k : Nat) (A0 : Option Addr) (c0 : Nat) (l0 : List S39) (r : Bool) (hrt : r = true) (w : World) (hr0 : Kd.C k39 w A0 l0.length l0) (hc0 : l0.length ≤ c0) (hG : GW w) (h : tricklelaw14_DiagCopies.f k l0 = some r) :
    Calls Tryd.prog 9 #[.slice A0 l0.length c0] w fun e w' => e = .returned (.bool r) ∧ Below w.heap.size w w' := by
  subst hrt
  unfold tricklelaw14_DiagCopies.f at h
  split at h
  case isFalse => cases h
  rename_i hh
  obtain ⟨hex, hgr | ⟨hgr, hn, Wt, D, r, h1, h2, h3, h4, h5, h6, h7⟩⟩ := hh
  · exact copies_great k A0 c0 l0 w hr0 hc0 hG hgr hex
  · exact copies_walk k A0 c0 l0 w hr0 hc0 hG hgr hex hn Wt D r h1 h2 h3 h4 h5 h6 h7
end Go.Proofs.YtahgghbhpmpgfaaDoor.PX
/- DiagCopies in plain words. -/
namespace Go.Proofs.YtahgghbhpmpgfaaDoor.Pure
open Go.RowKit Go.Sort Go.Proofs.YtahgghbhpmpgfaaDoor.PX
set_option linter.unusedVariables false
theorem DiagCopies (l : List S39) (hw : ∀ x ∈ l, x.f1.size ≤ 140737488355328) (hl : l.length ≤ 140737488355328) : ∃ n, tricklelaw14_DiagCopies.f n l = some true := by
  obtain ⟨n, h⟩ := DiagList l hw hl
  refine ⟨n, ?_⟩
  unfold tricklelaw14_DiagList.f at h
  unfold tricklelaw14_DiagCopies.f
  split at h
  case isFalse => cases h
  rename_i hh
  rw [if_pos hh]
end Go.Proofs.YtahgghbhpmpgfaaDoor.Pure
