/- Parts of the proof, merged in build order: PXx20, PXx21, Bs7, PXx19, PureBitsetRange. -/
import Derived.Test.YtoobapkccogdhaaDoorZ1
import Derived.Test.YtoobapkccogdhaaDoorZ4
import Derived.Test.YtoobapkccogdhaaDoorZ8
import Derived.Lib.ItoaMem
import Derived.Lib.Join
import Derived.Test.YtoobapkccogdhaaDoorZ2
import Derived.Test.YtoobapkccogdhaaDoorZ3
-- Written by a program of this session (wip/xprint.py, over the kit's print tool). Lean checks it.
namespace Go.Proofs.YtoobapkccogdhaaDoor.PX
open Go.RowKit Go.Proofs.YtoobapkccogdhaaDoorW.PrintWords Go.Proofs.YtoobapkccogdhaaDoorW.PrintLast Go.Proofs.YtoobapkccogdhaaDoorW.PrintMore
attribute [local go_sem] max2_int min2_int max_two min_two max_three min_three max_four min_four   -- for this text's walks alone
set_option linter.unusedVariables false
set_option linter.unusedSimpArgs false

/-! ### trickleref04_Num: function 43 -/
def trickleref04_Num.f : Nat → Int → Option (ByteArray)
  | 0, _ => none
  | k + 1, a0 => if a0 < 10 then (if 0 ≤ a0 then (if a0 ≤ (wrap64 (a0 + 1)) then (if (wrap64 (a0 + 1)) ≤ 10 then (some ((⟨#[48, 49, 50, 51, 52, 53, 54, 55, 56, 57]⟩ : ByteArray).extract (a0 : Int).toNat ((wrap64 (a0 + 1)) : Int).toNat)) else (none)) else (none)) else (none)) else ((trickleref04_Num.f k (wrap64 (Int.tdiv a0 10))).bind fun t254 => (if 0 ≤ (Int.tmod a0 10) then (if (Int.tmod a0 10) ≤ (wrap64 ((Int.tmod a0 10) + 1)) then (if (wrap64 ((Int.tmod a0 10) + 1)) ≤ 10 then (if t254.size + ((⟨#[48, 49, 50, 51, 52, 53, 54, 55, 56, 57]⟩ : ByteArray).extract ((Int.tmod a0 10) : Int).toNat ((wrap64 ((Int.tmod a0 10) + 1)) : Int).toNat).size ≤ 9223372036854775807 then (some (t254 ++ ((⟨#[48, 49, 50, 51, 52, 53, 54, 55, 56, 57]⟩ : ByteArray).extract ((Int.tmod a0 10) : Int).toNat ((wrap64 ((Int.tmod a0 10) + 1)) : Int).toNat))) else (none)) else (none)) else (none)) else (none)))
def trickleref04_Num.T3 : Bool × List (List Nat × List Nat) := (true, [([], []), ([0], [0]), ([1], [1]), ([], []), ([3], [3]), ([], []), ([5], [5]), ([6], [6]), ([4, 7], [4, 7]), ([2, 8], [2, 8]), ([9, 2, 0, 1, 2, 3, 4, 5, 6, 7, 8, 9], [9])])
def trickleref04_Num.B3 : List Nat := [0, 1, 3, 0, 8, 0, 32, 96, 248, 511, 1023]
theorem trickleref04_Num.tab3 : rtab .any (opsOf Tryd.f43 3) = trickleref04_Num.T3 := by kernel_rfl
theorem trickleref04_Num.bits3 : waitsOk trickleref04_Num.T3.2 trickleref04_Num.B3 = true := by kernel_rfl
set_option maxHeartbeats 8000000 in
set_option maxRecDepth 100000 in
theorem trickleref04_Num.calls (k : Nat) : ∀ (a0 : Int) (r : ByteArray) (w : World) (h : trickleref04_Num.f k a0 = some r),
    Calls Tryd.prog 43 #[.int .i64 a0] w fun e w' => e = .returned (.string r) ∧ Below w.heap.size w w' := by
  induction k using Nat.strongRecOn with
  | _ k ih =>
  intro a0 r w h
  cases k with
  | zero => exact absurd h (by simp [trickleref04_Num.f])
  | succ k =>
  simp only [trickleref04_Num.f] at h
  have HB := Aside0.mk (Below.refl w.heap.size w)
  have H : (if a0 < 10 then (if 0 ≤ a0 then (if a0 ≤ (wrap64 (a0 + 1)) then (if (wrap64 (a0 + 1)) ≤ 10 then (some ((⟨#[48, 49, 50, 51, 52, 53, 54, 55, 56, 57]⟩ : ByteArray).extract (a0 : Int).toNat ((wrap64 (a0 + 1)) : Int).toNat)) else (none)) else (none)) else (none)) else ((trickleref04_Num.f k (wrap64 (Int.tdiv a0 10))).bind fun t254 => (if 0 ≤ (Int.tmod a0 10) then (if (Int.tmod a0 10) ≤ (wrap64 ((Int.tmod a0 10) + 1)) then (if (wrap64 ((Int.tmod a0 10) + 1)) ≤ 10 then (if t254.size + ((⟨#[48, 49, 50, 51, 52, 53, 54, 55, 56, 57]⟩ : ByteArray).extract ((Int.tmod a0 10) : Int).toNat ((wrap64 ((Int.tmod a0 10) + 1)) : Int).toNat).size ≤ 9223372036854775807 then (some (t254 ++ ((⟨#[48, 49, 50, 51, 52, 53, 54, 55, 56, 57]⟩ : ByteArray).extract ((Int.tmod a0 10) : Int).toNat ((wrap64 ((Int.tmod a0 10) + 1)) : Int).toNat))) else (none)) else (none)) else (none)) else (none)))) = some r := h
  clear h
  by_cases c2 : a0 < 10
  · rw [if_pos c2] at H
    have c2b0 : decide (a0 < 10) = true := decide_eq_true c2
    clear c2
    by_cases c3 : 0 ≤ a0
    · rw [if_pos c3] at H
      have c3b0 := eq_true c3
      have c3b1 : decide (0 ≤ a0) = true := decide_eq_true c3
      clear c3
      by_cases c4 : a0 ≤ (wrap64 (a0 + 1))
      · rw [if_pos c4] at H
        have c4b0 := eq_true c4
        have c4b1 : decide (a0 ≤ (wrap64 (a0 + 1))) = true := decide_eq_true c4
        by_cases c5 : (wrap64 (a0 + 1)) ≤ 10
        · rw [if_pos c5] at H
          have c5b0 := eq_true c5
          have c5b1 : decide ((wrap64 (a0 + 1)) ≤ 10) = true := decide_eq_true c5
          obtain rfl := Option.some.inj H
          go_enter Tryd.func43, Tryd.ntmps43
          go_wp2
          go_ret
          exact ⟨by first | rfl | (simp [errW_none, errW_some] <;> rfl) | (simp [*, errW_none, errW_some] <;> rfl), by repeat (first | (with_reducible first | exact HB.out | apply below_alloc | apply pw_below_drewN | apply below_drew1) | exact HB.out)⟩
        · rw [if_neg c5] at H
          exact absurd H (by simp)
      · rw [if_neg c4] at H
        exact absurd H (by simp)
    · rw [if_neg c3] at H
      exact absurd H (by simp)
  · rw [if_neg c2] at H
    have c2b0 : decide (a0 < 10) = false := decide_eq_false c2
    clear c2
    replace H := Option.bind_eq_some_iff.mp H
    obtain ⟨t254, A60, H⟩ := H
    replace H : (if 0 ≤ (Int.tmod a0 10) then (if (Int.tmod a0 10) ≤ (wrap64 ((Int.tmod a0 10) + 1)) then (if (wrap64 ((Int.tmod a0 10) + 1)) ≤ 10 then (if t254.size + ((⟨#[48, 49, 50, 51, 52, 53, 54, 55, 56, 57]⟩ : ByteArray).extract ((Int.tmod a0 10) : Int).toNat ((wrap64 ((Int.tmod a0 10) + 1)) : Int).toNat).size ≤ 9223372036854775807 then (some (t254 ++ ((⟨#[48, 49, 50, 51, 52, 53, 54, 55, 56, 57]⟩ : ByteArray).extract ((Int.tmod a0 10) : Int).toNat ((wrap64 ((Int.tmod a0 10) + 1)) : Int).toNat))) else (none)) else (none)) else (none)) else (none)) = some r := H
    have A6 := Aside0.mk A60
    clear A60
    obtain ⟨ji7, hji7⟩ : ∃ j_ : Int, (Int.tmod a0 10) = j_ := ⟨_, rfl⟩
    replace H : (if 0 ≤ (ji7) then (if (ji7) ≤ (wrap64 ((ji7) + 1)) then (if (wrap64 ((ji7) + 1)) ≤ 10 then (if t254.size + ((⟨#[48, 49, 50, 51, 52, 53, 54, 55, 56, 57]⟩ : ByteArray).extract ((ji7) : Int).toNat ((wrap64 ((ji7) + 1)) : Int).toNat).size ≤ 9223372036854775807 then (some (t254 ++ ((⟨#[48, 49, 50, 51, 52, 53, 54, 55, 56, 57]⟩ : ByteArray).extract ((ji7) : Int).toNat ((wrap64 ((ji7) + 1)) : Int).toNat))) else (none)) else (none)) else (none)) else (none)) = some r := by first | (rw [hji7] at H; exact H) | (simp only [hji7] at H ⊢; exact H)
    (try rw [hji7] at A6)
    by_cases c8 : 0 ≤ (ji7)
    · rw [if_pos c8] at H
      have c8b0 := eq_true c8
      have c8b1 : decide (0 ≤ (ji7)) = true := decide_eq_true c8
      clear c8
      by_cases c9 : (ji7) ≤ (wrap64 ((ji7) + 1))
      · rw [if_pos c9] at H
        have c9b0 := eq_true c9
        have c9b1 : decide ((ji7) ≤ (wrap64 ((ji7) + 1))) = true := decide_eq_true c9
        by_cases c10 : (wrap64 ((ji7) + 1)) ≤ 10
        · rw [if_pos c10] at H
          have c10b0 := eq_true c10
          have c10b1 : decide ((wrap64 ((ji7) + 1)) ≤ 10) = true := decide_eq_true c10
          by_cases c11 : t254.size + ((⟨#[48, 49, 50, 51, 52, 53, 54, 55, 56, 57]⟩ : ByteArray).extract ((ji7) : Int).toNat ((wrap64 ((ji7) + 1)) : Int).toNat).size ≤ 9223372036854775807
          · rw [if_pos c11] at H
            have c11b0 := eq_true c11
            have c11b1 : decide (t254.size + ((⟨#[48, 49, 50, 51, 52, 53, 54, 55, 56, 57]⟩ : ByteArray).extract ((ji7) : Int).toNat ((wrap64 ((ji7) + 1)) : Int).toNat).size ≤ 9223372036854775807) = true := decide_eq_true c11
            try have c11b2 : (9223372036854775807 < t254.size + ((⟨#[48, 49, 50, 51, 52, 53, 54, 55, 56, 57]⟩ : ByteArray).extract ((ji7) : Int).toNat ((wrap64 ((ji7) + 1)) : Int).toNat).size) = False := eq_false (Nat.not_lt.2 c11)
            have c11b8 : (9223372036854775807 < t254.size + ((wrap64 (ji7 + 1)).toNat - ji7.toNat)) = False := eq_false (by have h_ := c11; rw [ByteArray.size_extract, show (⟨#[48, 49, 50, 51, 52, 53, 54, 55, 56, 57]⟩ : ByteArray).size = 10 from rfl, Nat.min_eq_left (by have := of_eq_true c10b0; omega)] at h_; omega)
            obtain rfl := Option.some.inj H
            go_enter Tryd.func43, Tryd.ntmps43
            try go_wp2
            have n0_ := Aside0.mk (below_drew1 HB.out)
            clear HB
            have HB := n0_
            clear n0_
            refine start_ (n := 11) (S := fun w' => True) (ds := []) #[false, false, false, false, false, false, false, false, false, false, false] (by kernel_rfl) rfl rfl trivial (fun hHeld => ?_); refine with_tabW trickleref04_Num.tab3 trickleref04_Num.bits3 (fun HT_ HW_ => ?_)
            generalize w.drew = w12 at HB hHeld ⊢
            refine pure_ (i := 0) (N := some 9) (v := ?_) (a' := ?_) #[true, false, false, false, false, false, false, false, false, false, false] rfl rfl (any_of HT_.out (by kernel_rfl)) (fun _ _ _ h => h) (Or.inl ⟨by rfl, ?_⟩) ?_ ?_
            rotate_left
            · intro w'
              go_simp
              with_reducible rfl
            rotate_left
            · simp only [Act.put, List.setIfInBounds_toArray, List.set_cons_zero, List.set_cons_succ, i64_w, i32_w]
              rfl
            refine pure_ (i := 1) (N := some 10) (v := ?_) (a' := ?_) #[true, true, false, false, false, false, false, false, false, false, false] rfl rfl (any_of HT_.out (by kernel_rfl)) (fun _ _ _ h => h) (Or.inl ⟨by rfl, ?_⟩) ?_ ?_
            rotate_left
            · intro w'
              go_simp
              with_reducible rfl
            rotate_left
            · simp only [Act.put, List.setIfInBounds_toArray, List.set_cons_zero, List.set_cons_succ, i64_w, i32_w]
              rfl
            refine pure_ (i := 3) (N := some 12) (v := ?_) (a' := ?_) #[true, true, false, true, false, false, false, false, false, false, false] rfl rfl (any_of HT_.out (by kernel_rfl)) (fun _ _ _ h => h) (Or.inl ⟨by rfl, ?_⟩) ?_ ?_
            rotate_left
            · intro w'
              go_simp
              with_reducible rfl
            rotate_left
            · simp only [Act.put, List.setIfInBounds_toArray, List.set_cons_zero, List.set_cons_succ, i64_w, i32_w]
              rfl
            refine pure_ (i := 4) (N := some 13) (v := ?_) (a' := ?_) #[true, true, false, true, true, false, false, false, false, false, false] rfl rfl (any_of HT_.out (by kernel_rfl)) (fun _ _ _ h => h) (Or.inl ⟨by rfl, ?_⟩) ?_ ?_
            rotate_left
            · intro w'
              go_simp
              with_reducible rfl
            rotate_left
            · simp only [Act.put, List.setIfInBounds_toArray, List.set_cons_zero, List.set_cons_succ, i64_w, i32_w]
              rfl
            refine pure_ (i := 5) (N := some 14) (v := ?_) (a' := ?_) #[true, true, false, true, true, true, false, false, false, false, false] rfl rfl (any_of HT_.out (by kernel_rfl)) (fun _ _ _ h => h) (Or.inl ⟨by rfl, ?_⟩) ?_ ?_
            rotate_left
            · intro w'
              go_simp
              with_reducible rfl
            rotate_left
            · simp only [Act.put, List.setIfInBounds_toArray, List.set_cons_zero, List.set_cons_succ, i64_w, i32_w]
              rfl
            refine pure_ (i := 6) (N := some 15) (v := ?_) (a' := ?_) #[true, true, false, true, true, true, true, false, false, false, false] rfl rfl (any_of HT_.out (by kernel_rfl)) (fun _ _ _ h => h) (Or.inl ⟨by rfl, ?_⟩) ?_ ?_
            rotate_left
            · intro w'
              go_simp
              with_reducible rfl
            rotate_left
            · simp only [Act.put, List.setIfInBounds_toArray, List.set_cons_zero, List.set_cons_succ, i64_w, i32_w]
              rfl
            refine pure_ (i := 7) (N := some 16) (v := ?_) (a' := ?_) #[true, true, false, true, true, true, true, true, false, false, false] rfl rfl (any_of HT_.out (by kernel_rfl)) (fun _ _ _ h => h) (Or.inl ⟨by rfl, ?_⟩) ?_ ?_
            rotate_left
            · intro w'
              go_simp
              with_reducible rfl
            rotate_left
            · simp only [Act.put, List.setIfInBounds_toArray, List.set_cons_zero, List.set_cons_succ, i64_w, i32_w]
              rfl
            refine pure_ (i := 8) (N := some 17) (v := ?_) (a' := ?_) #[true, true, false, true, true, true, true, true, true, false, false] rfl rfl (any_of HT_.out (by kernel_rfl)) (fun _ _ _ h => h) (Or.inl ⟨by rfl, ?_⟩) ?_ ?_
            rotate_left
            · intro w'
              go_simp
              with_reducible rfl
            rotate_left
            · simp only [Act.put, List.setIfInBounds_toArray, List.set_cons_zero, List.set_cons_succ, i64_w, i32_w]
              rfl
            refine one_ (i := 2) (N := some 11) #[true, true, true, true, true, true, true, true, true, false, false] rfl rfl (one_of HT_.out (by kernel_rfl)) (by decide) (fun K hK => ?_)
            refine goes_ Tryd.func43 (by kernel_rfl) rfl #[.int .i64 (wrap64 (Int.tdiv a0 10))] (by rfl) rfl rfl (by (try simp only [List.map_toArray, List.map_cons, List.map_nil]); first | done | rfl | (simp only [List.length_drop, List.length_take]; rfl)) ?_
            with_reducible refine (ih k (by omega) (wrap64 (Int.tdiv a0 10)) t254 _ A6.out).mono ?_
            rintro e w13 ⟨rfl, hb⟩
            refine ⟨_, rfl, ?_⟩
            have n0_ := Aside0.mk (below_step (by repeat (first | (with_reducible first | exact HB.out | apply below_alloc | apply pw_below_drewN | apply below_drew1) | exact HB.out)) hb)
            clear HB
            have HB := n0_
            clear n0_
            (try clear hb)
            (try clear hb2)
            (try clear hk)
            (try clear hi)
            refine hK.out _ _ trivial (fun hHeld => ?_)
            clear hK K
            refine norm_ (a' := ?_) ?_ ?_
            rotate_left
            · show Act.put _ (some 11) _ = _
              simp only [Act.put, List.setIfInBounds_toArray, List.set_cons_zero, List.set_cons_succ, i64_w, i32_w]
              rfl
            refine pure_ (i := 9) (N := some 18) (v := ?_) (a' := ?_) #[true, true, true, true, true, true, true, true, true, true, false] rfl rfl (any_of HT_.out (by kernel_rfl)) (fun _ _ _ h => h) (Or.inl ⟨by rfl, ?_⟩) ?_ ?_
            rotate_left
            · intro w'
              go_simp
              with_reducible rfl
            rotate_left
            · simp only [Act.put, List.setIfInBounds_toArray, List.set_cons_zero, List.set_cons_succ, i64_w, i32_w]
              rfl
            refine pure_ (i := 10) (N := some 2) (v := ?_) (a' := ?_) #[true, true, true, true, true, true, true, true, true, true, true] rfl rfl (any_of HT_.out (by kernel_rfl)) (fun _ _ _ h => h) (Or.inl ⟨by rfl, ?_⟩) ?_ ?_
            rotate_left
            · intro w'
              go_simp
              with_reducible rfl
            rotate_left
            · simp only [Act.put, List.setIfInBounds_toArray, List.set_cons_zero, List.set_cons_succ, i64_w, i32_w]
              rfl
            refine done_ (done_of HT_.out (by kernel_rfl)) ?_
            try go_wp2
            go_ret
            exact ⟨by first | rfl | (simp [errW_none, errW_some] <;> rfl) | (simp only [← hji7]; first | rfl | (simp [errW_none, errW_some] <;> rfl)) | (simp [*, errW_none, errW_some] <;> rfl), by repeat (first | (with_reducible first | exact HB.out | apply below_alloc | apply pw_below_drewN | apply below_drew1) | exact HB.out)⟩
          · rw [if_neg c11] at H
            exact absurd H (by simp)
        · rw [if_neg c10] at H
          exact absurd H (by simp)
      · rw [if_neg c9] at H
        exact absurd H (by simp)
    · rw [if_neg c8] at H
      exact absurd H (by simp)

end Go.Proofs.YtoobapkccogdhaaDoor.PX
-- Written by a program of this session (wip/xprint.py, over the kit's print tool). Lean checks it.
namespace Go.Proofs.YtoobapkccogdhaaDoor.PX
open Go.RowKit Go.Proofs.YtoobapkccogdhaaDoorW.PrintWords Go.Proofs.YtoobapkccogdhaaDoorW.PrintLast Go.Proofs.YtoobapkccogdhaaDoorW.PrintMore
attribute [local go_sem] max2_int min2_int max_two min_two max_three min_three max_four min_four   -- for this text's walks alone
set_option linter.unusedVariables false
set_option linter.unusedSimpArgs false

/-! ### trickleref04_String: function 21 -/
def trickleref04_String.l0 : Nat → ByteArray → List Int → Int → Int → Option (ByteArray)
  | 0, _, _, _, _ => none
  | k + 1, x3, x6, x7, x8 => if x8 < x7 then (if 0 ≤ x8 then (if x8 < (x6.length : Int) then (if x8 > 0 then (if x3.size + 1 ≤ 9223372036854775807 then ((trickleref04_Num.f k (rd x6 x8)).bind fun t256 => (if (x3 ++ (⟨#[32]⟩ : ByteArray)).size + t256.size ≤ 9223372036854775807 then (trickleref04_String.l0 k ((x3 ++ (⟨#[32]⟩ : ByteArray)) ++ t256) x6 x7 (wrap64 (x8 + 1))) else (none))) else (none)) else ((trickleref04_Num.f k (rd x6 x8)).bind fun t257 => (if x3.size + t257.size ≤ 9223372036854775807 then (trickleref04_String.l0 k (x3 ++ t257) x6 x7 (wrap64 (x8 + 1))) else (none)))) else (none)) else (none)) else (if x3.size + 1 ≤ 9223372036854775807 then (some (x3 ++ (⟨#[125]⟩ : ByteArray))) else (none))
def trickleref04_String.f (k : Nat) (l0 : List Int) : Option (ByteArray) := trickleref04_String.l0 k (⟨#[123]⟩ : ByteArray) l0 (l0.length : Int) 0
set_option maxHeartbeats 8000000 in
set_option maxRecDepth 100000 in
theorem trickleref04_String.calls (k : Nat) (A0 : Option Addr) (c0 : Nat) (l0 : List Int) (r : ByteArray) (w : World) (hr0 : Kd.C (Kd.int .i64) w A0 l0.length l0) (hc0 : l0.length ≤ c0) (h : trickleref04_String.f k l0 = some r) :
    Calls Tryd.prog 21 #[.slice A0 l0.length c0] w fun e w' => e = .returned (.string r) ∧ Below w.heap.size w w' := by
  have HR0 := Aside0.mk hr0
  have HC0 := Aside0.mk hc0
  clear hr0 hc0
  have HB := Aside0.mk (Below.refl w.heap.size w)
  have H : (trickleref04_String.l0 k (⟨#[123]⟩ : ByteArray) l0 (l0.length : Int) 0) = some r := h
  clear h
  have H' := Aside0.mk H
  clear H
  go_enter Tryd.func21, Tryd.ntmps21
  go_wp2
  go_loopg [3, 8] k (fun kq v3 v8 w' => ∃ (x3_1 : ByteArray) (x8_1 : Int), v3 = .string x3_1 ∧ v8 = .int .i64 x8_1 ∧ Aside0 (trickleref04_String.l0 kq x3_1 l0 (l0.length : Int) x8_1 = some r) ∧ Aside0 (kq ≤ k) ∧ Aside0 (Below w.heap.size w w'))
  case atStart => exact ⟨((⟨#[123]⟩ : ByteArray)), (0), (by first | rfl | (simp; done) | (simp [*]; done)), (by first | rfl | (simp; done) | (simp [*]; done)), H', ⟨Nat.le_refl _⟩, ⟨by repeat (first | (with_reducible first | exact HB.out | apply below_alloc | apply pw_below_drewN | apply below_drew1) | exact HB.out)⟩⟩
  case round =>
    clear H'
    obtain ⟨x3_1, x8_1, rfl, rfl, HA, HK1, HB⟩ := hrel
    cases gk with
    | zero => exact absurd HA.out (by simp [trickleref04_String.l0])
    | succ k1 =>
      have H := HA.out
      clear HA
      simp only [trickleref04_String.l0] at H
      by_cases c2 : x8_1 < (l0.length : Int)
      · rw [if_pos c2] at H
        have c2b0 : decide (x8_1 < (l0.length : Int)) = true := decide_eq_true c2
        clear c2
        by_cases c3 : 0 ≤ x8_1
        · rw [if_pos c3] at H
          have c3b0 : decide (0 ≤ x8_1) = true := decide_eq_true c3
          clear c3
          by_cases c4 : x8_1 < (l0.length : Int)
          · rw [if_pos c4] at H
            have c4b0 : decide (x8_1 < (l0.length : Int)) = true := decide_eq_true c4
            clear c4
            by_cases c5 : x8_1 > 0
            · rw [if_pos c5] at H
              have c5b0 : decide (0 < x8_1) = true := decide_eq_true c5
              clear c5
              by_cases c6 : x3_1.size + 1 ≤ 9223372036854775807
              · rw [if_pos c6] at H
                have c6b0 := eq_true c6
                have c6b1 : decide (x3_1.size + 1 ≤ 9223372036854775807) = true := decide_eq_true c6
                try have c6b2 : (9223372036854775807 < x3_1.size + 1) = False := eq_false (Nat.not_lt.2 c6)
                replace H := Option.bind_eq_some_iff.mp H
                obtain ⟨t256, A70, H⟩ := H
                replace H : (if (x3_1 ++ (⟨#[32]⟩ : ByteArray)).size + t256.size ≤ 9223372036854775807 then (trickleref04_String.l0 k1 ((x3_1 ++ (⟨#[32]⟩ : ByteArray)) ++ t256) l0 (l0.length : Int) (wrap64 (x8_1 + 1))) else (none)) = some r := H
                have A7 := Aside0.mk A70
                clear A70
                by_cases c8 : (x3_1 ++ (⟨#[32]⟩ : ByteArray)).size + t256.size ≤ 9223372036854775807
                · rw [if_pos c8] at H
                  have c8b0 := eq_true c8
                  have c8b1 : decide ((x3_1 ++ (⟨#[32]⟩ : ByteArray)).size + t256.size ≤ 9223372036854775807) = true := decide_eq_true c8
                  try have c8b2 : (9223372036854775807 < (x3_1 ++ (⟨#[32]⟩ : ByteArray)).size + t256.size) = False := eq_false (Nat.not_lt.2 c8)
                  have c8b8 : (9223372036854775807 < x3_1.size + 1 + t256.size) = False := eq_false (by have h_ := c8; rw [ByteArray.size_append] at h_; exact Nat.not_lt.2 h_)
                  have H' := Aside0.mk H
                  clear H
                  have p255 : 0 ≤ (x8_1 : Int) := of_decide_eq_true (by first | (with_reducible assumption) | assumption)
                  have q255 : x8_1 < (l0.length : Int) := of_decide_eq_true (by first | (with_reducible assumption) | assumption)
                  obtain ⟨ad255, e255, hx255_0⟩ := Kd.at_int HR0.out x8_1 p255 q255
                  cases e255
                  replace hx255_0 := (HB.out.cell (World.block_lt_of_cell? w _ hx255_0)).trans hx255_0
                  replace p255 := eq_true p255
                  replace q255 := eq_true q255
                  go_wp2_with (first | ((with_reducible refine gate_callee (f := 43) rfl ?_); refine goesL_ (some 19) rfl rfl Tryd.func43 (by kernel_rfl) rfl #[.int .i64 (rd l0 x8_1)] rfl (by (try simp only [List.map_toArray, List.map_cons, List.map_nil]); first | done | rfl | (simp only [List.length_drop, List.length_take]; rfl)) ?_; (with_reducible refine (trickleref04_Num.calls k1 (rd l0 x8_1) t256 _ A7.out).mono ?_); rintro e w9 ⟨rfl, hb⟩; refine ⟨_, rfl, ?_⟩; have n0_ := Aside0.mk (below_step (by repeat (first | (with_reducible first | exact HB.out | apply below_alloc | apply pw_below_drewN | apply below_drew1) | exact HB.out)) hb); clear HB; have HB := n0_; clear n0_; (try clear hb); (try clear hb2); (try clear hk); (try clear hi)))
                  go_roundg k1
                  case measure => have := HK1.out; omega
                  case rel => exact ⟨((x3_1 ++ (⟨#[32]⟩ : ByteArray)) ++ t256), (wrap64 (x8_1 + 1)), (by first | rfl | (simp; done) | (simp [*]; done)), (by first | rfl | (simp; done) | (simp [*]; done)), H', ⟨by have := HK1.out; omega⟩, ⟨by repeat (first | (with_reducible first | exact HB.out | apply below_alloc | apply pw_below_drewN | apply below_drew1) | exact HB.out)⟩⟩
                · rw [if_neg c8] at H
                  exact absurd H (by simp)
              · rw [if_neg c6] at H
                exact absurd H (by simp)
            · rw [if_neg c5] at H
              have c5b0 : decide (0 < x8_1) = false := decide_eq_false c5
              clear c5
              replace H := Option.bind_eq_some_iff.mp H
              obtain ⟨t257, A100, H⟩ := H
              replace H : (if x3_1.size + t257.size ≤ 9223372036854775807 then (trickleref04_String.l0 k1 (x3_1 ++ t257) l0 (l0.length : Int) (wrap64 (x8_1 + 1))) else (none)) = some r := H
              have A10 := Aside0.mk A100
              clear A100
              by_cases c11 : x3_1.size + t257.size ≤ 9223372036854775807
              · rw [if_pos c11] at H
                have c11b0 := eq_true c11
                have c11b1 : decide (x3_1.size + t257.size ≤ 9223372036854775807) = true := decide_eq_true c11
                try have c11b2 : (9223372036854775807 < x3_1.size + t257.size) = False := eq_false (Nat.not_lt.2 c11)
                have H' := Aside0.mk H
                clear H
                have p255 : 0 ≤ (x8_1 : Int) := of_decide_eq_true (by first | (with_reducible assumption) | assumption)
                have q255 : x8_1 < (l0.length : Int) := of_decide_eq_true (by first | (with_reducible assumption) | assumption)
                obtain ⟨ad255, e255, hx255_0⟩ := Kd.at_int HR0.out x8_1 p255 q255
                cases e255
                replace hx255_0 := (HB.out.cell (World.block_lt_of_cell? w _ hx255_0)).trans hx255_0
                replace p255 := eq_true p255
                replace q255 := eq_true q255
                go_wp2_with (first | ((with_reducible refine gate_callee (f := 43) rfl ?_); refine goesL_ (some 19) rfl rfl Tryd.func43 (by kernel_rfl) rfl #[.int .i64 (rd l0 x8_1)] rfl (by (try simp only [List.map_toArray, List.map_cons, List.map_nil]); first | done | rfl | (simp only [List.length_drop, List.length_take]; rfl)) ?_; (with_reducible refine (trickleref04_Num.calls k1 (rd l0 x8_1) t257 _ A10.out).mono ?_); rintro e w12 ⟨rfl, hb⟩; refine ⟨_, rfl, ?_⟩; have n0_ := Aside0.mk (below_step (by repeat (first | (with_reducible first | exact HB.out | apply below_alloc | apply pw_below_drewN | apply below_drew1) | exact HB.out)) hb); clear HB; have HB := n0_; clear n0_; (try clear hb); (try clear hb2); (try clear hk); (try clear hi)))
                go_roundg k1
                case measure => have := HK1.out; omega
                case rel => exact ⟨(x3_1 ++ t257), (wrap64 (x8_1 + 1)), (by first | rfl | (simp; done) | (simp [*]; done)), (by first | rfl | (simp; done) | (simp [*]; done)), H', ⟨by have := HK1.out; omega⟩, ⟨by repeat (first | (with_reducible first | exact HB.out | apply below_alloc | apply pw_below_drewN | apply below_drew1) | exact HB.out)⟩⟩
              · rw [if_neg c11] at H
                exact absurd H (by simp)
          · rw [if_neg c4] at H
            exact absurd H (by simp)
        · rw [if_neg c3] at H
          exact absurd H (by simp)
      · rw [if_neg c2] at H
        have c2b0 : decide (x8_1 < (l0.length : Int)) = false := decide_eq_false c2
        clear c2
        by_cases c13 : x3_1.size + 1 ≤ 9223372036854775807
        · rw [if_pos c13] at H
          have c13b0 := eq_true c13
          have c13b1 : decide (x3_1.size + 1 ≤ 9223372036854775807) = true := decide_eq_true c13
          try have c13b2 : (9223372036854775807 < x3_1.size + 1) = False := eq_false (Nat.not_lt.2 c13)
          obtain rfl := Option.some.inj H
          go_wp2
          go_ret
          exact ⟨by first | rfl | (simp [errW_none, errW_some] <;> rfl) | (simp [*, errW_none, errW_some] <;> rfl), by repeat (first | (with_reducible first | exact HB.out | apply below_alloc | apply pw_below_drewN | apply below_drew1) | exact HB.out)⟩
        · rw [if_neg c13] at H
          exact absurd H (by simp)

end Go.Proofs.YtoobapkccogdhaaDoor.PX
/- The reference in plain words: ranges, differences, sections, unions; a set's text. -/
namespace Go.Proofs.YtoobapkccogdhaaDoor.PX
open Go.RowKit Go.Proofs.YtoobapkccogdhaaDoorW.PrintWords Go.Proofs.YtoobapkccogdhaaDoorW.PrintLast Go.Proofs.YtoobapkccogdhaaDoorW.PrintMore
set_option linter.unusedVariables false
set_option linter.unusedSimpArgs false
theorem mx_eq' (a b : Int) : mx a b = max a b := by unfold mx; omega
theorem mn_eq' (a b : Int) : mn a b = min a b := by unfold mn; omega
theorem srt_snoc {l : List Int} (h : Srt l) (n : Int) (h0 : 0 ≤ n ∧ n ≤ 65535) (hl : ∀ x ∈ l, x < n) : Srt (l ++ [n]) := by
  refine ⟨?_, fun x hx => ?_⟩
  · rw [List.pairwise_append]
    exact ⟨h.1, List.pairwise_singleton _ _, fun a ha b hb => by rw [List.mem_singleton.1 hb]; exact hl a ha⟩
  · rcases List.mem_append.1 hx with hx | hx
    · exact h.2 x hx
    · rw [List.mem_singleton.1 hx]; exact h0
theorem rrange_loop (lo hi : Int) (h : min hi 65536 ≤ 65536) : ∀ (d : Nat) (n : Int), 0 ≤ n → n ≤ 9223372036854775807 → (min hi 65536 - n).toNat = d → ∀ x : List Int, Srt x → (∀ y ∈ x, y < n) →
    ∃ r, Ev (fun k => trickleref04_Range.l0 k hi x n) r ∧ Srt r ∧ ∀ y, y ∈ r ↔ (y ∈ x ∨ (n ≤ y ∧ y < min hi 65536))
  | 0, n, h0, hmax, hd, x, hx, hy => by
    refine ⟨x, Ev.step (fun k => by rw [trickleref04_Range.l0, mn_eq']) (Ev.neg (by omega) (Ev.now _)), hx, fun y => ⟨Or.inl, fun h => h.resolve_right (by omega)⟩⟩
  | d + 1, n, h0, hmax, hd, x, hx, hy => by
    have hl := srt_len hx
    obtain ⟨r, r1, r2, r3⟩ := rrange_loop lo hi h d (n + 1) (by omega) (by omega) (by omega) (x ++ [n]) (srt_snoc hx n (by omega) hy) (fun y hy' => by
      rcases List.mem_append.1 hy' with h | h
      · have := hy y h; omega
      · rw [List.mem_singleton.1 h]; omega)
    refine ⟨r, ?_, r2, fun y => ?_⟩
    · refine Ev.step (fun k => by rw [trickleref04_Range.l0, mn_eq']) (Ev.pos (by omega) (Ev.pos (by omega) ?_))
      rw [wrap_id (by omega) (by omega)]
      exact r1
    · rw [r3, List.mem_append, List.mem_singleton]
      constructor
      · rintro ((h | h) | h)
        · exact Or.inl h
        · exact Or.inr (by omega)
        · exact Or.inr (by omega)
      · rintro (h | h)
        · exact Or.inl (Or.inl h)
        · by_cases hn : y = n
          · exact Or.inl (Or.inr hn)
          · exact Or.inr (by omega)
theorem rrange_ev (lo hi : Int) (h : lo ≤ 9223372036854775807) : ∃ r, Ev (fun k => trickleref04_Range.f k lo hi) r ∧ Srt r ∧ ∀ x : Int, x ∈ r ↔ (max lo 0 ≤ x ∧ x < min hi 65536) := by
  obtain ⟨r, r1, r2, r3⟩ := rrange_loop lo hi (by omega) _ (max lo 0) (by omega) (by omega) rfl [] srt_nil (fun y hy => by cases hy)
  refine ⟨r, Ev.congr (fun k => by rw [trickleref04_Range.f, mx_eq']) r1, r2, fun x => ?_⟩
  rw [r3]
  exact ⟨fun h => h.resolve_left (fun e => by cases e), Or.inr⟩
theorem rminus_loop (a b : List Int) (hn : a.length ≤ 1000000) (hb : b.length ≤ 1000000) : ∀ d j, j + d = a.length → ∀ x : List Int, x.length ≤ j →
    Ev (fun k => trickleref04_Minus.l0 k b x a (a.length : Int) (j : Int)) (x ++ (a.drop j).filter (fun y => !decide (y ∈ b)))
  | 0, j, h, x, hx => by
    refine Ev.step (fun k => by rw [trickleref04_Minus.l0]) (Ev.neg (by omega) (Ev.cast (Ev.now _) ?_))
    rw [List.drop_eq_nil_of_le (by omega), List.filter_nil, List.append_nil]
  | d + 1, j, h, x, hx => by
    have hj : j < a.length := by omega
    refine Ev.step (fun k => by rw [trickleref04_Minus.l0]) (Ev.pos (by omega) (Ev.pos (by omega) (Ev.pos (by omega) ?_)))
    rw [rd_nat _ _ hj, drop_cons _ _ hj, List.filter_cons, wrap_nat hj (by omega)]
    refine Ev.bind (rhas_ev b _ hb) ?_
    by_cases hm : a[j] ∈ b
    · refine Ev.pos (decide_eq_true hm) ?_
      rw [if_neg (by simpa using hm)]
      exact rminus_loop a b hn hb d (j + 1) (by omega) x (by omega)
    · refine Ev.neg (by rw [decide_eq_false hm]; decide) (Ev.pos (by omega) ?_)
      rw [if_pos (by simpa using hm)]
      refine Ev.cast (rminus_loop a b hn hb d (j + 1) (by omega) (x ++ [a[j]]) (by rw [List.length_append, List.length_singleton]; omega)) ?_
      rw [List.append_assoc, List.singleton_append]
theorem rminus_ev {a : List Int} (ha : Srt a) (b : List Int) (hb : b.length ≤ 1000000) : ∃ r, Ev (fun k => trickleref04_Minus.f k a b) r ∧ Srt r ∧ ∀ x, x ∈ r ↔ (x ∈ a ∧ ¬ x ∈ b) := by
  have hl := srt_len ha
  have h := rminus_loop a b (by omega) hb a.length 0 (by omega) [] (by simp)
  rw [List.drop_zero, List.nil_append] at h
  refine ⟨_, h, ⟨ha.1.sublist List.filter_sublist, fun x hx => ha.2 x (List.mem_filter.1 hx).1⟩, fun x => ?_⟩
  rw [List.mem_filter]
  simp
theorem rinter_ev {a b : List Int} (ha : Srt a) (hb : Srt b) : ∃ r, Ev (fun k => trickleref04_Intersect.f k a b) r ∧ Srt r ∧ ∀ x, x ∈ r ↔ (x ∈ a ∧ x ∈ b) := by
  have hl := srt_len hb
  obtain ⟨s, s1, s2, s3⟩ := rminus_ev ha b (by omega)
  have hs := srt_len s2
  obtain ⟨r, r1, r2, r3⟩ := rminus_ev ha s (by omega)
  refine ⟨r, Ev.congr (fun k => by rw [trickleref04_Intersect.f]) (Ev.bind s1 (Ev.bind r1 (Ev.now _))), r2, fun x => ?_⟩
  rw [r3, s3]
  constructor
  · rintro ⟨h1, h2⟩
    refine ⟨h1, ?_⟩
    by_cases hb : x ∈ b
    · exact hb
    · exact absurd ⟨h1, hb⟩ h2
  · rintro ⟨h1, h2⟩
    exact ⟨h1, fun h => h.2 h2⟩
theorem runion_loop {b : List Int} (hb : Srt b) : ∀ d j, j + d = b.length → ∀ x : List Int, Srt x →
    ∃ r, Ev (fun k => trickleref04_Union.l0 k x b (b.length : Int) (j : Int)) r ∧ Srt r ∧ ∀ y, y ∈ r ↔ (y ∈ x ∨ y ∈ b.drop j)
  | 0, j, h, x, hx => by
    refine ⟨x, Ev.step (fun k => by rw [trickleref04_Union.l0]) (Ev.neg (by omega) (Ev.now _)), hx, fun y => ?_⟩
    rw [List.drop_eq_nil_of_le (by omega)]
    simp
  | d + 1, j, h, x, hx => by
    have hj : j < b.length := by omega
    have hl := srt_len hb
    have hv := hb.2 _ (List.getElem_mem hj)
    obtain ⟨s, s1, s2, s3⟩ := rwith_ev hx b[j]
    obtain ⟨r, r1, r2, r3⟩ := runion_loop hb d (j + 1) (by omega) s s2
    refine ⟨r, ?_, r2, fun y => ?_⟩
    · refine Ev.step (fun k => by rw [trickleref04_Union.l0]) (Ev.pos (by omega) (Ev.pos (by omega) (Ev.pos (by omega) ?_)))
      rw [rd_nat _ _ hj]
      refine Ev.bind s1 ?_
      rw [wrap_nat hj (by omega)]
      exact r1
    · rw [r3, s3, drop_cons _ _ hj, List.mem_cons]
      constructor
      · rintro ((h | ⟨h, h'⟩) | h)
        · exact Or.inl h
        · exact Or.inr (Or.inl h)
        · exact Or.inr (Or.inr h)
      · rintro (h | h | h)
        · exact Or.inl (Or.inl h)
        · exact Or.inl (Or.inr ⟨h, hv⟩)
        · exact Or.inr h
theorem runion_ev {a b : List Int} (ha : Srt a) (hb : Srt b) : ∃ r, Ev (fun k => trickleref04_Union.f k a b) r ∧ Srt r ∧ ∀ x, x ∈ r ↔ (x ∈ a ∨ x ∈ b) := by
  obtain ⟨r, r1, r2, r3⟩ := runion_loop hb b.length 0 (by omega) a ha
  rw [List.drop_zero] at r3
  exact ⟨r, Ev.congr (fun k => by rw [trickleref04_Union.f]; rfl) r1, r2, r3⟩
/-! A set's text. -/
def mk (l : List UInt8) : ByteArray := ⟨l.toArray⟩
theorem mk_app (a b : List UInt8) : mk a ++ mk b = mk (a ++ b) := by
  refine ByteArray.ext (Array.ext' ?_)
  rw [ByteArray.data_append, Array.toList_append]
  rfl
theorem mk_size (a : List UInt8) : (mk a).size = a.length := rfl
theorem dec_len : ∀ (f u : Nat), u < f → (Lib.decDigits u).length ≤ u + 1
  | 0, u, h => by omega
  | f + 1, u, h => by
    rw [Lib.decDigits]
    split
    · simp
    · have := dec_len f (u / 10) (by omega)
      rw [List.length_append, List.length_singleton]
      omega
theorem dig : ∀ d : Fin 10, (⟨#[48, 49, 50, 51, 52, 53, 54, 55, 56, 57]⟩ : ByteArray).extract d.val (d.val + 1) = mk [UInt8.ofNat (48 + d.val)] := by decide +kernel
theorem dig_at (n : Nat) (h : n < 10) : (⟨#[48, 49, 50, 51, 52, 53, 54, 55, 56, 57]⟩ : ByteArray).extract ((n : Int)).toNat ((wrap64 ((n : Int) + 1)) : Int).toNat = mk [UInt8.ofNat (48 + n)] := by
  rw [wrap_id (by omega) (by omega), Int.toNat_natCast, show ((n : Int) + 1).toNat = n + 1 by omega]
  exact dig ⟨n, h⟩
theorem num_ev : ∀ (f n : Nat), n < f → n ≤ 1000000 → Ev (fun k => trickleref04_Num.f k (n : Int)) (mk (Lib.decDigits n))
  | 0, n, h, _ => by omega
  | f + 1, n, h, hn => by
    refine Ev.step (fun k => by rw [trickleref04_Num.f]) ?_
    rw [Lib.decDigits]
    by_cases h10 : n < 10
    · have w1 : wrap64 ((n : Int) + 1) = (n : Int) + 1 := wrap_id (by omega) (by omega)
      rw [dif_pos h10, dig_at n h10, w1]
      clear w1
      refine Ev.pos (show (n : Int) < 10 by omega) ?_
      refine Ev.pos (show 0 ≤ (n : Int) by omega) ?_
      refine Ev.pos (show (n : Int) ≤ (n : Int) + 1 by omega) ?_
      exact Ev.pos (show (n : Int) + 1 ≤ 10 by omega) (Ev.now _)
    · have e1 : wrap64 (Int.tdiv (n : Int) 10) = ((n / 10 : Nat) : Int) := by
        rw [Int.tdiv_eq_ediv_of_nonneg (by omega), wrap_id (by omega) (by omega)]; omega
      have e2 : Int.tmod (n : Int) 10 = ((n % 10 : Nat) : Int) := by
        rw [Int.tmod_eq_emod_of_nonneg (by omega)]; omega
      have w1 : wrap64 (((n % 10 : Nat) : Int) + 1) = ((n % 10 : Nat) : Int) + 1 := wrap_id (by omega) (by omega)
      rw [dif_neg h10, e1, e2, dig_at (n % 10) (by omega), w1]
      clear e1 e2 w1
      refine Ev.neg (show ¬ (n : Int) < 10 by omega) ?_
      refine Ev.bind (num_ev f (n / 10) (by omega) (by omega)) ?_
      rw [mk_size, mk_size, mk_app]
      have hl := dec_len (n / 10 + 1) (n / 10) (by omega)
      refine Ev.pos (show 0 ≤ ((n % 10 : Nat) : Int) by omega) ?_
      refine Ev.pos (show ((n % 10 : Nat) : Int) ≤ ((n % 10 : Nat) : Int) + 1 by omega) ?_
      refine Ev.pos (show ((n % 10 : Nat) : Int) + 1 ≤ 10 by omega) ?_
      exact Ev.pos (by rw [List.length_singleton]; omega) (Ev.now _)
def dg (x : Int) : List UInt8 := Lib.decDigits x.toNat
theorem num_at (x : Int) (h : 0 ≤ x ∧ x ≤ 65535) : Ev (fun k => trickleref04_Num.f k x) (mk (dg x)) ∧ (dg x).length ≤ 65536 := by
  obtain ⟨n, rfl⟩ := Int.eq_ofNat_of_zero_le h.1
  refine ⟨num_ev (n + 1) n (by omega) (by omega), ?_⟩
  have := dec_len (n + 1) n (by omega)
  unfold dg
  rw [Int.toNat_natCast]
  omega
theorem str_loop {l : List Int} (hs : Srt l) : ∀ d j, j + d = l.length → 0 < j → ∀ a : List UInt8, a.length ≤ 65537 * (j + 1) →
    Ev (fun k => trickleref04_String.l0 k (mk a) l (l.length : Int) (j : Int)) (mk (a ++ Lib.joinTail [32] ((l.drop j).map dg) ++ [125]))
  | 0, j, h, hj0, a, ha => by
    have hl := srt_len hs
    refine Ev.step (fun k => by rw [trickleref04_String.l0]) (Ev.neg (by omega) ?_)
    rw [mk_size]
    refine Ev.pos (by omega) (Ev.cast (Ev.now _) ?_)
    rw [List.drop_eq_nil_of_le (by omega), List.map_nil]
    show mk a ++ mk [125] = _
    rw [mk_app]
    show _ = mk (a ++ [] ++ [125])
    rw [List.append_nil]
  | d + 1, j, h, hj0, a, ha => by
    have hl := srt_len hs
    have hj : j < l.length := by omega
    obtain ⟨n1, n2⟩ := num_at _ (hs.2 _ (List.getElem_mem hj))
    refine Ev.step (fun k => by rw [trickleref04_String.l0]) (Ev.pos (by omega) (Ev.pos (by omega) (Ev.pos (by omega) (Ev.pos (by omega) ?_))))
    rw [rd_nat _ _ hj, wrap_nat hj (by omega)]
    rw [show (⟨#[32]⟩ : ByteArray) = mk [32] from rfl, mk_size, mk_app, mk_size]
    refine Ev.pos (by omega) (Ev.bind n1 ?_)
    rw [mk_size, mk_app]
    refine Ev.pos (by rw [List.length_append, List.length_singleton]; omega) ?_
    refine Ev.cast (str_loop hs d (j + 1) (by omega) (by omega) (a ++ [32] ++ dg l[j]) (by rw [List.length_append, List.length_append, List.length_singleton]; omega)) ?_
    rw [drop_cons _ _ hj, List.map_cons]
    congr 2
    show _ = a ++ (([32] ++ dg l[j]) :: _).flatten
    rw [List.flatten_cons, Lib.joinTail]
    simp [List.append_assoc]
theorem itoaB_dg (x : Int) (h : 0 ≤ x) : itoaB x = mk (dg x) := by
  obtain ⟨n, rfl⟩ := Int.eq_ofNat_of_zero_le h
  unfold itoaB dg
  rw [Lib.itoa_nonneg, Int.toNat_natCast]
  rfl
theorem strS_eq {l : List Int} (hs : Srt l) : strS l = mk ([123] ++ Lib.join (l.map dg) [32] ++ [125]) := by
  have e : l.map itoaB = (l.map dg).map mk := by
    rw [List.map_map]
    exact List.map_congr_left fun x hx => itoaB_dg x (hs.2 x hx).1
  unfold strS
  rw [e]
  have e2 : joinB ((l.map dg).map mk) (⟨#[32]⟩ : ByteArray) = mk (Lib.join (l.map dg) [32]) := by
    unfold joinB
    rw [List.map_map, show ((fun x : ByteArray => x.data.toList) ∘ mk) = id from rfl, List.map_id]
    rfl
  rw [e2]
  show mk [123] ++ _ ++ mk [125] = _
  rw [mk_app, mk_app]
theorem rstring_ev {l : List Int} (hs : Srt l) : Ev (fun k => trickleref04_String.f k l) (strS l) := by
  rw [strS_eq hs]
  have hl := srt_len hs
  refine Ev.congr (fun k => by rw [trickleref04_String.f]) ?_
  cases l with
  | nil =>
    refine Ev.step (fun k => by rw [trickleref04_String.l0]) (Ev.neg (by simp) (Ev.pos (by decide) (Ev.cast (Ev.now _) ?_)))
    rfl
  | cons x l =>
    obtain ⟨n1, n2⟩ := num_at x (hs.2 x (by simp))
    have hc : (x :: l).length = l.length + 1 := rfl
    refine Ev.step (fun k => by rw [trickleref04_String.l0]) (Ev.pos (by omega) (Ev.pos (by omega) (Ev.pos (by omega) (Ev.neg (by omega) ?_))))
    rw [show rd (x :: l) 0 = x from rfl, show (⟨#[123]⟩ : ByteArray) = mk [123] from rfl]
    refine Ev.bind n1 ?_
    rw [mk_size, mk_size, mk_app]
    refine Ev.pos (by rw [List.length_singleton]; omega) ?_
    have h := str_loop hs l.length 1 (by omega) (by omega) ([123] ++ dg x) (by rw [List.length_append, List.length_singleton]; omega)
    rw [show wrap64 (0 + 1) = ((1 : Nat) : Int) from wrap_id (by omega) (by omega)]
    refine Ev.cast h ?_
    rw [List.map_cons, Lib.join_cons]
    show mk ([123] ++ dg x ++ Lib.joinTail [32] (l.map dg) ++ [125]) = _
    rw [List.append_assoc [123]]
end Go.Proofs.YtoobapkccogdhaaDoor.PX
-- Written by a program of this session (wip/xprint.py, over the kit's print tool). Lean checks it.
namespace Go.Proofs.YtoobapkccogdhaaDoor.PX
open Go.RowKit Go.Proofs.YtoobapkccogdhaaDoorW.PrintWords Go.Proofs.YtoobapkccogdhaaDoorW.PrintLast Go.Proofs.YtoobapkccogdhaaDoorW.PrintMore
attribute [local go_sem] max2_int min2_int max_two min_two max_three min_three max_four min_four   -- for this text's walks alone
set_option linter.unusedVariables false
set_option linter.unusedSimpArgs false

/-! ### tricklelaw04_BitsetRange: function 4 -/
def tricklelaw04_BitsetRange.f (k : Nat) (a0 : Int) (a1 : Int) : Option (Bool) := (tricklelaw04_awake.f k).bind fun t245 => (if t245 = true then ((bitset_Range.f k a0 a1).bind fun t246 => ((trickleref04_Range.f k a0 a1).bind fun t250 => ((tricklelaw04_same.f k t246 t250).bind fun t253 => (some t253)))) else (some false))
set_option maxHeartbeats 8000000 in
set_option maxRecDepth 100000 in
theorem tricklelaw04_BitsetRange.calls (k : Nat) (a0 : Int) (a1 : Int) (r : Bool) (w : World) (hG : GW w) (h : tricklelaw04_BitsetRange.f k a0 a1 = some r) :
    Calls Tryd.prog 4 #[.int .i64 a0, .int .i64 a1] w fun e w' => e = .returned (.bool r) ∧ Below w.heap.size w w' := by
  have hu27 := Tryd.underlying27
  have HG := Aside0.mk hG
  clear hG
  have HB := Aside0.mk (Below.refl w.heap.size w)
  have H : ((tricklelaw04_awake.f k).bind fun t245 => (if t245 = true then ((bitset_Range.f k a0 a1).bind fun t246 => ((trickleref04_Range.f k a0 a1).bind fun t250 => ((tricklelaw04_same.f k t246 t250).bind fun t253 => (some t253)))) else (some false))) = some r := h
  clear h
  replace H := Option.bind_eq_some_iff.mp H
  obtain ⟨t245, A30, H⟩ := H
  replace H : (if t245 = true then ((bitset_Range.f k a0 a1).bind fun t246 => ((trickleref04_Range.f k a0 a1).bind fun t250 => ((tricklelaw04_same.f k t246 t250).bind fun t253 => (some t253)))) else (some false)) = some r := H
  have A3 := Aside0.mk A30
  clear A30
  by_cases c4 : t245 = true
  · subst c4
    have H1 : ((bitset_Range.f k a0 a1).bind fun t246 => ((trickleref04_Range.f k a0 a1).bind fun t250 => ((tricklelaw04_same.f k t246 t250).bind fun t253 => (some t253)))) = some r := by rw [if_pos rfl] at H; exact H
    clear H
    have H := H1
    clear H1
    replace H := Option.bind_eq_some_iff.mp H
    obtain ⟨t246, A50, H⟩ := H
    replace H : ((trickleref04_Range.f k a0 a1).bind fun t250 => ((tricklelaw04_same.f k t246 t250).bind fun t253 => (some t253))) = some r := H
    have A5 := Aside0.mk A50
    clear A50
    replace H := Option.bind_eq_some_iff.mp H
    obtain ⟨t250, A60, H⟩ := H
    replace H : ((tricklelaw04_same.f k t246 t250).bind fun t253 => (some t253)) = some r := H
    have A6 := Aside0.mk A60
    clear A60
    replace H := Option.bind_eq_some_iff.mp H
    obtain ⟨t253, A70, H⟩ := H
    replace H : (some t253) = some r := H
    have A7 := Aside0.mk A70
    clear A70
    obtain rfl := Option.some.inj H
    go_enter Tryd.func4, Tryd.ntmps4
    try go_wp2_with (first | ((with_reducible refine gate_callee (f := 11) rfl ?_); refine goesL_ (some 6) rfl rfl Tryd.func11 (by kernel_rfl) rfl #[] rfl (by (try simp only [List.map_toArray, List.map_cons, List.map_nil]); first | done | rfl | (simp only [List.length_drop, List.length_take]; rfl)) ?_; (with_reducible refine (tricklelaw04_awake.calls k  true _ ?side1 A3.out).mono ?_); (case side1 => refine GW.below HG.out ?_; repeat (first | (with_reducible first | exact HB.out | apply below_alloc | apply pw_below_drewN | apply below_drew1) | exact HB.out)); rintro e w8 ⟨rfl, hb⟩; refine ⟨_, rfl, ?_⟩; have n0_ := Aside0.mk (below_step (by repeat (first | (with_reducible first | exact HB.out | apply below_alloc | apply pw_below_drewN | apply below_drew1) | exact HB.out)) hb); clear HB; have HB := n0_; clear n0_; (try clear hb); (try clear hb2); (try clear hk); (try clear hi)) | ((with_reducible refine gate_callee (f := 18) rfl ?_); refine goesL_ (some 10) rfl rfl Tryd.func18 (by kernel_rfl) rfl #[.int .i64 a0, .int .i64 a1] rfl (by (try simp only [List.map_toArray, List.map_cons, List.map_nil]); first | done | rfl | (simp only [List.length_drop, List.length_take]; rfl)) ?_; (with_reducible refine (bitset_Range.calls k a0 a1 t246 _ A5.out).mono ?_); rintro e w9 ⟨v247, rfl, ho0, hb⟩; refine ⟨_, rfl, ?_⟩; have n0_ := Aside0.mk (Kd.V_lower (Kd.V_mono (ok' := fun k_ => True) ho0 (fun k_ hk_ => trivial)) (below_size (by repeat (first | (with_reducible first | exact HB.out | apply below_alloc | apply pw_below_drewN | apply below_drew1) | exact HB.out)))); have n1_ := Aside0.mk (below_step (by repeat (first | (with_reducible first | exact HB.out | apply below_alloc | apply pw_below_drewN | apply below_drew1) | exact HB.out)) hb); clear HB; have HO248 := n0_; have HB := n1_; clear n0_ n1_; (try clear hb); (try clear hb2); (try clear hk); (try clear hi); (try clear ho0)) | ((with_reducible refine gate_dst (N := 5) rfl ?_); refine box_event ?hg (N := 5) ?hd (cs := #[.slice none 0 0]) (t := 27) ?hr ?_; (case hd => rfl); (case hg => rfl); (case hr => first | (go_simp; done) | (go_simp; rfl)); intro gb249 hg w10 hbox hb; have n0_ := Aside0.mk (Kd.V_below (Kd.V_elderB (by (with_reducible repeat (first | apply Kd.V_alloc | apply Kd.V_drewN | apply Kd.V_drew)); exact HO248.out) gb249 (Nat.le_of_eq hg.symm)) hb); have n1_ := Aside0.mk (below_step (by repeat (first | (with_reducible first | exact HB.out | apply below_alloc | apply pw_below_drewN | apply below_drew1) | exact HB.out)) hb); have n2_ := Aside0.mk (hbox); have n3_ := Aside0.mk ((by rw [hg]; exact (below_size (by repeat (first | (with_reducible first | exact HB.out | apply below_alloc | apply pw_below_drewN | apply below_drew1) | exact HB.out))) : w.heap.size ≤ gb249)); have n4_ := Aside0.mk ((by rw [hg]; exact (below_size (by repeat (first | (with_reducible first | exact HB.out | apply below_alloc | apply pw_below_drewN | apply below_drew1) | exact HB.out))) : w.heap.size ≤ gb249)); clear HO248; clear HB; have HO248 := n0_; have HB := n1_; have BK249 := n2_; have GW249 := n3_; have GE249 := n4_; clear n0_ n1_ n2_ n3_ n4_; clear hb hbox hg; obtain ⟨Ao11, co11, eo11⟩ := Kd.V_slice HO248.out; subst eo11; have hcz12_0 : w10.cell? ⟨gb249, 0, none⟩ = some (.slice none 0 0) := (blk_cell BK249.out 0).trans rfl; have hfz12_0 := blk_frozen BK249.out 0))
    have n0_ : Aside0 (Kd.V (Kd.int .u64) 56 (w10.setCell ⟨gb249, 0, none⟩ (.slice Ao11 t246.length co11)) w.heap.size (fun k_ => k_ ≠ gb249) (.slice Ao11 t246.length co11) t246) := ⟨by (with_reducible repeat (first | apply Kd.V_alloc | apply Kd.V_drewN | apply Kd.V_drew)); exact Kd.V_mono (Kd.V_far (p := ⟨gb249, 0, none⟩) (Kd.V_mono HO248.out (fun k_ hk => (⟨hk, hk.2⟩ : _ ∧ k_ ≠ gb249))) (fun _ hk => hk.2) (.slice Ao11 t246.length co11)) (fun _ hk => hk.1.2)⟩
    have n1_ : Aside0 ((w10.setCell ⟨gb249, 0, none⟩ (.slice Ao11 t246.length co11)).heap[gb249]? = some (.cells #[.slice Ao11 t246.length co11] 27 (0, 0))) := ⟨by (with_reducible repeat (first | refine blk_drewN ?_ _ | refine blk_drew ?_ | refine blk_alloc ?_ _)); refine blk_put (cs := #[.slice none 0 0]) ?_ 0 _ rfl; (with_reducible repeat (first | refine blk_drewN ?_ _ | refine blk_drew ?_ | refine blk_alloc ?_ _)); exact BK249.out⟩
    have n2_ : Aside0 (Below w.heap.size w (w10.setCell ⟨gb249, 0, none⟩ (.slice Ao11 t246.length co11))) := ⟨by repeat (first | (with_reducible first | exact HB.out | apply below_alloc | apply pw_below_drewN | apply below_drew1 | refine below_set ?_ GE249.out) | exact HB.out)⟩
    (try clear HO248)
    (try clear BK249)
    (try clear HB)
    generalize (w10.setCell ⟨gb249, 0, none⟩ (.slice Ao11 t246.length co11)) = w13 at n0_ n1_ n2_ ⊢
    have HO248 := n0_
    have BK249 := n1_
    have HB := n2_
    clear n0_ n1_ n2_
    have n0_ := Aside0.mk (Kd.V_drew HO248.out)
    have n1_ := Aside0.mk (blk_drew BK249.out)
    have n2_ := Aside0.mk (below_drew1 HB.out)
    clear HO248
    clear BK249
    clear HB
    have HO248 := n0_
    have BK249 := n1_
    have HB := n2_
    clear n0_ n1_ n2_
    refine start_ (n := 6) (S := fun w' => w'.cell? ⟨gb249, 0, none⟩ = some (.slice Ao11 t246.length co11)) (ds := []) #[false, false, false, false, false, false] (by kernel_rfl) rfl rfl ((blk_cell BK249.out 0).trans rfl) (fun hHeld => ?_)
    generalize w13.drew = w14 at HO248 BK249 HB hHeld ⊢
    refine pure_ (i := 1) (N := some 12) (v := ?_) (a' := ?_) #[false, true, false, false, false, false] rfl rfl (by kernel_rfl) (fun _ _ _ h => h) (Or.inl ⟨by rfl, ?_⟩) ?_ ?_
    rotate_left
    · intro w'
      go_simp
      with_reducible rfl
    rotate_left
    · simp only [Act.put, List.setIfInBounds_toArray, List.set_cons_zero, List.set_cons_succ, i64_w, i32_w]
      rfl
    refine pure_ (i := 2) (N := some 13) (v := ?_) (a' := ?_) #[false, true, true, false, false, false] rfl rfl (by kernel_rfl) (fun _ _ _ h => h) (Or.inl ⟨by rfl, ?_⟩) ?_ ?_
    rotate_left
    · intro w'
      go_simp
      with_reducible rfl
    rotate_left
    · simp only [Act.put, List.setIfInBounds_toArray, List.set_cons_zero, List.set_cons_succ, i64_w, i32_w]
      rfl
    refine take_ (i := 0) (N := some 11) (v := ?_) (a' := ?_) #[true, true, true, false, false, false] rfl rfl (by kernel_rfl) (fun _ _ _ h => h) (Or.inl ⟨by rfl, ?_⟩) hHeld ?_ ?_
    rotate_left
    · intro w' s0
      go_simp
      with_reducible rfl
    rotate_left
    · simp only [Act.put, List.setIfInBounds_toArray, List.set_cons_zero, List.set_cons_succ, i64_w, i32_w]
      rfl
    refine one_ (i := 3) (N := some 14) #[true, true, true, true, false, false] rfl rfl (by kernel_rfl) (by decide) (fun K hK => ?_)
    refine goes_ Tryd.func19 (by kernel_rfl) rfl #[.int .i64 a0, .int .i64 a1] (by rfl) rfl rfl (by (try simp only [List.map_toArray, List.map_cons, List.map_nil]); first | done | rfl | (simp only [List.length_drop, List.length_take]; rfl)) ?_
    with_reducible refine (trickleref04_Range.calls k a0 a1 t250 _ A6.out).mono ?_
    rintro e w15 ⟨v251, rfl, ho0, hb⟩
    refine ⟨_, rfl, ?_⟩
    have n0_ := Aside0.mk (Kd.V_elder' (by (with_reducible repeat (first | apply Kd.V_alloc | apply Kd.V_drewN | apply Kd.V_drew)); exact HO248.out) (Kd.R_base ho0) hb)
    have n1_ := Aside0.mk (Kd.R_lower ho0 (below_size (by repeat (first | (with_reducible first | exact HB.out | apply below_alloc | apply pw_below_drewN | apply below_drew1 | refine below_set ?_ GE249.out) | exact HB.out))))
    have n2_ := Aside0.mk (blk_below (g := gb249) (o := .cells #[.slice Ao11 t246.length co11] 27 (0, 0)) (by (with_reducible repeat (first | refine blk_drewN ?_ _ | refine blk_drew ?_ | refine blk_alloc ?_ _)); exact BK249.out) hb)
    have n3_ := Aside0.mk (below_step (by repeat (first | (with_reducible first | exact HB.out | apply below_alloc | apply pw_below_drewN | apply below_drew1 | refine below_set ?_ GE249.out) | exact HB.out)) hb)
    clear HO248
    clear BK249
    clear HB
    have HO248 := n0_
    have HO252 := n1_
    have BK249 := n2_
    have HB := n3_
    clear n0_ n1_ n2_ n3_
    (try clear hb)
    (try clear hb2)
    (try clear hk)
    (try clear hi)
    (try clear ho0)
    obtain ⟨Ao16, co16, eo16⟩ := Kd.R_slice HO252.out
    (first | subst eo16 | (injection eo16 with f1_ f2_ f3_; have f4_ := f1_.symm; have f5_ := f3_.symm; clear f1_ f2_ f3_; subst f4_; subst f5_))
    refine hK.out _ _ ((blk_cell BK249.out 0).trans rfl) (fun hHeld => ?_)
    clear hK K
    refine norm_ (a' := ?_) ?_ ?_
    rotate_left
    · show Act.put _ (some 14) _ = _
      simp only [Act.put, List.setIfInBounds_toArray, List.set_cons_zero, List.set_cons_succ, i64_w, i32_w]
      rfl
    refine one_ (i := 4) (N := some 15) #[true, true, true, true, true, false] rfl rfl (by kernel_rfl) (by decide) (fun K hK => ?_)
    refine goes_ Tryd.func15 (by kernel_rfl) rfl #[.agg #[.slice Ao11 t246.length co11], .slice Ao16 t250.length co16] (by rfl) rfl rfl (by (try simp only [List.map_toArray, List.map_cons, List.map_nil]); first | done | rfl | (simp only [List.length_drop, List.length_take]; rfl)) ?_
    with_reducible refine (tricklelaw04_same.calls k _ _ t246 _ _ t250 t253 _ ?side1 ?side2 ?side3 ?side4 ?side5 A7.out).mono ?_
    (case side1 => repeat (first | exact (Kd.V_reads' HO248.out).2.2 | (with_reducible refine Kd.C_alloc ?_ _) | (with_reducible refine Kd.C_drewN ?_ _) | (with_reducible refine Kd.C_drew ?_)))
    (case side2 => exact (Kd.V_reads' HO248.out).2.1)
    (case side3 => repeat (first | exact (Kd.R_reads' HO252.out).2.2 | (with_reducible refine Kd.C_alloc ?_ _) | (with_reducible refine Kd.C_drewN ?_ _) | (with_reducible refine Kd.C_drew ?_)))
    (case side4 => exact (Kd.R_reads' HO252.out).2.1)
    (case side5 => refine GW.below HG.out ?_; repeat (first | (with_reducible first | exact HB.out | apply below_alloc | apply pw_below_drewN | apply below_drew1 | refine below_set ?_ GE249.out) | exact HB.out))
    rintro e w17 ⟨rfl, hb⟩
    refine ⟨_, rfl, ?_⟩
    have n0_ := Aside0.mk (Kd.V_below (by (with_reducible repeat (first | apply Kd.V_alloc | apply Kd.V_drewN | apply Kd.V_drew)); exact HO248.out) hb)
    have n1_ := Aside0.mk (Kd.R_below (by (with_reducible repeat (first | apply Kd.R_alloc | apply Kd.R_drewN | apply Kd.R_drew)); exact HO252.out) hb)
    have n2_ := Aside0.mk (blk_below (g := gb249) (o := .cells #[.slice Ao11 t246.length co11] 27 (0, 0)) (by (with_reducible repeat (first | refine blk_drewN ?_ _ | refine blk_drew ?_ | refine blk_alloc ?_ _)); exact BK249.out) hb)
    have n3_ := Aside0.mk (below_step (by repeat (first | (with_reducible first | exact HB.out | apply below_alloc | apply pw_below_drewN | apply below_drew1 | refine below_set ?_ GE249.out) | exact HB.out)) hb)
    clear HO248
    clear HO252
    clear BK249
    clear HB
    have HO248 := n0_
    have HO252 := n1_
    have BK249 := n2_
    have HB := n3_
    clear n0_ n1_ n2_ n3_
    (try clear hb)
    (try clear hb2)
    (try clear hk)
    (try clear hi)
    refine hK.out _ _ ((blk_cell BK249.out 0).trans rfl) (fun hHeld => ?_)
    clear hK K
    refine norm_ (a' := ?_) ?_ ?_
    rotate_left
    · show Act.put _ (some 15) _ = _
      simp only [Act.put, List.setIfInBounds_toArray, List.set_cons_zero, List.set_cons_succ, i64_w, i32_w]
      rfl
    refine pure_ (i := 5) (N := some 4) (v := ?_) (a' := ?_) #[true, true, true, true, true, true] rfl rfl (by kernel_rfl) (fun _ _ _ h => h) (Or.inl ⟨by rfl, ?_⟩) ?_ ?_
    rotate_left
    · intro w'
      go_simp
      with_reducible rfl
    rotate_left
    · simp only [Act.put, List.setIfInBounds_toArray, List.set_cons_zero, List.set_cons_succ, i64_w, i32_w]
      rfl
    refine done_ (by kernel_rfl) ?_
    try go_wp2
    go_ret
    exact ⟨by first | rfl | (simp [errW_none, errW_some] <;> rfl) | (simp [*, errW_none, errW_some] <;> rfl), by repeat (first | (with_reducible first | exact HB.out | apply below_alloc | apply pw_below_drewN | apply below_drew1 | refine below_set ?_ GE249.out) | exact HB.out)⟩
  · replace c4 := Bool.eq_false_iff.mpr c4
    subst c4
    have H1 : (some false) = some r := by rw [if_neg (show ¬ (false = true) by decide)] at H; exact H
    clear H
    have H := H1
    clear H1
    obtain rfl := Option.some.inj H
    go_enter Tryd.func4, Tryd.ntmps4
    go_wp2_with (first | ((with_reducible refine gate_callee (f := 11) rfl ?_); refine goesL_ (some 6) rfl rfl Tryd.func11 (by kernel_rfl) rfl #[] rfl (by (try simp only [List.map_toArray, List.map_cons, List.map_nil]); first | done | rfl | (simp only [List.length_drop, List.length_take]; rfl)) ?_; (with_reducible refine (tricklelaw04_awake.calls k  false _ ?side1 A3.out).mono ?_); (case side1 => refine GW.below HG.out ?_; repeat (first | (with_reducible first | exact HB.out | apply below_alloc | apply pw_below_drewN | apply below_drew1) | exact HB.out)); rintro e w18 ⟨rfl, hb⟩; refine ⟨_, rfl, ?_⟩; have n0_ := Aside0.mk (below_step (by repeat (first | (with_reducible first | exact HB.out | apply below_alloc | apply pw_below_drewN | apply below_drew1) | exact HB.out)) hb); clear HB; have HB := n0_; clear n0_; (try clear hb); (try clear hb2); (try clear hk); (try clear hi)))
    go_ret
    exact ⟨by first | rfl | (simp [errW_none, errW_some] <;> rfl) | (simp [*, errW_none, errW_some] <;> rfl), by repeat (first | (with_reducible first | exact HB.out | apply below_alloc | apply pw_below_drewN | apply below_drew1) | exact HB.out)⟩

end Go.Proofs.YtoobapkccogdhaaDoor.PX
/- Range in plain words. -/
namespace Go.Proofs.YtoobapkccogdhaaDoor.Pure
open Go.RowKit Go.Proofs.YtoobapkccogdhaaDoor.PX Go.Proofs.YtoobapkccogdhaaDoorW.PrintWords Go.Proofs.YtoobapkccogdhaaDoorW.PrintLast Go.Proofs.YtoobapkccogdhaaDoorW.PrintMore
set_option linter.unusedVariables false
theorem BitsetRange (lo hi : Int) (h1 : -9223372036854775808 ≤ lo ∧ lo ≤ 9223372036854775807) (h2 : -9223372036854775808 ≤ hi ∧ hi ≤ 9223372036854775807) : ∃ k, tricklelaw04_BitsetRange.f k lo hi = some true := by
  refine Ev.rounds ?_
  obtain ⟨ws, w1, w2, w3⟩ := range_ev lo hi
  obtain ⟨x, x1, x2, x3⟩ := rrange_ev lo hi h1.2
  refine Ev.congr (fun k => by rw [tricklelaw04_BitsetRange.f]) (Ev.bind awake_ev (Ev.pos rfl (Ev.bind w1 (Ev.bind x1 (Ev.bind (same_ev w2 x2 (fun y => (w3 y).trans (x3 y).symm)) (Ev.now _))))))
end Go.Proofs.YtoobapkccogdhaaDoor.Pure
