/- Parts of the proof, merged in build order: PXx20. -/
import Derived.Test.YtfhnpphceeoeeaaDoorV1
import Derived.Test.YtfhnpphceeoeeaaDoorV5
-- Written by a program of this session (wip/xprint.py, over the kit's print tool). Lean checks it.
namespace Go.Proofs.YtfhnpphceeoeeaaDoor.PX
open Go.RowKit Go.Proofs.YtfhnpphceeoeeaaDoorW.PrintWords Go.Proofs.YtfhnpphceeoeeaaDoorW.PrintLast Go.Proofs.YtfhnpphceeoeeaaDoorW.PrintMore
attribute [local go_sem] max2_int min2_int max_two min_two max_three min_three max_four min_four   -- for this text's walks alone
set_option linter.unusedVariables false
set_option linter.unusedSimpArgs false

/-! ### trickleref43_Format: function 25 -/
mutual
def trickleref43_Format.j0 : Nat → ByteArray → Int → Int → List Int → Option (ByteArray)
  | 0, _, _, _, _ => none
  | k + 1, x4, x259000, x259001, x259002 => trickleref43_Format.l0 k x4 (⟨#[48, 49, 50, 51, 52, 53, 54, 55, 56, 57, 97, 98, 99, 100, 101, 102]⟩ : ByteArray) 0 x259000 x259001 x259002
def trickleref43_Format.l0 : Nat → ByteArray → ByteArray → Int → Int → Int → List Int → Option (ByteArray)
  | 0, _, _, _, _, _, _ => none
  | k + 1, x4, x5, x6, x259000, x259001, x259002 => if x6 < (x259002.length : Int) then (if 0 ≤ x6 then (if 0 ≤ (wrap64 (Int.tdiv (wrap64 (rd x259002 x6)) 16)) then (if (wrap64 (Int.tdiv (wrap64 (rd x259002 x6)) 16)) ≤ (wrap64 ((wrap64 (Int.tdiv (wrap64 (rd x259002 x6)) 16)) + 1)) then (if (wrap64 ((wrap64 (Int.tdiv (wrap64 (rd x259002 x6)) 16)) + 1)) ≤ (x5.size : Int) then (if x4.size + (x5.extract ((wrap64 (Int.tdiv (wrap64 (rd x259002 x6)) 16)) : Int).toNat ((wrap64 ((wrap64 (Int.tdiv (wrap64 (rd x259002 x6)) 16)) + 1)) : Int).toNat).size ≤ 9223372036854775807 then (if 0 ≤ (Int.tmod (wrap64 (rd x259002 x6)) 16) then (if (Int.tmod (wrap64 (rd x259002 x6)) 16) ≤ (wrap64 ((Int.tmod (wrap64 (rd x259002 x6)) 16) + 1)) then (if (wrap64 ((Int.tmod (wrap64 (rd x259002 x6)) 16) + 1)) ≤ (x5.size : Int) then (if (x4 ++ (x5.extract ((wrap64 (Int.tdiv (wrap64 (rd x259002 x6)) 16)) : Int).toNat ((wrap64 ((wrap64 (Int.tdiv (wrap64 (rd x259002 x6)) 16)) + 1)) : Int).toNat)).size + (x5.extract ((Int.tmod (wrap64 (rd x259002 x6)) 16) : Int).toNat ((wrap64 ((Int.tmod (wrap64 (rd x259002 x6)) 16) + 1)) : Int).toNat).size ≤ 9223372036854775807 then (trickleref43_Format.l0 k ((x4 ++ (x5.extract ((wrap64 (Int.tdiv (wrap64 (rd x259002 x6)) 16)) : Int).toNat ((wrap64 ((wrap64 (Int.tdiv (wrap64 (rd x259002 x6)) 16)) + 1)) : Int).toNat)) ++ (x5.extract ((Int.tmod (wrap64 (rd x259002 x6)) 16) : Int).toNat ((wrap64 ((Int.tmod (wrap64 (rd x259002 x6)) 16) + 1)) : Int).toNat)) x5 (wrap64 (x6 + 1)) x259000 x259001 x259002) else (none)) else (none)) else (none)) else (none)) else (none)) else (none)) else (none)) else (none)) else (none)) else (some x4)
end
def trickleref43_Format.f (k : Nat) (a0_0 : Int) (a0_1 : Int) (l0_2 : List Int) : Option (ByteArray) := (trickleref43_Valid.f a0_0 a0_1 l0_2).bind fun t259 => (if t259 = true then ((some (([(⟨#[]⟩ : ByteArray), (⟨#[100, 97, 116, 97]⟩ : ByteArray), (⟨#[97, 99, 107]⟩ : ByteArray), (⟨#[111, 102, 102, 101, 114]⟩ : ByteArray), (⟨#[99, 104, 117, 110, 107]⟩ : ByteArray), (⟨#[119, 97, 110, 116]⟩ : ByteArray), (⟨#[114, 117, 110, 110, 105, 110, 103]⟩ : ByteArray)] : List ByteArray) : List ByteArray)).bind fun y260 => (if 0 ≤ a0_0 then (if a0_0 < (y260.length : Int) then (if (rdOf ByteArray.empty y260 a0_0).size + 1 ≤ 9223372036854775807 then ((trickleref11_Num.f k a0_1).bind fun t264 => (if ((rdOf ByteArray.empty y260 a0_0) ++ (⟨#[32]⟩ : ByteArray)).size + t264.size ≤ 9223372036854775807 then (if (l0_2.length : Int) > 0 then (if (((rdOf ByteArray.empty y260 a0_0) ++ (⟨#[32]⟩ : ByteArray)) ++ t264).size + 1 ≤ 9223372036854775807 then (trickleref43_Format.j0 k ((((rdOf ByteArray.empty y260 a0_0) ++ (⟨#[32]⟩ : ByteArray)) ++ t264) ++ (⟨#[32]⟩ : ByteArray)) a0_0 a0_1 l0_2) else (none)) else (trickleref43_Format.j0 k (((rdOf ByteArray.empty y260 a0_0) ++ (⟨#[32]⟩ : ByteArray)) ++ t264) a0_0 a0_1 l0_2)) else (none))) else (none)) else (none)) else (none))) else (some (⟨#[105, 110, 118, 97, 108, 105, 100]⟩ : ByteArray)))
def trickleref43_Format.T4 : Bool × List (List Nat × List Nat) := (true, [([], []), ([], []), ([1], [1]), ([0, 2], [0, 2]), ([3], [3]), ([4], [4]), ([], []), ([6], [6]), ([7], [7]), ([5, 8], [5, 8]), ([9, 8, 0, 1, 2, 3, 4, 5, 6, 7, 8, 9], [9])])
def trickleref43_Format.B4 : List Nat := [0, 0, 2, 7, 15, 31, 0, 64, 192, 511, 1023]
theorem trickleref43_Format.tab4 : rtab .any (opsOf Tryd.f25 4) = trickleref43_Format.T4 := by kernel_rfl
theorem trickleref43_Format.bits4 : waitsOk trickleref43_Format.T4.2 trickleref43_Format.B4 = true := by kernel_rfl
def trickleref43_Format.T12 : Bool × List (List Nat × List Nat) := (true, [([], []), ([], []), ([], []), ([2], [2]), ([], []), ([4], [4]), ([5], [5]), ([1, 3, 6], [1, 3, 6]), ([0, 7], [0, 7]), ([], []), ([], []), ([10], [10]), ([], []), ([12], [12]), ([13], [13]), ([9, 11, 14], [9, 11, 14]), ([8, 15], [8, 15]), ([16, 0, 1, 2, 3, 4, 5, 6, 7, 8, 9, 10, 11, 12, 13, 14, 15, 16], [0, 16])])
def trickleref43_Format.B12 : List Nat := [0, 0, 0, 4, 0, 16, 48, 126, 255, 0, 0, 1024, 0, 4096, 12288, 32256, 65535, 131071]
theorem trickleref43_Format.tab12 : rtab .any (opsOf Tryd.f25 12) = trickleref43_Format.T12 := by kernel_rfl
theorem trickleref43_Format.bits12 : waitsOk trickleref43_Format.T12.2 trickleref43_Format.B12 = true := by kernel_rfl
set_option maxHeartbeats 8000000 in
set_option maxRecDepth 100000 in
theorem trickleref43_Format.calls (k : Nat) (a0_0 : Int) (a0_1 : Int) (A0_2 : Option Addr) (c0_2 : Nat) (l0_2 : List Int) (r : ByteArray) (w : World) (hr0_2 : Kd.C (Kd.int .u8) w A0_2 l0_2.length l0_2) (hc0_2 : l0_2.length ≤ c0_2) (h : trickleref43_Format.f k a0_0 a0_1 l0_2 = some r) :
    Calls Tryd.prog 25 #[.agg #[.int .i64 a0_0, .int .i64 a0_1, .slice A0_2 l0_2.length c0_2]] w fun e w' => e = .returned (.string r) ∧ Below w.heap.size w w' := by
  have hu29 := Tryd.underlying29
  have HR0_2 := Aside0.mk hr0_2
  have HC0_2 := Aside0.mk hc0_2
  clear hr0_2 hc0_2
  have HB := Aside0.mk (Below.refl w.heap.size w)
  have H : ((trickleref43_Valid.f a0_0 a0_1 l0_2).bind fun t259 => (if t259 = true then ((some (([(⟨#[]⟩ : ByteArray), (⟨#[100, 97, 116, 97]⟩ : ByteArray), (⟨#[97, 99, 107]⟩ : ByteArray), (⟨#[111, 102, 102, 101, 114]⟩ : ByteArray), (⟨#[99, 104, 117, 110, 107]⟩ : ByteArray), (⟨#[119, 97, 110, 116]⟩ : ByteArray), (⟨#[114, 117, 110, 110, 105, 110, 103]⟩ : ByteArray)] : List ByteArray) : List ByteArray)).bind fun y260 => (if 0 ≤ a0_0 then (if a0_0 < (y260.length : Int) then (if (rdOf ByteArray.empty y260 a0_0).size + 1 ≤ 9223372036854775807 then ((trickleref11_Num.f k a0_1).bind fun t264 => (if ((rdOf ByteArray.empty y260 a0_0) ++ (⟨#[32]⟩ : ByteArray)).size + t264.size ≤ 9223372036854775807 then (if (l0_2.length : Int) > 0 then (if (((rdOf ByteArray.empty y260 a0_0) ++ (⟨#[32]⟩ : ByteArray)) ++ t264).size + 1 ≤ 9223372036854775807 then (trickleref43_Format.j0 k ((((rdOf ByteArray.empty y260 a0_0) ++ (⟨#[32]⟩ : ByteArray)) ++ t264) ++ (⟨#[32]⟩ : ByteArray)) a0_0 a0_1 l0_2) else (none)) else (trickleref43_Format.j0 k (((rdOf ByteArray.empty y260 a0_0) ++ (⟨#[32]⟩ : ByteArray)) ++ t264) a0_0 a0_1 l0_2)) else (none))) else (none)) else (none)) else (none))) else (some (⟨#[105, 110, 118, 97, 108, 105, 100]⟩ : ByteArray)))) = some r := h
  clear h
  replace H := Option.bind_eq_some_iff.mp H
  obtain ⟨t259, A20, H⟩ := H
  replace H : (if t259 = true then ((some (([(⟨#[]⟩ : ByteArray), (⟨#[100, 97, 116, 97]⟩ : ByteArray), (⟨#[97, 99, 107]⟩ : ByteArray), (⟨#[111, 102, 102, 101, 114]⟩ : ByteArray), (⟨#[99, 104, 117, 110, 107]⟩ : ByteArray), (⟨#[119, 97, 110, 116]⟩ : ByteArray), (⟨#[114, 117, 110, 110, 105, 110, 103]⟩ : ByteArray)] : List ByteArray) : List ByteArray)).bind fun y260 => (if 0 ≤ a0_0 then (if a0_0 < (y260.length : Int) then (if (rdOf ByteArray.empty y260 a0_0).size + 1 ≤ 9223372036854775807 then ((trickleref11_Num.f k a0_1).bind fun t264 => (if ((rdOf ByteArray.empty y260 a0_0) ++ (⟨#[32]⟩ : ByteArray)).size + t264.size ≤ 9223372036854775807 then (if (l0_2.length : Int) > 0 then (if (((rdOf ByteArray.empty y260 a0_0) ++ (⟨#[32]⟩ : ByteArray)) ++ t264).size + 1 ≤ 9223372036854775807 then (trickleref43_Format.j0 k ((((rdOf ByteArray.empty y260 a0_0) ++ (⟨#[32]⟩ : ByteArray)) ++ t264) ++ (⟨#[32]⟩ : ByteArray)) a0_0 a0_1 l0_2) else (none)) else (trickleref43_Format.j0 k (((rdOf ByteArray.empty y260 a0_0) ++ (⟨#[32]⟩ : ByteArray)) ++ t264) a0_0 a0_1 l0_2)) else (none))) else (none)) else (none)) else (none))) else (some (⟨#[105, 110, 118, 97, 108, 105, 100]⟩ : ByteArray))) = some r := H
  have A2 := Aside0.mk A20
  clear A20
  by_cases c3 : t259 = true
  · subst c3
    have H1 : ((some (([(⟨#[]⟩ : ByteArray), (⟨#[100, 97, 116, 97]⟩ : ByteArray), (⟨#[97, 99, 107]⟩ : ByteArray), (⟨#[111, 102, 102, 101, 114]⟩ : ByteArray), (⟨#[99, 104, 117, 110, 107]⟩ : ByteArray), (⟨#[119, 97, 110, 116]⟩ : ByteArray), (⟨#[114, 117, 110, 110, 105, 110, 103]⟩ : ByteArray)] : List ByteArray) : List ByteArray)).bind fun y260 => (if 0 ≤ a0_0 then (if a0_0 < (y260.length : Int) then (if (rdOf ByteArray.empty y260 a0_0).size + 1 ≤ 9223372036854775807 then ((trickleref11_Num.f k a0_1).bind fun t264 => (if ((rdOf ByteArray.empty y260 a0_0) ++ (⟨#[32]⟩ : ByteArray)).size + t264.size ≤ 9223372036854775807 then (if (l0_2.length : Int) > 0 then (if (((rdOf ByteArray.empty y260 a0_0) ++ (⟨#[32]⟩ : ByteArray)) ++ t264).size + 1 ≤ 9223372036854775807 then (trickleref43_Format.j0 k ((((rdOf ByteArray.empty y260 a0_0) ++ (⟨#[32]⟩ : ByteArray)) ++ t264) ++ (⟨#[32]⟩ : ByteArray)) a0_0 a0_1 l0_2) else (none)) else (trickleref43_Format.j0 k (((rdOf ByteArray.empty y260 a0_0) ++ (⟨#[32]⟩ : ByteArray)) ++ t264) a0_0 a0_1 l0_2)) else (none))) else (none)) else (none)) else (none))) = some r := by rw [if_pos rfl] at H; exact H
    clear H
    have H := H1
    clear H1
    obtain ⟨y260, hy260⟩ : ∃ y_ : List ByteArray, y_ = (([(⟨#[]⟩ : ByteArray), (⟨#[100, 97, 116, 97]⟩ : ByteArray), (⟨#[97, 99, 107]⟩ : ByteArray), (⟨#[111, 102, 102, 101, 114]⟩ : ByteArray), (⟨#[99, 104, 117, 110, 107]⟩ : ByteArray), (⟨#[119, 97, 110, 116]⟩ : ByteArray), (⟨#[114, 117, 110, 110, 105, 110, 103]⟩ : ByteArray)] : List ByteArray)) := ⟨_, rfl⟩
    replace H : (if 0 ≤ a0_0 then (if a0_0 < (y260.length : Int) then (if (rdOf ByteArray.empty y260 a0_0).size + 1 ≤ 9223372036854775807 then ((trickleref11_Num.f k a0_1).bind fun t264 => (if ((rdOf ByteArray.empty y260 a0_0) ++ (⟨#[32]⟩ : ByteArray)).size + t264.size ≤ 9223372036854775807 then (if (l0_2.length : Int) > 0 then (if (((rdOf ByteArray.empty y260 a0_0) ++ (⟨#[32]⟩ : ByteArray)) ++ t264).size + 1 ≤ 9223372036854775807 then (trickleref43_Format.j0 k ((((rdOf ByteArray.empty y260 a0_0) ++ (⟨#[32]⟩ : ByteArray)) ++ t264) ++ (⟨#[32]⟩ : ByteArray)) a0_0 a0_1 l0_2) else (none)) else (trickleref43_Format.j0 k (((rdOf ByteArray.empty y260 a0_0) ++ (⟨#[32]⟩ : ByteArray)) ++ t264) a0_0 a0_1 l0_2)) else (none))) else (none)) else (none)) else (none)) = some r := by first | (rw [hy260]; with_reducible exact H) | (have H2_ := (Option.bind_some _ _).symm.trans H; rw [hy260]; with_reducible exact H2_) | (have H2_ := (Option.bind_some _ _).symm.trans H; with_reducible exact H2_) | with_reducible exact H | (rw [hy260]; exact H) | exact H
    have Ny260 := Aside0.mk hy260
    clear hy260
    by_cases c4 : 0 ≤ a0_0
    · rw [if_pos c4] at H
      have c4b0 : decide (0 ≤ a0_0) = true := decide_eq_true c4
      clear c4
      by_cases c5 : a0_0 < (y260.length : Int)
      · rw [if_pos c5] at H
        have c5b0 : decide (a0_0 < (y260.length : Int)) = true := decide_eq_true c5
        clear c5
        by_cases c6 : (rdOf ByteArray.empty y260 a0_0).size + 1 ≤ 9223372036854775807
        · rw [if_pos c6] at H
          have c6b0 := eq_true c6
          have c6b1 : decide ((rdOf ByteArray.empty y260 a0_0).size + 1 ≤ 9223372036854775807) = true := decide_eq_true c6
          try have c6b2 : (9223372036854775807 < (rdOf ByteArray.empty y260 a0_0).size + 1) = False := eq_false (Nat.not_lt.2 c6)
          replace H := Option.bind_eq_some_iff.mp H
          obtain ⟨t264, A70, H⟩ := H
          replace H : (if ((rdOf ByteArray.empty y260 a0_0) ++ (⟨#[32]⟩ : ByteArray)).size + t264.size ≤ 9223372036854775807 then (if (l0_2.length : Int) > 0 then (if (((rdOf ByteArray.empty y260 a0_0) ++ (⟨#[32]⟩ : ByteArray)) ++ t264).size + 1 ≤ 9223372036854775807 then (trickleref43_Format.j0 k ((((rdOf ByteArray.empty y260 a0_0) ++ (⟨#[32]⟩ : ByteArray)) ++ t264) ++ (⟨#[32]⟩ : ByteArray)) a0_0 a0_1 l0_2) else (none)) else (trickleref43_Format.j0 k (((rdOf ByteArray.empty y260 a0_0) ++ (⟨#[32]⟩ : ByteArray)) ++ t264) a0_0 a0_1 l0_2)) else (none)) = some r := H
          have A7 := Aside0.mk A70
          clear A70
          by_cases c8 : ((rdOf ByteArray.empty y260 a0_0) ++ (⟨#[32]⟩ : ByteArray)).size + t264.size ≤ 9223372036854775807
          · rw [if_pos c8] at H
            have c8b3 : (9223372036854775807 < (rdOf ByteArray.empty y260 a0_0).size + 1 + t264.size) = False := by
              have h_ : (((rdOf ByteArray.empty y260 a0_0) ++ (⟨#[32]⟩ : ByteArray)).size = (rdOf ByteArray.empty y260 a0_0).size + 1) := by simp only [ByteArray.size_append]; rfl
              exact eq_false (by omega)
            have c8b0 := eq_true c8
            have c8b1 : decide (((rdOf ByteArray.empty y260 a0_0) ++ (⟨#[32]⟩ : ByteArray)).size + t264.size ≤ 9223372036854775807) = true := decide_eq_true c8
            try have c8b2 : (9223372036854775807 < ((rdOf ByteArray.empty y260 a0_0) ++ (⟨#[32]⟩ : ByteArray)).size + t264.size) = False := eq_false (Nat.not_lt.2 c8)
            have HC9 := Aside0.mk H
            clear H
            go_enter Tryd.func25, Tryd.ntmps25
            try go_wp2_with (first | ((with_reducible refine gate_dst (N := 1) rfl ?_); refine box_event ?hg (N := 1) ?hd (cs := #[.int .i64 a0_0, .int .i64 a0_1, .slice A0_2 l0_2.length c0_2]) (t := 29) ?hr ?_; (case hd => rfl); (case hg => rfl); (case hr => first | (go_simp; done) | (go_simp; rfl)); intro gb258 hg w10 hbox hb; have n0_ := Aside0.mk (below_step (by repeat (first | (with_reducible first | exact HB.out | apply below_alloc | apply pw_below_drewN | apply below_drew1) | exact HB.out)) hb); have n1_ := Aside0.mk (hbox); have n2_ := Aside0.mk ((by rw [hg]; exact (below_size (by repeat (first | (with_reducible first | exact HB.out | apply below_alloc | apply pw_below_drewN | apply below_drew1) | exact HB.out))) : w.heap.size ≤ gb258)); have n3_ := Aside0.mk ((by rw [hg]; exact (below_size (by repeat (first | (with_reducible first | exact HB.out | apply below_alloc | apply pw_below_drewN | apply below_drew1) | exact HB.out))) : w.heap.size ≤ gb258)); clear HB; have HB := n0_; have BK258 := n1_; have GW258 := n2_; have GE258 := n3_; clear n0_ n1_ n2_ n3_; clear hb hbox hg; have hcz11_0 : w10.cell? ⟨gb258, 0, none⟩ = some (.int .i64 a0_0) := (blk_cell BK258.out 0).trans rfl; have hcz11_1 : w10.cell? ⟨gb258, 1, none⟩ = some (.int .i64 a0_1) := (blk_cell BK258.out 1).trans rfl; have hcz11_2 : w10.cell? ⟨gb258, 2, none⟩ = some (.slice A0_2 l0_2.length c0_2) := (blk_cell BK258.out 2).trans rfl; have hfz11_0 := blk_frozen BK258.out 0; have hfz11_1 := blk_frozen BK258.out 1; have hfz11_2 := blk_frozen BK258.out 2) | ((with_reducible refine gate_callee (f := 23) rfl ?_); refine goesL_ (some 9) rfl rfl Tryd.func23 (by kernel_rfl) rfl #[.agg #[.int .i64 a0_0, .int .i64 a0_1, .slice A0_2 l0_2.length c0_2]] rfl (by (try simp only [List.map_toArray, List.map_cons, List.map_nil]); first | done | rfl | (simp only [List.length_drop, List.length_take]; rfl)) ?_; (with_reducible refine (trickleref43_Valid.calls a0_0 a0_1 _ _ l0_2 true _ ?side1 ?side2 A2.out).mono ?_); (case side1 => repeat (first | exact (Kd.C_below HR0_2.out HB.out) | (with_reducible refine Kd.C_alloc ?_ _) | (with_reducible refine Kd.C_drewN ?_ _) | (with_reducible refine Kd.C_drew ?_))); (case side2 => exact HC0_2.out); rintro e w12 ⟨rfl, hb⟩; refine ⟨_, rfl, ?_⟩; have n0_ := Aside0.mk (blk_below (g := gb258) (o := .cells #[.int .i64 a0_0, .int .i64 a0_1, .slice A0_2 l0_2.length c0_2] 29 (0, 0)) (by (with_reducible repeat (first | refine blk_drewN ?_ _ | refine blk_drew ?_ | refine blk_alloc ?_ _)); exact BK258.out) hb); have n1_ := Aside0.mk (below_step (by repeat (first | (with_reducible first | exact HB.out | apply below_alloc | apply pw_below_drewN | apply below_drew1 | refine below_set ?_ GE258.out) | exact HB.out)) hb); clear BK258; clear HB; have BK258 := n0_; have HB := n1_; clear n0_ n1_; (try clear hb); (try clear hb2); (try clear hk); (try clear hi)) | ((with_reducible refine gate_dst (N := 11) rfl ?_); refine Kd.R_lit Kd.string _ 9 ?hg (N := 11) ?hd (xs := ([(⟨#[]⟩ : ByteArray), (⟨#[100, 97, 116, 97]⟩ : ByteArray), (⟨#[97, 99, 107]⟩ : ByteArray), (⟨#[111, 102, 102, 101, 114]⟩ : ByteArray), (⟨#[99, 104, 117, 110, 107]⟩ : ByteArray), (⟨#[119, 97, 110, 116]⟩ : ByteArray), (⟨#[114, 117, 110, 110, 105, 110, 103]⟩ : ByteArray)] : List ByteArray)) (inner := [.string (⟨#[]⟩ : ByteArray), .string (⟨#[100, 97, 116, 97]⟩ : ByteArray), .string (⟨#[97, 99, 107]⟩ : ByteArray), .string (⟨#[111, 102, 102, 101, 114]⟩ : ByteArray), .string (⟨#[99, 104, 117, 110, 107]⟩ : ByteArray), .string (⟨#[119, 97, 110, 116]⟩ : ByteArray), .string (⟨#[114, 117, 110, 110, 105, 110, 103]⟩ : ByteArray)]) (ok := fun _ => True) (okp := fun _ => True) ?hr ?hp (fun _ hk => hk) trivial (Below.refl _ _) (Nat.le_refl _) (by simp) ?_; (case hd => rfl); (case hg => rfl); (case hr => first | (go_simp; done) | (go_simp; rfl)); (case hp => exact (Reps.one (show Kd.M Kd.string _ _ _ (⟨#[]⟩ : ByteArray) [.string (⟨#[]⟩ : ByteArray)] from rfl) (Reps.one (show Kd.M Kd.string _ _ _ (⟨#[100, 97, 116, 97]⟩ : ByteArray) [.string (⟨#[100, 97, 116, 97]⟩ : ByteArray)] from rfl) (Reps.one (show Kd.M Kd.string _ _ _ (⟨#[97, 99, 107]⟩ : ByteArray) [.string (⟨#[97, 99, 107]⟩ : ByteArray)] from rfl) (Reps.one (show Kd.M Kd.string _ _ _ (⟨#[111, 102, 102, 101, 114]⟩ : ByteArray) [.string (⟨#[111, 102, 102, 101, 114]⟩ : ByteArray)] from rfl) (Reps.one (show Kd.M Kd.string _ _ _ (⟨#[99, 104, 117, 110, 107]⟩ : ByteArray) [.string (⟨#[99, 104, 117, 110, 107]⟩ : ByteArray)] from rfl) (Reps.one (show Kd.M Kd.string _ _ _ (⟨#[119, 97, 110, 116]⟩ : ByteArray) [.string (⟨#[119, 97, 110, 116]⟩ : ByteArray)] from rfl) (Reps.one (show Kd.M Kd.string _ _ _ (⟨#[114, 117, 110, 110, 105, 110, 103]⟩ : ByteArray) [.string (⟨#[114, 117, 110, 110, 105, 110, 103]⟩ : ByteArray)] from rfl) (Reps.none _ _))))))))); intro v261 w13 ho14 hb hg_ hnew_; clear hg_ hnew_; (first | rw [← Ny260.out] at ho14 | (simp only [Int.reduceToNat] at ho14; rw [← Ny260.out] at ho14)); have n0_ := Aside0.mk (Kd.R_lower ho14 (below_size (by repeat (first | (with_reducible first | exact HB.out | apply below_alloc | apply pw_below_drewN | apply below_drew1 | refine below_set ?_ GE258.out) | exact HB.out)))); have n1_ := Aside0.mk (blk_below (g := gb258) (o := .cells #[.int .i64 a0_0, .int .i64 a0_1, .slice A0_2 l0_2.length c0_2] 29 (0, 0)) (by (with_reducible repeat (first | refine blk_drewN ?_ _ | refine blk_drew ?_ | refine blk_alloc ?_ _)); exact BK258.out) hb); have n2_ := Aside0.mk (below_step (by repeat (first | (with_reducible first | exact HB.out | apply below_alloc | apply pw_below_drewN | apply below_drew1 | refine below_set ?_ GE258.out) | exact HB.out)) hb); clear BK258; clear HB; have HO262 := n0_; have BK258 := n1_; have HB := n2_; clear n0_ n1_ n2_; clear hb ho14))
            have n0_ := Aside0.mk (Kd.R_drew HO262.out)
            have n1_ := Aside0.mk (blk_drew BK258.out)
            have n2_ := Aside0.mk (below_drew1 HB.out)
            clear HO262
            clear BK258
            clear HB
            have HO262 := n0_
            have BK258 := n1_
            have HB := n2_
            clear n0_ n1_ n2_
            obtain ⟨Ao16, co16, eo16⟩ := Kd.R_slice HO262.out
            (first | subst eo16 | (injection eo16 with f1_ f2_ f3_; have f4_ := f1_.symm; have f5_ := f3_.symm; clear f1_ f2_ f3_; subst f4_; subst f5_))
            have p263 : 0 ≤ (a0_0 : Int) := of_decide_eq_true (by first | (with_reducible assumption) | assumption)
            have q263 : a0_0 < (y260.length : Int) := of_decide_eq_true (by first | (with_reducible assumption) | assumption)
            obtain ⟨ad263, e263, hx263_0⟩ := Kd.at_string (Kd.R_reads' HO262.out).2.2 a0_0 p263 q263
            cases e263
            replace p263 := eq_true p263
            replace q263 := eq_true q263
            refine start_ (n := 11) (S := fun w' => w'.cell? ⟨gb258, 0, none⟩ = some (.int .i64 a0_0) ∧ w'.cell? ⟨gb258, 1, none⟩ = some (.int .i64 a0_1) ∧ w'.cell? ⟨gb258, 2, none⟩ = some (.slice A0_2 l0_2.length c0_2) ∧ w'.cell? (ad263.add (a0_0).toNat) = some (.string (rdOf ByteArray.empty y260 a0_0))) (ds := []) #[false, false, false, false, false, false, false, false, false, false, false] (by kernel_rfl) rfl rfl ⟨(blk_cell BK258.out 0).trans rfl, (blk_cell BK258.out 1).trans rfl, (blk_cell BK258.out 2).trans rfl, hx263_0⟩ (fun hHeld => ?_); refine with_tabW trickleref43_Format.tab4 trickleref43_Format.bits4 (fun HT_ HW_ => ?_)
            generalize w13.drew = w15 at HO262 BK258 HB hx263_0 hHeld ⊢
            refine pure_ (i := 0) (N := some 12) (v := ?_) (a' := ?_) #[true, false, false, false, false, false, false, false, false, false, false] rfl rfl (any_of HT_.out (by kernel_rfl)) (fun _ _ _ h => h) (Or.inl ⟨by rfl, ?_⟩) ?_ ?_
            rotate_left
            · intro w'
              go_simp
              with_reducible rfl
            rotate_left
            · simp only [Act.put, List.setIfInBounds_toArray, List.set_cons_zero, List.set_cons_succ, i64_w, i32_w]
              rfl
            refine pure_ (i := 1) (N := some 13) (v := ?_) (a' := ?_) #[true, true, false, false, false, false, false, false, false, false, false] rfl rfl (any_of HT_.out (by kernel_rfl)) (fun _ _ _ h => h) (Or.inl ⟨by rfl, ?_⟩) ?_ ?_
            rotate_left
            · intro w'
              go_simp
              with_reducible rfl
            rotate_left
            · simp only [Act.put, List.setIfInBounds_toArray, List.set_cons_zero, List.set_cons_succ, i64_w, i32_w]
              rfl
            refine pure_ (i := 6) (N := some 18) (v := ?_) (a' := ?_) #[true, true, false, false, false, false, true, false, false, false, false] rfl rfl (any_of HT_.out (by kernel_rfl)) (fun _ _ _ h => h) (Or.inl ⟨by rfl, ?_⟩) ?_ ?_
            rotate_left
            · intro w'
              go_simp
              with_reducible rfl
            rotate_left
            · simp only [Act.put, List.setIfInBounds_toArray, List.set_cons_zero, List.set_cons_succ, i64_w, i32_w]
              rfl
            refine take_ (i := 2) (N := some 14) (v := ?_) (a' := ?_) #[true, true, true, false, false, false, true, false, false, false, false] rfl rfl (take_ofW HT_.out HW_.out (by kernel_rfl)) (fun _ _ _ h => h) (Or.inl ⟨by rfl, ?_⟩) hHeld ?_ ?_
            rotate_left
            · rintro w' ⟨s0, s1, s2, s3⟩
              go_simp
              with_reducible rfl
            rotate_left
            · simp only [Act.put, List.setIfInBounds_toArray, List.set_cons_zero, List.set_cons_succ, i64_w, i32_w]
              rfl
            refine pure_ (i := 3) (N := some 15) (v := ?_) (a' := ?_) #[true, true, true, true, false, false, true, false, false, false, false] rfl rfl (any_of HT_.out (by kernel_rfl)) (fun _ _ _ h => h) (Or.inl ⟨by rfl, ?_⟩) ?_ ?_
            rotate_left
            · intro w'
              go_simp
              with_reducible rfl
            rotate_left
            · simp only [Act.put, List.setIfInBounds_toArray, List.set_cons_zero, List.set_cons_succ, i64_w, i32_w]
              rfl
            refine take_ (i := 4) (N := some 16) (v := ?_) (a' := ?_) #[true, true, true, true, true, false, true, false, false, false, false] rfl rfl (take_ofW HT_.out HW_.out (by kernel_rfl)) (fun _ _ _ h => h) (Or.inl ⟨by rfl, ?_⟩) hHeld ?_ ?_
            rotate_left
            · rintro w' ⟨s0, s1, s2, s3⟩
              go_simp
              with_reducible rfl
            rotate_left
            · simp only [Act.put, List.setIfInBounds_toArray, List.set_cons_zero, List.set_cons_succ, i64_w, i32_w]
              rfl
            refine pure_ (i := 5) (N := some 17) (v := ?_) (a' := ?_) #[true, true, true, true, true, true, true, false, false, false, false] rfl rfl (any_of HT_.out (by kernel_rfl)) (fun _ _ _ h => h) (Or.inl ⟨by rfl, ?_⟩) ?_ ?_
            rotate_left
            · intro w'
              go_simp
              with_reducible rfl
            rotate_left
            · simp only [Act.put, List.setIfInBounds_toArray, List.set_cons_zero, List.set_cons_succ, i64_w, i32_w]
              rfl
            refine take_ (i := 7) (N := some 19) (v := ?_) (a' := ?_) #[true, true, true, true, true, true, true, true, false, false, false] rfl rfl (take_ofW HT_.out HW_.out (by kernel_rfl)) (fun _ _ _ h => h) (Or.inl ⟨by rfl, ?_⟩) hHeld ?_ ?_
            rotate_left
            · rintro w' ⟨s0, s1, s2, s3⟩
              go_simp
              with_reducible rfl
            rotate_left
            · simp only [Act.put, List.setIfInBounds_toArray, List.set_cons_zero, List.set_cons_succ, i64_w, i32_w]
              rfl
            refine one_ (i := 8) (N := some 20) #[true, true, true, true, true, true, true, true, true, false, false] rfl rfl (one_of HT_.out (by kernel_rfl)) (by decide) (fun K hK => ?_)
            refine goes_ Tryd.func50 (by kernel_rfl) rfl #[.int .i64 a0_1] (by rfl) rfl rfl (by (try simp only [List.map_toArray, List.map_cons, List.map_nil]); first | done | rfl | (simp only [List.length_drop, List.length_take]; rfl)) ?_
            with_reducible refine (trickleref11_Num.calls k a0_1 t264 _ A7.out).mono ?_
            rintro e w17 ⟨rfl, hb⟩
            have HS3_ := (hb.cell (World.block_lt_of_cell? _ _ (hHeld.2.2.2))).trans (hHeld.2.2.2)
            refine ⟨_, rfl, ?_⟩
            have n0_ := Aside0.mk (Kd.R_below (by (with_reducible repeat (first | apply Kd.R_alloc | apply Kd.R_drewN | apply Kd.R_drew)); exact HO262.out) hb)
            have n1_ := Aside0.mk (blk_below (g := gb258) (o := .cells #[.int .i64 a0_0, .int .i64 a0_1, .slice A0_2 l0_2.length c0_2] 29 (0, 0)) (by (with_reducible repeat (first | refine blk_drewN ?_ _ | refine blk_drew ?_ | refine blk_alloc ?_ _)); exact BK258.out) hb)
            have n2_ := Aside0.mk (below_step (by repeat (first | (with_reducible first | exact HB.out | apply below_alloc | apply pw_below_drewN | apply below_drew1 | refine below_set ?_ GE258.out) | exact HB.out)) hb)
            clear HO262
            clear BK258
            clear HB
            have HO262 := n0_
            have BK258 := n1_
            have HB := n2_
            clear n0_ n1_ n2_
            (try clear hb)
            (try clear hb2)
            (try clear hk)
            (try clear hi)
            refine hK.out _ _ ⟨(blk_cell BK258.out 0).trans rfl, (blk_cell BK258.out 1).trans rfl, (blk_cell BK258.out 2).trans rfl, HS3_⟩ (fun hHeld => ?_)
            clear hK K
            refine norm_ (a' := ?_) ?_ ?_
            rotate_left
            · show Act.put _ (some 20) _ = _
              simp only [Act.put, List.setIfInBounds_toArray, List.set_cons_zero, List.set_cons_succ, i64_w, i32_w]
              rfl
            refine pure_ (i := 9) (N := some 21) (v := ?_) (a' := ?_) #[true, true, true, true, true, true, true, true, true, true, false] rfl rfl (any_of HT_.out (by kernel_rfl)) (fun _ _ _ h => h) (Or.inl ⟨by rfl, ?_⟩) ?_ ?_
            rotate_left
            · intro w'
              go_simp
              with_reducible rfl
            rotate_left
            · simp only [Act.put, List.setIfInBounds_toArray, List.set_cons_zero, List.set_cons_succ, i64_w, i32_w]
              rfl
            refine pure_ (i := 10) (N := some 4) (v := ?_) (a' := ?_) #[true, true, true, true, true, true, true, true, true, true, true] rfl rfl (any_of HT_.out (by kernel_rfl)) (fun _ _ _ h => h) (Or.inl ⟨by rfl, ?_⟩) ?_ ?_
            rotate_left
            · intro w'
              go_simp
              with_reducible rfl
            rotate_left
            · simp only [Act.put, List.setIfInBounds_toArray, List.set_cons_zero, List.set_cons_succ, i64_w, i32_w]
              rfl
            refine done_ (done_of HT_.out (by kernel_rfl)) ?_
            have hcz18_0 : w17.cell? ⟨gb258, 0, none⟩ = some (.int .i64 a0_0) := (blk_cell BK258.out 0).trans rfl
            have hcz18_1 : w17.cell? ⟨gb258, 1, none⟩ = some (.int .i64 a0_1) := (blk_cell BK258.out 1).trans rfl
            have hcz18_2 : w17.cell? ⟨gb258, 2, none⟩ = some (.slice A0_2 l0_2.length c0_2) := (blk_cell BK258.out 2).trans rfl
            have hfz18_0 := blk_frozen BK258.out 0
            have hfz18_1 := blk_frozen BK258.out 1
            have hfz18_2 := blk_frozen BK258.out 2
            go_upto_if 25 with (fail)
            go_cut [4] (fun v4 wc => ∃ (kq : Nat) (x4_8 : ByteArray), v4 = .string x4_8 ∧ Aside0 (trickleref43_Format.j0 kq x4_8 a0_0 a0_1 l0_2 = some r) ∧ Aside0 (kq ≤ k) ∧ Aside0 (wc.heap[gb258]? = some (.cells #[.int .i64 a0_0, .int .i64 a0_1, (.slice A0_2 l0_2.length c0_2)] 29 (0, 0))) ∧ Aside0 (Below w.heap.size w wc))
            case first =>
              have H := HC9.out
              clear HC9
              by_cases c19 : (l0_2.length : Int) > 0
              · rw [if_pos c19] at H
                have c19b0 : decide (0 < (l0_2.length : Int)) = true := decide_eq_true c19
                have c19b1 : decide (0 < l0_2.length) = true := decide_eq_true (by omega)
                have c19n := eq_true (of_decide_eq_true c19b1)
                clear c19
                (first | rw [c19b0] | rw [c19b1] | (simp only [i64_w, i32_w]; rw [c19b0]) | skip)
                by_cases c20 : (((rdOf ByteArray.empty y260 a0_0) ++ (⟨#[32]⟩ : ByteArray)) ++ t264).size + 1 ≤ 9223372036854775807
                · rw [if_pos c20] at H
                  have c20b3 : (9223372036854775807 < (rdOf ByteArray.empty y260 a0_0).size + 1 + t264.size + 1) = False := by
                    have h_ : ((((rdOf ByteArray.empty y260 a0_0) ++ (⟨#[32]⟩ : ByteArray)) ++ t264).size = (rdOf ByteArray.empty y260 a0_0).size + 1 + t264.size) := by simp only [ByteArray.size_append]; rfl
                    exact eq_false (by omega)
                  have c20b0 := eq_true c20
                  have c20b1 : decide ((((rdOf ByteArray.empty y260 a0_0) ++ (⟨#[32]⟩ : ByteArray)) ++ t264).size + 1 ≤ 9223372036854775807) = true := decide_eq_true c20
                  try have c20b2 : (9223372036854775807 < (((rdOf ByteArray.empty y260 a0_0) ++ (⟨#[32]⟩ : ByteArray)) ++ t264).size + 1) = False := eq_false (Nat.not_lt.2 c20)
                  have H' := Aside0.mk H
                  clear H
                  go_wp2
                  go_meet
                  case rel => exact ⟨_, ((((rdOf ByteArray.empty y260 a0_0) ++ (⟨#[32]⟩ : ByteArray)) ++ t264) ++ (⟨#[32]⟩ : ByteArray)), (by first | rfl | (simp; done) | (simp [*]; done)), H', ⟨by first | omega | exact Nat.le_refl _⟩, ⟨by (with_reducible repeat (first | refine blk_drewN ?_ _ | refine blk_drew ?_ | refine blk_alloc ?_ _)); exact BK258.out⟩, ⟨by repeat (first | (with_reducible first | exact HB.out | apply below_alloc | apply pw_below_drewN | apply below_drew1 | refine below_set ?_ GE258.out) | exact HB.out)⟩⟩
                · rw [if_neg c20] at H
                  exact absurd H (by simp)
              · rw [if_neg c19] at H
                have c19b0 : decide (0 < (l0_2.length : Int)) = false := decide_eq_false c19
                have c19b1 : decide (0 < l0_2.length) = false := decide_eq_false (by omega)
                have c19n := eq_false (of_decide_eq_false c19b1)
                clear c19
                (first | rw [c19b0] | rw [c19b1] | (simp only [i64_w, i32_w]; rw [c19b0]) | skip)
                have H' := Aside0.mk H
                clear H
                go_wp2
                go_meet
                case rel => exact ⟨_, (((rdOf ByteArray.empty y260 a0_0) ++ (⟨#[32]⟩ : ByteArray)) ++ t264), (by first | rfl | (simp; done) | (simp [*]; done)), H', ⟨by first | omega | exact Nat.le_refl _⟩, ⟨by (with_reducible repeat (first | refine blk_drewN ?_ _ | refine blk_drew ?_ | refine blk_alloc ?_ _)); exact BK258.out⟩, ⟨by repeat (first | (with_reducible first | exact HB.out | apply below_alloc | apply pw_below_drewN | apply below_drew1 | refine below_set ?_ GE258.out) | exact HB.out)⟩⟩
            case rest =>
              clear HC9
              try clear c1
              try clear c2
              try clear p2
              try clear q2
              try clear hx2
              try clear c3
              try clear c4
              try clear c4b0
              try clear c5
              try clear c5b0
              try clear c6
              try clear c6b0
              try clear c6b1
              try clear c6b2
              try clear c8
              try clear c8b0
              try clear c8b1
              try clear c8b2
              try clear c19
              try clear c19b0
              try clear c19b1
              try clear c20
              try clear c20b0
              try clear c20b1
              try clear c20b2
              try clear hcz11_0
              try clear hcz11_1
              try clear hcz11_2
              try clear hcz18_0
              try clear hcz18_1
              try clear hcz18_2
              try clear hfz11_0
              try clear hfz11_1
              try clear hfz11_2
              try clear hfz18_0
              try clear hfz18_1
              try clear hfz18_2
              try clear hx263_0
              try clear p263
              try clear q263
              obtain ⟨kq, x4_8, rfl, HA, HJ8, BK258, HB⟩ := hcut
              cases kq with
              | zero => exact absurd HA.out (by simp [trickleref43_Format.j0])
              | succ kj8 =>
                have H := HA.out
                clear HA
                simp only [trickleref43_Format.j0] at H
                have H' := Aside0.mk H
                clear H
                go_wp2
                go_loopg [4, 6] kj8 (fun kq v4 v6 w' => ∃ (x4_2 : ByteArray) (x6_2 : Int), v4 = .string x4_2 ∧ v6 = .int .i64 x6_2 ∧ Aside0 (trickleref43_Format.l0 kq x4_2 (⟨#[48, 49, 50, 51, 52, 53, 54, 55, 56, 57, 97, 98, 99, 100, 101, 102]⟩ : ByteArray) x6_2 a0_0 a0_1 l0_2 = some r) ∧ Aside0 (kq ≤ kj8) ∧ Aside0 (w'.heap[gb258]? = some (.cells #[.int .i64 a0_0, .int .i64 a0_1, (.slice A0_2 l0_2.length c0_2)] 29 (0, 0))) ∧ Aside0 (Below w.heap.size w w'))
                case atStart => exact ⟨(x4_8), (0), (by first | rfl | (simp; done) | (simp [*]; done)), (by first | rfl | (simp; done) | (simp [*]; done)), H', ⟨Nat.le_refl _⟩, ⟨by (with_reducible repeat (first | refine blk_drewN ?_ _ | refine blk_drew ?_ | refine blk_alloc ?_ _)); exact BK258.out⟩, ⟨by repeat (first | (with_reducible first | exact HB.out | apply below_alloc | apply pw_below_drewN | apply below_drew1 | refine below_set ?_ GE258.out) | exact HB.out)⟩⟩
                case round =>
                  clear H'
                  try clear c1
                  try clear c2
                  try clear p2
                  try clear q2
                  try clear hx2
                  try clear c3
                  try clear c4
                  try clear c4b0
                  try clear c5
                  try clear c5b0
                  try clear c6
                  try clear c6b0
                  try clear c6b1
                  try clear c6b2
                  try clear c8
                  try clear c8b0
                  try clear c8b1
                  try clear c8b2
                  try clear c19
                  try clear c19b0
                  try clear c19b1
                  try clear c20
                  try clear c20b0
                  try clear c20b1
                  try clear c20b2
                  try clear hcz11_0
                  try clear hcz11_1
                  try clear hcz11_2
                  try clear hcz18_0
                  try clear hcz18_1
                  try clear hcz18_2
                  try clear hfz11_0
                  try clear hfz11_1
                  try clear hfz11_2
                  try clear hfz18_0
                  try clear hfz18_1
                  try clear hfz18_2
                  try clear hx263_0
                  try clear p2
                  try clear p263
                  try clear q2
                  try clear q263
                  obtain ⟨x4_2, x6_2, rfl, rfl, HA, HK2, BK258, HB⟩ := hrel
                  cases gk with
                  | zero => exact absurd HA.out (by simp [trickleref43_Format.l0])
                  | succ k2 =>
                    have H := HA.out
                    clear HA
                    simp only [trickleref43_Format.l0] at H
                    by_cases c21 : x6_2 < (l0_2.length : Int)
                    · rw [if_pos c21] at H
                      have c21b0 : decide (x6_2 < (l0_2.length : Int)) = true := decide_eq_true c21
                      clear c21
                      by_cases c22 : 0 ≤ x6_2
                      · rw [if_pos c22] at H
                        have c22b0 : decide (0 ≤ x6_2) = true := decide_eq_true c22
                        clear c22
                        obtain ⟨ji23, hji23⟩ : ∃ j_ : Int, (wrap64 (Int.tdiv (wrap64 (rd l0_2 x6_2)) 16)) = j_ := ⟨_, rfl⟩
                        replace H : (if 0 ≤ (ji23) then (if (ji23) ≤ (wrap64 ((ji23) + 1)) then (if (wrap64 ((ji23) + 1)) ≤ ((⟨#[48, 49, 50, 51, 52, 53, 54, 55, 56, 57, 97, 98, 99, 100, 101, 102]⟩ : ByteArray).size : Int) then (if x4_2.size + ((⟨#[48, 49, 50, 51, 52, 53, 54, 55, 56, 57, 97, 98, 99, 100, 101, 102]⟩ : ByteArray).extract ((ji23) : Int).toNat ((wrap64 ((ji23) + 1)) : Int).toNat).size ≤ 9223372036854775807 then (if 0 ≤ (Int.tmod (wrap64 (rd l0_2 x6_2)) 16) then (if (Int.tmod (wrap64 (rd l0_2 x6_2)) 16) ≤ (wrap64 ((Int.tmod (wrap64 (rd l0_2 x6_2)) 16) + 1)) then (if (wrap64 ((Int.tmod (wrap64 (rd l0_2 x6_2)) 16) + 1)) ≤ ((⟨#[48, 49, 50, 51, 52, 53, 54, 55, 56, 57, 97, 98, 99, 100, 101, 102]⟩ : ByteArray).size : Int) then (if (x4_2 ++ ((⟨#[48, 49, 50, 51, 52, 53, 54, 55, 56, 57, 97, 98, 99, 100, 101, 102]⟩ : ByteArray).extract ((ji23) : Int).toNat ((wrap64 ((ji23) + 1)) : Int).toNat)).size + ((⟨#[48, 49, 50, 51, 52, 53, 54, 55, 56, 57, 97, 98, 99, 100, 101, 102]⟩ : ByteArray).extract ((Int.tmod (wrap64 (rd l0_2 x6_2)) 16) : Int).toNat ((wrap64 ((Int.tmod (wrap64 (rd l0_2 x6_2)) 16) + 1)) : Int).toNat).size ≤ 9223372036854775807 then (trickleref43_Format.l0 k2 ((x4_2 ++ ((⟨#[48, 49, 50, 51, 52, 53, 54, 55, 56, 57, 97, 98, 99, 100, 101, 102]⟩ : ByteArray).extract ((ji23) : Int).toNat ((wrap64 ((ji23) + 1)) : Int).toNat)) ++ ((⟨#[48, 49, 50, 51, 52, 53, 54, 55, 56, 57, 97, 98, 99, 100, 101, 102]⟩ : ByteArray).extract ((Int.tmod (wrap64 (rd l0_2 x6_2)) 16) : Int).toNat ((wrap64 ((Int.tmod (wrap64 (rd l0_2 x6_2)) 16) + 1)) : Int).toNat)) (⟨#[48, 49, 50, 51, 52, 53, 54, 55, 56, 57, 97, 98, 99, 100, 101, 102]⟩ : ByteArray) (wrap64 (x6_2 + 1)) a0_0 a0_1 l0_2) else (none)) else (none)) else (none)) else (none)) else (none)) else (none)) else (none)) else (none)) = some r := by first | (rw [hji23] at H; exact H) | (simp only [hji23] at H ⊢; exact H)
                        have hji23w : (IntKind.i64.wrap (Int.tdiv (wrap64 (rd l0_2 x6_2)) 16)) = ji23 := (i64_w _).trans hji23
                        by_cases c24 : 0 ≤ (ji23)
                        · rw [if_pos c24] at H
                          have c24b0 := eq_true c24
                          have c24b1 : decide (0 ≤ (ji23)) = true := decide_eq_true c24
                          clear c24
                          by_cases c25 : (ji23) ≤ (wrap64 ((ji23) + 1))
                          · rw [if_pos c25] at H
                            have c25b0 := eq_true c25
                            have c25b1 : decide ((ji23) ≤ (wrap64 ((ji23) + 1))) = true := decide_eq_true c25
                            by_cases c26 : (wrap64 ((ji23) + 1)) ≤ ((⟨#[48, 49, 50, 51, 52, 53, 54, 55, 56, 57, 97, 98, 99, 100, 101, 102]⟩ : ByteArray).size : Int)
                            · rw [if_pos c26] at H
                              have c26b0 := eq_true c26
                              have c26n : (wrap64 (ji23 + 1) ≤ (16 : Int)) = True := c26b0
                              have c26b1 : decide ((wrap64 ((ji23) + 1)) ≤ ((⟨#[48, 49, 50, 51, 52, 53, 54, 55, 56, 57, 97, 98, 99, 100, 101, 102]⟩ : ByteArray).size : Int)) = true := decide_eq_true c26
                              by_cases c27 : x4_2.size + ((⟨#[48, 49, 50, 51, 52, 53, 54, 55, 56, 57, 97, 98, 99, 100, 101, 102]⟩ : ByteArray).extract ((ji23) : Int).toNat ((wrap64 ((ji23) + 1)) : Int).toNat).size ≤ 9223372036854775807
                              · rw [if_pos c27] at H
                                have c27b0 := eq_true c27
                                have z23 : ((⟨#[48, 49, 50, 51, 52, 53, 54, 55, 56, 57, 97, 98, 99, 100, 101, 102]⟩ : ByteArray).extract ((ji23) : Int).toNat ((wrap64 ((ji23) + 1)) : Int).toNat).size = ((wrap64 (ji23 + 1)).toNat - (ji23).toNat) := by rw [ByteArray.size_extract, Nat.min_eq_left (show ((wrap64 ((ji23) + 1)) : Int).toNat ≤ (⟨#[48, 49, 50, 51, 52, 53, 54, 55, 56, 57, 97, 98, 99, 100, 101, 102]⟩ : ByteArray).size by have h_ := of_eq_true c26n; show _ ≤ 16; omega)]
                                have c27n : (9223372036854775807 < x4_2.size + ((wrap64 (ji23 + 1)).toNat - (ji23).toNat)) = False := eq_false (Nat.not_lt.2 (by rw [← z23]; exact c27))
                                have c27b1 : decide (x4_2.size + ((⟨#[48, 49, 50, 51, 52, 53, 54, 55, 56, 57, 97, 98, 99, 100, 101, 102]⟩ : ByteArray).extract ((ji23) : Int).toNat ((wrap64 ((ji23) + 1)) : Int).toNat).size ≤ 9223372036854775807) = true := decide_eq_true c27
                                try have c27b2 : (9223372036854775807 < x4_2.size + ((⟨#[48, 49, 50, 51, 52, 53, 54, 55, 56, 57, 97, 98, 99, 100, 101, 102]⟩ : ByteArray).extract ((ji23) : Int).toNat ((wrap64 ((ji23) + 1)) : Int).toNat).size) = False := eq_false (Nat.not_lt.2 c27)
                                obtain ⟨ji28, hji28⟩ : ∃ j_ : Int, (Int.tmod (wrap64 (rd l0_2 x6_2)) 16) = j_ := ⟨_, rfl⟩
                                replace H : (if 0 ≤ (ji28) then (if (ji28) ≤ (wrap64 ((ji28) + 1)) then (if (wrap64 ((ji28) + 1)) ≤ ((⟨#[48, 49, 50, 51, 52, 53, 54, 55, 56, 57, 97, 98, 99, 100, 101, 102]⟩ : ByteArray).size : Int) then (if (x4_2 ++ ((⟨#[48, 49, 50, 51, 52, 53, 54, 55, 56, 57, 97, 98, 99, 100, 101, 102]⟩ : ByteArray).extract ((ji23) : Int).toNat ((wrap64 ((ji23) + 1)) : Int).toNat)).size + ((⟨#[48, 49, 50, 51, 52, 53, 54, 55, 56, 57, 97, 98, 99, 100, 101, 102]⟩ : ByteArray).extract ((ji28) : Int).toNat ((wrap64 ((ji28) + 1)) : Int).toNat).size ≤ 9223372036854775807 then (trickleref43_Format.l0 k2 ((x4_2 ++ ((⟨#[48, 49, 50, 51, 52, 53, 54, 55, 56, 57, 97, 98, 99, 100, 101, 102]⟩ : ByteArray).extract ((ji23) : Int).toNat ((wrap64 ((ji23) + 1)) : Int).toNat)) ++ ((⟨#[48, 49, 50, 51, 52, 53, 54, 55, 56, 57, 97, 98, 99, 100, 101, 102]⟩ : ByteArray).extract ((ji28) : Int).toNat ((wrap64 ((ji28) + 1)) : Int).toNat)) (⟨#[48, 49, 50, 51, 52, 53, 54, 55, 56, 57, 97, 98, 99, 100, 101, 102]⟩ : ByteArray) (wrap64 (x6_2 + 1)) a0_0 a0_1 l0_2) else (none)) else (none)) else (none)) else (none)) = some r := by first | (rw [hji28] at H; exact H) | (simp only [hji28] at H ⊢; exact H)
                                by_cases c29 : 0 ≤ (ji28)
                                · rw [if_pos c29] at H
                                  have c29b0 := eq_true c29
                                  have c29b1 : decide (0 ≤ (ji28)) = true := decide_eq_true c29
                                  clear c29
                                  by_cases c30 : (ji28) ≤ (wrap64 ((ji28) + 1))
                                  · rw [if_pos c30] at H
                                    have c30b0 := eq_true c30
                                    have c30b1 : decide ((ji28) ≤ (wrap64 ((ji28) + 1))) = true := decide_eq_true c30
                                    by_cases c31 : (wrap64 ((ji28) + 1)) ≤ ((⟨#[48, 49, 50, 51, 52, 53, 54, 55, 56, 57, 97, 98, 99, 100, 101, 102]⟩ : ByteArray).size : Int)
                                    · rw [if_pos c31] at H
                                      have c31b0 := eq_true c31
                                      have c31n : (wrap64 (ji28 + 1) ≤ (16 : Int)) = True := c31b0
                                      have c31b1 : decide ((wrap64 ((ji28) + 1)) ≤ ((⟨#[48, 49, 50, 51, 52, 53, 54, 55, 56, 57, 97, 98, 99, 100, 101, 102]⟩ : ByteArray).size : Int)) = true := decide_eq_true c31
                                      by_cases c32 : (x4_2 ++ ((⟨#[48, 49, 50, 51, 52, 53, 54, 55, 56, 57, 97, 98, 99, 100, 101, 102]⟩ : ByteArray).extract ((ji23) : Int).toNat ((wrap64 ((ji23) + 1)) : Int).toNat)).size + ((⟨#[48, 49, 50, 51, 52, 53, 54, 55, 56, 57, 97, 98, 99, 100, 101, 102]⟩ : ByteArray).extract ((ji28) : Int).toNat ((wrap64 ((ji28) + 1)) : Int).toNat).size ≤ 9223372036854775807
                                      · rw [if_pos c32] at H
                                        have c32b0 := eq_true c32
                                        have z28 : ((⟨#[48, 49, 50, 51, 52, 53, 54, 55, 56, 57, 97, 98, 99, 100, 101, 102]⟩ : ByteArray).extract ((ji28) : Int).toNat ((wrap64 ((ji28) + 1)) : Int).toNat).size = ((wrap64 (ji28 + 1)).toNat - (ji28).toNat) := by rw [ByteArray.size_extract, Nat.min_eq_left (show ((wrap64 ((ji28) + 1)) : Int).toNat ≤ (⟨#[48, 49, 50, 51, 52, 53, 54, 55, 56, 57, 97, 98, 99, 100, 101, 102]⟩ : ByteArray).size by have h_ := of_eq_true c31n; show _ ≤ 16; omega)]
                                        have c32n : (9223372036854775807 < x4_2.size + ((wrap64 (ji23 + 1)).toNat - (ji23).toNat) + ((wrap64 (ji28 + 1)).toNat - (ji28).toNat)) = False := eq_false (Nat.not_lt.2 (by rw [← z28, ← z23]; rw [ByteArray.size_append] at c32; exact c32))
                                        have c32b1 : decide ((x4_2 ++ ((⟨#[48, 49, 50, 51, 52, 53, 54, 55, 56, 57, 97, 98, 99, 100, 101, 102]⟩ : ByteArray).extract ((ji23) : Int).toNat ((wrap64 ((ji23) + 1)) : Int).toNat)).size + ((⟨#[48, 49, 50, 51, 52, 53, 54, 55, 56, 57, 97, 98, 99, 100, 101, 102]⟩ : ByteArray).extract ((ji28) : Int).toNat ((wrap64 ((ji28) + 1)) : Int).toNat).size ≤ 9223372036854775807) = true := decide_eq_true c32
                                        try have c32b2 : (9223372036854775807 < (x4_2 ++ ((⟨#[48, 49, 50, 51, 52, 53, 54, 55, 56, 57, 97, 98, 99, 100, 101, 102]⟩ : ByteArray).extract ((ji23) : Int).toNat ((wrap64 ((ji23) + 1)) : Int).toNat)).size + ((⟨#[48, 49, 50, 51, 52, 53, 54, 55, 56, 57, 97, 98, 99, 100, 101, 102]⟩ : ByteArray).extract ((ji28) : Int).toNat ((wrap64 ((ji28) + 1)) : Int).toNat).size) = False := eq_false (Nat.not_lt.2 c32)
                                        have H' := Aside0.mk H
                                        clear H
                                        have hcz33_0 : wr.cell? ⟨gb258, 0, none⟩ = some (.int .i64 a0_0) := (blk_cell BK258.out 0).trans rfl
                                        have hcz33_1 : wr.cell? ⟨gb258, 1, none⟩ = some (.int .i64 a0_1) := (blk_cell BK258.out 1).trans rfl
                                        have hcz33_2 : wr.cell? ⟨gb258, 2, none⟩ = some (.slice A0_2 l0_2.length c0_2) := (blk_cell BK258.out 2).trans rfl
                                        have hfz33_0 := blk_frozen BK258.out 0
                                        have hfz33_1 := blk_frozen BK258.out 1
                                        have hfz33_2 := blk_frozen BK258.out 2
                                        have p265 : 0 ≤ (x6_2 : Int) := of_decide_eq_true (by first | (with_reducible assumption) | assumption)
                                        have q265 : x6_2 < (l0_2.length : Int) := of_decide_eq_true (by first | (with_reducible assumption) | assumption)
                                        obtain ⟨ad265, e265, hx265_0⟩ := Kd.at_int HR0_2.out x6_2 p265 q265
                                        cases e265
                                        replace hx265_0 := (HB.out.cell (World.block_lt_of_cell? w _ hx265_0)).trans hx265_0
                                        replace p265 := eq_true p265
                                        replace q265 := eq_true q265
                                        try go_wp2
                                        have n0_ := Aside0.mk (blk_drew BK258.out)
                                        have n1_ := Aside0.mk (below_drew1 HB.out)
                                        clear BK258
                                        clear HB
                                        have BK258 := n0_
                                        have HB := n1_
                                        clear n0_ n1_
                                        refine start_ (n := 18) (S := fun w' => True) (ds := []) #[false, false, false, false, false, false, false, false, false, false, false, false, false, false, false, false, false, false] (by kernel_rfl) rfl rfl trivial (fun hHeld => ?_); refine with_tabW trickleref43_Format.tab12 trickleref43_Format.bits12 (fun HT_ HW_ => ?_)
                                        generalize wr.drew = w34 at BK258 HB hHeld ⊢
                                        refine pure_ (i := 0) (N := some 41) (v := ?_) (a' := ?_) #[true, false, false, false, false, false, false, false, false, false, false, false, false, false, false, false, false, false] rfl rfl (any_of HT_.out (by kernel_rfl)) (fun _ _ _ h => h) (Or.inl ⟨by rfl, ?_⟩) ?_ ?_
                                        rotate_left
                                        · intro w'
                                          go_simp
                                          with_reducible rfl
                                        rotate_left
                                        · simp only [Act.put, List.setIfInBounds_toArray, List.set_cons_zero, List.set_cons_succ, i64_w, i32_w]
                                          rfl
                                        refine pure_ (i := 1) (N := some 42) (v := ?_) (a' := ?_) #[true, true, false, false, false, false, false, false, false, false, false, false, false, false, false, false, false, false] rfl rfl (any_of HT_.out (by kernel_rfl)) (fun _ _ _ h => h) (Or.inl ⟨by rfl, ?_⟩) ?_ ?_
                                        rotate_left
                                        · intro w'
                                          go_simp
                                          with_reducible rfl
                                        rotate_left
                                        · simp only [Act.put, List.setIfInBounds_toArray, List.set_cons_zero, List.set_cons_succ, i64_w, i32_w]
                                          rfl
                                        refine pure_ (i := 2) (N := some 43) (v := ?_) (a' := ?_) #[true, true, true, false, false, false, false, false, false, false, false, false, false, false, false, false, false, false] rfl rfl (any_of HT_.out (by kernel_rfl)) (fun _ _ _ h => h) (Or.inl ⟨by rfl, ?_⟩) ?_ ?_
                                        rotate_left
                                        · intro w'
                                          go_simp
                                          with_reducible rfl
                                        rotate_left
                                        · simp only [Act.put, List.setIfInBounds_toArray, List.set_cons_zero, List.set_cons_succ, i64_w, i32_w]
                                          rfl
                                        refine pure_ (i := 3) (N := some 44) (v := ?_) (a' := ?_) #[true, true, true, true, false, false, false, false, false, false, false, false, false, false, false, false, false, false] rfl rfl (any_of HT_.out (by kernel_rfl)) (fun _ _ _ h => h) (Or.inl ⟨by rfl, ?_⟩) ?_ ?_
                                        rotate_left
                                        · intro w'
                                          go_simp
                                          with_reducible rfl
                                        rotate_left
                                        · simp only [Act.put, List.setIfInBounds_toArray, List.set_cons_zero, List.set_cons_succ, i64_w, i32_w]
                                          rfl
                                        refine pure_ (i := 4) (N := some 45) (v := ?_) (a' := ?_) #[true, true, true, true, true, false, false, false, false, false, false, false, false, false, false, false, false, false] rfl rfl (any_of HT_.out (by kernel_rfl)) (fun _ _ _ h => h) (Or.inl ⟨by rfl, ?_⟩) ?_ ?_
                                        rotate_left
                                        · intro w'
                                          go_simp
                                          with_reducible rfl
                                        rotate_left
                                        · simp only [Act.put, List.setIfInBounds_toArray, List.set_cons_zero, List.set_cons_succ, i64_w, i32_w]
                                          rfl
                                        refine pure_ (i := 5) (N := some 46) (v := ?_) (a' := ?_) #[true, true, true, true, true, true, false, false, false, false, false, false, false, false, false, false, false, false] rfl rfl (any_of HT_.out (by kernel_rfl)) (fun _ _ _ h => h) (Or.inl ⟨by rfl, ?_⟩) ?_ ?_
                                        rotate_left
                                        · intro w'
                                          go_simp
                                          with_reducible rfl
                                        rotate_left
                                        · simp only [Act.put, List.setIfInBounds_toArray, List.set_cons_zero, List.set_cons_succ, i64_w, i32_w]
                                          rfl
                                        refine pure_ (i := 6) (N := some 47) (v := ?_) (a' := ?_) #[true, true, true, true, true, true, true, false, false, false, false, false, false, false, false, false, false, false] rfl rfl (any_of HT_.out (by kernel_rfl)) (fun _ _ _ h => h) (Or.inl ⟨by rfl, ?_⟩) ?_ ?_
                                        rotate_left
                                        · intro w'
                                          go_simp
                                          with_reducible rfl
                                        rotate_left
                                        · simp only [Act.put, List.setIfInBounds_toArray, List.set_cons_zero, List.set_cons_succ, i64_w, i32_w]
                                          rfl
                                        refine pure_ (i := 7) (N := some 48) (v := ?_) (a' := ?_) #[true, true, true, true, true, true, true, true, false, false, false, false, false, false, false, false, false, false] rfl rfl (any_of HT_.out (by kernel_rfl)) (fun _ _ _ h => h) (Or.inl ⟨by rfl, ?_⟩) ?_ ?_
                                        rotate_left
                                        · intro w'
                                          go_simp
                                          with_reducible rfl
                                        rotate_left
                                        · simp only [Act.put, List.setIfInBounds_toArray, List.set_cons_zero, List.set_cons_succ, i64_w, i32_w]
                                          rfl
                                        refine pure_ (i := 8) (N := some 49) (v := ?_) (a' := ?_) #[true, true, true, true, true, true, true, true, true, false, false, false, false, false, false, false, false, false] rfl rfl (any_of HT_.out (by kernel_rfl)) (fun _ _ _ h => h) (Or.inl ⟨by rfl, ?_⟩) ?_ ?_
                                        rotate_left
                                        · intro w'
                                          go_simp
                                          with_reducible rfl
                                        rotate_left
                                        · simp only [Act.put, List.setIfInBounds_toArray, List.set_cons_zero, List.set_cons_succ, i64_w, i32_w]
                                          rfl
                                        refine pure_ (i := 9) (N := some 50) (v := ?_) (a' := ?_) #[true, true, true, true, true, true, true, true, true, true, false, false, false, false, false, false, false, false] rfl rfl (any_of HT_.out (by kernel_rfl)) (fun _ _ _ h => h) (Or.inl ⟨by rfl, ?_⟩) ?_ ?_
                                        rotate_left
                                        · intro w'
                                          go_simp
                                          with_reducible rfl
                                        rotate_left
                                        · simp only [Act.put, List.setIfInBounds_toArray, List.set_cons_zero, List.set_cons_succ, i64_w, i32_w]
                                          rfl
                                        refine pure_ (i := 10) (N := some 51) (v := ?_) (a' := ?_) #[true, true, true, true, true, true, true, true, true, true, true, false, false, false, false, false, false, false] rfl rfl (any_of HT_.out (by kernel_rfl)) (fun _ _ _ h => h) (Or.inl ⟨by rfl, ?_⟩) ?_ ?_
                                        rotate_left
                                        · intro w'
                                          go_simp
                                          with_reducible rfl
                                        rotate_left
                                        · simp only [Act.put, List.setIfInBounds_toArray, List.set_cons_zero, List.set_cons_succ, i64_w, i32_w]
                                          rfl
                                        refine pure_ (i := 11) (N := some 52) (v := ?_) (a' := ?_) #[true, true, true, true, true, true, true, true, true, true, true, true, false, false, false, false, false, false] rfl rfl (any_of HT_.out (by kernel_rfl)) (fun _ _ _ h => h) (Or.inl ⟨by rfl, ?_⟩) ?_ ?_
                                        rotate_left
                                        · intro w'
                                          go_simp
                                          with_reducible rfl
                                        rotate_left
                                        · simp only [Act.put, List.setIfInBounds_toArray, List.set_cons_zero, List.set_cons_succ, i64_w, i32_w]
                                          rfl
                                        refine pure_ (i := 12) (N := some 53) (v := ?_) (a' := ?_) #[true, true, true, true, true, true, true, true, true, true, true, true, true, false, false, false, false, false] rfl rfl (any_of HT_.out (by kernel_rfl)) (fun _ _ _ h => h) (Or.inl ⟨by rfl, ?_⟩) ?_ ?_
                                        rotate_left
                                        · intro w'
                                          go_simp
                                          with_reducible rfl
                                        rotate_left
                                        · simp only [Act.put, List.setIfInBounds_toArray, List.set_cons_zero, List.set_cons_succ, i64_w, i32_w]
                                          rfl
                                        refine pure_ (i := 13) (N := some 54) (v := ?_) (a' := ?_) #[true, true, true, true, true, true, true, true, true, true, true, true, true, true, false, false, false, false] rfl rfl (any_of HT_.out (by kernel_rfl)) (fun _ _ _ h => h) (Or.inl ⟨by rfl, ?_⟩) ?_ ?_
                                        rotate_left
                                        · intro w'
                                          go_simp
                                          with_reducible rfl
                                        rotate_left
                                        · simp only [Act.put, List.setIfInBounds_toArray, List.set_cons_zero, List.set_cons_succ, i64_w, i32_w]
                                          rfl
                                        refine pure_ (i := 14) (N := some 55) (v := ?_) (a' := ?_) #[true, true, true, true, true, true, true, true, true, true, true, true, true, true, true, false, false, false] rfl rfl (any_of HT_.out (by kernel_rfl)) (fun _ _ _ h => h) (Or.inl ⟨by rfl, ?_⟩) ?_ ?_
                                        rotate_left
                                        · intro w'
                                          go_simp
                                          with_reducible rfl
                                        rotate_left
                                        · simp only [Act.put, List.setIfInBounds_toArray, List.set_cons_zero, List.set_cons_succ, i64_w, i32_w]
                                          rfl
                                        refine pure_ (i := 15) (N := some 56) (v := ?_) (a' := ?_) #[true, true, true, true, true, true, true, true, true, true, true, true, true, true, true, true, false, false] rfl rfl (any_of HT_.out (by kernel_rfl)) (fun _ _ _ h => h) (Or.inl ⟨by rfl, ?_⟩) ?_ ?_
                                        rotate_left
                                        · intro w'
                                          go_simp
                                          with_reducible rfl
                                        rotate_left
                                        · simp only [Act.put, List.setIfInBounds_toArray, List.set_cons_zero, List.set_cons_succ, i64_w, i32_w]
                                          rfl
                                        refine pure_ (i := 16) (N := some 57) (v := ?_) (a' := ?_) #[true, true, true, true, true, true, true, true, true, true, true, true, true, true, true, true, true, false] rfl rfl (any_of HT_.out (by kernel_rfl)) (fun _ _ _ h => h) (Or.inl ⟨by rfl, ?_⟩) ?_ ?_
                                        rotate_left
                                        · intro w'
                                          go_simp
                                          with_reducible rfl
                                        rotate_left
                                        · simp only [Act.put, List.setIfInBounds_toArray, List.set_cons_zero, List.set_cons_succ, i64_w, i32_w]
                                          rfl
                                        refine pure_ (i := 17) (N := some 4) (v := ?_) (a' := ?_) #[true, true, true, true, true, true, true, true, true, true, true, true, true, true, true, true, true, true] rfl rfl (any_of HT_.out (by kernel_rfl)) (fun _ _ _ h => h) (Or.inl ⟨by rfl, ?_⟩) ?_ ?_
                                        rotate_left
                                        · intro w'
                                          go_simp
                                          with_reducible rfl
                                        rotate_left
                                        · simp only [Act.put, List.setIfInBounds_toArray, List.set_cons_zero, List.set_cons_succ, i64_w, i32_w]
                                          rfl
                                        refine done_ (done_of HT_.out (by kernel_rfl)) ?_
                                        try go_wp2
                                        go_roundg k2
                                        case measure => have := HJ8.out; have := HK2.out; omega
                                        case rel => exact ⟨((x4_2 ++ ((⟨#[48, 49, 50, 51, 52, 53, 54, 55, 56, 57, 97, 98, 99, 100, 101, 102]⟩ : ByteArray).extract ((ji23) : Int).toNat ((wrap64 ((ji23) + 1)) : Int).toNat)) ++ ((⟨#[48, 49, 50, 51, 52, 53, 54, 55, 56, 57, 97, 98, 99, 100, 101, 102]⟩ : ByteArray).extract ((ji28) : Int).toNat ((wrap64 ((ji28) + 1)) : Int).toNat)), (wrap64 (x6_2 + 1)), (by first | rfl | (simp; done) | (simp only [← hji23, ← hji28] <;> (first | rfl | simp)) | (simp [*]; done)), (by first | rfl | (simp; done) | (simp [*]; done)), H', ⟨by have := HJ8.out; have := HK2.out; omega⟩, ⟨by (with_reducible repeat (first | refine blk_drewN ?_ _ | refine blk_drew ?_ | refine blk_alloc ?_ _)); exact BK258.out⟩, ⟨by repeat (first | (with_reducible first | exact HB.out | apply below_alloc | apply pw_below_drewN | apply below_drew1 | refine below_set ?_ GE258.out) | exact HB.out)⟩⟩
                                      · rw [if_neg c32] at H
                                        exact absurd H (by simp)
                                    · rw [if_neg c31] at H
                                      exact absurd H (by simp)
                                  · rw [if_neg c30] at H
                                    exact absurd H (by simp)
                                · rw [if_neg c29] at H
                                  exact absurd H (by simp)
                              · rw [if_neg c27] at H
                                exact absurd H (by simp)
                            · rw [if_neg c26] at H
                              exact absurd H (by simp)
                          · rw [if_neg c25] at H
                            exact absurd H (by simp)
                        · rw [if_neg c24] at H
                          exact absurd H (by simp)
                      · rw [if_neg c22] at H
                        exact absurd H (by simp)
                    · rw [if_neg c21] at H
                      have c21b0 : decide (x6_2 < (l0_2.length : Int)) = false := decide_eq_false c21
                      clear c21
                      obtain rfl := Option.some.inj H
                      have hcz35_0 : wr.cell? ⟨gb258, 0, none⟩ = some (.int .i64 a0_0) := (blk_cell BK258.out 0).trans rfl
                      have hcz35_1 : wr.cell? ⟨gb258, 1, none⟩ = some (.int .i64 a0_1) := (blk_cell BK258.out 1).trans rfl
                      have hcz35_2 : wr.cell? ⟨gb258, 2, none⟩ = some (.slice A0_2 l0_2.length c0_2) := (blk_cell BK258.out 2).trans rfl
                      have hfz35_0 := blk_frozen BK258.out 0
                      have hfz35_1 := blk_frozen BK258.out 1
                      have hfz35_2 := blk_frozen BK258.out 2
                      go_wp2
                      go_ret
                      exact ⟨by first | rfl | (simp [errW_none, errW_some] <;> rfl) | (simp [*, errW_none, errW_some] <;> rfl), by repeat (first | (with_reducible first | exact HB.out | apply below_alloc | apply pw_below_drewN | apply below_drew1 | refine below_set ?_ GE258.out) | exact HB.out)⟩
          · rw [if_neg c8] at H
            exact absurd H (by simp)
        · rw [if_neg c6] at H
          exact absurd H (by simp)
      · rw [if_neg c5] at H
        exact absurd H (by simp)
    · rw [if_neg c4] at H
      exact absurd H (by simp)
  · replace c3 := Bool.eq_false_iff.mpr c3
    subst c3
    have H1 : (some (⟨#[105, 110, 118, 97, 108, 105, 100]⟩ : ByteArray)) = some r := by rw [if_neg (show ¬ (false = true) by decide)] at H; exact H
    clear H
    have H := H1
    clear H1
    obtain rfl := Option.some.inj H
    go_enter Tryd.func25, Tryd.ntmps25
    go_wp2_with (first | ((with_reducible refine gate_dst (N := 1) rfl ?_); refine box_event ?hg (N := 1) ?hd (cs := #[.int .i64 a0_0, .int .i64 a0_1, .slice A0_2 l0_2.length c0_2]) (t := 29) ?hr ?_; (case hd => rfl); (case hg => rfl); (case hr => first | (go_simp; done) | (go_simp; rfl)); intro gb258 hg w36 hbox hb; have n0_ := Aside0.mk (below_step (by repeat (first | (with_reducible first | exact HB.out | apply below_alloc | apply pw_below_drewN | apply below_drew1) | exact HB.out)) hb); have n1_ := Aside0.mk (hbox); have n2_ := Aside0.mk ((by rw [hg]; exact (below_size (by repeat (first | (with_reducible first | exact HB.out | apply below_alloc | apply pw_below_drewN | apply below_drew1) | exact HB.out))) : w.heap.size ≤ gb258)); have n3_ := Aside0.mk ((by rw [hg]; exact (below_size (by repeat (first | (with_reducible first | exact HB.out | apply below_alloc | apply pw_below_drewN | apply below_drew1) | exact HB.out))) : w.heap.size ≤ gb258)); clear HB; have HB := n0_; have BK258 := n1_; have GW258 := n2_; have GE258 := n3_; clear n0_ n1_ n2_ n3_; clear hb hbox hg; have hcz37_0 : w36.cell? ⟨gb258, 0, none⟩ = some (.int .i64 a0_0) := (blk_cell BK258.out 0).trans rfl; have hcz37_1 : w36.cell? ⟨gb258, 1, none⟩ = some (.int .i64 a0_1) := (blk_cell BK258.out 1).trans rfl; have hcz37_2 : w36.cell? ⟨gb258, 2, none⟩ = some (.slice A0_2 l0_2.length c0_2) := (blk_cell BK258.out 2).trans rfl; have hfz37_0 := blk_frozen BK258.out 0; have hfz37_1 := blk_frozen BK258.out 1; have hfz37_2 := blk_frozen BK258.out 2) | ((with_reducible refine gate_callee (f := 23) rfl ?_); refine goesL_ (some 9) rfl rfl Tryd.func23 (by kernel_rfl) rfl #[.agg #[.int .i64 a0_0, .int .i64 a0_1, .slice A0_2 l0_2.length c0_2]] rfl (by (try simp only [List.map_toArray, List.map_cons, List.map_nil]); first | done | rfl | (simp only [List.length_drop, List.length_take]; rfl)) ?_; (with_reducible refine (trickleref43_Valid.calls a0_0 a0_1 _ _ l0_2 false _ ?side1 ?side2 A2.out).mono ?_); (case side1 => repeat (first | exact (Kd.C_below HR0_2.out HB.out) | (with_reducible refine Kd.C_alloc ?_ _) | (with_reducible refine Kd.C_drewN ?_ _) | (with_reducible refine Kd.C_drew ?_))); (case side2 => exact HC0_2.out); rintro e w38 ⟨rfl, hb⟩; refine ⟨_, rfl, ?_⟩; have n0_ := Aside0.mk (blk_below (g := gb258) (o := .cells #[.int .i64 a0_0, .int .i64 a0_1, .slice A0_2 l0_2.length c0_2] 29 (0, 0)) (by (with_reducible repeat (first | refine blk_drewN ?_ _ | refine blk_drew ?_ | refine blk_alloc ?_ _)); exact BK258.out) hb); have n1_ := Aside0.mk (below_step (by repeat (first | (with_reducible first | exact HB.out | apply below_alloc | apply pw_below_drewN | apply below_drew1 | refine below_set ?_ GE258.out) | exact HB.out)) hb); clear BK258; clear HB; have BK258 := n0_; have HB := n1_; clear n0_ n1_; (try clear hb); (try clear hb2); (try clear hk); (try clear hi)))
    go_ret
    exact ⟨by first | rfl | (simp [errW_none, errW_some] <;> rfl) | (simp [*, errW_none, errW_some] <;> rfl), by repeat (first | (with_reducible first | exact HB.out | apply below_alloc | apply pw_below_drewN | apply below_drew1 | refine below_set ?_ GE258.out) | exact HB.out)⟩

end Go.Proofs.YtfhnpphceeoeeaaDoor.PX
