/- Parts of the proof, merged in build order: MAll, MBuilder, MJoin, MString. -/
import Derived.Test.YtoobapkccogdhaaDoorY1
import Derived.Test.YtoobapkccogdhaaDoorY2
import Derived.RangeFuncNested
import Derived.RangeFuncBound
import Derived.RangeFuncCalls
import Derived.RangeFuncLeaves
import Derived.RangeFuncBox
import Derived.Shelf.Abstract
import Derived.Shelf.RegionOpen
import Derived.WalkKit
import Derived.OwnWalkIn
import Derived.TacticsInMore
import Derived.LoopNIn
import Derived.LoopIn
import Derived.Test.YtoobapkccogdhaaDoorY0
import Derived.Lib.Builder
import Derived.Lib.AppendStr
import Derived.Laws.Externs
import Derived.Lib.Join
import Derived.IntWalk
import Derived.LoopTactic
import Derived.Stop.RegionWithIn
/- (bitset.Set).All: the iterator over the elements, at the yield of a loop and at the two closures that are handed over. -/
namespace Go.Proofs.YtoobapkccogdhaaDoor.PX
open Go.RowKit Go.Shelf Go.Proofs.YtoobapkccogdhaaDoorW.PrintWords Go.Proofs.YtoobapkccogdhaaDoorW.PrintMore
attribute [local go_sem] Oper.semAt_some
set_option linter.unusedVariables false
theorem tz_calls (x : Nat) (hx : x < 18446744073709551616) (h0 : x ≠ 0) (w : World) (hG : GW w) : Calls Tryd.prog 45 #[.int .u64 (x : Int)] w fun e w' => e = .returned (.int .i64 (Lib.ctz 64 x : Int)) ∧ w' = w := by
  obtain ⟨hlow, hk⟩ := Lib.lowest_bit 64 x h0 hx
  obtain ⟨hi, htab⟩ := Lib.deBruijn64_at _ hk
  have hcell := hG.tab.cell gTab _ (by rw [tab64_len]; exact hi)
  rw [tab64_getD, htab] at hcell
  exact tz64_core x _ _ w (by simp; omega) (tz64_key x _ hx h0 hlow) hi hk hcell
set_option maxHeartbeats 1000000 in
theorem all_in (A : Option Addr) (n c : Nat) (w : World) (m : Nat) :
    CallsIn Fence.wide m Tryd.prog 22 #[.agg #[.slice A n c]] w fun e w' => e = .returned (.func (.func 44) #[] #[.pointer (some ⟨w.heap.size, 0, none⟩)]) ∧ w' = w.alloc (.cells #[.slice A n c] 27) := by
  refine callsIn_of_wp Tryd.func22 rfl trivial ?_ rfl
  simp only [Tryd.ntmps22, List.size_toArray, List.length_cons, List.length_nil, Nat.reduceAdd, Nat.reduceSub, Array.replicate_succ, Array.replicate_zero, List.push_toArray, List.append_toArray, List.nil_append, List.cons_append]
  gi_wp2
  go_ret
  exact ⟨rfl, rfl⟩
theorem wrap_u64n (x : Nat) (h : x < 18446744073709551616) (h0 : x ≠ 0) : IntKind.u64.wrap ((x : Int) - 1) = ((x - 1 : Nat) : Int) := by rw [IntKind.wrap_u64]; omega
set_option maxRecDepth 100000 in
set_option maxHeartbeats 4000000 in
theorem iter_yield (n : Nat) (hn : 1 ≤ n) (l Bs : Nat) (A : Option Addr) (c : Nat) (ws : List Int) (w0 : World) (hG : GW w0) (hC : Kd.C (Kd.int .u64) w0 A ws.length ws) (hok : okW ws) (hlen : ws.length ≤ 100000) (J Jx : List Int → World → Prop)
    (hY : ∀ pre x W, J pre W → (pre ++ [x]) <+: elF 0 ws → YieldAt Fence.wide (n - 1) Tryd.prog l #[.int .i64 x] W fun e W' =>
      (e = .returned (.bool true) ∧ J (pre ++ [x]) W' ∧ Below w0.heap.size W W') ∨ (e = .returned (.bool false) ∧ Jx (pre ++ [x]) W'))
    (W : World) (hB : Below w0.heap.size w0 W) (hBs : W.cell? ⟨Bs, 0, none⟩ = some (.slice A ws.length c)) (h0 : J [] W) :
    CallsIn Fence.wide n Tryd.prog 44 #[.func (.yield l) #[] #[], .pointer (some ⟨Bs, 0, none⟩)] W fun e W' => (∃ v, e = .returned v) ∧
      ((∃ ys, ys = elF 0 ws ∧ J ys W') ∨ (∃ pre, pre <+: elF 0 ws ∧ Jx pre W')) := by
  refine callsIn_of_wp Tryd.func44 rfl trivial ?_ rfl
  simp only [Tryd.ntmps44, List.size_toArray, List.length_cons, List.length_nil, Nat.reduceAdd, Nat.reduceSub, Array.replicate_succ, Array.replicate_zero, List.push_toArray, List.append_toArray, List.nil_append, List.cons_append]
  have HOK := Aside0.mk hok
  have HY := Aside0.mk hY
  have HC := Aside0.mk hC
  clear hok hY hC
  gi_wp2
  gi_loopw [8] (fun v8 wr => ∃ (k : Nat) (pre : List Int), v8 = .int .i64 (k : Int) ∧ Aside0 (k ≤ ws.length) ∧ Aside0 (pre ++ elF k (ws.drop k) = elF 0 ws) ∧ Aside0 (J pre wr) ∧ Aside0 (Below w0.heap.size w0 wr)) (fun v8 _ => ws.length - (intOf v8).toNat)
  case atStart => exact ⟨0, [], rfl, ⟨Nat.zero_le _⟩, ⟨rfl⟩, ⟨h0⟩, ⟨hB⟩⟩
  case round =>
    obtain ⟨k, pre, rfl, HK, HE, HJ, HB⟩ := hrel
    by_cases hlt : k < ws.length
    · have he := HE.out
      rw [List.drop_eq_getElem_cons hlt, elF] at he
      have hw := HOK.out ws[k] (List.getElem_mem hlt)
      obtain ⟨ad, e0, hx⟩ := Kd.at_int HC.out (k : Int) (by omega) (by omega)
      cases e0
      have hrd : rd ws (k : Int) = ws[k] := by simp [rd, List.getD_eq_getElem?_getD, List.getElem?_eq_getElem hlt]
      rw [hrd, Int.toNat_natCast] at hx
      replace hx := (HB.out.cell (World.block_lt_of_cell? w0 _ hx)).trans hx
      obtain ⟨x, hxx⟩ : ∃ x : Nat, ws[k] = (x : Int) := ⟨ws[k].toNat, by omega⟩
      rw [hxx] at hx he hw
      rw [Int.toNat_natCast] at he
      have HE2 := Aside0.mk he
      have HX := Aside0.mk hw.2
      clear he hw hrd hxx HE
      have hlt2 : (k : Int) < (ws.length : Int) := by omega
      gi_wp2
      obtain ⟨wo, rfl⟩ : ∃ wo : World, wo = wr := ⟨_, rfl⟩
      gi_loopw [4] (fun v4 wr => ∃ (x1 : Nat) (pre1 : List Int), v4 = .int .u64 (x1 : Int) ∧ Aside0 (x1 < 18446744073709551616) ∧ Aside0 (pre1 ++ ((onesF x1).map (fun b => ((k * 64 + b : Nat) : Int)) ++ elF (k + 1) (ws.drop (k + 1))) = elF 0 ws) ∧ Aside0 (J pre1 wr) ∧ Aside0 (Below w0.heap.size w0 wr)) (fun v4 _ => (intOf v4).toNat)
      case atStart => exact ⟨x, pre, rfl, ⟨by have := HX.out; omega⟩, HE2, HJ, HB⟩
      case round =>
        clear HE2 HJ HB hx
        obtain ⟨x1, pre1, rfl, HX1, HE, HJ, HB⟩ := hrel
        by_cases hx0 : x1 = 0
        · subst hx0
          have he := HE.out
          rw [ones_zero, List.map_nil, List.nil_append] at he
          have HE3 := Aside0.mk he
          clear he
          gi_wp2
          go_roundw
          case rel => exact ⟨k + 1, pre1, by go_num, ⟨by omega⟩, HE3, HJ, HB⟩
          case measure => simp [intOf]; omega
        · have hst := ones_step x1 hx0 HX1.out
          have he := HE.out
          rw [hst, List.map_cons, List.cons_append] at he
          have hcz := ctz_lt x1 hx0 HX1.out
          have hGw := hG.below HB.out
          obtain ⟨b, hb⟩ : ∃ b, b = Lib.ctz 64 x1 := ⟨_, rfl⟩
          rw [← hb] at he hcz
          obtain ⟨y, hy0⟩ : ∃ y : Int, y = ((k * 64 + b : Nat) : Int) := ⟨_, rfl⟩
          rw [← hy0] at he
          have hl : (pre1 ++ [y]) <+: elF 0 ws := ⟨_, by rw [← he, List.append_assoc]; rfl⟩
          obtain ⟨fn, tmps, assign, body, hy, hR⟩ := HY.out pre1 y wr HJ.out hl
          have hand := and_lt x1 hx0
          have hz := (tz_calls x1 HX1.out hx0 wr hGw)
          rw [← hb] at hz
          have HZ := Aside0.mk hz
          have HE3 := Aside0.mk he
          have HAND := Aside0.mk hand
          have HR := Aside0.mk hR
          have m1 : wrap64 ((k : Int) * 64 + (b : Int)) = y := by rw [hy0]; unfold wrap64; omega
          have HY0 := Aside0.mk hy0
          have HCZ := Aside0.mk hcz
          have z1 : ((x1 : Int) == 0) = false := beq_eq_false_iff_ne.mpr (by omega)
          have z2 : ((x1 : Int) != 0) = true := bne_iff_ne.mpr (by omega)
          clear he hand hz hl hst hcz hb hy0 hR
          gi_wp2_with (refine ⟨trivial, ?_⟩; gi_at_call 45; refine (callsIn_wide.2 HZ.out).mono ?_; rintro e w' ⟨rfl, rfl⟩)
          refine HR.out.mono ?_
          rintro e W3 (⟨rfl, hJ3, hk3⟩ | ⟨rfl, hJx3⟩)
          · have HJ3 := Aside0.mk hJ3
            have HB3 := Aside0.mk (HB.out.trans hk3)
            clear hJ3 hk3
            have hnx : bits BinOp.and IntKind.u64 (x1 : Int) (IntKind.u64.wrap ((x1 : Int) - 1)) = ((x1 &&& (x1 - 1) : Nat) : Int) := by
              rw [wrap_u64n x1 HX1.out hx0, bits_and_u64_nat x1 (x1 - 1) HX1.out (by have := HX1.out; omega)]
            have HN := Aside0.mk hnx
            clear hnx
            gi_wp2
            rw [HN.out]
            go_roundw
            case rel => exact ⟨x1 &&& (x1 - 1), pre1 ++ [y], rfl, ⟨by have := HAND.out; have := HX1.out; omega⟩, ⟨by rw [List.append_assoc]; exact (by have h_ := HE3.out; rw [HY0.out]; rw [HY0.out] at h_; exact h_)⟩, HJ3, HB3⟩
            case measure => have := HAND.out; simp [intOf]; omega
          · have HE4 := HE3.out
            gi_wp2
            refine bodyPost_ret (results_none rfl _ _ _) rfl ?_
            exact ⟨⟨_, rfl⟩, .inr ⟨pre1 ++ [y], ⟨_, by rw [← HE4, List.append_assoc]; rfl⟩, hJx3⟩⟩
    · obtain rfl : k = ws.length := by have := HK.out; omega
      have he := HE.out
      rw [List.drop_length, elF, List.append_nil] at he
      have HE2 := Aside0.mk he
      clear he
      gi_wp2
      go_end0
      exact ⟨⟨_, rfl⟩, .inl ⟨pre, HE2.out, HJ.out⟩⟩
set_option maxRecDepth 100000 in
set_option maxHeartbeats 4000000 in
theorem iter_23 (n : Nat) (hn : 1 ≤ n) (p q : Nat) (Bs : Nat) (A : Option Addr) (c : Nat) (ws : List Int) (w0 : World) (hG : GW w0) (hC : Kd.C (Kd.int .u64) w0 A ws.length ws) (hok : okW ws) (hlen : ws.length ≤ 100000) (J Jx : List Int → World → Prop)
    (hY : ∀ pre x W, J pre W → (pre ++ [x]) <+: elF 0 ws → Calls Tryd.prog 23 #[.int .i64 x, .pointer (some ⟨p, 0, none⟩), .pointer (some ⟨q, 0, none⟩)] W fun e W' =>
      (e = .returned (.bool true) ∧ J (pre ++ [x]) W' ∧ Below w0.heap.size W W') ∨ (e = .returned (.bool false) ∧ Jx (pre ++ [x]) W'))
    (W : World) (hB : Below w0.heap.size w0 W) (hBs : W.cell? ⟨Bs, 0, none⟩ = some (.slice A ws.length c)) (h0 : J [] W) :
    CallsIn Fence.wide n Tryd.prog 44 #[.func (.func 23) #[] #[.pointer (some ⟨p, 0, none⟩), .pointer (some ⟨q, 0, none⟩)], .pointer (some ⟨Bs, 0, none⟩)] W fun e W' => (∃ v, e = .returned v) ∧
      ((∃ ys, ys = elF 0 ws ∧ J ys W') ∨ (∃ pre, pre <+: elF 0 ws ∧ Jx pre W')) := by
  refine callsIn_of_wp Tryd.func44 rfl trivial ?_ rfl
  simp only [Tryd.ntmps44, List.size_toArray, List.length_cons, List.length_nil, Nat.reduceAdd, Nat.reduceSub, Array.replicate_succ, Array.replicate_zero, List.push_toArray, List.append_toArray, List.nil_append, List.cons_append]
  have HOK := Aside0.mk hok
  have HY := Aside0.mk hY
  have HC := Aside0.mk hC
  clear hok hY hC
  gi_wp2
  gi_loopw [8] (fun v8 wr => ∃ (k : Nat) (pre : List Int), v8 = .int .i64 (k : Int) ∧ Aside0 (k ≤ ws.length) ∧ Aside0 (pre ++ elF k (ws.drop k) = elF 0 ws) ∧ Aside0 (J pre wr) ∧ Aside0 (Below w0.heap.size w0 wr)) (fun v8 _ => ws.length - (intOf v8).toNat)
  case atStart => exact ⟨0, [], rfl, ⟨Nat.zero_le _⟩, ⟨rfl⟩, ⟨h0⟩, ⟨hB⟩⟩
  case round =>
    obtain ⟨k, pre, rfl, HK, HE, HJ, HB⟩ := hrel
    by_cases hlt : k < ws.length
    · have he := HE.out
      rw [List.drop_eq_getElem_cons hlt, elF] at he
      have hw := HOK.out ws[k] (List.getElem_mem hlt)
      obtain ⟨ad, e0, hx⟩ := Kd.at_int HC.out (k : Int) (by omega) (by omega)
      cases e0
      have hrd : rd ws (k : Int) = ws[k] := by simp [rd, List.getD_eq_getElem?_getD, List.getElem?_eq_getElem hlt]
      rw [hrd, Int.toNat_natCast] at hx
      replace hx := (HB.out.cell (World.block_lt_of_cell? w0 _ hx)).trans hx
      obtain ⟨x, hxx⟩ : ∃ x : Nat, ws[k] = (x : Int) := ⟨ws[k].toNat, by omega⟩
      rw [hxx] at hx he hw
      rw [Int.toNat_natCast] at he
      have HE2 := Aside0.mk he
      have HX := Aside0.mk hw.2
      clear he hw hrd hxx HE
      have hlt2 : (k : Int) < (ws.length : Int) := by omega
      gi_wp2
      obtain ⟨wo, rfl⟩ : ∃ wo : World, wo = wr := ⟨_, rfl⟩
      gi_loopw [4] (fun v4 wr => ∃ (x1 : Nat) (pre1 : List Int), v4 = .int .u64 (x1 : Int) ∧ Aside0 (x1 < 18446744073709551616) ∧ Aside0 (pre1 ++ ((onesF x1).map (fun b => ((k * 64 + b : Nat) : Int)) ++ elF (k + 1) (ws.drop (k + 1))) = elF 0 ws) ∧ Aside0 (J pre1 wr) ∧ Aside0 (Below w0.heap.size w0 wr)) (fun v4 _ => (intOf v4).toNat)
      case atStart => exact ⟨x, pre, rfl, ⟨by have := HX.out; omega⟩, HE2, HJ, HB⟩
      case round =>
        clear HE2 HJ HB hx
        obtain ⟨x1, pre1, rfl, HX1, HE, HJ, HB⟩ := hrel
        by_cases hx0 : x1 = 0
        · subst hx0
          have he := HE.out
          rw [ones_zero, List.map_nil, List.nil_append] at he
          have HE3 := Aside0.mk he
          clear he
          gi_wp2
          go_roundw
          case rel => exact ⟨k + 1, pre1, by go_num, ⟨by omega⟩, HE3, HJ, HB⟩
          case measure => simp [intOf]; omega
        · have hst := ones_step x1 hx0 HX1.out
          have he := HE.out
          rw [hst, List.map_cons, List.cons_append] at he
          have hcz := ctz_lt x1 hx0 HX1.out
          have hGw := hG.below HB.out
          obtain ⟨b, hb⟩ : ∃ b, b = Lib.ctz 64 x1 := ⟨_, rfl⟩
          rw [← hb] at he hcz
          obtain ⟨y, hy0⟩ : ∃ y : Int, y = ((k * 64 + b : Nat) : Int) := ⟨_, rfl⟩
          rw [← hy0] at he
          have hl : (pre1 ++ [y]) <+: elF 0 ws := ⟨_, by rw [← he, List.append_assoc]; rfl⟩
          have hR := HY.out pre1 y wr HJ.out hl
          have hand := and_lt x1 hx0
          have hz := (tz_calls x1 HX1.out hx0 wr hGw)
          rw [← hb] at hz
          have HZ := Aside0.mk hz
          have HE3 := Aside0.mk he
          have HAND := Aside0.mk hand
          have HR := Aside0.mk hR
          have m1 : wrap64 ((k : Int) * 64 + (b : Int)) = y := by rw [hy0]; unfold wrap64; omega
          have HY0 := Aside0.mk hy0
          have HCZ := Aside0.mk hcz
          have z1 : ((x1 : Int) == 0) = false := beq_eq_false_iff_ne.mpr (by omega)
          have z2 : ((x1 : Int) != 0) = true := bne_iff_ne.mpr (by omega)
          clear he hand hz hl hst hcz hb hy0 hR
          gi_wp2_with (first | (refine ⟨trivial, ?_⟩; gi_at_call 45; refine (callsIn_wide.2 HZ.out).mono ?_; rintro e w' ⟨rfl, rfl⟩) | (refine ⟨trivial, ?_⟩; gi_at_call 23; refine (callsIn_wide.2 HR.out).mono ?_; skip))
          rintro e W3 (⟨rfl, hJ3, hk3⟩ | ⟨rfl, hJx3⟩)
          · have HJ3 := Aside0.mk hJ3
            have HB3 := Aside0.mk (HB.out.trans hk3)
            clear hJ3 hk3
            have hnx : bits BinOp.and IntKind.u64 (x1 : Int) (IntKind.u64.wrap ((x1 : Int) - 1)) = ((x1 &&& (x1 - 1) : Nat) : Int) := by
              rw [wrap_u64n x1 HX1.out hx0, bits_and_u64_nat x1 (x1 - 1) HX1.out (by have := HX1.out; omega)]
            have HN := Aside0.mk hnx
            clear hnx
            gi_wp2
            rw [HN.out]
            go_roundw
            case rel => exact ⟨x1 &&& (x1 - 1), pre1 ++ [y], rfl, ⟨by have := HAND.out; have := HX1.out; omega⟩, ⟨by rw [List.append_assoc]; exact (by have h_ := HE3.out; rw [HY0.out]; rw [HY0.out] at h_; exact h_)⟩, HJ3, HB3⟩
            case measure => have := HAND.out; simp [intOf]; omega
          · have HE4 := HE3.out
            gi_wp2
            refine bodyPost_ret (results_none rfl _ _ _) rfl ?_
            exact ⟨⟨_, rfl⟩, .inr ⟨pre1 ++ [y], ⟨_, by rw [← HE4, List.append_assoc]; rfl⟩, hJx3⟩⟩
    · obtain rfl : k = ws.length := by have := HK.out; omega
      have he := HE.out
      rw [List.drop_length, elF, List.append_nil] at he
      have HE2 := Aside0.mk he
      clear he
      gi_wp2
      go_end0
      exact ⟨⟨_, rfl⟩, .inl ⟨pre, HE2.out, HJ.out⟩⟩
def okB (l : List Int) : Bool := l.all fun x => decide (0 ≤ x) && decide (x < 18446744073709551616)
theorem okB_okW {l : List Int} (h : okB l = true) : okW l := fun x hx => by
  have := List.all_eq_true.1 h x hx
  simpa using this
end Go.Proofs.YtoobapkccogdhaaDoor.PX
/- strings.Builder over this program: copyCheck, WriteByte, WriteString and String, at a builder that the caller has made. -/
namespace Go.Proofs.YtoobapkccogdhaaDoor.PX
open Go.RowKit Go.Proofs.YtoobapkccogdhaaDoorW.PrintWords
set_option linter.unusedVariables false
set_option linter.unusedSimpArgs false
/-- A builder of the call's own that holds the bytes l. -/
def Bd (B b : Nat) (l : List UInt8) (w : World) : Prop := Lib.IsBuilder 70 5 B b (Lib.byteCells l) w
theorem builderAt_below {B b : Nat} {p : Value} {bs : List Value} {w w1 : World} (h : Lib.BuilderAt 70 5 B b p bs w) (hb : Below w.heap.size w w1) : Lib.BuilderAt 70 5 B b p bs w1 := by
  have hlt := h.lt
  obtain ⟨hB, v, hk, ho, hne⟩ := h
  exact ⟨hB, v, (hb.block b hlt).trans hk, pw_own_below ho hb, hne⟩
theorem Bd.below {B b : Nat} {l : List UInt8} {w w1 : World} (h : Bd B b l w) (hb : Below w.heap.size w w1) : Bd B b l w1 :=
  h.elim (fun h => .inl (builderAt_below h hb)) (fun h => .inr (builderAt_below h hb))
/-- Blocks of other types than a builder's and a byte's stand as they stood. -/
def KeepB (w w1 : World) : Prop := ∀ (t : TypeId) (g : Nat) (cs : Array Value), t ≠ 70 → t ≠ 5 → w.heap[g]? = some (.cells cs t (0, 0)) → w1.heap[g]? = some (.cells cs t (0, 0))
theorem KeepB.refl (w : World) : KeepB w w := fun _ _ _ _ _ h => h
theorem KeepB.trans {a b c : World} (h : KeepB a b) (k : KeepB b c) : KeepB a c := fun t g cs h1 h2 hg => k t g cs h1 h2 (h t g cs h1 h2 hg)
theorem KeepB.set {w : World} {b j : Nat} {v : Value} {cs1 : Array Value} (hb : w.heap[b]? = some (.cells cs1 70 (0, 0))) : KeepB w (w.setCell ⟨b, j, none⟩ v) := fun t g cs h1 h2 hg => by
  have hne : g ≠ b := by
    rintro rfl
    rw [hg] at hb
    cases hb
    exact h1 rfl
  exact (Below.heap_setCell w ⟨b, j, none⟩ v g hne).trans hg
theorem KeepB.alloc (w : World) (o : Obj) : KeepB w (w.alloc o) := fun t g cs h1 h2 hg => by
  have hlt : g < w.heap.size := by
    by_cases hl : g < w.heap.size
    · exact hl
    · rw [Array.getElem?_eq_none (by omega)] at hg; cases hg
  rw [Lib.alloc_old w _ g hlt]
  exact hg
theorem KeepB.grown {w w1 : World} {B n : Nat} {v : Value} {xs : List Value} (ho : w.ownsRow B 5 1 v n xs) (hgr : w.grownBy w1 v.ownBlock) : KeepB w w1 := fun t g cs h1 h2 hg => by
  have hlt : g < w.heap.size := by
    by_cases hl : g < w.heap.size
    · exact hl
    · rw [Array.getElem?_eq_none (by omega)] at hg; cases hg
  have hne : v.ownBlock ≠ some g := by
    intro e
    obtain ⟨cells, hc⟩ := own_typed ho g e
    rw [hg] at hc
    cases hc
    exact h2 rfl
  rw [hgr.block g hlt (fun e => hne e.symm)]
  exact hg
set_option maxHeartbeats 1000000 in
set_option maxRecDepth 100000 in
theorem check_calls (B b : Nat) (bs : List Value) (w : World) (h : Lib.IsBuilder 70 5 B b bs w) :
    Calls Tryd.prog 59 #[.pointer (some ⟨b, 0, none⟩)] w fun e w1 => e = .returned (.tuple #[]) ∧ Lib.BuilderAt 70 5 B b (.pointer (some ⟨b, 0, none⟩)) bs w1 ∧ Below B w w1 ∧ KeepB w w1 := by
  obtain ⟨j, hj, hjs⟩ := Option.map_eq_some_iff.1 (show (Tryd.prog.info? 70).map (·.size) = some 2 by kernel_rfl)
  have hlies : liesAt Tryd.prog Tryd.prog.depth 70 (2 / Tryd.prog.cellsOf 70) 0 70 1 = true := by kernel_rfl
  rcases h with h | h
  · have h0 := h.cell0
    have hsh := h.shape
    have hfz := h.frozen0
    go_enter Tryd.func59, Tryd.ntmps59
    go_wp2
    rw [Lib.run_to_unsafe w ⟨b, 0, none⟩ Tryd.underlying67 Tryd.underlying84 hj (by rw [hjs]; decide) hsh (Nat.zero_lt_succ 1)]
    simp only [Result.andThen]
    rw [Oper.upon_value]
    go_wp2
    rw [run_callFunc_extern Tryd.func65 (by kernel_rfl) (by kernel_rfl) (by kernel_rfl) (e := Extern.AbiNoEscape.same) (by kernel_rfl), Lib.run_noEscape]
    simp only [Result.andThen]
    rw [Oper.upon_value]
    go_wp2
    rw [Lib.run_from_unsafe w ⟨b, 0, none⟩ Tryd.underlying84 Tryd.underlying67 hj hsh hlies]
    simp only [Result.andThen]
    rw [Oper.upon_value]
    go_wp2
    go_end0
    exact ⟨rfl, h.used _, (Below.refl B w).setCell (p := ⟨b, 0, none⟩) h.1 _, KeepB.set (h.2.choose_spec.1)⟩
  · have h0 := h.cell0
    go_enter Tryd.func59, Tryd.ntmps59
    go_wp2
    rw [Lib.run_neq_ptr_same w _ Tryd.underlying67 hj]
    go_wp2
    go_end0
    exact ⟨rfl, h, Below.refl B w, KeepB.refl w⟩
theorem byteCells_append (a c : List UInt8) : Lib.byteCells a ++ Lib.byteCells c = Lib.byteCells (a ++ c) := by simp [Lib.byteCells]
theorem info_u8 : (Tryd.prog.info? 5).map (fun i => (i.zero, i.size, i.bytes)) = some (some (.int .u8 0), 1, 1) := by kernel_rfl
set_option maxHeartbeats 2000000 in
set_option maxRecDepth 100000 in
theorem writeString_calls (B b : Nat) (l : List UInt8) (s : ByteArray) (w : World) (h : Bd B b l w) (hlen : l.length + s.size ≤ 140737488355328) (hBw : B ≤ w.heap.size) :
    Calls Tryd.prog 56 #[.pointer (some ⟨b, 0, none⟩), .string s] w fun e w1 => e = .returned (.tuple #[.int .i64 s.size, .nilIface]) ∧ Bd B b (l ++ s.data.toList) w1 ∧ Below B w w1 ∧ KeepB w w1 := by
  obtain ⟨i0, hi, hz0, hz1, hz2⟩ := info_parts info_u8
  have hbl : (Lib.byteCells l).length = l.length := Lib.byteCells_length l
  go_enter Tryd.func56, Tryd.ntmps56
  go_wp2_with (go_at_call 59; refine (check_calls B b (Lib.byteCells l) _ h).mono ?_)
  rintro e w1 ⟨rfl, h1, hb1, hk1⟩
  obtain ⟨hB, v, hbk, hown, hne⟩ := h1
  have c0 : w1.cell? ⟨b, 0, none⟩ = some (.pointer (some ⟨b, 0, none⟩)) := by rw [Lib.cell_of_heap hbk]; rfl
  have c1 : w1.cell? ⟨b, 1, none⟩ = some v := by rw [Lib.cell_of_heap hbk]; rfl
  go_wp2_with (at_builtin; refine Lib.wpList_append_own_string _ rfl _ _ 68 9 rfl B 5 i0 Tryd.underlying68 Tryd.underlying9 hi hz0 hz1 hz2 _ _ _ rfl hown s rfl ?c3 ?c4 ?c5 ?_)
  case c3 => unfold maxLen; omega
  case c4 => omega
  case c5 => have := hb1.size; omega
  intro v2 w2 hown2 hgrow _
  have hlt : b < w1.heap.size := Lib.BuilderAt.lt ⟨hB, v, hbk, hown, hne⟩
  have hb2 : w2.heap[b]? = some (.cells #[.pointer (some ⟨b, 0, none⟩), v] 70 (0, 0)) := by
    rw [hgrow.block b hlt (fun e => hne e.symm)]
    exact hbk
  have d0 : w2.cell? ⟨b, 0, none⟩ = some (.pointer (some ⟨b, 0, none⟩)) := by rw [Lib.cell_of_heap hb2]; rfl
  have d1 : w2.cell? ⟨b, 1, none⟩ = some v := by rw [Lib.cell_of_heap hb2]; rfl
  have f1 : w2.frozen? ⟨b, 1, none⟩ = false := Lib.frozen_of_heap hb2 1
  obtain ⟨ao, n2, cap, rfl⟩ : ∃ ao n2 cap, v2 = .slice ao n2 cap := by
    rcases hown2.2 with ⟨hv, _⟩ | ⟨g, cap, cur, hv, _⟩
    · exact ⟨_, _, _, hv⟩
    · exact ⟨_, _, _, hv⟩
  go_wp2
  go_ret2
  refine ⟨rfl, .inr ?_, ?_, ?_⟩
  · have h5 := Lib.BuilderAt.put (T := 70) (e := 5) (bs' := Lib.byteCells l ++ Lib.strCells s) hB hb2 (by rw [List.length_append, hbl, Lib.strCells_length]; simpa [hbl] using hown2) (by decide)
    rw [show Lib.byteCells l ++ Lib.strCells s = Lib.byteCells (l ++ s.data.toList) from byteCells_append l s.data.toList] at h5
    exact h5
  · exact (hb1.grown hgrow (by have := hb1.size; omega) (fun k hk => (hown.lt k hk).1)).setCell (p := ⟨b, 1, none⟩) hB _
  · exact (hk1.trans (KeepB.grown hown hgrow)).trans (KeepB.set hb2)
end Go.Proofs.YtoobapkccogdhaaDoor.PX
/- strings.Join at this program: the walk of the library's own worked proof, turned to this program's functions. -/
namespace Go.Proofs.YtoobapkccogdhaaDoor.PX
open Go.RowKit Go.Proofs.YtoobapkccogdhaaDoorW.PrintWords
set_option linter.unusedVariables false
set_option linter.unusedSimpArgs false
theorem hidJ {p : Prop} (h : p) : Hid p := h
theorem cells_add (l : List UInt8) (s : ByteArray) : Lib.byteCells l ++ Lib.strCells s = Lib.byteCells (l ++ s.data.toList) := byteCells_append l s.data.toList
theorem ws_calls (B b : Nat) (l : List UInt8) (bs : List Value) (hl : bs = Lib.byteCells l) (s : ByteArray) (w : World) (h : Lib.IsBuilder 70 5 B b bs w) (hlen : bs.length + s.size ≤ 140737488355328) (hBw : B ≤ w.heap.size) :
    Calls Tryd.prog 56 #[.pointer (some ⟨b, 0, none⟩), .string s] w fun e w1 => e = .returned (.tuple #[.int .i64 s.size, .nilIface]) ∧ Lib.IsBuilder 70 5 B b (bs ++ Lib.strCells s) w1 ∧ Below B w w1 := by
  subst hl
  refine (writeString_calls B b l s w h (by rw [Lib.byteCells_length] at hlen; exact hlen) hBw).mono ?_
  rintro e w1 ⟨rfl, h1, h2, _⟩
  exact ⟨rfl, by rw [cells_add]; exact h1, h2⟩
set_option maxHeartbeats 4000000 in
set_option maxRecDepth 100000 in
theorem join_many (bk o c : Nat) (xs : List ByteArray) (sep : ByteArray) (w : World)
    (hcells : ∀ (j : Nat) x, xs[j]? = some x → w.cell? ⟨bk, o + j, none⟩ = some (.string x))
    (hbk : bk < w.heap.size) (h2 : 2 ≤ xs.length) (hN : xs.length ≤ 140737488355328) (hcap : xs.length ≤ c)
    (hlen : (Lib.join (xs.map (·.data.toList)) sep.data.toList).length ≤ 140737488355328) :
    Calls Tryd.prog 42 #[.slice (some ⟨bk, o, none⟩) xs.length c, .string sep] w fun e w' => e = .returned (.string ⟨(Lib.join (xs.map (·.data.toList)) sep.data.toList).toArray⟩) ∧ Below w.heap.size w w' := by
  have HC := hidJ hcells
  clear hcells
  -- the lengths
  obtain ⟨x0, r, hxs⟩ : ∃ x0 r, xs = x0 :: r := by
    cases xs with
    | nil => simp at h2
    | cons a t => exact ⟨a, t, rfl⟩
  have hjl : sep.size * (xs.length - 1) + Lib.lens (xs.map (·.data.toList)) ≤ 140737488355328 := by
    have := Lib.join_length x0.data.toList (r.map (·.data.toList)) sep.data.toList
    rw [hxs] at hlen ⊢
    simp only [List.map_cons] at hlen ⊢
    rw [this, List.length_map] at hlen
    rw [Lib.size_eq, List.length_cons, Nat.add_sub_cancel]
    exact hlen
  have hmul : sep.size * (xs.length - 1) ≤ 140737488355328 := by omega
  generalize hM : sep.size * (xs.length - 1) = M at hjl hmul
  have hcast : ((xs.length : Int) - 1) = ((xs.length - 1 : Nat) : Int) := by omega
  have hlt : sep.size < 9223372036854775807 / (xs.length - 1) := by
    have : sep.size + 1 ≤ 9223372036854775807 / (xs.length - 1) := by
      rw [Nat.le_div_iff_mul_le (by omega), Nat.add_mul, hM]
      omega
    omega
  have hdv : ¬ (9223372036854775807 / ((xs.length : Int) - 1) ≤ (sep.size : Int)) := by
    have e : (9223372036854775807 : Int) / ((xs.length - 1 : Nat) : Int) = ((9223372036854775807 / (xs.length - 1) : Nat) : Int) := IntWalk.up_div (x := 9223372036854775807) rfl rfl
    rw [hcast, e]
    generalize 9223372036854775807 / (xs.length - 1) = q at hlt
    omega
  have hprod : wrap64 ((sep.size : Int) * ((xs.length : Int) - 1)) = (M : Int) := by
    have e : (sep.size : Int) * ((xs.length - 1 : Nat) : Int) = ((sep.size * (xs.length - 1) : Nat) : Int) := IntWalk.up_mul rfl rfl
    rw [hcast, e, hM]
    exact IntWalk.wrap64_in _ ⟨by omega, by omega⟩
  have hM0 : sep.size = 0 → M = 0 := fun h => by rw [← hM, h, Nat.zero_mul]
  clear hlt hcast
  have hne0 : ((xs.length : Int) == 0) = false := beq_eq_false_iff_ne.2 (by omega)
  have hne1 : ((xs.length : Int) == 1) = false := beq_eq_false_iff_ne.2 (by omega)
  have Hxs := hidJ hxs
  have Hlen := hidJ hlen
  clear hxs hlen
  go_enter Tryd.func42, Tryd.ntmps42
  go_wp2_with fail
  all_goals (
    go_loop [5, 41] (fun n i => ∃ k : Nat, k ≤ xs.length ∧ i = .int .i64 k ∧ n = .int .i64 ((M + Lib.lens ((xs.map (·.data.toList)).take k) : Nat) : Int)) (fun _ i => xs.length - (intOf i).toNat)
    case atStart => exact ⟨0, Nat.zero_le _, rfl, by first | (simp [Lib.lens]; done) | (have := hM0 (by omega); simp [Lib.lens, this])⟩
    case round =>
      obtain ⟨k, hk, rfl, rfl⟩ := hrel
      by_cases hkn : k < xs.length
      · obtain ⟨x, hx⟩ : ∃ x, xs[k]? = some x := ⟨xs[k], List.getElem?_eq_getElem hkn⟩
        have hc := HC.out k x hx
        have hstep := Lib.lens_take_succ (xs.map (·.data.toList)) k x.data.toList (by simp [hx])
        have hbound : Lib.lens ((xs.map (·.data.toList)).take (k + 1)) ≤ Lib.lens (xs.map (·.data.toList)) := Lib.lens_take_le _ _
        rw [← Lib.size_eq] at hstep
        generalize hA1 : Lib.lens ((xs.map (·.data.toList)).take (k + 1)) = A1 at hstep hbound
        generalize Lib.lens ((xs.map (·.data.toList)).take k) = A0 at hstep
        have HA1 := hidJ hA1
        clear hA1
        go_wp2
        exact ⟨⟨k + 1, by omega, by go_num, by rw [HA1.out]; refine congrArg _ ?_; omega⟩, by simp [intOf]; omega⟩
      · have hke : k = xs.length := by omega
        subst hke
        have hall : (xs.map (·.data.toList)).take xs.length = xs.map (·.data.toList) := List.take_of_length_le (by simp)
        rw [hall]
        generalize hT : Lib.lens (xs.map (·.data.toList)) = T at hjl
        have HT := hidJ hT
        clear hT hall
        go_wp2_with fail
        have hMT : ((M : Int) + (T : Int)) = ((M + T : Nat) : Int) := by omega
        rw [hMT]
        refine (Tryd.Builder_Grow_fresh w.heap.size w.heap.size (M + T) _ (Nat.le_refl _) (heap_alloc_new w _) (by simp) (by omega)).mono ?_
        rintro e w1 ⟨rfl, h1, hb1⟩
        have hb1' : Below w.heap.size w w1 := ((Below.refl w.heap.size w).alloc (Nat.le_refl _) _).trans hb1
        -- the first element
        have hx0 : xs[0]? = some x0 := by rw [Hxs.out]; rfl
        have hc0 : w1.cell? ⟨bk, o, none⟩ = some (.string x0) := by
          rw [hb1'.cell (p := ⟨bk, o, none⟩) hbk]
          exact HC.out 0 x0 hx0
        have H1 := hidJ (Or.inr h1 : Lib.IsBuilder 70 5 w.heap.size w.heap.size [] w1)
        have Hb1 := hidJ hb1'
        have hBw1 : w.heap.size ≤ w1.heap.size := hb1'.size
        clear h1 hb1 hb1' hMT
        -- what the builder holds behind k rounds of the second loop; and that it is never longer than the whole
        have hwhole : Lib.join (xs.map (·.data.toList)) sep.data.toList = x0.data.toList ++ Lib.joinTail sep.data.toList (r.map (·.data.toList)) := by
          rw [Hxs.out, List.map_cons, Lib.join_cons]
        have hCle : ∀ k, (x0.data.toList ++ Lib.joinTail sep.data.toList ((r.map (·.data.toList)).take k)).length ≤ 140737488355328 := fun k => by
          have h1 := Hlen.out
          rw [hwhole, List.length_append] at h1
          have h2 := Lib.joinTail_take_le sep.data.toList (r.map (·.data.toList)) k
          rw [List.length_append]
          omega
        have HCle := hidJ hCle
        have Hwhole := hidJ hwhole
        clear hCle hwhole
        go_wp2_with fail
        refine (ws_calls w.heap.size w.heap.size [] [] rfl x0 w1 H1.out (by have := HCle.out 0; simp [Lib.joinTail] at this ⊢; omega) hBw1).mono ?_
        rintro e w2 ⟨rfl, h2', hb2⟩
        have hstart : ([] : List Value) ++ Lib.strCells x0 = Lib.byteCells (x0.data.toList ++ Lib.joinTail sep.data.toList ((r.map (·.data.toList)).take 0)) := by
          simp [Lib.joinTail, Lib.strCells_eq]
        rw [hstart] at h2'
        have H2 := hidJ (h2' : Lib.IsBuilder 70 5 w.heap.size w.heap.size _ w2)
        have Hb2 := hidJ (Hb1.out.trans hb2)
        clear h2' hb2 hstart
        have hrl : r.length = xs.length - 1 := by rw [Hxs.out]; simp
        go_wp2_with fail
        go_loopw [65] (fun i wr => ∃ k : Nat, k ≤ r.length ∧ i = .int .i64 k ∧ Hid (Lib.IsBuilder 70 5 w.heap.size w.heap.size (Lib.byteCells (x0.data.toList ++ Lib.joinTail sep.data.toList ((r.map (·.data.toList)).take k))) wr) ∧ Hid (Below w.heap.size w wr)) (fun i _ => r.length - (intOf i).toNat)
        case atStart => exact ⟨0, Nat.zero_le _, rfl, H2, Hb2⟩
        case round =>
          obtain ⟨k, hk', rfl, HB, HW⟩ := hrel
          by_cases hkr : k < r.length
          · obtain ⟨y, hy⟩ : ∃ y, r[k]? = some y := ⟨r[k], List.getElem?_eq_getElem hkr⟩
            have hxy : xs[k + 1]? = some y := by rw [Hxs.out]; simpa using hy
            have hcy : wr.cell? ⟨bk, o + 1 + k, none⟩ = some (.string y) := by
              rw [HW.out.cell (p := ⟨bk, o + 1 + k, none⟩) hbk, show o + 1 + k = o + (k + 1) by omega]
              exact HC.out (k + 1) y hxy
            have hBw : w.heap.size ≤ wr.heap.size := HW.out.size
            have hnext : Lib.byteCells (x0.data.toList ++ Lib.joinTail sep.data.toList ((r.map (·.data.toList)).take k)) ++ Lib.strCells sep ++ Lib.strCells y = Lib.byteCells (x0.data.toList ++ Lib.joinTail sep.data.toList ((r.map (·.data.toList)).take (k + 1))) := by
              rw [Lib.joinTail_take_succ sep.data.toList (r.map (·.data.toList)) k y.data.toList (by simp [hy]), Lib.strCells_eq, Lib.strCells_eq, ← Lib.byteCells_append, ← Lib.byteCells_append, List.append_assoc, List.append_assoc, List.append_assoc]
            have hl1 := HCle.out (k + 1)
            rw [Lib.joinTail_take_succ sep.data.toList (r.map (·.data.toList)) k y.data.toList (by simp [hy])] at hl1
            simp only [List.length_append, ← Lib.size_eq] at hl1
            have hl0 : (Lib.byteCells (x0.data.toList ++ Lib.joinTail sep.data.toList ((r.map (·.data.toList)).take k))).length = x0.size + (Lib.joinTail sep.data.toList ((r.map (·.data.toList)).take k)).length := by
              rw [Lib.byteCells_length, List.length_append, ← Lib.size_eq]
            generalize (Lib.joinTail sep.data.toList ((r.map (·.data.toList)).take k)).length = J at hl0 hl1
            have Hn := hidJ hnext
            clear hnext hy hxy
            go_wp2_with fail
            refine (ws_calls w.heap.size w.heap.size _ _ rfl sep wr HB.out (by rw [hl0]; omega) hBw).mono ?_
            rintro e w3 ⟨rfl, h3, hb3⟩
            have hBw3 : w.heap.size ≤ w3.heap.size := Nat.le_trans hBw hb3.size
            have H3 := hidJ h3
            have Hb3 := hidJ hb3
            clear h3 hb3
            go_wp2_with fail
            refine (ws_calls w.heap.size w.heap.size _ _ (cells_add _ sep) y w3 H3.out (by rw [List.length_append, hl0, Lib.strCells_length]; omega) hBw3).mono ?_
            rintro e w4 ⟨rfl, h4, hb4⟩
            rw [Hn.out] at h4
            have H4 := hidJ (h4 : Lib.IsBuilder 70 5 w.heap.size w.heap.size _ w4)
            have Hb4 := hidJ ((HW.out.trans Hb3.out).trans hb4)
            clear h4 hb4
            go_wp2
            exact ⟨⟨k + 1, by omega, by go_num, H4, Hb4⟩, by simp [intOf]; omega⟩
          · have hke : k = r.length := by omega
            subst hke
            have hfull : (r.map (·.data.toList)).take r.length = r.map (·.data.toList) := List.take_of_length_le (by simp)
            have hB' := HB.out
            rw [hfull, ← Hwhole.out] at hB'
            have hBw : w.heap.size ≤ wr.heap.size := HW.out.size
            go_wp2_with fail
            refine (Tryd.Builder_String_any w.heap.size w.heap.size _ wr hB' hBw).mono ?_
            rintro e w5 ⟨rfl, hb5⟩
            have Hb5 := hidJ (HW.out.trans hb5)
            clear hb5 hB'
            go_wp2
            go_ret
            exact ⟨rfl, Hb5.out⟩)
set_option maxHeartbeats 2000000 in
set_option maxRecDepth 100000 in
theorem join_none (a : Option Addr) (c : Nat) (sep : ByteArray) (w : World) : Calls Tryd.prog 42 #[.slice a 0 c, .string sep] w fun e w' => e = .returned (.string ByteArray.empty) ∧ w' = w := by
  go_enter Tryd.func42, Tryd.ntmps42
  go_wp2
  go_ret
  exact ⟨rfl, rfl⟩
set_option maxHeartbeats 2000000 in
set_option maxRecDepth 100000 in
theorem join_one (bk o c : Nat) (x sep : ByteArray) (w : World) (hc : w.cell? ⟨bk, o, none⟩ = some (.string x)) : Calls Tryd.prog 42 #[.slice (some ⟨bk, o, none⟩) 1 c, .string sep] w fun e w' => e = .returned (.string x) ∧ w' = w := by
  go_enter Tryd.func42, Tryd.ntmps42
  go_wp2
  go_ret
  exact ⟨rfl, rfl⟩
/-- The strings with a separator between them. -/
def joinB (xs : List ByteArray) (sep : ByteArray) : ByteArray := ⟨(Lib.join (xs.map (·.data.toList)) sep.data.toList).toArray⟩
theorem join_calls (bk c : Nat) (xs : List ByteArray) (sep : ByteArray) (w : World) (hC : Kd.C Kd.string w (some ⟨bk, 0, none⟩) xs.length xs) (hN : xs.length ≤ 140737488355328) (hcap : xs.length ≤ c)
    (hlen : (Lib.join (xs.map (·.data.toList)) sep.data.toList).length ≤ 140737488355328) :
    Calls Tryd.prog 42 #[.slice (some ⟨bk, 0, none⟩) xs.length c, .string sep] w fun e w' => e = .returned (.string (joinB xs sep)) ∧ Below w.heap.size w w' := by
  have hcells : ∀ (j : Nat) x, xs[j]? = some x → w.cell? ⟨bk, 0 + j, none⟩ = some (.string x) := by
    intro j x hx
    obtain ⟨hj, hx'⟩ := List.getElem?_eq_some_iff.1 hx
    obtain ⟨ad, e0, hc⟩ := Kd.at_string hC (j : Int) (by omega) (by omega)
    cases e0
    rw [Int.toNat_natCast, add_plain] at hc
    rw [Nat.zero_add, hc]
    unfold rdOf
    rw [Int.toNat_natCast, List.getD_eq_getElem?_getD, hx, Option.getD_some]
  match xs, hcells, hN, hcap, hlen with
  | [], _, _, _, _ => exact (join_none _ c sep w).mono fun e w' ⟨he, hw⟩ => ⟨he, hw ▸ Below.refl _ _⟩
  | [x], hcells, _, _, _ =>
    refine (join_one bk 0 c x sep w (hcells 0 x rfl)).mono fun e w' ⟨he, hw⟩ => ⟨?_, hw ▸ Below.refl _ _⟩
    rw [he]
    unfold joinB
    rw [List.map_cons, List.map_nil, Lib.join_one]
  | x :: y :: r, hcells, hN, hcap, hlen =>
    have hbk : bk < w.heap.size := World.block_lt_of_cell? w _ (hcells 0 x rfl)
    exact join_many bk 0 c (x :: y :: r) sep w hcells hbk (by simp) hN hcap hlen
end Go.Proofs.YtoobapkccogdhaaDoor.PX
/- (bitset.Set).String: the loop over All, strconv.Itoa, strings.Join. -/
namespace Go.Proofs.YtoobapkccogdhaaDoor.PX
open Go.RowKit Go.Shelf Go.Proofs.YtoobapkccogdhaaDoorW.PrintWords Go.Proofs.YtoobapkccogdhaaDoorW.PrintMore
attribute [local go_sem] Oper.semAt_some
set_option linter.unusedVariables false
theorem elF_bd : ∀ (ws : List Int) (i : Nat) (x : Int), x ∈ elF i ws → 0 ≤ x ∧ x < ((i + ws.length) * 64 : Nat)
  | [], i, x, h => by simp [elF] at h
  | w :: ws, i, x, h => by
    rw [elF] at h
    rcases List.mem_append.1 h with h | h
    · obtain ⟨b, hb, rfl⟩ := List.mem_map.1 h
      have hb2 : b < 64 := List.mem_range.1 (List.mem_filter.1 hb).1
      rw [List.length_cons]
      omega
    · have := elF_bd ws (i + 1) x h
      rw [List.length_cons]
      omega
abbrev I64 := { x : Int // -9223372036854775808 ≤ x ∧ x ≤ 9223372036854775807 }
theorem all_stops (n : Nat) (hn : 1 ≤ n) (Bs : Nat) (A : Option Addr) (c : Nat) (ws : List Int) (w0 : World) (hG : GW w0) (hC : Kd.C (Kd.int .u64) w0 A ws.length ws) (hok : okW ws) (hlen : ws.length ≤ 100000) (w : World) (hb : Below w0.heap.size w0 w) (hBw : Bs < w.heap.size)
    (hBs : w.cell? ⟨Bs, 0, none⟩ = some (.slice A ws.length c)) :
    SeqStopsK Fence.wide n Tryd.prog 44 #[.pointer (some ⟨Bs, 0, none⟩)] (fun x : I64 => #[Value.int .i64 x.1]) (Below w0.heap.size) (fun ys => ys.map (·.1) = elF 0 ws) (fun pre => pre.map (·.1) <+: elF 0 ws) (elF 0 ws).length w := fun l J Jx W hW _ _ hY h0 => by
  have hbW : Below w0.heap.size w0 W := hb.trans (hW.mono hb.size)
  refine (iter_yield n hn l Bs A c ws w0 hG hC hok hlen (fun ps W => ∃ ls : List I64, ls.map (·.1) = ps ∧ J ls W) (fun ps W => ∃ ls : List I64, ls.map (·.1) = ps ∧ Jx ls W) ?_ W hbW ((hW.cell (p := ⟨Bs, 0, none⟩) hBw).trans hBs) ⟨[], rfl, h0⟩).mono ?_
  · rintro pre x W1 ⟨ls, hls, hJ⟩ hpre
    have hx : x ∈ elF 0 ws := hpre.subset (by simp)
    have hbd := elF_bd ws 0 x hx
    have hlt : ls.length < (elF 0 ws).length := by
      have h1 := hpre.length_le
      rw [List.length_append, List.length_singleton, ← hls, List.length_map] at h1
      omega
    refine (hY ls ⟨x, by omega, by omega⟩ W1 hJ hlt).mono ?_
    rintro e W2 (⟨rfl, h1, h2⟩ | ⟨rfl, h1⟩)
    · exact .inl ⟨rfl, ⟨_, by rw [List.map_append, hls]; rfl, h1⟩, h2⟩
    · exact .inr ⟨rfl, ⟨_, by rw [List.map_append, hls]; rfl, h1⟩⟩
  · rintro e W2 ⟨he, ⟨ys, rfl, ls, hls, hJ⟩ | ⟨pre, hp, ls, hls, hJ⟩⟩
    · exact ⟨he, .inl ⟨ls, hls, hJ⟩⟩
    · exact ⟨he, .inr ⟨ls, (by show ls.map (·.1) <+: elF 0 ws; rw [hls]; exact hp), hJ⟩⟩
section
variable {l n : Nat} {P : Program} {ops : Array Oper} {o : Oper} {a : Act} {Q : Exit → Act → World → Prop} {K : Act → World → Prop} {W : World} {E : Prop}
/-- append(v, x) as one step of a region that draws, in a loop's round. -/
theorem stepIn_append (base : Nat) (s x : Operand) (t e : TypeId) (z : Value) (bytes : Nat) (hw : Region.wanted o (yielded ops a.tmps) = true)
    (ho : o.op = .call { callee := .builtin .append, args := #[s, x], argTypes := #[t, t] })
    (ht : P.underlying t = some (.slice e)) (hinfo : (P.info? e).map (fun i => (i.zero, i.size, i.bytes)) = some (some z, 1, bytes)) (hz : z.cells.size = 1) (hb0 : 0 < bytes)
    (v : Value) (k : Nat) (xs : List Value) (y : Value) (hs : a.eval s = v) (hx : a.eval x = .slice (some ⟨W.heap.size, 0, none⟩) 1 1) (h1 : y.oneCell' = true)
    (HO : W.ownsRow base e 1 v k xs) (hbase : base ≤ W.heap.size) (hl : (k + 1) * bytes ≤ 140737488355328)
    (h : ∀ v1 w1, w1.ownsRow base e 1 v1 (k + 1) (xs ++ [y]) → (W.alloc (.cells #[y] e)).grownBy w1 v.ownBlock → K (a.put o.dst v1) w1) :
    if Region.wanted o (yielded ops a.tmps) = true then Oper.wpIn (Fence.wide.inRound l) n P o a (W.alloc (.cells #[y] e)) K Q else E := by
  obtain ⟨i0, hi, hzz⟩ := Option.map_eq_some_iff.1 hinfo
  simp only [Prod.mk.injEq] at hzz
  obtain ⟨hz0, hz1, hz2⟩ := hzz
  have hlen : k + 1 ≤ 140737488355328 := Nat.le_trans (Nat.le_mul_of_pos_right _ hb0) hl
  rw [if_pos hw]
  obtain ⟨v1, w1, hr, hown, hg, _, hat⟩ := run_append_own_at (P := P) (W.alloc (.cells #[y] e)) base t o.type e i0 z 1 bytes ht hi hz0 hz1 hz2 hz (by decide) v k xs (HO.alloc _) ⟨W.heap.size, 0, none⟩ 1 1 [y] rfl
    (by simpa using World.news_of_block (cs := #[y]) (t := e) (fr := (0, 0)) (heap_alloc_new W (.cells #[y] e))) (by simpa using h1) (by simp only [maxLen]; omega) hl (by simp; omega)
  have hex : (o.semAt (Fence.wide.inRound l).round a.eval).run P (W.alloc (.cells #[y] e)) = .ok (.value v1) w1 := by
    show (o.semAt (some l) a.eval).run P (W.alloc (.cells #[y] e)) = .ok (.value v1) w1
    rw [Oper.semAt_some l a.eval o (fun c hc => by rw [ho] at hc; cases hc)]
    unfold execOp
    simp only [ho, resolve, invoke, builtin, Sem.run_bind, Sem.run_pure, Result.andThen_ok, List.map_toArray, List.map_cons, List.map_nil, hs, hx, hr]
  refine ⟨fun _ _ => trivial, ?_⟩
  rw [hex]
  exact h v1 w1 hown hg
end
theorem info9 : (Tryd.prog.info? 9).map (fun i => (i.zero, i.size, i.bytes)) = some (some (.string ByteArray.empty), 1, 16) := by kernel_rfl
theorem join_bound (ys : List I64) : (Lib.join ((ys.map fun x => itoaB x.1).map (·.data.toList)) [32]).length ≤ 22 * ys.length := by
  have key : ∀ (zs : List I64), Lib.lens ((zs.map fun x => itoaB x.1).map (·.data.toList)) ≤ 21 * zs.length := by
    intro zs
    induction zs with
    | nil => simp [Lib.lens]
    | cons z zs ih =>
      have h1 : (itoaB z.1).data.toList.length ≤ 21 := by
        have := Lib.itoa_length_le z.1 z.2.1 z.2.2
        simpa [itoaB] using this
      have h2 : Lib.lens (((z :: zs).map fun x => itoaB x.1).map (·.data.toList)) = (itoaB z.1).data.toList.length + Lib.lens ((zs.map fun x => itoaB x.1).map (·.data.toList)) := by simp [Lib.lens]
      rw [h2, List.length_cons]
      omega
  cases ys with
  | nil => simp [Lib.join_nil]
  | cons y ys =>
    have := key (y :: ys)
    rw [List.map_cons, List.map_cons] at this ⊢
    rw [Lib.join_length, List.length_map, List.length_map]
    simp only [List.length_cons, List.length_nil] at this ⊢
    omega
def strS (xs : List Int) : ByteArray := ((⟨#[123]⟩ : ByteArray) ++ joinB (xs.map itoaB) (⟨#[32]⟩ : ByteArray)) ++ (⟨#[125]⟩ : ByteArray)
def bitset_Set_String.f (l0_0 : List Int) : Option ByteArray := if okB l0_0 = true ∧ l0_0.length ≤ 100000 ∧ (elF 0 l0_0).length < 99999 then some (strS (elF 0 l0_0)) else none
set_option maxHeartbeats 4000000 in
set_option maxRecDepth 100000 in
theorem bitset_Set_String.calls (A0_0 : Option Addr) (c0_0 : Nat) (l0_0 : List Int) (r : ByteArray) (w : World) (hr0_0 : Kd.C (Kd.int .u64) w A0_0 l0_0.length l0_0) (hc0_0 : l0_0.length ≤ c0_0) (hG : GW w) (h : bitset_Set_String.f l0_0 = some r) :
    Calls Tryd.prog 20 #[.agg #[.slice A0_0 l0_0.length c0_0]] w fun e w' => e = .returned (.string r) ∧ Below w.heap.size w w' := by
  unfold bitset_Set_String.f at h
  split at h
  case isFalse => cases h
  rename_i hh
  obtain ⟨h1, h2, h3⟩ := hh
  obtain rfl := Option.some.inj h
  clear h
  refine (callsIn_wide (n := 6)).1 ?_
  refine callsIn_of_wp_marks Tryd.func20 rfl trivial ?_ rfl
  simp only [Tryd.ntmps20, List.size_toArray, List.length_cons, List.length_nil, Nat.reduceAdd, Nat.reduceSub, Array.replicate_succ, Array.replicate_zero, List.push_toArray, List.append_toArray, List.nil_append, List.cons_append]
  gi_wp2_with (refine ⟨trivial, ?_⟩; gi_at_call 22; refine (all_in _ _ _ _ _).mono ?_; rintro e w' ⟨rfl, rfl⟩)
  have hbx := blk_new ((w.alloc (.cells #[.slice A0_0 l0_0.length c0_0] 27)).alloc (.cells #[.slice none 0 0] 60)) (.cells #[.slice A0_0 l0_0.length c0_0] 27)
  have hby := blk_alloc (blk_new (w.alloc (.cells #[.slice A0_0 l0_0.length c0_0] 27)) (.cells #[.slice none 0 0] 60)) (.cells #[.slice A0_0 l0_0.length c0_0] 27)
  simp only [World.size_alloc] at hbx hby
  have hb2 : Below w.heap.size w (((w.alloc (.cells #[.slice A0_0 l0_0.length c0_0] 27)).alloc (.cells #[.slice none 0 0] 60)).alloc (.cells #[.slice A0_0 l0_0.length c0_0] 27)) := below_alloc (below_alloc (below_alloc (Below.refl _ _) _) _) _
  refine wpIn_rangeFunc_ownG rfl (by omega) (gf := 44) (lb := #[.pointer (some ⟨w.heap.size + 1 + 1, 0, none⟩)]) rfl trivial (enters_of Tryd.func44 (by kernel_rfl) rfl)
    (all_stops 5 (by omega) (w.heap.size + 1 + 1) A0_0 c0_0 l0_0 w hG hr0_0 (okB_okW h1) h2 _ hb2 (by simp) (by rw [blk_cell hbx 0]; rfl)) belowK_t (belowK_b (by simp; omega)) (Below.refl _ _) (fun _ => rfl)
    (fun pre W => (∃ v, Boxed W (w.heap.size + 1) 60 v ∧ W.ownsRow w.heap.size 9 1 v pre.length (pre.map fun x => Value.string (itoaB x.1)) ∧ True) ∧ Below w.heap.size w W)
    (fun _ _ _ => False)
    (OwnFrom.and (Own.from (holdsRow_own w.heap.size (w.heap.size + 1) 60 9 1 (fun pre : List I64 => pre.length) (fun pre : List I64 => pre.map fun x => Value.string (itoaB x.1)) (fun _ _ => True)) _) (ownFrom_below (Nat.le_refl _) (by simp; omega)))
    (fun _ _ _ _ _ hs _ _ => hs)
    ⟨⟨_, hby, World.ownsRow_nil _ _ _ _, trivial⟩, hb2⟩
    (fun x => { tmps := #[.agg #[.slice A0_0 l0_0.length c0_0], .pointer (some ⟨w.heap.size, 0, none⟩), .string ⟨#[]⟩, .pointer (some ⟨w.heap.size + 1, 0, none⟩), .int .i64 x.1, .agg #[.slice A0_0 l0_0.length c0_0], .func (.func 44) #[] #[.pointer (some ⟨w.heap.size + 1 + 1, 0, none⟩)], .int .i64 x.1, undef, undef, undef, undef, undef, undef, undef, undef, undef], defers := [] }) ?assign ?body ?done ?stop
  case assign =>
    intro l x W K hK
    gi_wp2
    exact hK
  case body =>
    rintro l pre x W ⟨⟨v, hv, hrow, _⟩, hB⟩ hlt
    have HLT : Aside0 (w.heap.size + 1 < W.heap.size) := ⟨hv.lt⟩
    have HV := Aside0.mk hv
    have HROW := Aside0.mk hrow
    have HB := Aside0.mk hB
    have HPL : Aside0 (pre.length < 99999) := ⟨by omega⟩
    have HSZ : Aside0 (w.heap.size ≤ W.heap.size) := ⟨below_size hB⟩
    obtain ⟨A, c, hve⟩ : ∃ A c, v = .slice A pre.length c := own_slice hrow
    subst hve
    have k0 : W.drew.cell? ⟨w.heap.size + 1, 0, none⟩ = some (.slice A pre.length c) := by rw [blk_cell (blk_drew HV.out) 0]; rfl
    have HC := Aside0.mk (strconv_Itoa.calls x.1 (itoaB x.1) W.drew (hG.below (below_drew hB)) (by unfold strconv_Itoa.f; rw [if_pos x.2]))
    clear hv hrow hB hlt h1 h2 h3 hbx hby hb2
    gi_wp2
    refine wpIn_region_any (by kernel_rfl) ?_
    change wpAnyIn _ _ _ _ _ _ _ _ _ (World.drew _)
    refine wpAnyIn_ready (rs := [0, 1]) (by kernel_rfl) (by simp) ?_
    refine AllReadyIn.cons rfl (fun K hK => ?_) ?_
    · go_simp
      refine hK _ _ ?_
      clear hK K
      refine wpAnyIn_ready (rs := [1]) (by kernel_rfl) (by simp) ?_
      refine AllReadyIn.cons rfl (fun K hK => ?_) ?_
      · go_simp
        refine hK _ _ ?_
        clear hK K
        refine wpAnyIn_ready (rs := [2]) (by kernel_rfl) (by simp) ?_
        refine AllReadyIn.cons rfl (fun K hK => ?_) ?_
        · go_simp
          refine ⟨trivial, ?_⟩
          refine (CallsIn.inRound l (callsIn_wide.2 HC.out)).mono ?_
          rintro e w1 ⟨rfl, hb1⟩
          have HB1 := Aside0.mk hb1
          have k1 : w1.cell? ⟨w.heap.size + 1, 0, none⟩ = some (.slice A pre.length c) := (hb1.cell (p := ⟨w.heap.size + 1, 0, none⟩) HLT.out).trans k0
          have k2 : (w1.alloc (.cells #[.string (itoaB x.1)] 9)).cell? ⟨w.heap.size + 1, 0, none⟩ = some (.slice A pre.length c) := (by rw [blk_cell (blk_alloc (blk_below (blk_drew HV.out) hb1) _) 0]; rfl)
          have HV1 : Aside0 (Boxed w1 (w.heap.size + 1) 60 (.slice A pre.length c)) := ⟨blk_below (blk_drew HV.out) hb1⟩
          have HROW1 : Aside0 (w1.ownsRow w.heap.size 9 1 (.slice A pre.length c) pre.length (pre.map fun x => Value.string (itoaB x.1))) := ⟨pw_own_below (pw_own_below HROW.out (below_drew (Below.refl _ _))) hb1⟩
          have HSZ1 : Aside0 (w.heap.size ≤ w1.heap.size) := ⟨Nat.le_trans HSZ.out hb1.size⟩
          clear hb1
          refine hK _ _ ?_
          clear hK K
          refine wpAnyIn_ready (rs := [3]) (by kernel_rfl) (by simp) ?_
          refine AllReadyIn.cons rfl (fun K hK => ?_) ?_
          · go_simp
            refine hK _ _ ?_
            clear hK K
            refine wpAnyIn_ready (rs := [4]) (by kernel_rfl) (by simp) ?_
            refine AllReadyIn.cons rfl (fun K hK => ?_) ?_
            · refine stepIn_append (W := w1) w.heap.size (.tmp 8) (.tmp 11) 60 9 (.string ByteArray.empty) 16 ?_ ?_ Tryd.underlying60 info9 rfl (by decide) (.slice A pre.length c) pre.length (pre.map fun x => Value.string (itoaB x.1)) (.string (itoaB x.1)) ?_ ?_ rfl HROW1.out HSZ1.out (by have := HPL.out; omega) ?_
              · rfl
              · rfl
              · rfl
              · rfl
              intro v2 w2 hown2 hgrow2
              obtain ⟨g2, cap2, hv2e⟩ := ownsRow_succ hown2
              subst hv2e
              obtain ⟨hv1, hv2, hr2, hk2, hb2⟩ := HV1.out.appended (by decide) HROW1.out HSZ1.out (by omega) hown2 hgrow2
              have hc1 := hv1.cell
              have hf1 := hv1.frozen
              have HV2 := Aside0.mk hv2
              have HR2 := Aside0.mk hr2
              have HK2 := Aside0.mk hk2
              have HB2 := Aside0.mk hb2
              clear hv1 hv2 hr2 hk2 hb2 hown2 hgrow2 k1 k2
              refine hK _ _ ?_
              clear hK K
              refine wpAnyIn_ready (rs := [5]) (by kernel_rfl) (by simp) ?_
              refine AllReadyIn.cons rfl (fun K hK => ?_) ?_
              · go_simp
                refine hK _ _ ?_
                clear hK K
                refine wpAnyIn_done (by kernel_rfl) ?_ _
                have hkk : KeepsOthers W w1 := (KeepsOthers.drew W).trans (KeepsOthers.of_grownBy (grown_of_below HB1.out none) (fun j o e => by cases e))
                have hbb : Below w.heap.size W w1 := (below_drew (Below.refl w.heap.size W)).trans (HB1.out.mono HSZ.out)
                refine ⟨(hkk.trans HK2.out).from _, hbb.trans HB2.out, ⟨_, HV2.out, by rw [List.map_append, List.length_append]; exact HR2.out, trivial⟩, (HB.out.trans hbb).trans HB2.out⟩
              exact AllReadyIn.nil
            exact AllReadyIn.nil
          exact AllReadyIn.nil
        exact AllReadyIn.nil
      exact AllReadyIn.nil
    refine AllReadyIn.cons rfl (fun K hK => ?_) ?_
    · go_simp
      refine hK _ _ ?_
      clear hK K
      refine wpAnyIn_ready (rs := [0, 2]) (by kernel_rfl) (by simp) ?_
      refine AllReadyIn.cons rfl (fun K hK => ?_) ?_
      · go_simp
        refine hK _ _ ?_
        clear hK K
        refine wpAnyIn_ready (rs := [2]) (by kernel_rfl) (by simp) ?_
        refine AllReadyIn.cons rfl (fun K hK => ?_) ?_
        · go_simp
          refine ⟨trivial, ?_⟩
          refine (CallsIn.inRound l (callsIn_wide.2 HC.out)).mono ?_
          rintro e w1 ⟨rfl, hb1⟩
          have HB1 := Aside0.mk hb1
          have k1 : w1.cell? ⟨w.heap.size + 1, 0, none⟩ = some (.slice A pre.length c) := (hb1.cell (p := ⟨w.heap.size + 1, 0, none⟩) HLT.out).trans k0
          have k2 : (w1.alloc (.cells #[.string (itoaB x.1)] 9)).cell? ⟨w.heap.size + 1, 0, none⟩ = some (.slice A pre.length c) := (by rw [blk_cell (blk_alloc (blk_below (blk_drew HV.out) hb1) _) 0]; rfl)
          have HV1 : Aside0 (Boxed w1 (w.heap.size + 1) 60 (.slice A pre.length c)) := ⟨blk_below (blk_drew HV.out) hb1⟩
          have HROW1 : Aside0 (w1.ownsRow w.heap.size 9 1 (.slice A pre.length c) pre.length (pre.map fun x => Value.string (itoaB x.1))) := ⟨pw_own_below (pw_own_below HROW.out (below_drew (Below.refl _ _))) hb1⟩
          have HSZ1 : Aside0 (w.heap.size ≤ w1.heap.size) := ⟨Nat.le_trans HSZ.out hb1.size⟩
          clear hb1
          refine hK _ _ ?_
          clear hK K
          refine wpAnyIn_ready (rs := [3]) (by kernel_rfl) (by simp) ?_
          refine AllReadyIn.cons rfl (fun K hK => ?_) ?_
          · go_simp
            refine hK _ _ ?_
            clear hK K
            refine wpAnyIn_ready (rs := [4]) (by kernel_rfl) (by simp) ?_
            refine AllReadyIn.cons rfl (fun K hK => ?_) ?_
            · refine stepIn_append (W := w1) w.heap.size (.tmp 8) (.tmp 11) 60 9 (.string ByteArray.empty) 16 ?_ ?_ Tryd.underlying60 info9 rfl (by decide) (.slice A pre.length c) pre.length (pre.map fun x => Value.string (itoaB x.1)) (.string (itoaB x.1)) ?_ ?_ rfl HROW1.out HSZ1.out (by have := HPL.out; omega) ?_
              · rfl
              · rfl
              · rfl
              · rfl
              intro v2 w2 hown2 hgrow2
              obtain ⟨g2, cap2, hv2e⟩ := ownsRow_succ hown2
              subst hv2e
              obtain ⟨hv1, hv2, hr2, hk2, hb2⟩ := HV1.out.appended (by decide) HROW1.out HSZ1.out (by omega) hown2 hgrow2
              have hc1 := hv1.cell
              have hf1 := hv1.frozen
              have HV2 := Aside0.mk hv2
              have HR2 := Aside0.mk hr2
              have HK2 := Aside0.mk hk2
              have HB2 := Aside0.mk hb2
              clear hv1 hv2 hr2 hk2 hb2 hown2 hgrow2 k1 k2
              refine hK _ _ ?_
              clear hK K
              refine wpAnyIn_ready (rs := [5]) (by kernel_rfl) (by simp) ?_
              refine AllReadyIn.cons rfl (fun K hK => ?_) ?_
              · go_simp
                refine hK _ _ ?_
                clear hK K
                refine wpAnyIn_done (by kernel_rfl) ?_ _
                have hkk : KeepsOthers W w1 := (KeepsOthers.drew W).trans (KeepsOthers.of_grownBy (grown_of_below HB1.out none) (fun j o e => by cases e))
                have hbb : Below w.heap.size W w1 := (below_drew (Below.refl w.heap.size W)).trans (HB1.out.mono HSZ.out)
                refine ⟨(hkk.trans HK2.out).from _, hbb.trans HB2.out, ⟨_, HV2.out, by rw [List.map_append, List.length_append]; exact HR2.out, trivial⟩, (HB.out.trans hbb).trans HB2.out⟩
              exact AllReadyIn.nil
            exact AllReadyIn.nil
          exact AllReadyIn.nil
        exact AllReadyIn.nil
      refine AllReadyIn.cons rfl (fun K hK => ?_) ?_
      · go_simp
        refine ⟨trivial, ?_⟩
        refine (CallsIn.inRound l (callsIn_wide.2 HC.out)).mono ?_
        rintro e w1 ⟨rfl, hb1⟩
        have HB1 := Aside0.mk hb1
        have k1 : w1.cell? ⟨w.heap.size + 1, 0, none⟩ = some (.slice A pre.length c) := (hb1.cell (p := ⟨w.heap.size + 1, 0, none⟩) HLT.out).trans k0
        have k2 : (w1.alloc (.cells #[.string (itoaB x.1)] 9)).cell? ⟨w.heap.size + 1, 0, none⟩ = some (.slice A pre.length c) := (by rw [blk_cell (blk_alloc (blk_below (blk_drew HV.out) hb1) _) 0]; rfl)
        have HV1 : Aside0 (Boxed w1 (w.heap.size + 1) 60 (.slice A pre.length c)) := ⟨blk_below (blk_drew HV.out) hb1⟩
        have HROW1 : Aside0 (w1.ownsRow w.heap.size 9 1 (.slice A pre.length c) pre.length (pre.map fun x => Value.string (itoaB x.1))) := ⟨pw_own_below (pw_own_below HROW.out (below_drew (Below.refl _ _))) hb1⟩
        have HSZ1 : Aside0 (w.heap.size ≤ w1.heap.size) := ⟨Nat.le_trans HSZ.out hb1.size⟩
        clear hb1
        refine hK _ _ ?_
        clear hK K
        refine wpAnyIn_ready (rs := [0, 3]) (by kernel_rfl) (by simp) ?_
        refine AllReadyIn.cons rfl (fun K hK => ?_) ?_
        · go_simp
          refine hK _ _ ?_
          clear hK K
          refine wpAnyIn_ready (rs := [3]) (by kernel_rfl) (by simp) ?_
          refine AllReadyIn.cons rfl (fun K hK => ?_) ?_
          · go_simp
            refine hK _ _ ?_
            clear hK K
            refine wpAnyIn_ready (rs := [4]) (by kernel_rfl) (by simp) ?_
            refine AllReadyIn.cons rfl (fun K hK => ?_) ?_
            · refine stepIn_append (W := w1) w.heap.size (.tmp 8) (.tmp 11) 60 9 (.string ByteArray.empty) 16 ?_ ?_ Tryd.underlying60 info9 rfl (by decide) (.slice A pre.length c) pre.length (pre.map fun x => Value.string (itoaB x.1)) (.string (itoaB x.1)) ?_ ?_ rfl HROW1.out HSZ1.out (by have := HPL.out; omega) ?_
              · rfl
              · rfl
              · rfl
              · rfl
              intro v2 w2 hown2 hgrow2
              obtain ⟨g2, cap2, hv2e⟩ := ownsRow_succ hown2
              subst hv2e
              obtain ⟨hv1, hv2, hr2, hk2, hb2⟩ := HV1.out.appended (by decide) HROW1.out HSZ1.out (by omega) hown2 hgrow2
              have hc1 := hv1.cell
              have hf1 := hv1.frozen
              have HV2 := Aside0.mk hv2
              have HR2 := Aside0.mk hr2
              have HK2 := Aside0.mk hk2
              have HB2 := Aside0.mk hb2
              clear hv1 hv2 hr2 hk2 hb2 hown2 hgrow2 k1 k2
              refine hK _ _ ?_
              clear hK K
              refine wpAnyIn_ready (rs := [5]) (by kernel_rfl) (by simp) ?_
              refine AllReadyIn.cons rfl (fun K hK => ?_) ?_
              · go_simp
                refine hK _ _ ?_
                clear hK K
                refine wpAnyIn_done (by kernel_rfl) ?_ _
                have hkk : KeepsOthers W w1 := (KeepsOthers.drew W).trans (KeepsOthers.of_grownBy (grown_of_below HB1.out none) (fun j o e => by cases e))
                have hbb : Below w.heap.size W w1 := (below_drew (Below.refl w.heap.size W)).trans (HB1.out.mono HSZ.out)
                refine ⟨(hkk.trans HK2.out).from _, hbb.trans HB2.out, ⟨_, HV2.out, by rw [List.map_append, List.length_append]; exact HR2.out, trivial⟩, (HB.out.trans hbb).trans HB2.out⟩
              exact AllReadyIn.nil
            exact AllReadyIn.nil
          exact AllReadyIn.nil
        refine AllReadyIn.cons rfl (fun K hK => ?_) ?_
        · go_simp
          refine hK _ _ ?_
          clear hK K
          refine wpAnyIn_ready (rs := [0]) (by kernel_rfl) (by simp) ?_
          refine AllReadyIn.cons rfl (fun K hK => ?_) ?_
          · go_simp
            refine hK _ _ ?_
            clear hK K
            refine wpAnyIn_ready (rs := [4]) (by kernel_rfl) (by simp) ?_
            refine AllReadyIn.cons rfl (fun K hK => ?_) ?_
            · refine stepIn_append (W := w1) w.heap.size (.tmp 8) (.tmp 11) 60 9 (.string ByteArray.empty) 16 ?_ ?_ Tryd.underlying60 info9 rfl (by decide) (.slice A pre.length c) pre.length (pre.map fun x => Value.string (itoaB x.1)) (.string (itoaB x.1)) ?_ ?_ rfl HROW1.out HSZ1.out (by have := HPL.out; omega) ?_
              · rfl
              · rfl
              · rfl
              · rfl
              intro v2 w2 hown2 hgrow2
              obtain ⟨g2, cap2, hv2e⟩ := ownsRow_succ hown2
              subst hv2e
              obtain ⟨hv1, hv2, hr2, hk2, hb2⟩ := HV1.out.appended (by decide) HROW1.out HSZ1.out (by omega) hown2 hgrow2
              have hc1 := hv1.cell
              have hf1 := hv1.frozen
              have HV2 := Aside0.mk hv2
              have HR2 := Aside0.mk hr2
              have HK2 := Aside0.mk hk2
              have HB2 := Aside0.mk hb2
              clear hv1 hv2 hr2 hk2 hb2 hown2 hgrow2 k1 k2
              refine hK _ _ ?_
              clear hK K
              refine wpAnyIn_ready (rs := [5]) (by kernel_rfl) (by simp) ?_
              refine AllReadyIn.cons rfl (fun K hK => ?_) ?_
              · go_simp
                refine hK _ _ ?_
                clear hK K
                refine wpAnyIn_done (by kernel_rfl) ?_ _
                have hkk : KeepsOthers W w1 := (KeepsOthers.drew W).trans (KeepsOthers.of_grownBy (grown_of_below HB1.out none) (fun j o e => by cases e))
                have hbb : Below w.heap.size W w1 := (below_drew (Below.refl w.heap.size W)).trans (HB1.out.mono HSZ.out)
                refine ⟨(hkk.trans HK2.out).from _, hbb.trans HB2.out, ⟨_, HV2.out, by rw [List.map_append, List.length_append]; exact HR2.out, trivial⟩, (HB.out.trans hbb).trans HB2.out⟩
              exact AllReadyIn.nil
            exact AllReadyIn.nil
          exact AllReadyIn.nil
        exact AllReadyIn.nil
      exact AllReadyIn.nil
    exact AllReadyIn.nil
  case done =>
    rintro D ys W hD hys ⟨⟨v, hv, hrow, _⟩, hB⟩ hK
    have hbj := join_bound ys
    have hyl : ys.length < 99999 := by rw [← hys, List.length_map] at h3; exact h3
    have hjl : (joinB (ys.map fun x => itoaB x.1) (⟨#[32]⟩ : ByteArray)).size ≤ 22 * ys.length := by
      unfold joinB
      simpa [ByteArray.size] using hbj
    have hstr : strS (elF 0 l0_0) = ((⟨#[123]⟩ : ByteArray) ++ joinB (ys.map fun x => itoaB x.1) (⟨#[32]⟩ : ByteArray)) ++ (⟨#[125]⟩ : ByteArray) := by
      unfold strS
      rw [← hys, List.map_map]
      rfl
    have hcall : ∃ A c, v = .slice A ys.length c ∧ ∀ W : World, W.ownsRow w.heap.size 9 1 v ys.length (ys.map fun x => Value.string (itoaB x.1)) → Calls Tryd.prog 42 #[.slice A ys.length c, .string (⟨#[32]⟩ : ByteArray)] W fun e w' => e = .returned (.string (joinB (ys.map fun x => itoaB x.1) (⟨#[32]⟩ : ByteArray))) ∧ Below W.heap.size W w' := by
      obtain ⟨A, c, hve⟩ := own_slice hrow
      refine ⟨A, c, hve, fun W' hr' => ?_⟩
      subst hve
      by_cases h0 : ys = []
      · subst h0
        refine (join_none A c _ W').mono fun e w' ⟨he, hw⟩ => ⟨by rw [he]; rfl, hw ▸ Below.refl _ _⟩
      · have hr2 : W'.ownsRow w.heap.size 9 1 (.slice A ys.length c) (ys.map fun x => itoaB x.1).length (encs Value.string (ys.map fun x => itoaB x.1)) := by
          rw [List.length_map]
          unfold encs
          rw [List.map_map]
          exact hr'
        obtain ⟨A2, c2, he2, hle, hrd⟩ := own_reads_of_le (d := ByteArray.empty) hr2
        injection he2 with e1 e2 e3
        subst e1 e3
        have hC := Kd.C_of_reads (h1 := fun _ => rfl) hrd
        rw [List.length_map] at hC hle
        have hA : ∃ g, A = some ⟨g, 0, none⟩ := by
          rcases hr'.2 with ⟨hv, hn⟩ | ⟨g, cap, cur, hv, _⟩
          · exact absurd (List.eq_nil_of_length_eq_zero hn) h0
          · injection hv with hv _ _
            exact ⟨g, hv⟩
        obtain ⟨g, rfl⟩ := hA
        have := join_calls g c (ys.map fun x => itoaB x.1) (⟨#[32]⟩ : ByteArray) W' (by rw [List.length_map]; exact hC) (by rw [List.length_map]; omega) (by rw [List.length_map]; exact hle) (Nat.le_trans hbj (by omega))
        rw [List.length_map] at this
        exact this
    obtain ⟨A, c, rfl, hc⟩ := hcall
    have k0 := hv.cell
    have HC := Aside0.mk (hc W hrow)
    have HK := Aside0.mk hK
    have HB := Aside0.mk hB
    have HJL : Aside0 ((joinB (ys.map fun x => itoaB x.1) (⟨#[32]⟩ : ByteArray)).size ≤ 2200000) := ⟨by omega⟩
    obtain ⟨J, hJ⟩ : ∃ J, J = joinB (ys.map fun x => itoaB x.1) (⟨#[32]⟩ : ByteArray) := ⟨_, rfl⟩
    rw [← hJ] at HC HJL hstr
    have HSTR := Aside0.mk hstr
    have z1 : (9223372036854775807 < 1 + J.size) = False := eq_false (by have := HJL.out; omega)
    have z2 : (9223372036854775807 < 1 + J.size + 1) = False := eq_false (by have := HJL.out; omega)
    clear hJ hc hrow hv hstr hjl hbj hys hK hB
    gi_wp2_with (refine ⟨trivial, ?_⟩; gi_at_call 42; refine (callsIn_wide.2 HC.out).mono ?_; rintro e w1 ⟨rfl, hb1⟩; have HB1 := Aside0.mk hb1; clear hb1)
    have hK1 : w1.heap[D]? = some (.deferred (some [])) := blk_below HK.out HB1.out
    refine ⟨by simp, .inl ⟨_, _, rfl, run_takeDeferred hK1, ?_⟩⟩
    refine ⟨_, results_tmp rfl _ _ _, by rw [HSTR.out]; rfl, ?_⟩
    have hbb : Below w.heap.size w w1 := HB.out.trans (HB1.out.mono (below_size HB.out))
    exact hbb.trans (belowK_b (w := w) (Nat.le_refl _) w1 D _ _ (by simp at hD; omega) hK1 rfl rfl)
  case stop =>
    rintro D c pre W _ _ h _
    exact h.elim
end Go.Proofs.YtoobapkccogdhaaDoor.PX
