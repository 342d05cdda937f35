/- lexer.Join: what it computes, and that the call computes it. -/
import Derived.Test.YtmpbkemicfmbaaaDoorZMBuilder
import Derived.Test.YtmpbkemicfmbaaaDoorZPXx12
import Derived.Test.YtmpbkemicfmbaaaDoorZEv
import Derived.Test.YtmpbkemicfmbaaaDoorZMGen
namespace Go.Proofs.YtmpbkemicfmbaaaDoor.PX
open Go.RowKit Go.Proofs.YtmpbkemicfmbaaaDoorW.PrintWords Go.Proofs.YtmpbkemicfmbaaaDoorW.PrintLast Go.Proofs.YtmpbkemicfmbaaaDoorW.PrintMore
set_option linter.unusedVariables false
set_option linter.unusedSimpArgs false
/-- The bytes that Join has written behind some tokens: the last text, the bytes so far, the tokens that are left. -/
def joinL (k : Nat) : ByteArray → List UInt8 → List S37 → Option (List UInt8)
  | _, out, [] => some out
  | last, out, t :: r => if t.f1.toList = ([] : List UInt8) then joinL k last out r else if out.length + t.f1.size + 1 ≤ 140737488355328 then (if last.toList = ([] : List UInt8) then joinL k t.f1 (out ++ t.f1.data.toList) r else (lexer_apart.f k last t.f1).bind fun ap => joinL k t.f1 ((if ap = true then out ++ [32] else out) ++ t.f1.data.toList) r) else none
theorem joinL_mono (k : Nat) (l : List S37) : ∀ last out, LeO (joinL k last out l) (joinL (k + 1) last out l) := by
  induction l with
  | nil => intro last out; exact LeO.refl _
  | cons t r ih =>
    intro last out
    rw [joinL, joinL]
    exact LeO.ite (ih _ _) (LeO.ite (LeO.ite (ih _ _) (LeO.bind (lexer_apart.mono _ _ k) (fun _ => ih _ _))) (LeO.none _))
def lexer_Join.f (k : Nat) (l0 : List S37) : Option ByteArray := (joinL k ⟨#[]⟩ [] l0).bind fun l => some ⟨l.toArray⟩
theorem lexer_Join.mono : ∀ a0 k, LeO (lexer_Join.f k a0) (lexer_Join.f (k + 1) a0) := by
  intro a0 k
  exact LeO.bind (joinL_mono k a0 _ _) (fun _ => LeO.refl _)
theorem rdj37 (xs : List S37) (j : Nat) (h : j < xs.length) : rd_T37 xs (j : Int) = xs[j] := getD_nat xs z37 j h
/-- A builder, and another block of tokens. -/
def BT (B b : Nat) (l : List UInt8) (g : Nat) (w : World) : Prop := Bd B b l w ∧ ∃ cs, w.heap[g]? = some (.cells cs 37 (0, 0))
theorem BT.out {B b g : Nat} {l : List UInt8} {w : World} (h : BT B b l g w) : Bd B b l w := h.1
theorem builderAt_set {B b g j : Nat} {p v : Value} {bs : List Value} {w : World} (h : Lib.BuilderAt 53 5 B b p bs w) {cs : Array Value} (hg : w.heap[g]? = some (.cells cs 37 (0, 0))) : Lib.BuilderAt 53 5 B b p bs (w.setCell ⟨g, j, none⟩ v) := by
  obtain ⟨hB, u, hk, ho, hne⟩ := h
  have hgb : b ≠ g := by
    rintro rfl
    rw [hg] at hk
    cases hk
  have hgu : u.ownBlock ≠ some g := by
    intro e
    obtain ⟨cells, hc⟩ := own_typed ho g e
    rw [hg] at hc
    cases hc
  refine ⟨hB, u, (Below.heap_setCell w ⟨g, j, none⟩ v b hgb).trans hk, ?_, hne⟩
  exact ho.kept (row := some g) ⟨rfl, rfl, rfl, by simp [World.setCell], fun k _ hk => Below.heap_setCell _ _ _ _ (fun e => hk (by simp [e]))⟩ (Or.inr hgu)
theorem BT.set {B b g j : Nat} {l : List UInt8} {v : Value} {w : World} (h : BT B b l g w) : BT B b l g (w.setCell ⟨g, j, none⟩ v) := by
  obtain ⟨h, cs, hg⟩ := h
  refine ⟨h.elim (fun h => .inl (builderAt_set h hg)) (fun h => .inr (builderAt_set h hg)), ?_⟩
  simp [World.setCell, Array.getElem?_modify, hg]

set_option maxHeartbeats 8000000 in
set_option maxRecDepth 100000 in
theorem join_walk (k : Nat) (A0 : Option Addr) (c0 : Nat) (l0 : List S37) (res : List UInt8) (w : World) (hr0 : Kd.C k37 w A0 l0.length l0) (hc0 : l0.length ≤ c0) (hG : GW w) (h : joinL k ⟨#[]⟩ [] l0 = some res) :
    Calls Tryd.prog 15 #[.slice A0 l0.length c0] w fun e w' => e = .returned (.string ⟨res.toArray⟩) ∧ Below w.heap.size w w' := by
  have HG := Aside0.mk hG
  have HR0 := Aside0.mk hr0
  have HC0 := Aside0.mk hc0
  have hln := Aside0.mk hr0.2.1
  have HJ := Aside0.mk h
  clear hr0 hc0 hG h
  have hbd : Bd w.heap.size w.heap.size [] (w.alloc (.cells #[.pointer none, .slice none 0 0] 53)) := by
    refine .inl ⟨Nat.le_refl _, .slice none 0 0, ?_, ?_, by simp [Value.ownBlock]⟩
    · exact Array.getElem?_push_size
    · exact ⟨rfl, .inl ⟨rfl, rfl⟩⟩
  go_enter Tryd.func15, Tryd.ntmps15
  go_upto_region 3 with (fail)
  refine wp_gen3 (Q := fun wz => Aside0 (Below w.heap.size w wz) ∧ Aside0 (Bd w.heap.size w.heap.size [] wz)) ⟨⟨below_alloc (Below.refl _ _) _⟩, ⟨hbd⟩⟩ ?_
  clear hbd
  intro wz hz
  obtain ⟨HB, HD⟩ := hz
  obtain ⟨bb, hbb⟩ : ∃ bb, bb = w.heap.size := ⟨_, rfl⟩
  go_wp2
  go_loopg [4, 9] l0.length (fun kq v4 v9 w' => ∃ (last : ByteArray) (out : List UInt8) (j : Nat), v4 = .string last ∧ v9 = .int .i64 (j : Int) ∧ Aside0 (j + kq = l0.length ∧ joinL k last out (l0.drop j) = some res) ∧ Aside0 (Bd w.heap.size w.heap.size out w') ∧ Aside0 (Below w.heap.size w w'))
  case atStart => exact ⟨⟨#[]⟩, [], 0, rfl, rfl, ⟨⟨by omega, HJ.out⟩⟩, HD, HB⟩
  case round =>
    clear HB HD HJ
    obtain ⟨last, out, j, rfl, rfl, HA, HD, HB⟩ := hrel
    by_cases c2 : (j : Int) < (l0.length : Int)
    · have hjn : j < l0.length := by omega
      have c2b0 : decide ((j : Int) < (l0.length : Int)) = true := decide_eq_true c2
      have c2n : decide (j < l0.length) = true := decide_eq_true hjn
      obtain ⟨ad, ead, hx0, hx1, hx2, hx3⟩ := at_T37 HR0.out (j : Int) (by omega) (by omega)
      cases ead
      rw [rdj37 l0 j hjn, Int.toNat_natCast] at hx0 hx1 hx2 hx3
      replace hx0 := (HB.out.cell (World.block_lt_of_cell? w _ hx0)).trans hx0
      replace hx1 := (HB.out.cell (World.block_lt_of_cell? w _ hx1)).trans hx1
      replace hx2 := (HB.out.cell (World.block_lt_of_cell? w _ hx2)).trans hx2
      replace hx3 := (HB.out.cell (World.block_lt_of_cell? w _ hx3)).trans hx3
      have p0 := eq_true (show (0 : Int) ≤ (j : Int) by omega)
      have q0 := eq_true c2
      have q0n := eq_true hjn
      clear c2
      have hwr := (i64_w ((j : Int) + 1)).trans (wrap_nat hjn hln.out)
      have hstep : joinL k last out (l0[j] :: l0.drop (j + 1)) = some res := by rw [← drop_cons l0 j hjn]; exact HA.out.2
      have hj1 := Aside0.mk HA.out.1
      clear HA
      go_upto_region 6 with (first | ((with_reducible refine gate_dst (N := 6) rfl ?_); refine box_event ?hg (N := 6) ?hd (cs := #[.int .i64 0, .string (⟨#[]⟩ : ByteArray), .int .i16 0, .int .i64 0]) (t := 37) ?hr ?_; (case hd => rfl); (case hg => rfl); (case hr => first | (go_simp; done) | (go_simp; rfl)); intro gb hg w8 hbox hb; have n1_ := Aside0.mk (below_step (by repeat (first | (with_reducible first | exact HB.out | apply below_alloc | apply pw_below_drewN | apply below_drew1) | exact HB.out)) hb); have n2_ := Aside0.mk hbox; have n3_ := Aside0.mk ((by rw [hg]; exact (below_size (by repeat (first | (with_reducible first | exact HB.out | apply below_alloc | apply pw_below_drewN | apply below_drew1) | exact HB.out)))) : w.heap.size ≤ gb); have n4_ := Aside0.mk (Bd.below HD.out hb); clear HB HD; have HB := n1_; have BK := n2_; have GE := n3_; have HD := n4_; clear n1_ n2_ n3_ n4_; clear hb hbox hg; have hcz0 : w8.cell? ⟨gb, 0, none⟩ = some (.int .i64 0) := (blk_cell BK.out 0).trans rfl; have hfz0 := blk_frozen BK.out 0; have hcz1 : w8.cell? ⟨gb, 1, none⟩ = some (.string (⟨#[]⟩ : ByteArray)) := (blk_cell BK.out 1).trans rfl; have hfz1 := blk_frozen BK.out 1; have hcz2 : w8.cell? ⟨gb, 2, none⟩ = some (.int .i16 0) := (blk_cell BK.out 2).trans rfl; have hfz2 := blk_frozen BK.out 2; have hcz3 : w8.cell? ⟨gb, 3, none⟩ = some (.int .i64 0) := (blk_cell BK.out 3).trans rfl; have hfz3 := blk_frozen BK.out 3))
      have hBT : BT w.heap.size w.heap.size out gb w8 := ⟨HD.out, _, BK.out⟩
      refine wp_gen3 (Q := fun wq => Aside0 (wq.heap[gb]? = some (.cells #[.int .i64 (l0[j]).f0, .string (l0[j]).f1, .int .i16 (l0[j]).f2, .int .i64 (l0[j]).f3] 37 (0, 0))) ∧ Aside0 (Below w.heap.size w wq) ∧ Aside0 (Bd w.heap.size w.heap.size out wq)) ⟨⟨by (with_reducible repeat (first | refine blk_drewN ?_ _ | refine blk_drew ?_ | refine blk_alloc ?_ _)); refine blk_put (cs := #[.int .i64 (l0[j]).f0, .string (l0[j]).f1, .int .i16 (l0[j]).f2, .int .i64 0]) ?_ 3 _ rfl; (with_reducible repeat (first | refine blk_drewN ?_ _ | refine blk_drew ?_ | refine blk_alloc ?_ _)); refine blk_put (cs := #[.int .i64 (l0[j]).f0, .string (l0[j]).f1, .int .i16 0, .int .i64 0]) ?_ 2 _ rfl; (with_reducible repeat (first | refine blk_drewN ?_ _ | refine blk_drew ?_ | refine blk_alloc ?_ _)); refine blk_put (cs := #[.int .i64 (l0[j]).f0, .string (⟨#[]⟩ : ByteArray), .int .i16 0, .int .i64 0]) ?_ 1 _ rfl; (with_reducible repeat (first | refine blk_drewN ?_ _ | refine blk_drew ?_ | refine blk_alloc ?_ _)); refine blk_put (cs := #[.int .i64 0, .string (⟨#[]⟩ : ByteArray), .int .i16 0, .int .i64 0]) ?_ 0 _ rfl; (with_reducible repeat (first | refine blk_drewN ?_ _ | refine blk_drew ?_ | refine blk_alloc ?_ _)); exact BK.out⟩, ⟨(by repeat (first | (with_reducible first | exact HB.out | apply below_alloc | apply pw_below_drewN | apply below_drew1 | refine below_set ?_ GE.out) | exact HB.out))⟩, ⟨BT.out (by repeat (first | exact hBT | apply BT.set))⟩⟩ ?_
      clear HB HD BK hBT hcz0 hcz1 hcz2 hcz3 hfz0 hfz1 hfz2 hfz3 hx0 hx1 hx2 hx3
      intro wq hq
      obtain ⟨BK, HB, HD⟩ := hq
      have hcf1 : wq.cell? ⟨gb, 1, none⟩ = some (.string (l0[j]).f1) := (blk_cell BK.out 1).trans rfl
      rw [joinL] at hstep
      cases gk with
      | zero => exact absurd hj1.out (by omega)
      | succ k2 =>
        by_cases ht : (l0[j]).f1.toList = ([] : List UInt8)
        · have c3 : ((l0[j]).f1.toList == ([] : List UInt8)) = true := beq_iff_eq.mpr ht
          rw [if_pos ht] at hstep
          replace hstep := Aside0.mk hstep
          clear ht
          go_wp2
          go_roundg k2
          case measure => omega
          case rel => exact ⟨last, out, j + 1, rfl, by first | rfl | (simp; done) | (simp [*]; done) | exact congrArg (Value.int .i64) hwr, ⟨⟨by have := hj1.out; omega, hstep.out⟩⟩, HD, HB⟩
        · have c3 : ((l0[j]).f1.toList == ([] : List UInt8)) = false := beq_eq_false_iff_ne.mpr ht
          rw [if_neg ht] at hstep
          clear ht
          by_cases hsz0 : out.length + (l0[j]).f1.size + 1 ≤ 140737488355328
          case neg => rw [if_neg hsz0] at hstep; cases hstep
          rw [if_pos hsz0] at hstep
          have hsz := Aside0.mk hsz0
          clear hsz0
          by_cases hl : last.toList = ([] : List UInt8)
          · have c4 : (last.toList == ([] : List UInt8)) = true := beq_iff_eq.mpr hl
            have c4b : (last.toList != ([] : List UInt8)) = false := by rw [bne, c4]; rfl
            rw [if_pos hl] at hstep
            replace hstep := Aside0.mk hstep
            clear hl
            go_wp2_with (first | (go_at_call 32; refine (writeString_calls w.heap.size w.heap.size out (l0[j]).f1 _ HD.out ?s1 ?s2).mono ?_; (case s1 => have := hsz.out; omega); (case s2 => exact below_size HB.out); rintro e w22 ⟨rfl, hd, hb, hk⟩; have nB := Aside0.mk (HB.out.trans hb); have nD := Aside0.mk hd; have nK := Aside0.mk (hk _ _ BK.out); clear HB HD BK hb hd hk hcf1; have HB := nB; have HD := nD; have BK := nK; clear nB nD nK; have hcf1 : w22.cell? ⟨gb, 1, none⟩ = some (.string (l0[j]).f1) := (blk_cell BK.out 1).trans rfl))
            go_roundg k2
            case measure => omega
            case rel => exact ⟨(l0[j]).f1, out ++ (l0[j]).f1.data.toList, j + 1, rfl, by first | rfl | (simp; done) | (simp [*]; done) | exact congrArg (Value.int .i64) hwr, ⟨⟨by have := hj1.out; omega, hstep.out⟩⟩, HD, HB⟩
          · have c4 : (last.toList == ([] : List UInt8)) = false := beq_eq_false_iff_ne.mpr hl
            have c4b : (last.toList != ([] : List UInt8)) = true := by rw [bne, c4]; rfl
            rw [if_neg hl] at hstep
            clear hl
            obtain ⟨ap, hap0, hstep⟩ := Option.bind_eq_some_iff.mp hstep
            have hap := Aside0.mk hap0
            clear hap0
            cases ap with
            | true =>
              rw [if_pos rfl] at hstep
              replace hstep := Aside0.mk hstep
              go_wp2_with (first | (go_at_call 30; (with_reducible refine (lexer_apart.calls k last (l0[j]).f1 true _ ?side1 hap.out).mono ?_); (case side1 => exact GW.below HG.out HB.out); rintro e w20 ⟨rfl, hb⟩; have nB := Aside0.mk (below_step HB.out hb); have nD := Aside0.mk (Bd.below HD.out hb); have nK := Aside0.mk (blk_below BK.out hb); clear HB HD BK hb hcf1; have HB := nB; have HD := nD; have BK := nK; clear nB nD nK; have hcf1 : w20.cell? ⟨gb, 1, none⟩ = some (.string (l0[j]).f1) := (blk_cell BK.out 1).trans rfl) | (go_at_call 31; refine (writeByte_calls w.heap.size w.heap.size out _ HD.out ?s1 ?s2).mono ?_; (case s1 => have := hsz.out; omega); (case s2 => exact below_size HB.out); rintro e w21 ⟨rfl, hd, hb, hk⟩; have nB := Aside0.mk (HB.out.trans hb); have nD := Aside0.mk hd; have nK := Aside0.mk (hk _ _ BK.out); clear HB HD BK hb hd hk hcf1; have HB := nB; have HD := nD; have BK := nK; clear nB nD nK; have hcf1 : w21.cell? ⟨gb, 1, none⟩ = some (.string (l0[j]).f1) := (blk_cell BK.out 1).trans rfl) | (go_at_call 32; refine (writeString_calls w.heap.size w.heap.size (out ++ [32]) (l0[j]).f1 _ HD.out ?s1 ?s2).mono ?_; (case s1 => have := hsz.out; rw [List.length_append]; simp only [List.length_cons, List.length_nil]; omega); (case s2 => exact below_size HB.out); rintro e w22 ⟨rfl, hd, hb, hk⟩; have nB := Aside0.mk (HB.out.trans hb); have nD := Aside0.mk hd; have nK := Aside0.mk (hk _ _ BK.out); clear HB HD BK hb hd hk hcf1; have HB := nB; have HD := nD; have BK := nK; clear nB nD nK; have hcf1 : w22.cell? ⟨gb, 1, none⟩ = some (.string (l0[j]).f1) := (blk_cell BK.out 1).trans rfl))
              go_roundg k2
              case measure => omega
              case rel => exact ⟨(l0[j]).f1, (out ++ [32]) ++ (l0[j]).f1.data.toList, j + 1, rfl, by first | rfl | (simp; done) | (simp [*]; done) | exact congrArg (Value.int .i64) hwr, ⟨⟨by have := hj1.out; omega, hstep.out⟩⟩, HD, HB⟩
            | false =>
              rw [if_neg (by decide)] at hstep
              replace hstep := Aside0.mk hstep
              go_wp2_with (first | (go_at_call 30; (with_reducible refine (lexer_apart.calls k last (l0[j]).f1 false _ ?side1 hap.out).mono ?_); (case side1 => exact GW.below HG.out HB.out); rintro e w20 ⟨rfl, hb⟩; have nB := Aside0.mk (below_step HB.out hb); have nD := Aside0.mk (Bd.below HD.out hb); have nK := Aside0.mk (blk_below BK.out hb); clear HB HD BK hb hcf1; have HB := nB; have HD := nD; have BK := nK; clear nB nD nK; have hcf1 : w20.cell? ⟨gb, 1, none⟩ = some (.string (l0[j]).f1) := (blk_cell BK.out 1).trans rfl) | (go_at_call 32; refine (writeString_calls w.heap.size w.heap.size out (l0[j]).f1 _ HD.out ?s1 ?s2).mono ?_; (case s1 => have := hsz.out; omega); (case s2 => exact below_size HB.out); rintro e w22 ⟨rfl, hd, hb, hk⟩; have nB := Aside0.mk (HB.out.trans hb); have nD := Aside0.mk hd; have nK := Aside0.mk (hk _ _ BK.out); clear HB HD BK hb hd hk hcf1; have HB := nB; have HD := nD; have BK := nK; clear nB nD nK; have hcf1 : w22.cell? ⟨gb, 1, none⟩ = some (.string (l0[j]).f1) := (blk_cell BK.out 1).trans rfl))
              go_roundg k2
              case measure => omega
              case rel => exact ⟨(l0[j]).f1, out ++ (l0[j]).f1.data.toList, j + 1, rfl, by first | rfl | (simp; done) | (simp [*]; done) | exact congrArg (Value.int .i64) hwr, ⟨⟨by have := hj1.out; omega, hstep.out⟩⟩, HD, HB⟩
    · have c2b0 : decide ((j : Int) < (l0.length : Int)) = false := decide_eq_false c2
      have c2n : decide (j < l0.length) = false := decide_eq_false (by omega)
      have hres : out = res := by have := HA.out.2; rw [List.drop_of_length_le (by omega), joinL] at this; exact Option.some.inj this
      clear HA c2
      subst hres
      go_wp2_with (first | (go_at_call 33; refine (Tryd.Builder_String_any w.heap.size w.heap.size out _ HD.out (below_size HB.out)).mono ?_; rintro e w23 ⟨rfl, hb⟩))
      go_ret
      exact ⟨rfl, HB.out.trans hb⟩
theorem lexer_Join.calls (k : Nat) (A0 : Option Addr) (c0 : Nat) (l0 : List S37) (r : ByteArray) (w : World) (hr0 : Kd.C k37 w A0 l0.length l0) (hc0 : l0.length ≤ c0) (hG : GW w) (h : lexer_Join.f k l0 = some r) :
    Calls Tryd.prog 15 #[.slice A0 l0.length c0] w fun e w' => e = .returned (.string r) ∧ Below w.heap.size w w' := by
  obtain ⟨l, hl, hr⟩ := Option.bind_eq_some_iff.mp h
  obtain rfl := Option.some.inj hr
  exact join_walk k A0 c0 l0 l w hr0 hc0 hG hl
end Go.Proofs.YtmpbkemicfmbaaaDoor.PX
