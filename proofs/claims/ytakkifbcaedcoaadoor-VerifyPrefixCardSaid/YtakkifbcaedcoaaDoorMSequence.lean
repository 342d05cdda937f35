/- verify.Sequence: what it computes, and that the call computes it. -/
import Derived.Test.YtakkifbcaedcoaaDoorMValid
import Derived.Test.YtakkifbcaedcoaaDoorMApply
import Derived.Maps.OwnOps
import Derived.Maps.OwnSet
import Derived.Maps.Views
import Derived.ProofKit
namespace Go.Proofs.YtakkifbcaedcoaaDoor.PX
open Go.RowKit Go.Proofs.YtakkifbcaedcoaaDoorW.PrintWords Go.Proofs.YtakkifbcaedcoaaDoorW.PrintLast Go.Proofs.YtakkifbcaedcoaaDoorW.PrintMore
open Go.Maps
set_option linter.unusedVariables false
set_option linter.unusedSimpArgs false
/-- The state that the Sequence rule follows. -/
structure Mc where
  on : Bool
  run : Int
  l0 : Int
  l1 : Int
  l2 : Int
  l3 : Int
  l4 : Int
  l5 : Int
  lat : Int
def m00 : Mc := ⟨false, -1, 0, 0, 0, 0, 0, 0, 0⟩
def stepM (m : Mc) (e : S55) : Mc := ⟨if e.f0 = 1 then true else if e.f0 = 2 then false else m.on, if e.f0 = 3 then e.f2 else if e.f0 = 6 ∨ e.f0 = 9 then -1 else m.run, e.f0, e.f1, e.f2, e.f3, e.f4, e.f5, mx m.lat e.f1⟩
def allowB (m : Mc) (e : S55) : Bool := ((verify_machine_allowed.f 10 m.on m.run m.l0 m.l1 m.l2 m.l3 m.l4 m.l5 m.lat e.f0 e.f1 e.f2 e.f3 e.f4 e.f5).getD default).1
theorem ite_P {c : Prop} [Decidable c] {α : Type} {P : α → Prop} {a b : α} (ha : P a) (hb : P b) : P (if c then a else b) := by
  split
  · exact ha
  · exact hb
def SameM (m : Mc) (r : Option (Bool × Bool × Int × Int × Int × Int × Int × Int × Int × Int)) : Prop := ∃ b, r = some (b, m.on, m.run, m.l0, m.l1, m.l2, m.l3, m.l4, m.l5, m.lat)
theorem allow_some (m : Mc) (e : S55) : verify_machine_allowed.f 10 m.on m.run m.l0 m.l1 m.l2 m.l3 m.l4 m.l5 m.lat e.f0 e.f1 e.f2 e.f3 e.f4 e.f5 = some (allowB m e, m.on, m.run, m.l0, m.l1, m.l2, m.l3, m.l4, m.l5, m.lat) := by
  have h : SameM m (verify_machine_allowed.f 10 m.on m.run m.l0 m.l1 m.l2 m.l3 m.l4 m.l5 m.lat e.f0 e.f1 e.f2 e.f3 e.f4 e.f5) := by
    unfold verify_machine_allowed.f
    simp only [verify_machine_allowed.j0, verify_machine_allowed.j1, verify_machine_allowed.j2, verify_machine_allowed.j3]
    repeat' refine ite_P (P := SameM m) ?_ ?_
    all_goals exact ⟨_, rfl⟩
  obtain ⟨b, h⟩ := h
  unfold allowB
  rw [h]
  rfl
def IsSm {α : Type} (r : Option α) : Prop := ∃ b, r = some b
theorem get_some (a b c d e f q : Int) : ∃ v, trace_get.f a b c d e f q = some v := by
  show IsSm _
  unfold trace_get.f
  repeat' refine ite_P (P := IsSm) ?_ ?_
  all_goals exact ⟨_, rfl⟩
theorem set_some (a b c d e f q v : Int) : ∃ r, trace_set.f a b c d e f q v = some r := by
  show IsSm _
  unfold trace_set.f
  repeat' refine ite_P (P := IsSm) ?_ ?_
  all_goals exact ⟨_, rfl⟩
theorem vloop_some (e0 e1 e2 e3 e4 e5 : Int) : ∀ (l : List Int) (s0 s1 s2 s3 s4 s5 : Int), ∃ b, vloop e0 e1 e2 e3 e4 e5 l s0 s1 s2 s3 s4 s5 = some b
  | [], s0, s1, s2, s3, s4, s5 => ⟨_, rfl⟩
  | q :: r, s0, s1, s2, s3, s4, s5 => by
    obtain ⟨v, hv⟩ := get_some e0 e1 e2 e3 e4 e5 q
    obtain ⟨t, ht⟩ := set_some s0 s1 s2 s3 s4 s5 q v
    simp only [vloop, hv, ht, Option.bind_some]
    split
    · exact vloop_some e0 e1 e2 e3 e4 e5 r _ _ _ _ _ _
    · exact ⟨_, rfl⟩
def validE (e : S55) : Bool := (trace_Valid.f e.f0 e.f1 e.f2 e.f3 e.f4 e.f5).getD false
theorem valid_some (e : S55) : trace_Valid.f e.f0 e.f1 e.f2 e.f3 e.f4 e.f5 = some (validE e) := by
  have h : ∃ b, trace_Valid.f e.f0 e.f1 e.f2 e.f3 e.f4 e.f5 = some b := by
    unfold trace_Valid.f
    split
    · exact vloop_some _ _ _ _ _ _ _ _ _ _ _ _ _
    · exact ⟨_, rfl⟩
  obtain ⟨b, h⟩ := h
  unfold validE
  rw [h]
  rfl
def bad (i : Int) (m : Mc) (e : S55) : List S32 := if e.f1 < m.lat ∨ allowB m e = false then [⟨i, 1⟩] else []
def dup (i : Int) (c7 c8 : Int) (e : S55) : List S32 := if e.f0 = 7 ∧ e.f3 ≠ c7 ∨ e.f0 = 8 ∧ e.f3 ≠ c8 then [⟨i, 2⟩] else []
def seqF : Int → Mc → Int → Int → List S55 → List S32
  | _, _, _, _, [] => []
  | i, m, c7, c8, e :: r => if validE e = true then bad i m e ++ (dup i c7 c8 e ++ seqF (i + 1) (stepM m e) (if e.f0 = 7 then wrap64 (c7 + 1) else c7) (if e.f0 = 8 then wrap64 (c8 + 1) else c8) r) else ⟨i, 1⟩ :: seqF (i + 1) m c7 c8 r
def verify_Sequence.f (l0 : List S55) : Option (List S32) := if l0.length ≤ 1000000 then some (seqF 0 m00 0 0 l0) else none
def MapAt (W : World) (b n : Nat) (c7 c8 : Int) : Prop := ∃ D : DataW Unit, W.ownsMap Tryd.prog 3 (plainElem Tryd.prog 2) b n D ∧ D.atKey (.int .i64 7) (.lit (.int .i64 0)) = .lit (.int .i64 c7) ∧ D.atKey (.int .i64 8) (.lit (.int .i64 0)) = .lit (.int .i64 c8)
theorem MapAt.same {W W1 : World} {b n : Nat} {c7 c8 : Int} (h : MapAt W b n c7 c8) (hb : W1.heap[b]? = W.heap[b]?) : MapAt W1 b n c7 c8 := by
  obtain ⟨D, ⟨es, clock, h1, h2⟩, h3⟩ := h
  exact ⟨D, ⟨es, clock, hb.trans h1, h2⟩, h3⟩
theorem MapAt.lt {W : World} {b n : Nat} {c7 c8 : Int} (h : MapAt W b n c7 c8) : b < W.heap.size := by
  obtain ⟨D, ho, _⟩ := h
  exact ho.lt
theorem MapAt.ne {W : World} {b n : Nat} {c7 c8 : Int} (h : MapAt W b n c7 c8) {k : Nat} {cs : Array Value} {t : TypeId} {fr : Nat × Nat} (hb : W.heap[k]? = some (.cells cs t fr)) : k ≠ b := by
  obtain ⟨D, ⟨es, clock, h1, _⟩, _⟩ := h
  rintro rfl
  rw [h1] at hb
  cases hb
/-- What holds at the head of a round: w when the call began, W now. -/
structure SInv (w W : World) (m : Mc) (v : Value) (out : List S32) (c7 c8 : Int) (n : Nat) : Prop where
  st : IsS57 w W w.heap.size m.on m.run m.l0 m.l1 m.l2 m.l3 m.l4 m.l5 m.lat
  row : Kd.R k32 32 W w.heap.size (fun k => k ≠ w.heap.size ∧ k ≠ w.heap.size + 1) v out
  mp : MapAt W (w.heap.size + 1) n c7 c8
  bel : Below w.heap.size w W
theorem SInv.below {w W W1 : World} {m : Mc} {v : Value} {out : List S32} {c7 c8 : Int} {n : Nat} (h : SInv w W m v out c7 c8 n) (hb : Below W.heap.size W W1) : SInv w W1 m v out c7 c8 n :=
  ⟨h.st.below hb, Kd.R_below h.row hb, h.mp.same (hb.block _ h.mp.lt), below_step h.bel hb⟩
theorem SInv.appended {w W W1 : World} {m : Mc} {v v1 : Value} {out out1 : List S32} {c7 c8 : Int} {n : Nat} (h : SInv w W m v out c7 c8 n) (ho : Kd.R k32 32 W1 w.heap.size (fun k => k ≠ w.heap.size ∧ k ≠ w.heap.size + 1) v1 out1) (hb : Below w.heap.size w W1) (hg : W.grownBy W1 v.ownBlock) : SInv w W1 m v1 out1 c7 c8 n :=
  ⟨h.st.grown hg (fun e => (h.row.1 _ e.symm).1 rfl), ho, h.mp.same (hg.block _ h.mp.lt (fun e => (h.row.1 _ e.symm).2 rfl)), hb⟩
theorem SInv.keep {w W W1 : World} {m m1 : Mc} {v : Value} {out : List S32} {c7 c8 : Int} {n : Nat} (h : SInv w W m v out c7 c8 n) (hi : IsS57 w W1 w.heap.size m1.on m1.run m1.l0 m1.l1 m1.l2 m1.l3 m1.l4 m1.l5 m1.lat) (hb : Below w.heap.size w W1) (hk : KeepBut W W1 w.heap.size none) : SInv w W1 m1 v out c7 c8 n :=
  ⟨hi, Kd.R_keep h.row hk (fun k hk => hk.1), h.mp.same (hk.2 _ h.mp.lt (by omega) (by simp)), hb⟩
theorem SInv.stored {w W W1 : World} {m : Mc} {v : Value} {out : List S32} {c7 c8 d7 d8 : Int} {n n1 : Nat} (h : SInv w W m v out c7 c8 n) (hm : MapAt W1 (w.heap.size + 1) n1 d7 d8) (hg : W.grownBy W1 (some (w.heap.size + 1))) : SInv w W1 m v out d7 d8 n1 :=
  ⟨h.st.grown hg (by simp), Kd.R_step h.row (fun k hk hl => hg.block k hl (by simpa using hk.2)), hm, h.bel.grown hg h.bel.size (fun k hk => by injection hk with hk; omega)⟩
/-- The round's event in its box. -/
structure EBox (w W : World) (g : Nat) (e : S55) : Prop where
  blk : W.heap[g]? = some (.cells #[.int .i64 e.f0, .int .i64 e.f1, .int .i64 e.f2, .int .i64 e.f3, .int .i16 e.f4, .int .i64 e.f5] 55 (0, 0))
theorem EBox.below {w W W1 : World} {g : Nat} {e : S55} (h : EBox w W g e) (hb : Below W.heap.size W W1) : EBox w W1 g e := ⟨blk_below h.blk hb⟩
theorem EBox.keep {w W W1 : World} {g gm : Nat} {e : S55} {f0 : Bool} {f1 f2 f3 f4 f5 f6 f7 f8 : Int} (h : EBox w W g e) (hi : IsS57 w W gm f0 f1 f2 f3 f4 f5 f6 f7 f8) (hk : KeepBut W W1 gm none) : EBox w W1 g e := ⟨hk.blk h.blk (fun e => hi.ne_blk h.blk (by decide) e.symm) (by simp)⟩
theorem EBox.appended {w W W1 : World} {g : Nat} {e : S55} {v : Value} {out : List S32} {base : Nat} {ok : Nat → Prop} (h : EBox w W g e) (hr : Kd.R k32 32 W base ok v out) (hg : W.grownBy W1 v.ownBlock) : EBox w W1 g e := ⟨blk_grown h.blk hg (Kd.R_ne hr h.blk (by decide))⟩
theorem EBox.stored {w W W1 : World} {g : Nat} {e : S55} {b n : Nat} {c7 c8 : Int} (h : EBox w W g e) (hm : MapAt W b n c7 c8) (hg : W.grownBy W1 (some b)) : EBox w W1 g e := ⟨blk_grown h.blk hg (fun e => hm.ne h.blk (by injection e))⟩
theorem MapAt.more {W : World} {b n : Nat} {c7 c8 : Int} (h : MapAt W b n c7 c8) : MapAt W b (n + 1) c7 c8 := by
  obtain ⟨D, h1, h2⟩ := h
  exact ⟨D, h1.mono (by omega), h2⟩
theorem SInv.more {w W : World} {m : Mc} {v : Value} {out : List S32} {c7 c8 : Int} {n : Nat} (h : SInv w W m v out c7 c8 n) : SInv w W m v out c7 c8 (n + 1) := ⟨h.st, h.row, h.mp.more, h.bel⟩
theorem bad_lt {i : Int} {m : Mc} {e : S55} (h : e.f1 < m.lat) : bad i m e = if true = true then [⟨i, 1⟩] else [] := by unfold bad; rw [if_pos (.inl h)]; rfl
theorem bad_na {i : Int} {m : Mc} {e : S55} (h : allowB m e = false) : bad i m e = if true = true then [⟨i, 1⟩] else [] := by unfold bad; rw [if_pos (.inr h)]; rfl
theorem bad_ok {i : Int} {m : Mc} {e : S55} (h : m.lat ≤ e.f1) (h2 : allowB m e = true) : bad i m e = if false = true then [⟨i, 1⟩] else [] := by unfold bad; rw [if_neg (fun h3 => h3.elim (fun h5 => by omega) (fun h4 => by rw [h2] at h4; cases h4))]; rfl
theorem bad_le {i : Int} {m : Mc} {e : S55} : (bad i m e).length ≤ 1 := by unfold bad; split <;> simp
theorem dup_le {i c7 c8 : Int} {e : S55} : (dup i c7 c8 e).length ≤ 1 := by unfold dup; split <;> simp
theorem dup7 {i c7 c8 : Int} {e : S55} (h : e.f0 = 7) (h2 : ¬ e.f3 = c7) : dup i c7 c8 e = [⟨i, 2⟩] := by unfold dup; rw [if_pos (.inl ⟨h, h2⟩)]
theorem dup8 {i c7 c8 : Int} {e : S55} (h : e.f0 = 8) (h2 : ¬ e.f3 = c8) : dup i c7 c8 e = [⟨i, 2⟩] := by unfold dup; rw [if_pos (.inr ⟨h, h2⟩)]
theorem nodup7 {i c7 c8 : Int} {e : S55} (h : e.f0 = 7) (h2 : e.f3 = c7) : dup i c7 c8 e = [] := by unfold dup; rw [if_neg (by omega)]
theorem nodup8 {i c7 c8 : Int} {e : S55} (h : e.f0 = 8) (h2 : e.f3 = c8) : dup i c7 c8 e = [] := by unfold dup; rw [if_neg (by omega)]
theorem nodup {i c7 c8 : Int} {e : S55} (h : ¬ e.f0 = 7) (h2 : ¬ e.f0 = 8) : dup i c7 c8 e = [] := by unfold dup; rw [if_neg (by omega)]
theorem MapAt.put7 {W W1 : World} {b n n0 : Nat} {c8 x k : Int} {D : DataW Unit} (hk : k = 7) (h0 : W.ownsMap Tryd.prog 3 (plainElem Tryd.prog 2) b n0 D) (h : W1.ownsMap Tryd.prog 3 (plainElem Tryd.prog 2) b n (D.put (.int .i64 k) (.lit (.int .i64 x)))) (h8 : D.atKey (.int .i64 8) (.lit (.int .i64 0)) = .lit (.int .i64 c8)) : MapAt W1 b n x c8 := by
  subst hk
  exact ⟨_, h, atKey_put_same h0.isMap (by trivial) _ _, by rw [atKey_put_other (by intro h; cases h)]; exact h8⟩
theorem MapAt.put8 {W W1 : World} {b n n0 : Nat} {c7 x k : Int} {D : DataW Unit} (hk : k = 8) (h0 : W.ownsMap Tryd.prog 3 (plainElem Tryd.prog 2) b n0 D) (h : W1.ownsMap Tryd.prog 3 (plainElem Tryd.prog 2) b n (D.put (.int .i64 k) (.lit (.int .i64 x)))) (h7 : D.atKey (.int .i64 7) (.lit (.int .i64 0)) = .lit (.int .i64 c7)) : MapAt W1 b n c7 x := by
  subst hk
  exact ⟨_, h, by rw [atKey_put_other (by intro h; cases h)]; exact h7, atKey_put_same h0.isMap (by trivial) _ _⟩
theorem step_some (m : Mc) (e : S55) : verify_machine_apply.f m.on m.run m.l0 m.l1 m.l2 m.l3 m.l4 m.l5 m.lat e.f0 e.f1 e.f2 e.f3 e.f4 e.f5 = some ((stepM m e).on, (stepM m e).run, (stepM m e).l0, (stepM m e).l1, (stepM m e).l2, (stepM m e).l3, (stepM m e).l4, (stepM m e).l5, (stepM m e).lat) := rfl
theorem seq_start (w : World) : SInv w ((w.alloc (.cells #[.bool false, .int .i64 (-1), .int .i64 0, .int .i64 0, .int .i64 0, .int .i64 0, .int .i16 0, .int .i64 0, .int .i64 0] 57)).alloc (.map #[] 0)) m00 (.slice none 0 0) [] 0 0 0 :=
  ⟨by exact IsS57.alloc (IsS57.new w w false (-1) 0 0 0 0 0 0 0 (Below.refl _ _)) _, Kd.R_nil _ _ _ _ _, ⟨.map [], by simpa using World.ownsMap_made (w.alloc (.cells #[.bool false, .int .i64 (-1), .int .i64 0, .int .i64 0, .int .i64 0, .int .i64 0, .int .i16 0, .int .i64 0, .int .i64 0] 57)) Tryd.prog 3 (plainElem Tryd.prog 2), rfl, rfl⟩, below_alloc (below_alloc (Below.refl _ _) _) _⟩
theorem law3 : Keyed Tryd.prog 3 := int_keyed Tryd.underlying3
theorem zero2 (w : World) : (zeroValue 2).run Tryd.prog w = .ok (.int .i64 0) w := by kernel_rfl
set_option maxHeartbeats 4000000 in
set_option maxRecDepth 100000 in
theorem seq_walk (A0 : Option Addr) (c0 : Nat) (l0 : List S55) (w : World) (hr0 : Kd.C k55 w A0 l0.length l0) (hc0 : l0.length ≤ c0) (hG : GW w) (hl : l0.length ≤ 1000000) :
    Calls Tryd.prog 11 #[.slice A0 l0.length c0] w fun e w' => ∃ v0_ : Value, e = .returned (v0_) ∧ Kd.R k32 32 w' w.heap.size (fun _ => True) v0_ (seqF 0 m00 0 0 l0) ∧ Below w.heap.size w w' := by
  have hu55 := Tryd.underlying55
  have hu57 := Tryd.underlying57
  have HR0 := Aside0.mk hr0
  have HG := Aside0.mk hG
  clear hr0 hG
  have hmm := @run_makeMap Tryd.prog
  go_enter Tryd.func11, Tryd.ntmps11
  go_wp2
  clear hmm
  go_loopg [3, 12] l0.length (fun n v3 v12 W => ∃ (j : Nat) (m : Mc) (c7 c8 : Int) (out : List S32), v12 = .int .i64 j ∧ j ≤ l0.length ∧ Aside0 (n + j = l0.length) ∧ out.length ≤ 2 * j ∧ Aside0 (SInv w W m v3 out c7 c8 j) ∧ Aside0 (out ++ seqF j m c7 c8 (l0.drop j) = seqF 0 m00 0 0 l0))
  case atStart => exact ⟨0, m00, 0, 0, [], rfl, Nat.zero_le _, ⟨rfl⟩, by simp, ⟨seq_start w⟩, ⟨rfl⟩⟩
  case round =>
    obtain ⟨j, m, c7, c8, out, rfl, hjl, HN, hol, HS, HE⟩ := hrel
    by_cases hlt : j < l0.length
    · obtain ⟨ad, hA, hx0, hx1, hx2, hx3, hx4, hx5⟩ := at_T55 HR0.out (j : Int) (by omega) (by omega)
      subst hA
      have hHB := HS.out.bel
      replace hx0 := (hHB.cell (World.block_lt_of_cell? w _ hx0)).trans hx0
      replace hx1 := (hHB.cell (World.block_lt_of_cell? w _ hx1)).trans hx1
      replace hx2 := (hHB.cell (World.block_lt_of_cell? w _ hx2)).trans hx2
      replace hx3 := (hHB.cell (World.block_lt_of_cell? w _ hx3)).trans hx3
      replace hx4 := (hHB.cell (World.block_lt_of_cell? w _ hx4)).trans hx4
      replace hx5 := (hHB.cell (World.block_lt_of_cell? w _ hx5)).trans hx5
      clear hHB
      have he : rd_T55 l0 (j : Int) = l0[j] := by
        unfold rd_T55
        rw [Int.toNat_natCast, List.getD_eq_getElem?_getD, List.getElem?_eq_getElem hlt, Option.getD_some]
      have hE := HE.out
      rw [List.drop_eq_getElem_cons hlt, ← he] at hE
      clear he HE
      simp only [Int.toNat_natCast] at hx0 hx1 hx2 hx3 hx4 hx5
      generalize rd_T55 l0 (j : Int) = e at hE hx0 hx1 hx2 hx3 hx4 hx5
      have HV := Aside0.mk (valid_some e)
      have HE := Aside0.mk hE
      clear hE
      go_upto_if 19 with (first | (go_at_call 24; refine (trace_Valid.calls _ _ _ _ _ _ _ _ ?hg HV.out).mono ?_; (case hg => exact GW.below HG.out (below_alloc HS.out.bel _)); rintro e1 w1 ⟨rfl, hb1⟩; have HS1 := Aside0.mk (HS.out.below (below_then (below_alloc (Below.refl _ _) _) (by simp) hb1)); have HX1 := Aside0.mk (EBox.below (w := w) (e := e) ⟨blk_new wr _⟩ hb1); clear hb1))
      cases hv : validE e with
      | false =>
        have hE := HE.out
        simp only [seqF] at hE
        rw [if_neg (by rw [hv]; decide)] at hE
        have HE2 := Aside0.mk hE
        clear hE HE hv HV
        go_wp2_with (first | (at_builtin; refine Kd.R_append k32 (w0 := w) w.heap.size rfl (.tmp 20) (.tmp 23) 27 32 (.agg #[(.int .i64 0), (.int .i64 0)]) 16 rfl Tryd.underlying27 info32 rfl (by decide) (by omega) u3 out (⟨(j : Int), 1⟩ : S32) [.int .i64 (j : Int), .int .i64 1] (fun k => k ≠ w.heap.size ∧ k ≠ w.heap.size + 1) (fun _ => False) rfl rfl ?aP (fun _ hk => hk.elim) ?aF ?aO ?aB ?aS ?aL ?_; (case aP => exact k32_mkM _ _ _ (⟨(j : Int), 1⟩ : S32)); (case aB => exact HS1.out.bel); (case aF => exact (fun k hk => by have h1 := HS1.out.st.lt; have h2 := HS1.out.mp.lt; omega)); (case aO => exact HS1.out.row); (case aS => exact HS1.out.bel.size); (case aL => omega); intro v1 w2 ho hb hg hat; have HS2 := Aside0.mk (HS1.out.appended ho hb hg); have HX2 := Aside0.mk (HX1.out.appended (w := w) HS1.out.row hg); clear ho hb hg hat))
        go_roundg (l0.length - (j + 1))
        case measure => have := HN.out; omega
        case rel => exact ⟨j + 1, m, c7, c8, out ++ [⟨(j : Int), 1⟩], by go_num, by omega, ⟨by omega⟩, by simp; omega, ⟨HS2.out.more⟩, ⟨by rw [List.append_assoc]; exact HE2.out⟩⟩
      | true =>
        have hE := HE.out
        simp only [seqF] at hE
        rw [if_pos hv] at hE
        have HE2 := Aside0.mk hE
        clear hE HE hv HV
        go_upto_region 9 with (fail)
        go_cut [34] (fun v34 wc => ∃ b : Bool, v34 = .bool b ∧ Aside0 (bad j m e = if b = true then [⟨(j : Int), 1⟩] else []) ∧ Aside0 (SInv w wc m u3 out c7 c8 j) ∧ Aside0 (EBox w wc wr.heap.size e))
        case first =>
          have hc0 : w1.cell? ⟨wr.heap.size, 0, none⟩ = some (.int .i64 e.f0) := (blk_cell HX1.out.blk 0).trans rfl
          have hc1 : w1.cell? ⟨wr.heap.size, 1, none⟩ = some (.int .i64 e.f1) := (blk_cell HX1.out.blk 1).trans rfl
          have hc2 : w1.cell? ⟨wr.heap.size, 2, none⟩ = some (.int .i64 e.f2) := (blk_cell HX1.out.blk 2).trans rfl
          have hc3 : w1.cell? ⟨wr.heap.size, 3, none⟩ = some (.int .i64 e.f3) := (blk_cell HX1.out.blk 3).trans rfl
          have hc4 : w1.cell? ⟨wr.heap.size, 4, none⟩ = some (.int .i16 e.f4) := (blk_cell HX1.out.blk 4).trans rfl
          have hc5 : w1.cell? ⟨wr.heap.size, 5, none⟩ = some (.int .i64 e.f5) := (blk_cell HX1.out.blk 5).trans rfl
          have hl8 := cellS57_8 HS1.out.st.1
          by_cases ht : e.f1 < m.lat
          · have HT := Aside0.mk ht
            have ht1 : decide (e.f1 < m.lat) = true := decide_eq_true ht
            clear ht
            go_wp2
            go_meet
            case rel => exact ⟨true, rfl, ⟨bad_lt HT.out⟩, HS1, HX1⟩
          · have HT := Aside0.mk (show m.lat ≤ e.f1 by omega)
            have ht1 : decide (e.f1 < m.lat) = false := decide_eq_false ht
            clear ht
            have HA := Aside0.mk (allow_some m e)
            cases hb : allowB m e with
            | true =>
              rw [hb] at HA
              have HBB := Aside0.mk hb
              clear hb
              go_wp2_with (first | (go_at_call 25; refine (verify_machine_allowed.calls 10 _ _ _ _ _ _ _ _ _ _ _ _ _ _ _ _ _ _ _ _ _ _ _ _ _ _ w _ HS1.out.st HS1.out.bel HA.out).mono ?_; rintro e2 w2 ⟨rfl, hi2, hb2, hk2⟩; have HS2 := Aside0.mk (HS1.out.keep hi2 hb2 hk2); have HX2 := Aside0.mk (HX1.out.keep HS1.out.st hk2); clear hi2 hb2 hk2))
              go_meet
              case rel => exact ⟨false, rfl, ⟨bad_ok HT.out HBB.out⟩, HS2, HX2⟩
            | false =>
              rw [hb] at HA
              have HBB := Aside0.mk hb
              clear hb
              go_wp2_with (first | (go_at_call 25; refine (verify_machine_allowed.calls 10 _ _ _ _ _ _ _ _ _ _ _ _ _ _ _ _ _ _ _ _ _ _ _ _ _ _ w _ HS1.out.st HS1.out.bel HA.out).mono ?_; rintro e2 w2 ⟨rfl, hi2, hb2, hk2⟩; have HS2 := Aside0.mk (HS1.out.keep hi2 hb2 hk2); have HX2 := Aside0.mk (HX1.out.keep HS1.out.st hk2); clear hi2 hb2 hk2))
              go_meet
              case rel => exact ⟨true, rfl, ⟨bad_na HBB.out⟩, HS2, HX2⟩
        case rest =>
          obtain ⟨b, rfl, HBD, HS3, HX3⟩ := hcut
          clear HS1 HX1
          obtain ⟨w3, rfl⟩ : ∃ w3 : World, w3 = wc := ⟨_, rfl⟩
          go_upto_if 34 with (fail)
          go_cut [3] (fun v3 wc => ∃ out1 : List S32, out1.length ≤ 2 * j + 1 ∧ Aside0 (out1 = out ++ bad j m e) ∧ Aside0 (SInv w wc m v3 out1 c7 c8 j) ∧ Aside0 (EBox w wc wr.heap.size e))
          case first =>
            cases b with
            | true =>
              go_wp2_with (first | (at_builtin; refine Kd.R_append k32 (w0 := w) w.heap.size rfl (.tmp 35) (.tmp 38) 27 32 (.agg #[(.int .i64 0), (.int .i64 0)]) 16 rfl Tryd.underlying27 info32 rfl (by decide) (by omega) u3 out (⟨(j : Int), 1⟩ : S32) [.int .i64 (j : Int), .int .i64 1] (fun k => k ≠ w.heap.size ∧ k ≠ w.heap.size + 1) (fun _ => False) rfl rfl ?aP (fun _ hk => hk.elim) ?aF ?aO ?aB ?aS ?aL ?_; (case aP => exact k32_mkM _ _ _ (⟨(j : Int), 1⟩ : S32)); (case aB => exact HS3.out.bel); (case aF => exact (fun k hk => by have h1 := HS3.out.st.lt; have h2 := HS3.out.mp.lt; omega)); (case aO => exact HS3.out.row); (case aS => exact HS3.out.bel.size); (case aL => omega); intro v1 w4 ho hb hg hat; have HS4 := Aside0.mk (HS3.out.appended ho hb hg); have HX4 := Aside0.mk (HX3.out.appended (w := w) HS3.out.row hg); clear ho hb hg hat))
              go_meet
              case rel => exact ⟨out ++ [⟨(j : Int), 1⟩], by simp; omega, ⟨by rw [HBD.out]; rfl⟩, HS4, HX4⟩
            | false =>
              go_wp2
              go_meet
              case rel => exact ⟨out, by omega, ⟨by rw [HBD.out]; simp⟩, HS3, HX3⟩
          case rest =>
          obtain ⟨out1, hol1, HO1, HS4, HX4⟩ := hcut
          clear HS3 HX3 HBD
          obtain ⟨w4, rfl⟩ : ∃ w4 : World, w4 = wc := ⟨_, rfl⟩
          have hr0 : w4.cell? ⟨wr.heap.size, 0, none⟩ = some (.int .i64 e.f0) := (blk_cell HX4.out.blk 0).trans rfl
          have hr1 : w4.cell? ⟨wr.heap.size, 1, none⟩ = some (.int .i64 e.f1) := (blk_cell HX4.out.blk 1).trans rfl
          have hr2 : w4.cell? ⟨wr.heap.size, 2, none⟩ = some (.int .i64 e.f2) := (blk_cell HX4.out.blk 2).trans rfl
          have hr3 : w4.cell? ⟨wr.heap.size, 3, none⟩ = some (.int .i64 e.f3) := (blk_cell HX4.out.blk 3).trans rfl
          have hr4 : w4.cell? ⟨wr.heap.size, 4, none⟩ = some (.int .i16 e.f4) := (blk_cell HX4.out.blk 4).trans rfl
          have hr5 : w4.cell? ⟨wr.heap.size, 5, none⟩ = some (.int .i64 e.f5) := (blk_cell HX4.out.blk 5).trans rfl

          by_cases hk0 : e.f0 = 7
          ·
            have e7 : (e.f0 == 7) = true := beq_iff_eq.mpr hk0
            have hE := HE2.out
            rw [if_pos hk0, if_neg (by omega)] at hE
            have HE3 := Aside0.mk hE
            clear hE HE2
            have hkey := Aside0.mk (keyOf_int_mk Tryd.underlying3 (show (Lit.int .i64 e.f0).wf = true by rw [hk0]; decide))
            have hk := Aside0.mk hk0
            obtain ⟨aD, aO, a7, a8⟩ := HS4.out.mp
            have HAO := Aside0.mk aO
            have h7A := Aside0.mk a7
            have h8A := Aside0.mk a8
            clear aO a7 a8 hk0
            go_upto_if 54 with (first | (at_lookup; refine wpList_lookup_own_int _ rfl _ _ 58 rfl 3 2 .i64 law3 Tryd.underlying58 Tryd.underlying2 (zero2 _) (w.heap.size + 1) j aD rfl HAO.out _ _ rfl hkey.out ?_; intro c hat hwc; have hce : c7 = c := (by have h9 := hat; rw [hk.out] at h9; rw [h7A.out] at h9; injection h9 with h9; injection h9 with _ h9); clear hat hwc; subst hce))
            by_cases hd : e.f3 = c7
            · have HD := Aside0.mk (nodup7 (i := j) (c7 := c7) (c8 := c8) hk.out hd)
              have hd1 : (e.f3 != c7) = false := by rw [hd]; simp
              clear hd
              go_upto_region 15 with (first | (at_lookup; refine wpList_lookup_own_int _ rfl _ _ 58 rfl 3 2 .i64 law3 Tryd.underlying58 Tryd.underlying2 (zero2 _) (w.heap.size + 1) j aD rfl HAO.out _ _ rfl hkey.out ?_; intro c hat hwc; have hce : c7 = c := (by have h9 := hat; rw [hk.out] at h9; rw [h7A.out] at h9; injection h9 with h9; injection h9 with _ h9); clear hat hwc; subst hce) | (at_mapUpdate; refine wpList_mapUpdate_own _ rfl _ _ _ 58 rfl 3 2 law3 Tryd.underlying58 _ (w.heap.size + 1) j aD rfl HAO.out (by unfold maxLen; omega) _ _ _ rfl rfl hkey.out _ [] (plainElem_int Tryd.underlying2 (wrap64_wf _)) ?_; intro w8 hown1 hgrow1; have HS8 := Aside0.mk (HS4.out.stored (MapAt.put7 hk.out HAO.out hown1 h8A.out) hgrow1); have HX8 := Aside0.mk (HX4.out.stored HS4.out.mp hgrow1); clear hown1 hgrow1))
              have hq0 : w8.cell? ⟨wr.heap.size, 0, none⟩ = some (.int .i64 e.f0) := (blk_cell HX8.out.blk 0).trans rfl
              have hq1 : w8.cell? ⟨wr.heap.size, 1, none⟩ = some (.int .i64 e.f1) := (blk_cell HX8.out.blk 1).trans rfl
              have hq2 : w8.cell? ⟨wr.heap.size, 2, none⟩ = some (.int .i64 e.f2) := (blk_cell HX8.out.blk 2).trans rfl
              have hq3 : w8.cell? ⟨wr.heap.size, 3, none⟩ = some (.int .i64 e.f3) := (blk_cell HX8.out.blk 3).trans rfl
              have hq4 : w8.cell? ⟨wr.heap.size, 4, none⟩ = some (.int .i16 e.f4) := (blk_cell HX8.out.blk 4).trans rfl
              have hq5 : w8.cell? ⟨wr.heap.size, 5, none⟩ = some (.int .i64 e.f5) := (blk_cell HX8.out.blk 5).trans rfl

              go_wp2_with (first | (go_at_call 26; refine (verify_machine_apply.calls _ _ _ _ _ _ _ _ _ _ _ _ _ _ _ _ _ _ _ _ _ _ _ _ _ w _ HS8.out.st HS8.out.bel (step_some m e)).mono ?_; rintro e3 w9 ⟨rfl, hi2, hb2, hk2⟩; have HS9 := Aside0.mk (HS8.out.keep (m1 := stepM m e) hi2 hb2 hk2); clear hi2 hb2 hk2))
              have HF := Aside0.mk (show out1 ++ seqF ((j + 1 : Nat) : Int) (stepM m e) (wrap64 (c7 + 1)) c8 (l0.drop (j + 1)) = seqF 0 m00 0 0 l0 from by rw [← HE3.out, HD.out, HO1.out, List.nil_append, List.append_assoc]; rfl)
              go_roundg (l0.length - (j + 1))
              case measure => have := HN.out; omega
              case rel => exact ⟨j + 1, stepM m e, (wrap64 (c7 + 1)), c8, out1, by go_num, by omega, ⟨by omega⟩, by omega, ⟨HS9.out⟩, HF⟩

            · have HD := Aside0.mk (dup7 (i := j) (c7 := c7) (c8 := c8) hk.out hd)
              have hd1 : (e.f3 != c7) = true := by simpa using hd
              clear hd
              go_upto_region 14 with (first | (at_builtin; refine Kd.R_append k32 (w0 := w) w.heap.size rfl (.tmp 55) (.tmp 58) 27 32 (.agg #[(.int .i64 0), (.int .i64 0)]) 16 rfl Tryd.underlying27 info32 rfl (by decide) (by omega) u3 out1 (⟨(j : Int), 2⟩ : S32) [.int .i64 (j : Int), .int .i64 2] (fun k => k ≠ w.heap.size ∧ k ≠ w.heap.size + 1) (fun _ => False) rfl rfl ?aP (fun _ hk => hk.elim) ?aF ?aO ?aB ?aS ?aL ?_; (case aP => exact k32_mkM _ _ _ (⟨(j : Int), 2⟩ : S32)); (case aB => exact HS4.out.bel); (case aF => exact (fun k hk => by have h1 := HS4.out.st.lt; have h2 := HS4.out.mp.lt; omega)); (case aO => exact HS4.out.row); (case aS => exact HS4.out.bel.size); (case aL => omega); intro v1 w5 ho hb hg hat; have HS5 := Aside0.mk (HS4.out.appended ho hb hg); have HX5 := Aside0.mk (HX4.out.appended (w := w) HS4.out.row hg); clear ho hb hg hat))
              obtain ⟨bD, bO, b7, b8⟩ := HS5.out.mp
              have HBO := Aside0.mk bO
              have h7B := Aside0.mk b7
              have h8B := Aside0.mk b8
              clear bO b7 b8
              have hq0 : w5.cell? ⟨wr.heap.size, 0, none⟩ = some (.int .i64 e.f0) := (blk_cell HX5.out.blk 0).trans rfl
              have hq1 : w5.cell? ⟨wr.heap.size, 1, none⟩ = some (.int .i64 e.f1) := (blk_cell HX5.out.blk 1).trans rfl
              have hq2 : w5.cell? ⟨wr.heap.size, 2, none⟩ = some (.int .i64 e.f2) := (blk_cell HX5.out.blk 2).trans rfl
              have hq3 : w5.cell? ⟨wr.heap.size, 3, none⟩ = some (.int .i64 e.f3) := (blk_cell HX5.out.blk 3).trans rfl
              have hq4 : w5.cell? ⟨wr.heap.size, 4, none⟩ = some (.int .i16 e.f4) := (blk_cell HX5.out.blk 4).trans rfl
              have hq5 : w5.cell? ⟨wr.heap.size, 5, none⟩ = some (.int .i64 e.f5) := (blk_cell HX5.out.blk 5).trans rfl

              go_upto_region 15 with (first | (at_lookup; refine wpList_lookup_own_int _ rfl _ _ 58 rfl 3 2 .i64 law3 Tryd.underlying58 Tryd.underlying2 (zero2 _) (w.heap.size + 1) j bD rfl HBO.out _ _ rfl hkey.out ?_; intro c hat hwc; have hce : c7 = c := (by have h9 := hat; rw [hk.out] at h9; rw [h7B.out] at h9; injection h9 with h9; injection h9 with _ h9); clear hat hwc; subst hce) | (at_mapUpdate; refine wpList_mapUpdate_own _ rfl _ _ _ 58 rfl 3 2 law3 Tryd.underlying58 _ (w.heap.size + 1) j bD rfl HBO.out (by unfold maxLen; omega) _ _ _ rfl rfl hkey.out _ [] (plainElem_int Tryd.underlying2 (wrap64_wf _)) ?_; intro w8 hown1 hgrow1; have HS8 := Aside0.mk (HS5.out.stored (MapAt.put7 hk.out HBO.out hown1 h8B.out) hgrow1); have HX8 := Aside0.mk (HX5.out.stored HS5.out.mp hgrow1); clear hown1 hgrow1))
              have hd0 : w8.cell? ⟨wr.heap.size, 0, none⟩ = some (.int .i64 e.f0) := (blk_cell HX8.out.blk 0).trans rfl
              have hd1 : w8.cell? ⟨wr.heap.size, 1, none⟩ = some (.int .i64 e.f1) := (blk_cell HX8.out.blk 1).trans rfl
              have hd2 : w8.cell? ⟨wr.heap.size, 2, none⟩ = some (.int .i64 e.f2) := (blk_cell HX8.out.blk 2).trans rfl
              have hd3 : w8.cell? ⟨wr.heap.size, 3, none⟩ = some (.int .i64 e.f3) := (blk_cell HX8.out.blk 3).trans rfl
              have hd4 : w8.cell? ⟨wr.heap.size, 4, none⟩ = some (.int .i16 e.f4) := (blk_cell HX8.out.blk 4).trans rfl
              have hd5 : w8.cell? ⟨wr.heap.size, 5, none⟩ = some (.int .i64 e.f5) := (blk_cell HX8.out.blk 5).trans rfl

              go_wp2_with (first | (go_at_call 26; refine (verify_machine_apply.calls _ _ _ _ _ _ _ _ _ _ _ _ _ _ _ _ _ _ _ _ _ _ _ _ _ w _ HS8.out.st HS8.out.bel (step_some m e)).mono ?_; rintro e3 w9 ⟨rfl, hi2, hb2, hk2⟩; have HS9 := Aside0.mk (HS8.out.keep (m1 := stepM m e) hi2 hb2 hk2); clear hi2 hb2 hk2))
              have HF := Aside0.mk (show (out1 ++ [⟨(j : Int), 2⟩]) ++ seqF ((j + 1 : Nat) : Int) (stepM m e) (wrap64 (c7 + 1)) c8 (l0.drop (j + 1)) = seqF 0 m00 0 0 l0 from by rw [← HE3.out, HD.out, HO1.out]; simp only [List.append_assoc]; rfl)
              go_roundg (l0.length - (j + 1))
              case measure => have := HN.out; omega
              case rel => exact ⟨j + 1, stepM m e, (wrap64 (c7 + 1)), c8, out1 ++ [⟨(j : Int), 2⟩], by go_num, by omega, ⟨by omega⟩, by simp; omega, ⟨HS9.out⟩, HF⟩


          by_cases hk1 : e.f0 = 8
          · have hk0 := hk1
            clear hk1
            have e7 : (e.f0 == 7) = false := beq_eq_false_iff_ne.mpr (by omega)
            have e8 : (e.f0 == 8) = true := beq_iff_eq.mpr hk0
            have hE := HE2.out
            rw [if_neg (by omega), if_pos hk0] at hE
            have HE3 := Aside0.mk hE
            clear hE HE2
            have hkey := Aside0.mk (keyOf_int_mk Tryd.underlying3 (show (Lit.int .i64 e.f0).wf = true by rw [hk0]; decide))
            have hk := Aside0.mk hk0
            obtain ⟨aD, aO, a7, a8⟩ := HS4.out.mp
            have HAO := Aside0.mk aO
            have h7A := Aside0.mk a7
            have h8A := Aside0.mk a8
            clear aO a7 a8 hk0
            go_upto_if 54 with (first | (at_lookup; refine wpList_lookup_own_int _ rfl _ _ 58 rfl 3 2 .i64 law3 Tryd.underlying58 Tryd.underlying2 (zero2 _) (w.heap.size + 1) j aD rfl HAO.out _ _ rfl hkey.out ?_; intro c hat hwc; have hce : c8 = c := (by have h9 := hat; rw [hk.out] at h9; rw [h8A.out] at h9; injection h9 with h9; injection h9 with _ h9); clear hat hwc; subst hce))
            by_cases hd : e.f3 = c8
            · have HD := Aside0.mk (nodup8 (i := j) (c7 := c7) (c8 := c8) hk.out hd)
              have hd1 : (e.f3 != c8) = false := by rw [hd]; simp
              clear hd
              go_upto_region 15 with (first | (at_lookup; refine wpList_lookup_own_int _ rfl _ _ 58 rfl 3 2 .i64 law3 Tryd.underlying58 Tryd.underlying2 (zero2 _) (w.heap.size + 1) j aD rfl HAO.out _ _ rfl hkey.out ?_; intro c hat hwc; have hce : c8 = c := (by have h9 := hat; rw [hk.out] at h9; rw [h8A.out] at h9; injection h9 with h9; injection h9 with _ h9); clear hat hwc; subst hce) | (at_mapUpdate; refine wpList_mapUpdate_own _ rfl _ _ _ 58 rfl 3 2 law3 Tryd.underlying58 _ (w.heap.size + 1) j aD rfl HAO.out (by unfold maxLen; omega) _ _ _ rfl rfl hkey.out _ [] (plainElem_int Tryd.underlying2 (wrap64_wf _)) ?_; intro w8 hown1 hgrow1; have HS8 := Aside0.mk (HS4.out.stored (MapAt.put8 hk.out HAO.out hown1 h7A.out) hgrow1); have HX8 := Aside0.mk (HX4.out.stored HS4.out.mp hgrow1); clear hown1 hgrow1))
              have hq0 : w8.cell? ⟨wr.heap.size, 0, none⟩ = some (.int .i64 e.f0) := (blk_cell HX8.out.blk 0).trans rfl
              have hq1 : w8.cell? ⟨wr.heap.size, 1, none⟩ = some (.int .i64 e.f1) := (blk_cell HX8.out.blk 1).trans rfl
              have hq2 : w8.cell? ⟨wr.heap.size, 2, none⟩ = some (.int .i64 e.f2) := (blk_cell HX8.out.blk 2).trans rfl
              have hq3 : w8.cell? ⟨wr.heap.size, 3, none⟩ = some (.int .i64 e.f3) := (blk_cell HX8.out.blk 3).trans rfl
              have hq4 : w8.cell? ⟨wr.heap.size, 4, none⟩ = some (.int .i16 e.f4) := (blk_cell HX8.out.blk 4).trans rfl
              have hq5 : w8.cell? ⟨wr.heap.size, 5, none⟩ = some (.int .i64 e.f5) := (blk_cell HX8.out.blk 5).trans rfl

              go_wp2_with (first | (go_at_call 26; refine (verify_machine_apply.calls _ _ _ _ _ _ _ _ _ _ _ _ _ _ _ _ _ _ _ _ _ _ _ _ _ w _ HS8.out.st HS8.out.bel (step_some m e)).mono ?_; rintro e3 w9 ⟨rfl, hi2, hb2, hk2⟩; have HS9 := Aside0.mk (HS8.out.keep (m1 := stepM m e) hi2 hb2 hk2); clear hi2 hb2 hk2))
              have HF := Aside0.mk (show out1 ++ seqF ((j + 1 : Nat) : Int) (stepM m e) c7 (wrap64 (c8 + 1)) (l0.drop (j + 1)) = seqF 0 m00 0 0 l0 from by rw [← HE3.out, HD.out, HO1.out, List.nil_append, List.append_assoc]; rfl)
              go_roundg (l0.length - (j + 1))
              case measure => have := HN.out; omega
              case rel => exact ⟨j + 1, stepM m e, c7, (wrap64 (c8 + 1)), out1, by go_num, by omega, ⟨by omega⟩, by omega, ⟨HS9.out⟩, HF⟩

            · have HD := Aside0.mk (dup8 (i := j) (c7 := c7) (c8 := c8) hk.out hd)
              have hd1 : (e.f3 != c8) = true := by simpa using hd
              clear hd
              go_upto_region 14 with (first | (at_builtin; refine Kd.R_append k32 (w0 := w) w.heap.size rfl (.tmp 55) (.tmp 58) 27 32 (.agg #[(.int .i64 0), (.int .i64 0)]) 16 rfl Tryd.underlying27 info32 rfl (by decide) (by omega) u3 out1 (⟨(j : Int), 2⟩ : S32) [.int .i64 (j : Int), .int .i64 2] (fun k => k ≠ w.heap.size ∧ k ≠ w.heap.size + 1) (fun _ => False) rfl rfl ?aP (fun _ hk => hk.elim) ?aF ?aO ?aB ?aS ?aL ?_; (case aP => exact k32_mkM _ _ _ (⟨(j : Int), 2⟩ : S32)); (case aB => exact HS4.out.bel); (case aF => exact (fun k hk => by have h1 := HS4.out.st.lt; have h2 := HS4.out.mp.lt; omega)); (case aO => exact HS4.out.row); (case aS => exact HS4.out.bel.size); (case aL => omega); intro v1 w5 ho hb hg hat; have HS5 := Aside0.mk (HS4.out.appended ho hb hg); have HX5 := Aside0.mk (HX4.out.appended (w := w) HS4.out.row hg); clear ho hb hg hat))
              obtain ⟨bD, bO, b7, b8⟩ := HS5.out.mp
              have HBO := Aside0.mk bO
              have h7B := Aside0.mk b7
              have h8B := Aside0.mk b8
              clear bO b7 b8
              have hq0 : w5.cell? ⟨wr.heap.size, 0, none⟩ = some (.int .i64 e.f0) := (blk_cell HX5.out.blk 0).trans rfl
              have hq1 : w5.cell? ⟨wr.heap.size, 1, none⟩ = some (.int .i64 e.f1) := (blk_cell HX5.out.blk 1).trans rfl
              have hq2 : w5.cell? ⟨wr.heap.size, 2, none⟩ = some (.int .i64 e.f2) := (blk_cell HX5.out.blk 2).trans rfl
              have hq3 : w5.cell? ⟨wr.heap.size, 3, none⟩ = some (.int .i64 e.f3) := (blk_cell HX5.out.blk 3).trans rfl
              have hq4 : w5.cell? ⟨wr.heap.size, 4, none⟩ = some (.int .i16 e.f4) := (blk_cell HX5.out.blk 4).trans rfl
              have hq5 : w5.cell? ⟨wr.heap.size, 5, none⟩ = some (.int .i64 e.f5) := (blk_cell HX5.out.blk 5).trans rfl

              go_upto_region 15 with (first | (at_lookup; refine wpList_lookup_own_int _ rfl _ _ 58 rfl 3 2 .i64 law3 Tryd.underlying58 Tryd.underlying2 (zero2 _) (w.heap.size + 1) j bD rfl HBO.out _ _ rfl hkey.out ?_; intro c hat hwc; have hce : c8 = c := (by have h9 := hat; rw [hk.out] at h9; rw [h8B.out] at h9; injection h9 with h9; injection h9 with _ h9); clear hat hwc; subst hce) | (at_mapUpdate; refine wpList_mapUpdate_own _ rfl _ _ _ 58 rfl 3 2 law3 Tryd.underlying58 _ (w.heap.size + 1) j bD rfl HBO.out (by unfold maxLen; omega) _ _ _ rfl rfl hkey.out _ [] (plainElem_int Tryd.underlying2 (wrap64_wf _)) ?_; intro w8 hown1 hgrow1; have HS8 := Aside0.mk (HS5.out.stored (MapAt.put8 hk.out HBO.out hown1 h7B.out) hgrow1); have HX8 := Aside0.mk (HX5.out.stored HS5.out.mp hgrow1); clear hown1 hgrow1))
              have hd0 : w8.cell? ⟨wr.heap.size, 0, none⟩ = some (.int .i64 e.f0) := (blk_cell HX8.out.blk 0).trans rfl
              have hd1 : w8.cell? ⟨wr.heap.size, 1, none⟩ = some (.int .i64 e.f1) := (blk_cell HX8.out.blk 1).trans rfl
              have hd2 : w8.cell? ⟨wr.heap.size, 2, none⟩ = some (.int .i64 e.f2) := (blk_cell HX8.out.blk 2).trans rfl
              have hd3 : w8.cell? ⟨wr.heap.size, 3, none⟩ = some (.int .i64 e.f3) := (blk_cell HX8.out.blk 3).trans rfl
              have hd4 : w8.cell? ⟨wr.heap.size, 4, none⟩ = some (.int .i16 e.f4) := (blk_cell HX8.out.blk 4).trans rfl
              have hd5 : w8.cell? ⟨wr.heap.size, 5, none⟩ = some (.int .i64 e.f5) := (blk_cell HX8.out.blk 5).trans rfl

              go_wp2_with (first | (go_at_call 26; refine (verify_machine_apply.calls _ _ _ _ _ _ _ _ _ _ _ _ _ _ _ _ _ _ _ _ _ _ _ _ _ w _ HS8.out.st HS8.out.bel (step_some m e)).mono ?_; rintro e3 w9 ⟨rfl, hi2, hb2, hk2⟩; have HS9 := Aside0.mk (HS8.out.keep (m1 := stepM m e) hi2 hb2 hk2); clear hi2 hb2 hk2))
              have HF := Aside0.mk (show (out1 ++ [⟨(j : Int), 2⟩]) ++ seqF ((j + 1 : Nat) : Int) (stepM m e) c7 (wrap64 (c8 + 1)) (l0.drop (j + 1)) = seqF 0 m00 0 0 l0 from by rw [← HE3.out, HD.out, HO1.out]; simp only [List.append_assoc]; rfl)
              go_roundg (l0.length - (j + 1))
              case measure => have := HN.out; omega
              case rel => exact ⟨j + 1, stepM m e, c7, (wrap64 (c8 + 1)), out1 ++ [⟨(j : Int), 2⟩], by go_num, by omega, ⟨by omega⟩, by simp; omega, ⟨HS9.out⟩, HF⟩


          have e7 : (e.f0 == 7) = false := beq_eq_false_iff_ne.mpr hk0
          have e8 : (e.f0 == 8) = false := beq_eq_false_iff_ne.mpr hk1
          have HD := Aside0.mk (nodup (i := j) (c7 := c7) (c8 := c8) hk0 hk1)
          have hE := HE2.out
          rw [if_neg hk0, if_neg hk1] at hE
          have HE3 := Aside0.mk hE
          clear hE HE2 hk0 hk1
          go_wp2_with (first | (go_at_call 26; refine (verify_machine_apply.calls _ _ _ _ _ _ _ _ _ _ _ _ _ _ _ _ _ _ _ _ _ _ _ _ _ w _ HS4.out.st HS4.out.bel (step_some m e)).mono ?_; rintro e3 w9 ⟨rfl, hi2, hb2, hk2⟩; have HS9 := Aside0.mk (HS4.out.keep (m1 := stepM m e) hi2 hb2 hk2); clear hi2 hb2 hk2))
          have HF := Aside0.mk (show out1 ++ seqF ((j + 1 : Nat) : Int) (stepM m e) c7 c8 (l0.drop (j + 1)) = seqF 0 m00 0 0 l0 from by rw [← HE3.out, HD.out, HO1.out, List.nil_append, List.append_assoc]; rfl)
          go_roundg (l0.length - (j + 1))
          case measure => have := HN.out; omega
          case rel => exact ⟨j + 1, stepM m e, c7, c8, out1, by go_num, by omega, ⟨by omega⟩, by omega, ⟨HS9.out.more⟩, HF⟩

    · obtain rfl : j = l0.length := by omega
      have hE := HE.out
      rw [List.drop_of_length_le (Nat.le_refl _)] at hE
      simp only [seqF, List.append_nil] at hE
      have HE2 := Aside0.mk hE
      clear hE HE
      go_wp2
      go_ret
      exact ⟨_, rfl, by rw [← HE2.out]; exact Kd.R_mono HS.out.row (fun _ _ => trivial), HS.out.bel⟩
theorem verify_Sequence.calls (A0 : Option Addr) (c0 : Nat) (l0 : List (S55)) (r : List (S32)) (w : World) (hr0 : Kd.C k55 w A0 l0.length l0) (hc0 : l0.length ≤ c0) (hG : GW w) (h : verify_Sequence.f l0 = some r) :
    Calls Tryd.prog 11 #[.slice A0 l0.length c0] w fun e w' => ∃ v0_ : Value, e = .returned (v0_) ∧ Kd.R k32 32 w' w.heap.size (fun _ => True) v0_ r ∧ Below w.heap.size w w' := by
  unfold verify_Sequence.f at h
  split at h
  · rename_i hl
    obtain rfl := Option.some.inj h
    exact seq_walk A0 c0 l0 w hr0 hc0 hG hl
  · cases h
end Go.Proofs.YtakkifbcaedcoaaDoor.PX
