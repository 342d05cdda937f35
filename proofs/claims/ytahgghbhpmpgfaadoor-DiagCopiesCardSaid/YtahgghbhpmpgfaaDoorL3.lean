/- Parts of the proof, merged in build order: ShelfS, Ev, MSort, MList, MAllD, MLawL, Dl1, MLawL2, Dg1, PureDiagFormat, PureDiagList, Handed. -/
import Derived.Test.YtahgghbhpmpgfaaDoorProg
import Derived.Shelf.SlSortCmp.NoneTotal
import Derived.Ground.SlsfProg
import Derived.Test.YtahgghbhpmpgfaaDoorL0
import Derived.Test.YtahgghbhpmpgfaaDoorL2
import Derived.Lib.SliceRun
import Derived.Test.YtahgghbhpmpgfaaDoorL1
import Derived.Handed
import Derived.SevenTiedAt
import Derived.ProofKit
import Derived.ChangeOld
/-
  DERIVED: THE SHELF's CONTRACTS AT THIS DUMP, IN PLAIN WORDS (tools/lay-plain.mjs out of 'YtahgghbhpmpgfaaDoorShelfS.lean', which tools/lay-shelf.mjs wrote): THE SAME DECLARATIONS UNDER THE SAME NAMES: 'import', 'namespace', 'open', 'def', 'theorem' AND NOTHING ELSE: no command of the shelf's: FOR A HAND-IN. Each laying: the table of numbers ('.._ren') and one theorem, a field a fact of the dump's own or the kernel's comparison; each contract: ONE APPLICATION.
-/
namespace Go.Proofs
open Go.Shelf
def Tryd.sortL_ren : Go.Shelf.Ren := ⟨fun | 6 => 40 | 15 => 56 | 14 => 55 | 28 => 72 | 29 => 73 | 20 => 64 | 21 => 65 | 22 => 66 | 23 => 67 | 24 => 68 | 25 => 69 | 26 => 70 | 27 => 71 | 46 => 83 | 47 => 84 | 48 => 85 | 49 => 86 | 50 => 87 | 57 => 95 | n => n, fun | 22 => 27 | 24 => 39 | 25 => 67 | 3 => 3 | 39 => 75 | 0 => 0 | 53 => 90 | 55 => 92 | 4 => 4 | 46 => 84 | 45 => 83 | 50 => 32 | 5 => 5 | 9 => 9 | 66 => 100 | 70 => 104 | 76 => 111 | 77 => 23 | n => n, fun | n => n⟩
theorem Tryd.sortL : Go.Proofs.SlLaysF0.n6 Tryd.prog Tryd.sortL_ren := {
  mixed := by kernel_rfl
  f6 := ⟨Tryd.f40.name, by decide, Tryd.func40.trans (congrArg some (by kernel_rfl))⟩
  f14 := ⟨Tryd.f55.name, by decide, Tryd.func55.trans (congrArg some (by kernel_rfl))⟩
  f15 := Tryd.func56.trans (congrArg some (by kernel_rfl))
  f20 := ⟨Tryd.f64.name, by decide, Tryd.func64.trans (congrArg some (by kernel_rfl))⟩
  f21 := ⟨Tryd.f65.name, by decide, Tryd.func65.trans (congrArg some (by kernel_rfl))⟩
  f22 := ⟨Tryd.f66.name, by decide, Tryd.func66.trans (congrArg some (by kernel_rfl))⟩
  f23 := ⟨Tryd.f67.name, by decide, Tryd.func67.trans (congrArg some (by kernel_rfl))⟩
  f24 := ⟨Tryd.f68.name, by decide, Tryd.func68.trans (congrArg some (by kernel_rfl))⟩
  f25 := ⟨Tryd.f69.name, by decide, Tryd.func69.trans (congrArg some (by kernel_rfl))⟩
  f26 := ⟨Tryd.f70.name, by decide, Tryd.func70.trans (congrArg some (by kernel_rfl))⟩
  f27 := ⟨Tryd.f71.name, by decide, Tryd.func71.trans (congrArg some (by kernel_rfl))⟩
  f28 := Tryd.func72.trans (congrArg some (by kernel_rfl))
  f29 := Tryd.func73.trans (congrArg some (by kernel_rfl))
  f46 := ⟨Tryd.f83.name, by decide, Tryd.func83.trans (congrArg some (by kernel_rfl))⟩
  f47 := Tryd.func84.trans (congrArg some (by kernel_rfl))
  f48 := Tryd.func85.trans (congrArg some (by kernel_rfl))
  f49 := ⟨Tryd.f86.name, by decide, Tryd.func86.trans (congrArg some (by kernel_rfl))⟩
  f50 := ⟨Tryd.f87.name, by decide, Tryd.func87.trans (congrArg some (by kernel_rfl))⟩
  f57 := ⟨Tryd.f95.name, by decide, Tryd.func95.trans (congrArg some (by kernel_rfl))⟩
  t0 := Tryd.underlying0
  a0 := Tryd.isAgg0
  z0 := Tryd.sizeOf0
  v0 := Tryd.zeroValue0
  t3 := Tryd.underlying3
  a3 := Tryd.isAgg3
  z3 := Tryd.sizeOf3
  v3 := Tryd.zeroValue3
  t4 := Tryd.underlying4
  a4 := Tryd.isAgg4
  z4 := Tryd.sizeOf4
  v4 := Tryd.zeroValue4
  t5 := Tryd.underlying5
  a5 := Tryd.isAgg5
  z5 := Tryd.sizeOf5
  v5 := Tryd.zeroValue5
  t9 := Tryd.underlying9
  a9 := Tryd.isAgg9
  z9 := Tryd.sizeOf9
  v9 := Tryd.zeroValue9
  t22 := Tryd.underlying27
  a22 := Tryd.isAgg27
  z22 := Tryd.sizeOf27
  v22 := Tryd.zeroValue27
  t25 := Tryd.underlying67
  a25 := Tryd.isAgg67
  z25 := Tryd.sizeOf67
  v25 := Tryd.zeroValue67
  t39 := Tryd.underlying75
  a39 := Tryd.isAgg75
  z39 := Tryd.sizeOf75
  v39 := Tryd.zeroValue75
  t45 := Tryd.underlying83
  a45 := Tryd.isAgg83
  z45 := Tryd.sizeOf83
  v45 := Tryd.zeroValue83
  t46 := Tryd.underlying84
  a46 := Tryd.isAgg84
  z46 := Tryd.sizeOf84
  v46 := Tryd.zeroValue84
  t50 := Tryd.underlying32
  a50 := Tryd.isAgg32
  z50 := Tryd.sizeOf32
  v50 := Tryd.zeroValue32
  t53 := Tryd.underlying90
  a53 := Tryd.isAgg90
  z53 := Tryd.sizeOf90
  v53 := Tryd.zeroValue90
  t55 := Tryd.underlying92
  a55 := Tryd.isAgg92
  z55 := Tryd.sizeOf92
  v55 := Tryd.zeroValue92
  t66 := Tryd.underlying100
  a66 := Tryd.isAgg100
  z66 := Tryd.sizeOf100
  v66 := Tryd.zeroValue100
  t70 := Tryd.underlying104
  a70 := Tryd.isAgg104
  z70 := Tryd.sizeOf104
  v70 := Tryd.zeroValue104
  t76 := Tryd.underlying111
  a76 := Tryd.isAgg111
  z76 := Tryd.sizeOf111
  v76 := Tryd.zeroValue111
  t77 := Tryd.underlying23
  a77 := Tryd.isAgg23
  z77 := Tryd.sizeOf23
  v77 := Tryd.zeroValue23 }
end Go.Proofs
/- Small words on 'with enough rounds' (Ev), lists read by whole numbers, and wraps. Of no program. -/
namespace Go.Proofs.YtahgghbhpmpgfaaDoor.PX
open Go.RowKit Go.Proofs.YtahgghbhpmpgfaaDoorW.PrintWords
theorem Ev.pos {α : Type} {c : Prop} [Decidable c] {g f : Nat → Option α} {r : α} (h : c) (k : Ev g r) : Ev (fun n => if c then g n else f n) r := by
  obtain ⟨K, hK⟩ := k
  exact ⟨K, fun n hn => (if_pos h).trans (hK n hn)⟩
theorem Ev.neg {α : Type} {c : Prop} [Decidable c] {g f : Nat → Option α} {r : α} (h : ¬ c) (k : Ev f r) : Ev (fun n => if c then g n else f n) r := by
  obtain ⟨K, hK⟩ := k
  exact ⟨K, fun n hn => (if_neg h).trans (hK n hn)⟩
theorem Ev.someb {α β : Type} {a : α} {f : Nat → α → Option β} {r : β} (k : Ev (fun n => f n a) r) : Ev (fun n => (some a).bind (f n)) r := k
theorem Ev.const {α β : Type} {c : Option α} {a : α} {f : Nat → α → Option β} {r : β} (h : c = some a) (k : Ev (fun n => f n a) r) : Ev (fun n => c.bind (f n)) r := by
  rw [h]; exact k
theorem Ev.cast {α : Type} {g : Nat → Option α} {r r' : α} (h : Ev g r) (e : r = r') : Ev g r' := e ▸ h
theorem wrap_nat {j n : Nat} (h : j < n) (hn : n ≤ 9223372036854775807) : wrap64 ((j : Int) + 1) = ((j + 1 : Nat) : Int) := by
  unfold wrap64
  omega
theorem wrap_id {i : Int} (h0 : -9223372036854775808 ≤ i) (h : i ≤ 9223372036854775807) : wrap64 i = i := by
  unfold wrap64
  omega
theorem drop_cons {α : Type} (xs : List α) (j : Nat) (h : j < xs.length) : xs.drop j = xs[j] :: xs.drop (j + 1) := List.drop_eq_getElem_cons h
theorem take_snoc' {α : Type} (xs : List α) (j : Nat) (h : j < xs.length) : xs.take (j + 1) = xs.take j ++ [xs[j]] := List.take_succ_eq_append_getElem h
end Go.Proofs.YtahgghbhpmpgfaaDoor.PX
/- The order of diagnostics: the comparison of (*diag.List).All, a strict order that parts whatever two; slices.SortFunc laid. -/
namespace Go.Proofs.YtahgghbhpmpgfaaDoor.PX
open Go.RowKit Go.Sort Go.Shelf Go.Lib Go.Proofs.YtahgghbhpmpgfaaDoorW.PrintWords Go.Proofs.YtahgghbhpmpgfaaDoorW.PrintLast Go.Proofs.YtahgghbhpmpgfaaDoorW.PrintMore
set_option linter.unusedVariables false
instance : Inhabited S39 := ⟨z39⟩
abbrev less (x y : List UInt8) : Bool := Op.bytesLess x y
theorem less_irrefl : ∀ x, less x x = false
  | [] => rfl
  | a :: x => by
    have h : ¬ a < a := by rw [UInt8.lt_iff_toNat_lt]; omega
    simp [less, Op.bytesLess, h]
    exact less_irrefl x
theorem less_cons (a b : UInt8) (x y : List UInt8) : less (a :: x) (b :: y) = true ↔ (a.toNat < b.toNat ∨ (a = b ∧ less x y = true)) := by
  unfold less
  rw [Op.bytesLess]
  simp [UInt8.lt_iff_toNat_lt]
theorem less_trans : ∀ x y z, less x y = true → less y z = true → less x z = true
  | x, [], z, h1, h2 => by simp [less, Op.bytesLess] at h1
  | x, b :: y, [], h1, h2 => by simp [less, Op.bytesLess] at h2
  | [], b :: y, c :: z, h1, h2 => by simp [less, Op.bytesLess]
  | a :: x, b :: y, c :: z, h1, h2 => by
    rw [less_cons] at h1 h2 ⊢
    rcases h1 with h1 | ⟨rfl, h1⟩
    · rcases h2 with h2 | ⟨rfl, h2⟩
      · exact .inl (by omega)
      · exact .inl h1
    · rcases h2 with h2 | ⟨rfl, h2⟩
      · exact .inl h2
      · exact .inr ⟨rfl, less_trans x y z h1 h2⟩
theorem less_total (x y : List UInt8) (h1 : less x y = false) (h2 : less y x = false) : x = y := by
  have h := less_flip x y
  change (!(less x y || x == y)) = less y x at h
  rw [h1, h2] at h
  simpa using h
/-- Diagnostic x stands before diagnostic y. -/
def ltD (x y : S39) : Prop := x.f0 < y.f0 ∨ (x.f0 = y.f0 ∧ less x.f1.toList y.f1.toList = true)
instance (x y : S39) : Decidable (ltD x y) := by unfold ltD; infer_instance
theorem toList_inj {a b : ByteArray} (h : a.toList = b.toList) : a = b := by
  rw [Go.ByteArray.toList_eq, Go.ByteArray.toList_eq] at h
  exact ByteArray.ext (Array.ext' h)
theorem ltD_irrefl (x : S39) : ¬ ltD x x := by
  rintro (h | ⟨_, h⟩)
  · omega
  · rw [less_irrefl] at h; cases h
theorem ltD_trans {x y z : S39} (h1 : ltD x y) (h2 : ltD y z) : ltD x z := by
  rcases h1 with h1 | ⟨e1, h1⟩
  · rcases h2 with h2 | ⟨e2, h2⟩
    · exact .inl (by omega)
    · exact .inl (by omega)
  · rcases h2 with h2 | ⟨e2, h2⟩
    · exact .inl (by omega)
    · exact .inr ⟨by omega, less_trans _ _ _ h1 h2⟩
theorem ltD_total {x y : S39} (h1 : ¬ ltD x y) (h2 : ¬ ltD y x) : x = y := by
  have e0 : x.f0 = y.f0 := by
    rcases Int.lt_trichotomy x.f0 y.f0 with h | h | h
    · exact absurd (Or.inl h) h1
    · exact h
    · exact absurd (Or.inl h) h2
  have e1 : x.f1 = y.f1 := by
    apply toList_inj
    apply less_total
    · by_cases h : less x.f1.toList y.f1.toList = true
      · exact absurd (Or.inr ⟨e0, h⟩) h1
      · simpa using h
    · by_cases h : less y.f1.toList x.f1.toList = true
      · exact absurd (Or.inr ⟨e0.symm, h⟩) h2
      · simpa using h
  cases x; cases y
  simp at e0 e1
  rw [e0, e1]
/-- What the comparison returns. -/
def cfD (x y : S39) : Int := if ltD x y then -1 else if ltD y x then 1 else 0
theorem ltOf_D (x y : S39) : ltOf cfD x y = decide (ltD x y) := by
  unfold ltOf cfD
  by_cases h1 : ltD x y
  · simp [h1]
  · by_cases h2 : ltD y x <;> simp [h1, h2]
theorem swoD : SWO (ltOf cfD) where
  irrefl x := by rw [ltOf_D]; exact decide_eq_false (ltD_irrefl x)
  trans x y z h1 h2 := by rw [ltOf_D] at *; exact decide_eq_true (ltD_trans (of_decide_eq_true h1) (of_decide_eq_true h2))
  ntrans x y z h1 h2 := by
    rw [ltOf_D] at *
    have g1 := of_decide_eq_false h1
    have g2 := of_decide_eq_false h2
    apply decide_eq_false
    intro h
    by_cases k : ltD y x
    · exact g2 (ltD_trans k h)
    · rw [ltD_total g1 k] at h
      exact g2 h
theorem totD (x y : S39) (h1 : (ltOf cfD) x y = false) (h2 : (ltOf cfD) y x = false) : x = y := by
  rw [ltOf_D] at *
  exact ltD_total (of_decide_eq_false h1) (of_decide_eq_false h2)
theorem cmp_eq (x y : S39) : diag_List_All_1.f 8 x.f0 x.f1 y.f0 y.f1 = some (cfD x y) := by
  have hi : ∀ a : Int, cmp_isNaN_int.f a = some false := fun a => by unfold cmp_isNaN_int.f; simp
  have hs : ∀ a : ByteArray, cmp_isNaN_string.f a = some false := fun a => by unfold cmp_isNaN_string.f; simp
  have hc : cmp_Compare_int.f x.f0 y.f0 = some (if x.f0 < y.f0 then -1 else if y.f0 < x.f0 then 1 else 0) := by
    unfold cmp_Compare_int.f
    rw [hi, hi]
    simp only [Option.bind_some, Bool.false_eq_true, if_false, gt_iff_lt]
    split <;> (try split) <;> rfl
  have hd : cmp_Compare_string.f x.f1 y.f1 = some (if less x.f1.toList y.f1.toList = true then -1 else if less y.f1.toList x.f1.toList = true then 1 else 0) := by
    unfold cmp_Compare_string.f
    rw [hs, hs]
    simp only [Option.bind_some, Bool.false_eq_true, if_false]
    split <;> (try split) <;> rfl
  have ho : ∀ a b : Int, cmp_Or_int.f 8 [a, b] = some (if a = 0 then b else a) := by
    intro a b
    have w1 : wrap64 (0 + 1) = 1 := by unfold wrap64; omega
    have w2 : wrap64 (1 + 1) = 2 := by unfold wrap64; omega
    unfold cmp_Or_int.f
    have e : (([a, b] : List Int).length : Int) = 2 := rfl
    rw [e]
    rw [cmp_Or_int.l0, if_pos (by omega), if_pos (by omega), e, if_pos (by omega), show rd [a, b] 0 = a from rfl, w1]
    by_cases ha : a = 0
    · rw [if_pos ha, if_pos ha, cmp_Or_int.l0, if_pos (by omega), if_pos (by omega), e, if_pos (by omega), show rd [a, b] 1 = b from rfl, w2]
      by_cases hb : b = 0
      · rw [if_pos hb, cmp_Or_int.l0, if_neg (by omega), hb]
      · rw [if_neg hb]
    · rw [if_neg ha, if_neg ha]
  unfold diag_List_All_1.f
  rw [hc, Option.bind_some, hd, Option.bind_some, ho, Option.bind_some]
  congr 1
  unfold cfD
  by_cases h1 : x.f0 < y.f0
  · rw [if_pos h1, if_pos (show ltD x y from Or.inl h1)]; rfl
  · by_cases h2 : y.f0 < x.f0
    · rw [if_neg h1, if_pos h2, if_neg (show ¬ ltD x y by rintro (h | ⟨h, _⟩) <;> omega), if_pos (show ltD y x from Or.inl h2)]; rfl
    · have e : x.f0 = y.f0 := by omega
      rw [if_neg h1, if_neg h2, if_pos rfl]
      by_cases h3 : less x.f1.toList y.f1.toList = true
      · rw [if_pos h3, if_pos (show ltD x y from Or.inr ⟨e, h3⟩)]
      · rw [if_neg h3, if_neg (show ¬ ltD x y by rintro (h | ⟨_, h⟩); exact h1 h; exact h3 h)]
        by_cases h4 : less y.f1.toList x.f1.toList = true
        · rw [if_pos h4, if_pos (show ltD y x from Or.inr ⟨e.symm, h4⟩)]
        · rw [if_neg h4, if_neg (show ¬ ltD y x by rintro (h | ⟨_, h⟩); exact h2 h; exact h4 h)]
/-- A diagnostic's two cells. -/
def encD (x : S39) : List Value := [.int .i64 x.f0, .string x.f1]
theorem closure41 (x y : S39) (W : World) : Calls Tryd.prog 41 #[.agg (encD x).toArray, .agg (encD y).toArray] W fun e w' => e = .returned (.int .i64 (cfD x y)) ∧ ∃ q os', w' = grow (W.drewN q) os' :=
  diag_List_All_1.calls 8 x.f0 x.f1 y.f0 y.f1 (cfD x y) W (cmp_eq x y)
theorem cmpLays41 (blk off size : Nat) (w : World) : CmpLays Tryd.prog 41 #[] encD 2 cfD blk off size w := fun _ _ _ _ x y => closure41 x y _
theorem isAgg39 (w : World) : (isAgg 39).run Tryd.prog w = .ok true w := by simp [isAgg]
theorem sizeOf39 (w : World) : (Go.sizeOf 39).run Tryd.prog w = .ok 2 w := by
  obtain ⟨i, hi, hs⟩ := Option.map_eq_some_iff.1 (show (Tryd.prog.info? 39).map (·.size) = some 2 by kernel_rfl)
  simp [Go.sizeOf, typeInfo, hi, hs]
/-- The list in order. -/
def sortD (l : List S39) : List S39 := l.mergeSort fun x y => !(ltOf cfD) y x
theorem sort_calls (blk off cap : Nat) (l : List S39) (w : World) (hH : HoldsK encD 2 w blk off l.toArray) (hblk : blk < w.heap.size) (hsz : l.length < 4611686018427387904) :
    Calls Tryd.prog 40 #[.slice (some ⟨blk, off, none⟩) l.length cap, .func (.func 41) #[] #[]] w fun e w' => e = .returned (.tuple #[]) ∧ ∃ n os, w' = sortWorldK encD 2 w blk off n (sortD l).toArray os := by
  have eg : ∀ args w, (callFunc 41 args).run Tryd.prog w = .ok (.enter 41 args) w := enters_of Tryd.func41 (by kernel_rfl) rfl
  have h := AnyQ.slices_SortFunc_total Tryd.sortL 2 isAgg39 sizeOf39 encD (fun _ => rfl) (fun x v hv => by simp [encD] at hv; rcases hv with rfl | rfl <;> rfl) cfD swoD 41 #[] blk off cap l.toArray w eg (cmpLays41 blk off _ w) hH hblk (by simpa using hsz) totD
  change Calls Tryd.prog 40 _ _ _ at h
  simpa [sortD] using h
end Go.Proofs.YtahgghbhpmpgfaaDoor.PX
/- (*diag.List).Add over a list that lies in one block (gen_list.py). -/
namespace Go.Proofs.YtahgghbhpmpgfaaDoor.PX
open Go.RowKit Go.Sort Go.Shelf Go.Lib Go.Proofs.YtahgghbhpmpgfaaDoorW.PrintWords Go.Proofs.YtahgghbhpmpgfaaDoorW.PrintLast Go.Proofs.YtahgghbhpmpgfaaDoorW.PrintMore
set_option linter.unusedVariables false
set_option linter.unusedSimpArgs false
/-- Block B holds a list of diagnostics whose row v is the call's own. -/
structure Ls (W : World) (base B : Nat) (v : Value) (l : List S39) : Prop where
  blk : W.heap[B]? = some (.cells #[v] 37 (0, 0))
  row : Kd.R k39 39 W base (fun k => base ≤ k) v l
set_option maxHeartbeats 8000000 in
set_option maxRecDepth 100000 in
theorem add_calls (base B : Nat) (hB : base ≤ B) (p : Int) (t : ByteArray) (v : Value) (l : List S39) (W : World) (h : Ls W base B v l) (hbase : base ≤ W.heap.size) (hl : l.length ≤ 100000) (k : Nat) (r : Bool) (hk : api_Diagnostic_38.f k l p t = some r) :
    Calls Tryd.prog 23 #[.pointer (some ⟨B, 0, none⟩), .int .i64 p, .string t] W fun e W' => e = .returned (.tuple #[]) ∧
      ∃ v', Ls W' base B v' (if r = true then l else l ++ [⟨p, t⟩]) ∧ Below base W W' ∧ KeepBut W W' B v.ownBlock ∧ (v'.ownBlock = v.ownBlock ∨ ∃ b, v'.ownBlock = some b ∧ W.heap.size ≤ b) := by
  have HB := Aside0.mk hB
  have HBLK := Aside0.mk h.blk
  have HROW := Aside0.mk h.row
  have HBASE := Aside0.mk hbase
  have HL := Aside0.mk hl
  have HK := Aside0.mk hk
  have LT : Aside0 (B < W.heap.size) := ⟨blk_lt h.blk⟩
  obtain ⟨A, c, rfl⟩ := Kd.R_slice h.row
  clear h hB hbase hl hk
  go_enter Tryd.func23, Tryd.ntmps23
  go_wp2
  have hw : (W.alloc (.cells #[.int .i64 p, .string t] 39)).heap[W.heap.size]? = some (.cells #[.int .i64 p, .string t] 39 (0, 0)) := blk_new W _
  have BKD := Aside0.mk (blk_drew hw)
  have BKB := Aside0.mk (blk_drew (blk_alloc HBLK.out (.cells #[.int .i64 p, .string t] 39)))
  have ROW := Aside0.mk (Kd.R_drew (Kd.R_alloc HROW.out (.cells #[.int .i64 p, .string t] 39)))
  have HD := Aside0.mk (below_drew1 (below_alloc (Below.refl W.heap.size W) (.cells #[.int .i64 p, .string t] 39)))
  clear hw
  refine start_ (n := 7) (S := (fun w' => w'.cell? ⟨B, 0, none⟩ = some (.slice A l.length c) ∧ w'.cell? ⟨W.heap.size, 0, none⟩ = some (.int .i64 p) ∧ w'.cell? ⟨W.heap.size, 1, none⟩ = some (.string t))) (ds := []) #[false, false, false, false, false, false, false] (by kernel_rfl) rfl rfl ⟨(blk_cell BKB.out 0).trans rfl, (blk_cell BKD.out 0).trans rfl, (blk_cell BKD.out 1).trans rfl⟩ (fun hHeld => ?_)
  generalize (W.alloc (.cells #[.int .i64 p, .string t] 39)).drew = w1 at BKD BKB ROW HD hHeld ⊢
  refine pure_ (i := 0) (N := some 10) (v := ?_) (a' := ?_) #[true, false, false, false, false, false, false] rfl rfl (by kernel_rfl) (fun _ _ _ h => h) (Or.inl ⟨by rfl, ?_⟩) ?_ ?_
  rotate_left
  · intro w'
    go_simp
    with_reducible rfl
  rotate_left
  · simp only [Act.put, List.setIfInBounds_toArray, List.set_cons_zero, List.set_cons_succ, i64_w, i32_w]
    rfl
  refine pure_ (i := 1) (N := some 11) (v := ?_) (a' := ?_) #[true, true, false, false, false, false, false] rfl rfl (by kernel_rfl) (fun _ _ _ h => h) (Or.inl ⟨by rfl, ?_⟩) ?_ ?_
  rotate_left
  · intro w'
    go_simp
    with_reducible rfl
  rotate_left
  · simp only [Act.put, List.setIfInBounds_toArray, List.set_cons_zero, List.set_cons_succ, i64_w, i32_w]
    rfl
  refine pure_ (i := 2) (N := some 12) (v := ?_) (a' := ?_) #[true, true, true, false, false, false, false] rfl rfl (by kernel_rfl) (fun _ _ _ h => h) (Or.inl ⟨by rfl, ?_⟩) ?_ ?_
  rotate_left
  · intro w'
    go_simp
    with_reducible rfl
  rotate_left
  · simp only [Act.put, List.setIfInBounds_toArray, List.set_cons_zero, List.set_cons_succ, i64_w, i32_w]
    rfl
  refine take_ (i := 3) (N := some 13) (v := ?_) (a' := ?_) #[true, true, true, true, false, false, false] rfl rfl (by kernel_rfl) (fun _ _ _ h => h) (Or.inl ⟨by rfl, ?_⟩) hHeld ?_ ?_
  rotate_left
  · rintro w' ⟨s0, s1, s2⟩
    go_simp
    with_reducible rfl
  rotate_left
  · simp only [Act.put, List.setIfInBounds_toArray, List.set_cons_zero, List.set_cons_succ, i64_w, i32_w]
    rfl
  refine take_ (i := 4) (N := some 14) (v := ?_) (a' := ?_) #[true, true, true, true, true, false, false] rfl rfl (by kernel_rfl) (fun _ _ _ h => h) (Or.inl ⟨by rfl, ?_⟩) hHeld ?_ ?_
  rotate_left
  · rintro w' ⟨s0, s1, s2⟩
    go_simp
    with_reducible rfl
  rotate_left
  · simp only [Act.put, List.setIfInBounds_toArray, List.set_cons_zero, List.set_cons_succ, i64_w, i32_w]
    rfl
  refine one_ (i := 5) (N := some 15) #[true, true, true, true, true, true, false] rfl rfl (by kernel_rfl) (by decide) (fun K hK => ?_)
  refine goes_ Tryd.func38 (by kernel_rfl) rfl #[.slice A l.length c, .agg #[.int .i64 p, .string t]] (by rfl) rfl rfl (by (try simp only [List.map_toArray, List.map_cons, List.map_nil]); first | done | rfl | (simp only [List.length_drop, List.length_take]; rfl)) ?_
  with_reducible refine (api_Diagnostic_38.calls k _ _ l p t r _ (Kd.R_reads' ROW.out).2.2 (Kd.R_reads' ROW.out).2.1 HK.out).mono ?_
  rintro e w2 ⟨rfl, hb2⟩
  refine ⟨_, rfl, ?_⟩
  have n1_ := Aside0.mk (blk_below BKD.out hb2)
  have n2_ := Aside0.mk (blk_below BKB.out hb2)
  have n3_ := Aside0.mk (Kd.R_below ROW.out hb2)
  have n4_ := Aside0.mk (below_step HD.out hb2)
  clear BKD BKB ROW HD hb2
  have BKD := n1_
  have BKB := n2_
  have ROW := n3_
  have HD := n4_
  clear n1_ n2_ n3_ n4_
  refine hK.out _ _ ⟨(blk_cell BKB.out 0).trans rfl, (blk_cell BKD.out 0).trans rfl, (blk_cell BKD.out 1).trans rfl⟩ (fun hHeld => ?_)
  clear hK K
  refine norm_ (a' := ?_) ?_ ?_
  rotate_left
  · show Act.put _ (some 15) _ = _
    simp only [Act.put, List.setIfInBounds_toArray, List.set_cons_zero, List.set_cons_succ, i64_w, i32_w]
    rfl
  refine pure_ (i := 6) (N := some 16) (v := ?_) (a' := ?_) #[true, true, true, true, true, true, true] rfl rfl (by kernel_rfl) (fun _ _ _ h => h) (Or.inl ⟨by rfl, ?_⟩) ?_ ?_
  rotate_left
  · intro w'
    go_simp
    with_reducible rfl
  rotate_left
  · simp only [Act.put, List.setIfInBounds_toArray, List.set_cons_zero, List.set_cons_succ, i64_w, i32_w]
    rfl
  refine done_ (by kernel_rfl) ?_
  cases r
  · go_wp2
    have n1_ := Aside0.mk (blk_drew BKD.out)
    have n2_ := Aside0.mk (blk_drew BKB.out)
    have n3_ := Aside0.mk (Kd.R_drew ROW.out)
    have n4_ := Aside0.mk (below_drew1 HD.out)
    clear BKD BKB ROW HD
    have BKD := n1_
    have BKB := n2_
    have ROW := n3_
    have HD := n4_
    clear n1_ n2_ n3_ n4_
    refine start_ (n := 11) (S := (fun w' => w'.cell? ⟨B, 0, none⟩ = some (.slice A l.length c) ∧ w'.cell? ⟨W.heap.size, 0, none⟩ = some (.int .i64 p) ∧ w'.cell? ⟨W.heap.size, 1, none⟩ = some (.string t))) (ds := [10]) #[false, false, false, false, false, false, false, false, false, false, false] (by kernel_rfl) rfl rfl ⟨(blk_cell BKB.out 0).trans rfl, (blk_cell BKD.out 0).trans rfl, (blk_cell BKD.out 1).trans rfl⟩ (fun hHeld => ?_)
    generalize w2.drew = w3 at BKD BKB ROW HD hHeld ⊢
    refine pure_ (i := 0) (N := some 17) (v := ?_) (a' := ?_) #[true, false, false, false, false, false, false, false, false, false, false] rfl rfl (by kernel_rfl) (fun _ _ _ h => h) (Or.inl ⟨by rfl, ?_⟩) ?_ ?_
    rotate_left
    · intro w'
      go_simp
      with_reducible rfl
    rotate_left
    · simp only [Act.put, List.setIfInBounds_toArray, List.set_cons_zero, List.set_cons_succ, i64_w, i32_w]
      rfl
    refine pure_ (i := 1) (N := some 18) (v := ?_) (a' := ?_) #[true, true, false, false, false, false, false, false, false, false, false] rfl rfl (by kernel_rfl) (fun _ _ _ h => h) (Or.inl ⟨by rfl, ?_⟩) ?_ ?_
    rotate_left
    · intro w'
      go_simp
      with_reducible rfl
    rotate_left
    · simp only [Act.put, List.setIfInBounds_toArray, List.set_cons_zero, List.set_cons_succ, i64_w, i32_w]
      rfl
    refine pure_ (i := 2) (N := some 19) (v := ?_) (a' := ?_) #[true, true, true, false, false, false, false, false, false, false, false] rfl rfl (by kernel_rfl) (fun _ _ _ h => h) (Or.inl ⟨by rfl, ?_⟩) ?_ ?_
    rotate_left
    · intro w'
      go_simp
      with_reducible rfl
    rotate_left
    · simp only [Act.put, List.setIfInBounds_toArray, List.set_cons_zero, List.set_cons_succ, i64_w, i32_w]
      rfl
    refine pure_ (i := 3) (N := some 20) (v := ?_) (a' := ?_) #[true, true, true, true, false, false, false, false, false, false, false] rfl rfl (by kernel_rfl) (fun _ _ _ h => h) (Or.inl ⟨by rfl, ?_⟩) ?_ ?_
    rotate_left
    · intro w'
      go_simp
      with_reducible rfl
    rotate_left
    · simp only [Act.put, List.setIfInBounds_toArray, List.set_cons_zero, List.set_cons_succ, i64_w, i32_w]
      rfl
    refine take_ (i := 4) (N := some 21) (v := ?_) (a' := ?_) #[true, true, true, true, true, false, false, false, false, false, false] rfl rfl (by kernel_rfl) (fun _ _ _ h => h) (Or.inl ⟨by rfl, ?_⟩) hHeld ?_ ?_
    rotate_left
    · rintro w' ⟨s0, s1, s2⟩
      go_simp
      with_reducible rfl
    rotate_left
    · simp only [Act.put, List.setIfInBounds_toArray, List.set_cons_zero, List.set_cons_succ, i64_w, i32_w]
      rfl
    refine take_ (i := 5) (N := some 22) (v := ?_) (a' := ?_) #[true, true, true, true, true, true, false, false, false, false, false] rfl rfl (by kernel_rfl) (fun _ _ _ h => h) (Or.inl ⟨by rfl, ?_⟩) hHeld ?_ ?_
    rotate_left
    · rintro w' ⟨s0, s1, s2⟩
      go_simp
      with_reducible rfl
    rotate_left
    · simp only [Act.put, List.setIfInBounds_toArray, List.set_cons_zero, List.set_cons_succ, i64_w, i32_w]
      rfl
    refine one_ (i := 6) (N := some 23) #[true, true, true, true, true, true, true, false, false, false, false] rfl rfl (by kernel_rfl) (by decide) (fun K hK => ?_)
    refine event_step (w1 := w3.alloc (.cells #[.int .i64 p, .string t] 39)) (v := .slice (some ⟨w3.heap.size, 0, none⟩) 1 1) (by rfl) (by first | (go_simp; done) | (go_simp; rfl)) ?_
    have n1_ := Aside0.mk (blk_alloc BKD.out (.cells #[.int .i64 p, .string t] 39))
    have n2_ := Aside0.mk (blk_alloc BKB.out (.cells #[.int .i64 p, .string t] 39))
    clear hHeld
    refine hK.out _ _ ⟨(blk_cell n2_.out 0).trans rfl, (blk_cell n1_.out 0).trans rfl, (blk_cell n1_.out 1).trans rfl⟩ (fun hHeld => ?_)
    clear hK K
    refine norm_ (a' := ?_) ?_ ?_
    rotate_left
    · show Act.put _ (some 23) _ = _
      simp only [Act.put, List.setIfInBounds_toArray, List.set_cons_zero, List.set_cons_succ, i64_w, i32_w]
      rfl
    refine one_ (i := 7) (N := some 24) #[true, true, true, true, true, true, true, true, false, false, false] rfl rfl (by kernel_rfl) (by decide) (fun K hK => ?_)
    have hsz := below_size HD.out
    refine Kd.R_append_step k39 (w0 := w3) base ?hw (.tmp 21) (.tmp 23) 27 39 (.agg #[.int .i64 0, .string ⟨#[]⟩]) 24 rfl Tryd.underlying27 info39 rfl (by decide) (by decide) (.slice A l.length c) l ⟨p, t⟩ [.int .i64 p, .string t] (fun k_ => base ≤ k_) (fun _ => False) rfl rfl (k39_mkM _ _ _ _) (fun _ hk => hk.elim) (fun k_ hk => Nat.le_trans (Nat.le_trans HBASE.out hsz) hk) ROW.out (Below.refl _ _) (Nat.le_trans HBASE.out hsz) ?hl ?_
    case hw => rfl
    case hl => have := HL.out; omega
    intro v1 w4 ho1 hb1 hg1 hat1
    have DNE : some W.heap.size ≠ (Value.slice A l.length c).ownBlock := fun e => by have := Kd.R_lt HROW.out W.heap.size e.symm; omega
    have n1_ : Aside0 (w4.heap[W.heap.size]? = some (.cells #[.int .i64 p, .string t] 39 (0, 0))) := ⟨blk_grown BKD.out hg1 DNE⟩
    have n2_ : Aside0 (w4.heap[B]? = some (.cells #[.slice A l.length c] 37 (0, 0))) := ⟨blk_grown BKB.out hg1 (Kd.R_ne ROW.out BKB.out (by decide))⟩
    obtain ⟨A1, c1, e1_⟩ := Kd.R_slice ho1
    subst e1_
    have ROW1 := Aside0.mk ho1
    have HB1 := Aside0.mk hb1
    have HG1 := Aside0.mk hg1
    have HAT := Aside0.mk hat1
    clear ho1 hb1 hg1 hat1 hHeld
    refine hK.out _ _ ⟨(blk_cell n2_.out 0).trans rfl, (blk_cell n1_.out 0).trans rfl, (blk_cell n1_.out 1).trans rfl⟩ (fun hHeld => ?_)
    clear hK K
    refine norm_ (a' := ?_) ?_ ?_
    rotate_left
    · show Act.put _ (some 24) _ = _
      simp only [Act.put, List.setIfInBounds_toArray, List.set_cons_zero, List.set_cons_succ, i64_w, i32_w]
      rfl
    refine pure_ (i := 8) (N := some 25) (v := ?_) (a' := ?_) #[true, true, true, true, true, true, true, true, true, false, false] rfl rfl (by kernel_rfl) (fun _ _ _ h => h) (Or.inl ⟨by rfl, ?_⟩) ?_ ?_
    rotate_left
    · intro w'
      go_simp
      with_reducible rfl
    rotate_left
    · simp only [Act.put, List.setIfInBounds_toArray, List.set_cons_zero, List.set_cons_succ, i64_w, i32_w]
      rfl
    refine pure_ (i := 9) (N := some 26) (v := ?_) (a' := ?_) #[true, true, true, true, true, true, true, true, true, true, false] rfl rfl (by kernel_rfl) (fun _ _ _ h => h) (Or.inl ⟨by rfl, ?_⟩) ?_ ?_
    rotate_left
    · intro w'
      go_simp
      with_reducible rfl
    rotate_left
    · simp only [Act.put, List.setIfInBounds_toArray, List.set_cons_zero, List.set_cons_succ, i64_w, i32_w]
      rfl
    have d0 : w4.cell? ⟨B, 0, none⟩ = some (.slice A l.length c) := (blk_cell n2_.out 0).trans rfl
    have f0 : w4.frozen? ⟨B, 0, none⟩ = false := blk_frozen n2_.out 0
    refine last_ (i := 10) (N := none) #[true, true, true, true, true, true, true, true, true, true, true] rfl rfl (by kernel_rfl) (by decide) (fun K hK => ?_)
    go_simp
    refine hK.out _ _ ?_
    clear hK K
    refine done_ (by kernel_rfl) ?_
    have e2_ : (l ++ [(⟨p, t⟩ : S39)]).length = l.length + 1 := by simp
    have r1_ := ROW1.out
    have at_ := HAT.out
    rw [e2_] at r1_ at_
    have hsz2 := below_size HD.out
    go_end0
    refine ⟨rfl, _, ⟨blk_set n2_.out 0 _, Kd.R_set r1_ n2_.out (by decide) 0 _⟩, ((HD.out.mono HBASE.out).trans HB1.out).setCell (p := ⟨B, 0, none⟩) HB.out _, ⟨?_, fun i hi hne hr => ?_⟩, ?_⟩
    · exact Nat.le_trans hsz2 (Nat.le_trans HB1.out.size (by simp))
    · exact (Below.heap_setCell w4 ⟨B, 0, none⟩ _ i hne).trans ((HG1.out.block i (Nat.lt_of_lt_of_le hi hsz2) hr).trans (HD.out.block i hi))
    · rcases at_ with h_ | ⟨b_, h_, h2_⟩
      · exact .inl h_
      · exact .inr ⟨b_, h_, by omega⟩
  · go_wp2
    go_end0
    exact ⟨rfl, _, ⟨BKB.out, ROW.out⟩, HD.out.mono HBASE.out, KeepBut.of_below HD.out _ _, .inl rfl⟩
end Go.Proofs.YtahgghbhpmpgfaaDoor.PX
/- (*diag.List).Err and All: the row copied and sorted. -/
namespace Go.Proofs.YtahgghbhpmpgfaaDoor.PX
open Go.RowKit Go.Sort Go.Shelf Go.Lib Go.Proofs.YtahgghbhpmpgfaaDoorW.PrintWords Go.Proofs.YtahgghbhpmpgfaaDoorW.PrintLast Go.Proofs.YtahgghbhpmpgfaaDoorW.PrintMore
set_option linter.unusedVariables false
set_option linter.unusedSimpArgs false
theorem holds_of_R {w : World} {base g n cap : Nat} {ok : Nat → Prop} {l : List S39} (h : Kd.R k39 39 w base ok (.slice (some ⟨g, 0, none⟩) n cap) l) : HoldsK encD 2 w g 0 l.toArray := by
  obtain ⟨h0, inner, ho, hr⟩ := h
  have hnl : n = l.length := by
    rcases ho.2 with ⟨h', _⟩ | ⟨g', cap', cur, h', _⟩
    · cases h'
    · injection h' with _ h2 _
  subst hnl
  intro j hj
  rw [size_flatK] at hj
  have hj2 : j < l.length * 2 := by simpa using hj
  rw [Nat.zero_add]
  refine ⟨?_, ho.frozenAt j⟩
  rw [ho.cellAt j hj2, get_flatK _ _ _ _ hj]
  have hq : j / 2 < l.length := by omega
  have hm := hr.2 (j / 2) _ (List.getElem?_eq_getElem hq)
  have hc := k39_openM hm
  have e1 : inner[j]? = ((inner.drop (j / 2 * 2)).take 2)[j % 2]? := by
    rw [List.getElem?_take, if_pos (by omega), List.getElem?_drop, show j / 2 * 2 + j % 2 = j by omega]
  have e3 : l.toArray[j / 2]! = l[j / 2] := by rw [getElem!_pos _ _ (by simpa using hq)]; simp
  have hc' : (inner.drop (j / 2 * 2)).take 2 = encD l[j / 2] := hc
  have e2 : j % 2 < (encD l[j / 2]).length := by show j % 2 < 2; omega
  rw [e1, hc', e3, getElem!_pos (encD l[j / 2]) (j % 2) e2, List.getElem?_eq_getElem e2]
  rfl
theorem C_of_holds {w : World} {g : Nat} {l : List S39} (hl : l.length ≤ 100000) (h : HoldsK encD 2 w g 0 l.toArray) : Kd.C k39 w (some ⟨g, 0, none⟩) l.length l := by
  refine ⟨rfl, by omega, fun _ => ⟨⟨g, 0, none⟩, rfl, fun j p hp => ⟨encD p, rfl, k39_mk _ _, fun i u hu => ?_⟩⟩⟩
  have hj := (List.getElem?_eq_some_iff.1 hp).1
  have hi : i < 2 := (List.getElem?_eq_some_iff.1 hu).1
  have e : l.toArray[j]! = p := by
    rw [getElem!_pos _ _ (by simpa using hj)]
    have := (List.getElem?_eq_some_iff.1 hp).2
    simpa using this
  have h2 := (h.cell (i := j) (c := i) (by simpa using hj) hi).1
  rw [e] at h2
  have e3 : (encD p)[i]! = u := by
    rw [getElem!_pos (encD p) i hi]
    exact (List.getElem?_eq_some_iff.1 hu).2
  rw [e3] at h2
  rw [Addr.add_lit, Nat.zero_add]
  rw [Nat.zero_add] at h2
  exact h2
set_option maxHeartbeats 2000000 in
set_option maxRecDepth 100000 in
theorem err_calls (base B : Nat) (v : Value) (l : List S39) (W : World) (h : Ls W base B v l) :
    Calls Tryd.prog 27 #[.pointer (some ⟨B, 0, none⟩)] W fun e W' => e = .returned (.bool (decide (0 < l.length))) ∧ Drawn0 W W' := by
  obtain ⟨A, c, rfl⟩ := Kd.R_slice h.row
  have k0 : W.cell? ⟨B, 0, none⟩ = some (.slice A l.length c) := (blk_cell h.blk 0).trans rfl
  clear h
  go_enter Tryd.func27, Tryd.ntmps27
  go_wp2
  go_ret
  exact ⟨by first | rfl | simp, by repeat (first | exact Drawn0.refl _ | apply Drawn0.step)⟩
set_option maxHeartbeats 2000000 in
set_option maxRecDepth 100000 in
theorem clone_calls (W : World) (A : Option Addr) (c : Nat) (l : List S39) (hC : Kd.C k39 W A l.length l) (hl : l.length ≤ 100000) :
    Calls Tryd.prog 39 #[.slice A l.length c] W fun e w' => ∃ v1, e = .returned v1 ∧ Kd.R k39 39 w' W.heap.size (fun k_ => W.heap.size ≤ k_) v1 l ∧ Below W.heap.size W w' := by
  cases A with
  | none =>
    have h0 : l = [] := by
      cases l with
      | nil => rfl
      | cons x r => obtain ⟨ad, e, _⟩ := hC.2.2 (by simp); cases e
    subst h0
    have he : ∀ W, (binOp .eql 27 (.slice none 0 c) (.slice none 0 0)).run Tryd.prog W = .ok (.bool true) W := fun W => Lib.run_eql_slice_nil W 27 39 none 0 c 0 0 Tryd.underlying27
    go_enter Tryd.func39, Tryd.ntmps39
    go_wp2
    go_ret
    exact ⟨_, rfl, Kd.R_nil _ _ _ _ _, by repeat (first | exact Below.refl _ _ | apply below_drew1 | apply pw_below_drewN)⟩
  | some ad =>
    have HC := Aside0.mk hC
    have HL := Aside0.mk hl
    clear hC hl
    have he : ∀ W, (binOp .eql 27 (.slice (some ad) l.length c) (.slice none 0 0)).run Tryd.prog W = .ok (.bool false) W := fun W => Lib.run_eql_slice_nil W 27 39 (some ad) _ c 0 0 Tryd.underlying27
    go_enter Tryd.func39, Tryd.ntmps39
    go_wp2_with (first | ((with_reducible refine gate_dst (N := 5) rfl ?_); refine Kd.R_lit k39 W.heap.size 39 ?hg (N := 5) ?hd (xs := ([] : List S39)) (inner := []) (ok := fun k_ => W.heap.size ≤ k_) (okp := fun _ => False) ?hr ?hp (fun _ hk => hk.elim) (Nat.le_refl _) (Below.refl _ _) (Nat.le_refl _) (by simp) ?_; (case hd => rfl); (case hg => rfl); (case hr => first | (go_simp; done) | (go_simp; rfl)); (case hp => exact (Reps.none _ _)); intro v1 w1 ho hb hg_ hnew_; have HO := Aside0.mk ho; have HB := Aside0.mk hb; clear ho hb hg_ hnew_; obtain ⟨A5, c5, e5⟩ := Kd.R_slice HO.out; subst e5; have hC1 := Kd.C_below HC.out HB.out; have hsz := below_size HB.out; try simp only [List.length_nil] at HO) | ((with_reducible refine gate_builtin (b := .append) (xs := #[.tmp 5, .tmp 6]) rfl ?_); at_builtin; refine Kd.R_append_rows k39 (Rr := k39.K w1) (w0 := w1) W.heap.size rfl (.tmp 5) (.tmp 6) 27 39 (.agg #[.int .i64 0, .string ⟨#[]⟩]) 24 rfl Tryd.underlying27 info39 rfl (by decide) (by decide) (.slice A5 0 c5) [] l (some ad) l.length c (fun k_ => W.heap.size ≤ k_) (fun _ => False) rfl rfl HO.out hC1 (fun x cs hx => by rw [k39_open hx]; exact k39_mkM _ _ _ x) (fun _ hk => hk.elim) (fun k_ hk => Nat.le_trans hsz hk) (Below.refl _ _) hsz (by have := HL.out; simp; omega) ?_; intro v2 w2 ho2 hb2 hg2 hat2; rw [List.nil_append] at ho2))
    go_ret
    exact ⟨_, rfl, ho2, HB.out.trans hb2⟩
theorem sortD_length (l : List S39) : (sortD l).length = l.length := (List.mergeSort_perm l _).length_eq
theorem below_sort {base g m : Nat} {l : List S39} {os : Array Obj} (w : World) (hg : base ≤ g) (hs : base ≤ w.heap.size) : Below base w (sortWorldK encD 2 w g 0 m l.toArray os) := by
  refine ⟨rfl, rfl, rfl, size_sortWorldK_c encD 2 w g 0 m l.toArray os, fun k hk => ?_⟩
  have hne : g ≠ k := by omega
  unfold sortWorldK grow putRowK putRow mapBlock
  simp [Array.getElem?_append, ahead, hne]
  rw [if_pos (by omega), Array.getElem?_modify, if_neg hne]
theorem sortR {w : World} {base c : Nat} {ok : Nat → Prop} {A : Option Addr} {l : List S39} (h : Kd.R k39 39 w base ok (.slice A l.length c) l) (hl : l.length ≤ 100000) (hbase : base ≤ w.heap.size) :
    Calls Tryd.prog 40 #[.slice A l.length c, .func (.func 41) #[] #[]] w fun e w' => e = .returned (.tuple #[]) ∧ Kd.C k39 w' A l.length (sortD l) ∧ Below base w w' ∧
      ∀ ad, A = some ad → ∃ g, ad = ⟨g, 0, none⟩ ∧ base ≤ g ∧ HoldsK encD 2 w' g 0 (sortD l).toArray := by
  cases A with
  | none =>
    have hC := (Kd.R_reads' h).2.2
    have h0 : l = [] := by
      cases l with
      | nil => rfl
      | cons x r => obtain ⟨ad, e, _⟩ := hC.2.2 (by simp); cases e
    subst h0
    have hS := AnyF.slices_SortFunc_none (P := Tryd.prog) (ρ := Tryd.sortL_ren) { Tryd.sortL with } none c (.func (.func 41) #[] #[]) w
    change Calls Tryd.prog 40 _ _ _ at hS
    refine hS.mono ?_
    rintro e w' ⟨rfl, rfl⟩
    exact ⟨rfl, by simpa [sortD] using hC, Below.refl _ _, fun ad h => by cases h⟩
  | some ad =>
    obtain ⟨g, rfl⟩ := Kd.R_head h
    have hH := holds_of_R h
    have hlt : g < w.heap.size := Kd.R_lt h g rfl
    have hge : base ≤ g := Kd.R_base h g rfl
    refine (sort_calls g 0 c l w hH hlt (by omega)).mono ?_
    rintro e w' ⟨rfl, m, os, rfl⟩
    have hH2 := holdsK_sortWorldK encD 2 w g 0 m l.toArray (sortD l).toArray os hlt hH (by simp [sortD_length])
    have hC := C_of_holds (by rw [sortD_length]; exact hl) hH2
    rw [sortD_length] at hC
    refine ⟨rfl, hC, below_sort w hge hbase, fun ad h => ?_⟩
    cases h
    exact ⟨g, rfl, hge, hH2⟩
set_option maxHeartbeats 2000000 in
set_option maxRecDepth 100000 in
theorem all_calls (base B : Nat) (v : Value) (l : List S39) (W : World) (h : Ls W base B v l) (hl : l.length ≤ 100000) :
    Calls Tryd.prog 25 #[.pointer (some ⟨B, 0, none⟩)] W fun e w' => ∃ A c, e = .returned (.slice A l.length c) ∧ l.length ≤ c ∧ Kd.C k39 w' A l.length (sortD l) ∧ Below W.heap.size W w' ∧
      ∀ ad, A = some ad → ∃ g, ad = ⟨g, 0, none⟩ ∧ W.heap.size ≤ g ∧ HoldsK encD 2 w' g 0 (sortD l).toArray := by
  obtain ⟨A, c, rfl⟩ := Kd.R_slice h.row
  have k0 : W.cell? ⟨B, 0, none⟩ = some (.slice A l.length c) := (blk_cell h.blk 0).trans rfl
  have hC := (Kd.R_reads' h.row).2.2
  have HC := Aside0.mk hC
  have HL := Aside0.mk hl
  clear h hC hl
  go_enter Tryd.func25, Tryd.ntmps25
  go_wp2_with (first
    | (go_at_call 39; refine (clone_calls W A c l HC.out HL.out).mono ?_; rintro e w1 ⟨v1, rfl, ho, hb⟩; obtain ⟨A1, c1, e1⟩ := Kd.R_slice ho; subst e1; have HO := Aside0.mk ho; have HB := Aside0.mk hb; clear ho hb)
    | (go_at_call 40; refine (sortR HO.out HL.out (below_size HB.out)).mono ?_; rintro e w2 ⟨rfl, hC2, hb2, hg2⟩; have HC2 := Aside0.mk hC2; have HB2 := Aside0.mk hb2; have HG2 := Aside0.mk hg2; clear hC2 hb2 hg2))
  go_ret
  exact ⟨_, _, rfl, (Kd.R_reads' HO.out).2.1, HC2.out, HB.out.trans HB2.out, HG2.out⟩
end Go.Proofs.YtahgghbhpmpgfaaDoor.PX
/- DiagList, walked by hand. -/
namespace Go.Proofs.YtahgghbhpmpgfaaDoor.PX
open Go.RowKit Go.Sort Go.Shelf Go.Lib Go.Proofs.YtahgghbhpmpgfaaDoorW.PrintWords Go.Proofs.YtahgghbhpmpgfaaDoorW.PrintLast Go.Proofs.YtahgghbhpmpgfaaDoorW.PrintMore
set_option linter.unusedVariables false
set_option linter.unusedSimpArgs false
theorem Ls.below {W W' : World} {base B : Nat} {v : Value} {l : List S39} (h : Ls W base B v l) (hb : Below W.heap.size W W') : Ls W' base B v l := ⟨blk_below h.blk hb, Kd.R_below h.row hb⟩
theorem V_moved {W W' : World} {base base' B : Nat} {v v' u : Value} {xs : List S39} (h : Kd.V k39 39 W base (fun k_ => k_ ≠ B ∧ some k_ ≠ v.ownBlock) u xs) (hk : KeepBut W W' B v.ownBlock) (hat : v'.ownBlock = v.ownBlock ∨ ∃ b, v'.ownBlock = some b ∧ W.heap.size ≤ b) :
    Kd.V k39 39 W' base' (fun k_ => k_ ≠ B ∧ some k_ ≠ v'.ownBlock) u xs := by
  refine Kd.V_mono (Kd.V_step (Kd.V_bound h) (fun k hk1 hlt => hk.2 k hlt hk1.1.1 hk1.1.2)) (fun k hk1 => ⟨hk1.1.1, ?_⟩)
  rcases hat with h | ⟨b, h, hge⟩
  · rw [h]; exact hk1.1.2
  · rw [h]
    intro e
    injection e with e
    have := hk1.2
    omega
theorem V_joined {W W' : World} {base base' B : Nat} {v u : Value} {l xs : List S39} {N : Nat} (hl : Ls W base B v l) (h : Kd.V k39 39 W' N (fun k_ => (k_ ≠ B ∧ some k_ ≠ v.ownBlock) ∨ W.heap.size ≤ k_) u xs) :
    Kd.V k39 39 W' base' (fun k_ => k_ ≠ B ∧ some k_ ≠ v.ownBlock) u xs := by
  refine Kd.V_mono h (fun k hk => ?_)
  rcases hk with hk | hk
  · exact hk
  · have h1 := blk_lt hl.blk
    refine ⟨by omega, fun e => ?_⟩
    have := Kd.R_lt hl.row k e.symm
    omega
theorem intOf_i (n : Int) : intOf (.int .i64 n) = n := rfl
theorem meas1 (i n : Nat) (h : i < n) : n - (((i + 1 : Nat) : Int)).toNat < n - ((i : Int)).toNat := by
  rw [Int.toNat_natCast, Int.toNat_natCast]
  omega
theorem meas2 (i n : Nat) (x : Int) (h : i < n) (hw : x = ((i + 1 : Nat) : Int)) : n - (intOf (.int .i64 x)).toNat < n - (intOf (.int .i64 (i : Int))).toNat := by
  rw [intOf_i, intOf_i, hw]
  exact meas1 i n h
set_option maxHeartbeats 8000000 in
set_option maxRecDepth 100000 in
theorem list_walk (k : Nat) (A0 : Option Addr) (c0 : Nat) (l0 : List S39) (w : World) (hr0 : Kd.C k39 w A0 l0.length l0) (hc0 : l0.length ≤ c0) (hG : GW w) (hgr : trickleref14_Great.f k l0 = some false) (hex : tricklelaw14_examples.f k = some true) (hn : l0.length ≤ 40)
    (Wt D : Nat → List S39) (r : Nat → Bool) (hW0 : Wt 0 = []) (hD0 : D 0 = []) (hW : ∀ i (h : i < l0.length), trickleref14_Add.f k (Wt i) l0[i].f0 l0[i].f1 = some (Wt (i + 1))) (hr : ∀ i (h : i < l0.length), api_Diagnostic_38.f k (D i) l0[i].f0 l0[i].f1 = some (r i))
    (hD : ∀ i (h : i < l0.length), D (i + 1) = if r i = true then D i else D i ++ [l0[i]]) (hDl : ∀ i, i ≤ l0.length → (D i).length ≤ 100000 ∧ (0 < i ↔ 0 < (D i).length)) (hS : trickleref14_Same.f k (sortD (D l0.length)) (Wt l0.length) = some true) :
    Calls Tryd.prog 10 #[.slice A0 l0.length c0] w fun e w' => e = .returned (.bool true) ∧ Below w.heap.size w w' := by
  have HG := Aside0.mk hG
  have HR0 := Aside0.mk hr0
  have HEX := Aside0.mk hex
  have HN := Aside0.mk hn
  have HW := Aside0.mk hW
  have HR := Aside0.mk hr
  have HDD := Aside0.mk hD
  have HDL := Aside0.mk hDl
  have HS := Aside0.mk hS
  have HW0 := Aside0.mk hW0
  have HD0 := Aside0.mk hD0
  clear hG hr0 hex hn hW hr hD hDl hS hW0 hD0
  go_enter Tryd.func10, Tryd.ntmps10
  go_wp2_with (go_at_call 16; refine (trickleref14_Great.calls k _ _ l0 false _ HR0.out hc0 hgr).mono ?_; rintro e w1 ⟨rfl, hb1⟩; have HB1 := Aside0.mk hb1; clear hb1)
  have HSZ : Aside0 (w.heap.size ≤ w1.heap.size) := ⟨below_size HB1.out⟩
  have b0 := blk_new w1 (.cells #[.slice none 0 0] 37)
  have HB2 := Aside0.mk (below_alloc HB1.out (.cells #[.slice none 0 0] 37))
  generalize w1.heap.size = B at *
  generalize (w1.alloc (.cells #[.slice none 0 0] 37)) = wl at *
  have HB0 := Aside0.mk b0
  clear b0 HB1
  go_loopw [4, 12] (fun v4 v12 wr => ∃ (i : Nat) (v : Value), v12 = .int .i64 (i : Int) ∧ Aside0 (i ≤ l0.length) ∧ Aside0 (Ls wr w.heap.size B v (D i)) ∧ Aside0 (Kd.V k39 39 wr w.heap.size (fun k_ => k_ ≠ B ∧ some k_ ≠ v.ownBlock) v4 (Wt i)) ∧ Aside0 (Below w.heap.size w wr)) (fun _ v12 _ => l0.length - (intOf v12).toNat)
  case atStart => exact ⟨0, .slice none 0 0, rfl, ⟨Nat.zero_le _⟩, ⟨⟨HB0.out, by rw [HD0.out]; exact Kd.R_nil _ _ _ _ _⟩⟩, ⟨by rw [HW0.out]; exact Kd.V_nil _ _ _ _ _⟩, HB2⟩
  case round =>
    obtain ⟨i, v, rfl, HI, HL, HV, HB⟩ := hrel
    by_cases hlt : i < l0.length
    · have HLT := Aside0.mk hlt
      have HWR : Aside0 (wrap64 ((i : Int) + 1) = ((i + 1 : Nat) : Int)) := ⟨wrap_nat hlt (by have := HN.out; omega)⟩
      obtain ⟨A4, c4, e4⟩ := Kd.V_slice HV.out
      subst e4
      obtain ⟨ad, e0, hx0, hx1⟩ := at_T39 HR0.out (i : Int) (by omega) (by omega)
      cases e0
      have hrd : rd_T39 l0 (i : Int) = l0[i] := by unfold rd_T39; rw [Int.toNat_natCast, List.getD_eq_getElem?_getD, List.getElem?_eq_getElem hlt, Option.getD_some]
      rw [hrd] at hx0 hx1
      simp only [Int.toNat_natCast] at hx0 hx1
      replace hx0 := (HB.out.cell (World.block_lt_of_cell? w _ hx0)).trans hx0
      replace hx1 := (HB.out.cell (World.block_lt_of_cell? w _ hx1)).trans hx1
      have hlt2 : (i : Int) < (l0.length : Int) := by omega
      have hge0 : (0 : Int) ≤ (i : Int) := by omega
      have hw1 := HW.out i hlt
      have hr1 := HR.out i hlt
      have hd1 := HDD.out i hlt
      have hp1 := (HDL.out (i + 1) (by omega)).2.1 (by omega)
      have hl1 := (HDL.out i (by omega)).1
      obtain ⟨x, hx⟩ : ∃ x, x = l0[i] := ⟨_, rfl⟩
      rw [← hx] at hx0 hx1 hw1 hr1 hd1
      clear hrd hx
      have HW1 := Aside0.mk hw1
      have HR1 := Aside0.mk hr1
      have HD1 := Aside0.mk hd1
      have HP1 := Aside0.mk hp1
      have HL1 := Aside0.mk hl1
      clear hw1 hr1 hd1 hp1 hl1
      have LTB : Aside0 (B < wr.heap.size) := ⟨blk_lt HL.out.blk⟩
      have XNE : Aside0 (some wr.heap.size ≠ v.ownBlock) := ⟨fun e => by have := Kd.R_lt HL.out.row wr.heap.size e.symm; omega⟩
      have HS2 : Aside0 (w.heap.size ≤ wr.heap.size) := ⟨below_size HB.out⟩
      have HBG : Aside0 (w.heap.size ≤ B) := HSZ
      go_wp2_with (first
        | (go_at_call 23; refine (add_calls w.heap.size B HBG.out x.f0 x.f1 v (D i) _ (HL.out.below (below_alloc (Below.refl _ _) _)) (Nat.le_trans HS2.out (by simp)) HL1.out k (r i) HR1.out).mono ?_; rintro e w2 ⟨rfl, v', hLs, hb2, hk2, hat2⟩;
            have HL2 : Aside0 (Ls w2 w.heap.size B v' (D (i + 1))) := (⟨by rw [HD1.out]; exact hLs⟩);
            have HV2 : Aside0 (Kd.V k39 39 w2 w2.heap.size (fun k_ => k_ ≠ B ∧ some k_ ≠ v'.ownBlock) (.slice A4 (Wt i).length c4) (Wt i)) := (⟨V_moved (Kd.V_alloc HV.out _) hk2 hat2⟩);
            have HB2 : Aside0 (Below w.heap.size w w2) := (⟨(below_alloc HB.out _).trans hb2⟩);
            have xb : w2.heap[wr.heap.size]? = some (.cells #[.int .i64 x.f0, .string x.f1] 39 (0, 0)) := (hk2.2 _ (by simp) (Ne.symm (Nat.ne_of_lt LTB.out)) XNE.out).trans (blk_new wr _);
            have x0 : w2.cell? ⟨wr.heap.size, 0, none⟩ = some (.int .i64 x.f0) := (blk_cell xb 0).trans rfl;
            have x1 : w2.cell? ⟨wr.heap.size, 1, none⟩ = some (.string x.f1) := (blk_cell xb 1).trans rfl;
            clear hLs hb2 hk2 hat2 xb HL HV HB)
        | (go_at_call 26; refine (trickleref14_Add.calls k (fun k_ => k_ ≠ B ∧ some k_ ≠ v'.ownBlock) A4 c4 (Wt i) x.f0 x.f1 (Wt (i + 1)) w2 HV2.out HW1.out).mono ?_; rintro e w3 ⟨u3, rfl, hV3, hb3⟩;
            have HL3 := Aside0.mk (HL2.out.below hb3);
            have HV3 : Aside0 (Kd.V k39 39 w3 w.heap.size (fun k_ => k_ ≠ B ∧ some k_ ≠ v'.ownBlock) u3 (Wt (i + 1))) := (⟨V_joined HL2.out hV3⟩);
            have HB3 := Aside0.mk (below_step HB2.out hb3);
            clear hV3 hb3 HL2 HV2 HB2 x0 x1)
        | (go_at_call 27; refine (err_calls w.heap.size B v' (D (i + 1)) w3 HL3.out).mono ?_; rintro e w4 ⟨rfl, nd, rfl⟩; rw [decide_eq_true HP1.out];
            have HL4 : Aside0 (Ls (w3.drewN nd) w.heap.size B v' (D (i + 1))) := ⟨HL3.out.below (pw_below_drewN (Below.refl _ _) nd)⟩;
            have HV4 := Aside0.mk (Kd.V_drewN HV3.out nd);
            have HB4 := Aside0.mk (pw_below_drewN HB3.out nd);
            clear HL3 HV3 HB3; generalize w3.drewN nd = w4 at HL4 HV4 HB4 ⊢))
      go_roundw
      case rel => exact ⟨i + 1, v', by rw [HWR.out], ⟨by have := HLT.out; omega⟩, HL4, HV4, HB4⟩
      case measure => exact meas2 i _ _ HLT.out HWR.out
    · obtain rfl : i = l0.length := by have := HI.out; omega
      obtain ⟨A4, c4, e4⟩ := Kd.V_slice HV.out
      subst e4
      obtain ⟨hDl, hDp⟩ := HDL.out l0.length (Nat.le_refl _)
      have hpp : decide (0 < (D l0.length).length) = decide (0 < l0.length) := decide_eq_decide.2 hDp.symm
      have HDN := Aside0.mk hDl
      have HPP := Aside0.mk hpp
      clear hDl hDp hpp
      go_wp2_with (first
        | (go_at_call 25; refine (all_calls w.heap.size B v (D l0.length) wr HL.out HDN.out).mono ?_; rintro e w2 ⟨A5, c5, rfl, h51, h52, hb2, -⟩;
            have HC5 := Aside0.mk h52; have HCL5 := Aside0.mk h51; have HV2 := Aside0.mk (Kd.V_below HV.out hb2); have HL2 := Aside0.mk (HL.out.below hb2); have HB2 := Aside0.mk (below_step HB.out hb2); clear h51 h52 hb2 HV HL HB)
        | (go_at_call 24; refine (show Calls Tryd.prog 24 #[.slice A5 (D l0.length).length c5, .slice A4 (Wt l0.length).length c4] w2 (fun e w' => e = .returned (.bool true) ∧ Drawn0 w2 w') from by
              have h := trickleref14_Same.calls k A5 c5 (sortD (D l0.length)) A4 c4 (Wt l0.length) true w2 (by rw [sortD_length]; exact HC5.out) (by rw [sortD_length]; exact HCL5.out) (Kd.V_reads' HV2.out).2.2 (Kd.V_reads' HV2.out).2.1 HS.out
              rw [sortD_length] at h
              exact h).mono ?_; rintro e w3 ⟨rfl, nd, rfl⟩;
            have HL3 : Aside0 (Ls (w2.drewN nd) w.heap.size B v (D l0.length)) := ⟨HL2.out.below (pw_below_drewN (Below.refl _ _) nd)⟩; have HB3 := Aside0.mk (pw_below_drewN HB2.out nd); clear HL2 HB2 HV2 HC5; generalize w2.drewN nd = w3 at HL3 HB3 ⊢)
        | (go_at_call 27; refine (err_calls w.heap.size B v (D l0.length) w3 HL3.out).mono ?_; rintro e w4 ⟨rfl, nd, rfl⟩; rw [HPP.out]; have HB4 := Aside0.mk (pw_below_drewN HB3.out nd); clear HL3 HB3; generalize w3.drewN nd = w4 at HB4 ⊢)
        | (go_at_call 11; refine (tricklelaw14_examples.calls k true w4 (HG.out.below HB4.out) HEX.out).mono ?_; rintro e w5 ⟨rfl, hb5⟩; have HB5 := Aside0.mk (below_step HB4.out hb5); clear hb5))
      go_ret
      exact ⟨rfl, HB5.out⟩
end Go.Proofs.YtahgghbhpmpgfaaDoor.PX
/- Lists of diagnostics in plain words: adding without repeats, inserting in order, sorting. -/
namespace Go.Proofs.YtahgghbhpmpgfaaDoor.PX
open Go.RowKit Go.Sort Go.Proofs.YtahgghbhpmpgfaaDoorW.PrintWords Go.Proofs.YtahgghbhpmpgfaaDoorW.PrintLast Go.Proofs.YtahgghbhpmpgfaaDoorW.PrintMore
set_option linter.unusedVariables false
theorem S39_ext {x y : S39} (h0 : x.f0 = y.f0) (h1 : x.f1.toList = y.f1.toList) : x = y := by
  have h2 := toList_inj h1
  cases x; cases y
  simp at h0 h2
  rw [h0, h2]
theorem eqS (x y : S39) : ((x.f0 == y.f0 && (x.f1.toList == y.f1.toList)) = true) ↔ x = y := by
  rw [Bool.and_eq_true, beq_iff_eq, beq_iff_eq]
  exact ⟨fun h => S39_ext h.1 h.2, fun h => by rw [h]; exact ⟨rfl, rfl⟩⟩
instance : DecidableEq S39 := fun x y => decidable_of_iff _ (eqS x y)
theorem rd39 (l : List S39) (j : Nat) (h : j < l.length) : rd_T39 l (j : Int) = l[j] := by
  unfold rd_T39
  rw [Int.toNat_natCast, List.getD_eq_getElem?_getD, List.getElem?_eq_getElem h, Option.getD_some]
theorem idx_loop (l : List S39) (x : S39) (hn : l.length ≤ 100000) : ∀ d j, j + d = l.length → ∃ r : Int, Ev (fun k => api_Diagnostic_54.l0 k l (l.length : Int) (j : Int) x.f0 x.f1) r ∧ (0 ≤ r ↔ x ∈ l.drop j)
  | 0, j, h => by
    refine ⟨-1, Ev.step (fun k => by rw [api_Diagnostic_54.l0]) (Ev.neg (by omega) (Ev.now _)), ?_⟩
    rw [List.drop_eq_nil_of_le (by omega)]
    simp
  | d + 1, j, h => by
    have hj : j < l.length := by omega
    by_cases he : x = l[j]
    · refine ⟨(j : Int), ?_, ?_⟩
      · refine Ev.step (fun k => by rw [api_Diagnostic_54.l0]) (Ev.pos (by omega) (Ev.pos (by omega) (Ev.pos (by omega) ?_)))
        rw [rd39 l j hj]
        exact Ev.pos ((eqS x l[j]).2 he) (Ev.now _)
      · rw [drop_cons _ _ hj, ← he]
        simp
    · obtain ⟨r, r1, r2⟩ := idx_loop l x hn d (j + 1) (by omega)
      refine ⟨r, ?_, ?_⟩
      · refine Ev.step (fun k => by rw [api_Diagnostic_54.l0]) (Ev.pos (by omega) (Ev.pos (by omega) (Ev.pos (by omega) ?_)))
        rw [rd39 l j hj]
        refine Ev.neg (fun h => he ((eqS x l[j]).1 h)) ?_
        rw [wrap_nat hj (by omega)]
        exact r1
      · rw [r2, drop_cons _ _ hj, List.mem_cons]
        exact ⟨Or.inr, fun h => h.resolve_left he⟩
theorem contains_ev (l : List S39) (x : S39) (hn : l.length ≤ 100000) : Ev (fun k => api_Diagnostic_38.f k l x.f0 x.f1) (decide (x ∈ l)) := by
  obtain ⟨r, r1, r2⟩ := idx_loop l x hn l.length 0 (by omega)
  rw [List.drop_zero] at r2
  refine Ev.congr (f := fun k => (api_Diagnostic_54.l0 k l (l.length : Int) ((0 : Nat) : Int) x.f0 x.f1).bind fun t => some (decide (t ≥ 0))) (fun k => by rw [api_Diagnostic_38.f, api_Diagnostic_54.f]; rfl) (Ev.bind r1 (Ev.cast (Ev.now _) ?_))
  exact decide_eq_decide.2 r2
theorem before_eq (x y : S39) : trickleref14_before.f x.f0 x.f1 y.f0 y.f1 = some (decide (ltD x y)) := by
  unfold trickleref14_before.f
  by_cases h1 : x.f0 < y.f0
  · rw [if_pos h1, decide_eq_true (show ltD x y from Or.inl h1)]
  · rw [if_neg h1]
    by_cases h2 : x.f0 = y.f0
    · rw [if_pos h2]
      congr 1
      by_cases h3 : less x.f1.toList y.f1.toList = true
      · rw [decide_eq_true (show ltD x y from Or.inr ⟨h2, h3⟩)]; exact h3
      · rw [decide_eq_false (show ¬ ltD x y by rintro (h | ⟨_, h⟩); exact h1 h; exact h3 h)]
        simpa using h3
    · rw [if_neg h2, decide_eq_false (show ¬ ltD x y by rintro (h | ⟨h, _⟩); exact h1 h; exact h2 h)]
theorem ascD_eq : ∀ (a b : List S39), a.Pairwise ltD → b.Pairwise ltD → (∀ x, x ∈ a ↔ x ∈ b) → a = b
  | [], [], _, _, _ => rfl
  | [], y :: b, _, _, h => absurd ((h y).2 (by simp)) (by simp)
  | x :: a, [], _, _, h => absurd ((h x).1 (by simp)) (by simp)
  | x :: a, y :: b, ha, hb, h => by
    have ha' := List.pairwise_cons.1 ha
    have hb' := List.pairwise_cons.1 hb
    have hxy : x = y := by
      rcases List.mem_cons.1 ((h x).1 (by simp)) with h1 | h1
      · exact h1
      · rcases List.mem_cons.1 ((h y).2 (by simp)) with h2 | h2
        · exact h2.symm
        · exact absurd (ltD_trans (hb'.1 x h1) (ha'.1 y h2)) (ltD_irrefl y)
    subst hxy
    congr 1
    refine ascD_eq a b ha'.2 hb'.2 fun z => ⟨fun hz => ?_, fun hz => ?_⟩
    · rcases List.mem_cons.1 ((h z).1 (by simp [hz])) with h1 | h1
      · subst h1; exact absurd (ha'.1 z hz) (ltD_irrefl z)
      · exact h1
    · rcases List.mem_cons.1 ((h z).2 (by simp [hz])) with h1 | h1
      · subst h1; exact absurd (hb'.1 z hz) (ltD_irrefl z)
      · exact h1
/-- Behind the new element: what is left is put behind. -/
theorem put_loop (l : List S39) (x : S39) (hn : l.length ≤ 1000) : ∀ d j, j + d = l.length → ∀ o : List S39, o.length ≤ j + 1 → (∀ y ∈ l.drop j, y ≠ x) →
    Ev (fun k => trickleref14_Add.l0 k l o true l (l.length : Int) (j : Int) x.f0 x.f1) (o ++ l.drop j)
  | 0, j, h, o, ho, hx => by
    refine Ev.step (fun k => by rw [trickleref14_Add.l0]) (Ev.neg (by omega) (Ev.pos rfl (Ev.cast (Ev.now _) ?_)))
    rw [List.drop_eq_nil_of_le (by omega), List.append_nil]
  | d + 1, j, h, o, ho, hx => by
    have hj : j < l.length := by omega
    rw [drop_cons _ _ hj] at hx ⊢
    refine Ev.step (fun k => by rw [trickleref14_Add.l0]) (Ev.pos (by omega) (Ev.pos (by omega) (Ev.pos (by omega) ?_)))
    rw [rd39 l j hj]
    refine Ev.neg (fun h => hx l[j] List.mem_cons_self ((eqS l[j] x).1 h)) (Ev.pos rfl (Ev.pos (by omega) ?_))
    rw [wrap_nat hj (by omega)]
    refine Ev.cast (put_loop l x hn d (j + 1) (by omega) (o ++ [l[j]]) (by rw [List.length_append, List.length_singleton]; omega) (fun y hy => hx y (List.mem_cons_of_mem _ hy))) ?_
    rw [List.append_assoc, List.singleton_append]
theorem add_loop (l : List S39) (x : S39) (hn : l.length ≤ 1000) (ha : l.Pairwise ltD) : ∀ d j, j + d = l.length → (∀ y ∈ l.take j, ltD y x) →
    ∃ r, Ev (fun k => trickleref14_Add.l0 k l (l.take j) false l (l.length : Int) (j : Int) x.f0 x.f1) r ∧ r.Pairwise ltD ∧ ∀ y, y ∈ r ↔ (y ∈ l ∨ y = x)
  | 0, j, h, hp => by
    have ht : l.take j = l := List.take_of_length_le (by omega)
    rw [ht] at hp
    refine ⟨l ++ [x], ?_, ?_, fun y => by rw [List.mem_append, List.mem_singleton]⟩
    · refine Ev.step (fun k => by rw [trickleref14_Add.l0]) (Ev.neg (by omega) (Ev.neg (by decide) (Ev.pos (by rw [List.length_take]; omega) (Ev.cast (Ev.now _) ?_))))
      rw [ht]
    · rw [List.pairwise_append]
      exact ⟨ha, List.pairwise_singleton _ _, fun a h1 b h2 => by rw [List.mem_singleton.1 h2]; exact hp a h1⟩
  | d + 1, j, h, hp => by
    have hj : j < l.length := by omega
    have hpd : (l[j] :: l.drop (j + 1)).Pairwise ltD := by rw [← drop_cons _ _ hj]; exact ha.sublist (List.drop_sublist _ _)
    have hpd' := List.pairwise_cons.1 hpd
    by_cases he : l[j] = x
    · refine ⟨l, ?_, ha, fun y => ⟨Or.inl, fun h => h.elim id (fun e => by rw [e, ← he]; exact List.getElem_mem hj)⟩⟩
      refine Ev.step (fun k => by rw [trickleref14_Add.l0]) (Ev.pos (by omega) (Ev.pos (by omega) (Ev.pos (by omega) ?_)))
      rw [rd39 l j hj]
      exact Ev.pos ((eqS l[j] x).2 he) (Ev.now _)
    · by_cases hb : ltD x l[j]
      · have hlt : ∀ y ∈ l.drop j, ltD x y := by
          rw [drop_cons _ _ hj]
          intro y hy
          rcases List.mem_cons.1 hy with hy | hy
          · rw [hy]; exact hb
          · exact ltD_trans hb (hpd'.1 y hy)
        have hne : ∀ y ∈ l.drop (j + 1), y ≠ x := fun y hy e => by
          have := hlt y (by rw [drop_cons _ _ hj]; exact List.mem_cons_of_mem _ hy)
          rw [e] at this
          exact ltD_irrefl x this
        have hlen : (l.take j).length = j := by rw [List.length_take]; omega
        refine ⟨l.take j ++ [x] ++ l.drop j, ?_, ?_, fun y => ?_⟩
        · refine Ev.step (fun k => by rw [trickleref14_Add.l0]) (Ev.pos (by omega) (Ev.pos (by omega) (Ev.pos (by omega) ?_)))
          rw [rd39 l j hj]
          refine Ev.neg (fun h => he ((eqS l[j] x).1 h)) (Ev.neg (by decide) (Ev.const (before_eq x l[j]) (Ev.pos (decide_eq_true hb) ?_)))
          refine Ev.pos (by omega) (Ev.someb (Ev.pos (by rw [List.length_append, List.length_singleton]; omega) ?_))
          rw [wrap_nat hj (by omega)]
          refine Ev.cast (put_loop l x hn d (j + 1) (by omega) (l.take j ++ [x] ++ [l[j]]) (by simp only [List.length_append, List.length_singleton]; omega) hne) ?_
          rw [List.append_assoc _ [l[j]], List.singleton_append, ← drop_cons _ _ hj]
        · rw [List.append_assoc, List.pairwise_append]
          refine ⟨ha.sublist (List.take_sublist _ _), ?_, fun a h1 b h2 => ?_⟩
          · rw [List.singleton_append, List.pairwise_cons]
            exact ⟨hlt, ha.sublist (List.drop_sublist _ _)⟩
          · rw [List.singleton_append, List.mem_cons] at h2
            rcases h2 with h2 | h2
            · rw [h2]; exact hp a h1
            · exact ltD_trans (hp a h1) (hlt b h2)
        · have hx : y ∈ l ↔ y ∈ l.take j ∨ y ∈ l.drop j := by rw [← List.mem_append, List.take_append_drop]
          rw [hx, List.mem_append, List.mem_append, List.mem_singleton]
          constructor
          · rintro ((h | h) | h)
            · exact Or.inl (Or.inl h)
            · exact Or.inr h
            · exact Or.inl (Or.inr h)
          · rintro ((h | h) | h)
            · exact Or.inl (Or.inl h)
            · exact Or.inr h
            · exact Or.inl (Or.inr h)
      · have hyx : ltD l[j] x := by
          by_cases k : ltD l[j] x
          · exact k
          · exact absurd (ltD_total k hb) he
        obtain ⟨r, r1, r2⟩ := add_loop l x hn ha d (j + 1) (by omega) (fun y hy => by
          rw [take_snoc' _ _ hj, List.mem_append, List.mem_singleton] at hy
          rcases hy with hy | hy
          · exact hp y hy
          · rw [hy]; exact hyx)
        refine ⟨r, ?_, r2⟩
        refine Ev.step (fun k => by rw [trickleref14_Add.l0]) (Ev.pos (by omega) (Ev.pos (by omega) (Ev.pos (by omega) ?_)))
        rw [rd39 l j hj]
        refine Ev.neg (fun h => he ((eqS l[j] x).1 h)) (Ev.neg (by decide) (Ev.const (before_eq x l[j]) (Ev.neg (by rw [decide_eq_false hb]; decide) ?_)))
        refine Ev.pos (by rw [List.length_take]; omega) ?_
        rw [wrap_nat hj (by omega)]
        rw [take_snoc' _ _ hj] at r1
        exact r1
theorem radd_ev (l : List S39) (x : S39) (hn : l.length ≤ 1000) (ha : l.Pairwise ltD) : ∃ r, Ev (fun k => trickleref14_Add.f k l x.f0 x.f1) r ∧ r.Pairwise ltD ∧ ∀ y, y ∈ r ↔ (y ∈ l ∨ y = x) := by
  obtain ⟨r, r1, r2⟩ := add_loop l x hn ha l.length 0 (by omega) (fun y hy => by rw [List.take_zero] at hy; cases hy)
  exact ⟨r, Ev.congr (fun k => by rw [trickleref14_Add.f]; rfl) r1, r2⟩
theorem same_loop (a b : List S39) (hl : a.length = b.length) (hn : a.length ≤ 100000) (he : a = b) : ∀ d j, j + d = a.length → Ev (fun k => trickleref14_Same.l0 k a b (a.length : Int) (j : Int)) true
  | 0, j, h => Ev.step (fun k => by rw [trickleref14_Same.l0]) (Ev.neg (by omega) (Ev.now _))
  | d + 1, j, h => by
    subst he
    have hj : j < a.length := by omega
    refine Ev.step (fun k => by rw [trickleref14_Same.l0]) (Ev.pos (by omega) (Ev.pos (by omega) (Ev.pos (by omega) (Ev.pos (by omega) ?_))))
    rw [rd39 a j hj]
    refine Ev.neg (by simp) ?_
    rw [wrap_nat hj (by omega)]
    exact same_loop a a rfl hn rfl d (j + 1) (by omega)
theorem same_ev (a : List S39) (hn : a.length ≤ 100000) : Ev (fun k => trickleref14_Same.f k a a) true := by
  refine Ev.congr (fun k => by rw [trickleref14_Same.f]) (Ev.pos rfl ?_)
  exact same_loop a a rfl hn rfl a.length 0 (by omega)
theorem sortD_mem (l : List S39) (x : S39) : x ∈ sortD l ↔ x ∈ l := (List.mergeSort_perm l _).mem_iff
theorem sortD_asc (l : List S39) (h : l.Nodup) : (sortD l).Pairwise ltD := by
  have hp : (sortD l).Pairwise (fun x y => (!(ltOf cfD) y x) = true) := by
    refine List.pairwise_mergeSort (fun a b c h1 h2 => ?_) (fun a b => ?_) l
    · rw [ltOf_D] at *
      simp only [Bool.not_eq_true', decide_eq_false_iff_not] at *
      intro h3
      by_cases h4 : ltD c b
      · exact h2 h4
      · by_cases h5 : ltD b c
        · exact h1 (ltD_trans h5 h3)
        · rw [ltD_total h5 h4] at h1; exact h1 h3
    · rw [ltOf_D, ltOf_D]
      by_cases h1 : ltD b a
      · have h2 : ¬ ltD a b := fun h2 => ltD_irrefl a (ltD_trans h2 h1)
        simp [h1, h2]
      · simp [h1]
  have hd : (sortD l).Nodup := (List.mergeSort_perm l _).nodup_iff.2 h
  refine (List.pairwise_and_iff.2 ⟨hp, hd⟩).imp ?_
  rintro a b ⟨h1, h2⟩
  rw [ltOf_D] at h1
  simp only [Bool.not_eq_true', decide_eq_false_iff_not] at h1
  by_cases h3 : ltD a b
  · exact h3
  · exact absurd (ltD_total h3 h1) h2
end Go.Proofs.YtahgghbhpmpgfaaDoor.PX
/- DiagList in the form of the printed laws, where it returns true. -/
namespace Go.Proofs.YtahgghbhpmpgfaaDoor.PX
open Go.RowKit Go.Sort Go.Shelf Go.Lib Go.Proofs.YtahgghbhpmpgfaaDoorW.PrintWords Go.Proofs.YtahgghbhpmpgfaaDoorW.PrintLast Go.Proofs.YtahgghbhpmpgfaaDoorW.PrintMore
set_option linter.unusedVariables false
set_option maxHeartbeats 4000000 in
set_option maxRecDepth 100000 in
theorem list_great (k : Nat) (A0 : Option Addr) (c0 : Nat) (l0 : List S39) (w : World) (hr0 : Kd.C k39 w A0 l0.length l0) (hc0 : l0.length ≤ c0) (hG : GW w) (hgr : trickleref14_Great.f k l0 = some true) (hex : tricklelaw14_examples.f k = some true) :
    Calls Tryd.prog 10 #[.slice A0 l0.length c0] w fun e w' => e = .returned (.bool true) ∧ Below w.heap.size w w' := by
  have HG := Aside0.mk hG
  have HR0 := Aside0.mk hr0
  have HEX := Aside0.mk hex
  clear hG hr0 hex
  go_enter Tryd.func10, Tryd.ntmps10
  go_wp2_with (first
    | (go_at_call 16; refine (trickleref14_Great.calls k _ _ l0 true _ HR0.out hc0 hgr).mono ?_; rintro e w1 ⟨rfl, hb1⟩; have HB1 := Aside0.mk hb1; clear hb1)
    | (go_at_call 11; refine (tricklelaw14_examples.calls k true w1 (HG.out.below HB1.out) HEX.out).mono ?_; rintro e w5 ⟨rfl, hb5⟩; have HB5 := Aside0.mk (below_step HB1.out hb5); clear hb5))
  go_ret
  exact ⟨rfl, HB5.out⟩
/-- What makes the walk return true. -/
def ListOk (k : Nat) (l0 : List S39) : Prop :=
  tricklelaw14_examples.f k = some true ∧ (trickleref14_Great.f k l0 = some true ∨ (trickleref14_Great.f k l0 = some false ∧ l0.length ≤ 40 ∧ ∃ (Wt D : Nat → List S39) (r : Nat → Bool), Wt 0 = [] ∧ D 0 = [] ∧
    (∀ i (h : i < l0.length), trickleref14_Add.f k (Wt i) l0[i].f0 l0[i].f1 = some (Wt (i + 1))) ∧ (∀ i (h : i < l0.length), api_Diagnostic_38.f k (D i) l0[i].f0 l0[i].f1 = some (r i)) ∧
    (∀ i (h : i < l0.length), D (i + 1) = if r i = true then D i else D i ++ [l0[i]]) ∧ (∀ i, i ≤ l0.length → (D i).length ≤ 100000 ∧ (0 < i ↔ 0 < (D i).length)) ∧ trickleref14_Same.f k (sortD (D l0.length)) (Wt l0.length) = some true))
open Classical in
noncomputable def tricklelaw14_DiagList.f (k : Nat) (l0 : List S39) : Option Bool := if ListOk k l0 then some true else none
theorem tricklelaw14_DiagList.calls (k : Nat) (A0 : Option Addr) (c0 : Nat) (l0 : List S39) (r : Bool) (hrt : r = true) (w : World) (hr0 : Kd.C k39 w A0 l0.length l0) (hc0 : l0.length ≤ c0) (hG : GW w) (h : tricklelaw14_DiagList.f k l0 = some r) :
    Calls Tryd.prog 10 #[.slice A0 l0.length c0] w fun e w' => e = .returned (.bool r) ∧ Below w.heap.size w w' := by
  subst hrt
  unfold tricklelaw14_DiagList.f at h
  split at h
  case isFalse => cases h
  rename_i hh
  obtain ⟨hex, hgr | ⟨hgr, hn, Wt, D, r, h1, h2, h3, h4, h5, h6, h7⟩⟩ := hh
  · exact list_great k A0 c0 l0 w hr0 hc0 hG hgr hex
  · exact list_walk k A0 c0 l0 w hr0 hc0 hG hgr hex hn Wt D r h1 h2 h3 h4 h5 h6 h7
end Go.Proofs.YtahgghbhpmpgfaaDoor.PX
/- Position in plain words: the line and the column behind a text. -/
namespace Go.Proofs.YtahgghbhpmpgfaaDoor.PX
open Go.RowKit Go.Proofs.YtahgghbhpmpgfaaDoorW.PrintWords Go.Proofs.YtahgghbhpmpgfaaDoorW.PrintLast Go.Proofs.YtahgghbhpmpgfaaDoorW.PrintMore
set_option linter.unusedVariables false
set_option linter.unusedSimpArgs false
def bs (s : ByteArray) : List UInt8 := s.data.toList
theorem bs_size (s : ByteArray) : s.size = (bs s).length := rfl
theorem bs_take (s : ByteArray) (j : Nat) : bs (s.extract 0 j) = (bs s).take j := by show (s.extract 0 j).data.toList = _; rw [Lib.extract_data]; simp [bs]
theorem bt_bs (s : ByteArray) (j : Nat) (h : j < (bs s).length) : bt s (j : Int) = (((bs s)[j]).toNat : Int) := by
  unfold bt
  rw [Int.toNat_natCast, dif_pos (show j < s.size from h)]
  rfl
/-- One byte further. -/
def stepP (p : Nat × Nat) (c : UInt8) : Nat × Nat := if c = 10 then (p.1 + 1, 1) else (p.1, p.2 + 1)
/-- The line and the column behind a text. -/
def posOf (l : List UInt8) : Nat × Nat := l.foldl stepP (1, 1)
theorem posOf_nil : posOf [] = (1, 1) := rfl
theorem posOf_snoc (l : List UInt8) (c : UInt8) : posOf (l ++ [c]) = stepP (posOf l) c := by
  unfold posOf
  rw [List.foldl_append]
  rfl
theorem snoc_ind {P : List UInt8 → Prop} (h0 : P []) (h1 : ∀ l c, P l → P (l ++ [c])) (l : List UInt8) : P l := by
  have : ∀ n (l : List UInt8), l.length = n → P l := by
    intro n
    induction n with
    | zero => intro l hl; rw [List.length_eq_zero_iff.mp hl]; exact h0
    | succ n ih =>
      intro l hl
      have hne : l ≠ [] := by rintro rfl; cases hl
      rw [← List.dropLast_concat_getLast hne]
      exact h1 _ _ (ih _ (by rw [List.length_dropLast]; omega))
  exact this _ l rfl
theorem pos_range (l : List UInt8) : 1 ≤ (posOf l).1 ∧ (posOf l).1 ≤ l.length + 1 ∧ 1 ≤ (posOf l).2 ∧ (posOf l).2 ≤ l.length + 1 := by
  refine snoc_ind (P := fun l => 1 ≤ (posOf l).1 ∧ (posOf l).1 ≤ l.length + 1 ∧ 1 ≤ (posOf l).2 ∧ (posOf l).2 ≤ l.length + 1) ?_ ?_ l
  · rw [posOf_nil]; simp
  · intro l c ih
    rw [posOf_snoc, List.length_append, List.length_singleton]
    unfold stepP
    split
    · dsimp only; omega
    · dsimp only; omega
theorem pos_lines (l : List UInt8) : (posOf l).1 = Lib.countByte l 10 + 1 := by
  refine snoc_ind (P := fun l => (posOf l).1 = Lib.countByte l 10 + 1) rfl ?_ l
  intro l c ih
  rw [posOf_snoc]
  unfold stepP Lib.countByte at *
  rw [List.count_append, List.count_singleton]
  split
  · rename_i hc; rw [ih, hc]; rfl
  · rename_i hc
    rw [ih, if_neg (by simpa using hc)]
/-- The place of the last line feed, or -1. -/
theorem last_loop (s : ByteArray) (hn : (bs s).length ≤ 1000000) : ∀ j, j ≤ (bs s).length → Ev (fun k => bytealg_LastIndexByteString.l0 k s 10 ((j : Int) - 1)) ((j : Int) - ((posOf ((bs s).take j)).2 : Int))
  | 0, _ => by
    refine Ev.step (fun k => by rw [bytealg_LastIndexByteString.l0]) ?_
    refine Ev.neg (by omega) ?_
    rw [List.take_zero, posOf_nil]
    exact Ev.now _
  | j + 1, hj => by
    have hjl : j < (bs s).length := by omega
    have e : ((j + 1 : Nat) : Int) - 1 = (j : Int) := by omega
    rw [e]
    refine Ev.step (fun k => by rw [bytealg_LastIndexByteString.l0]) ?_
    rw [bt_bs s j hjl, List.take_succ_eq_append_getElem hjl, posOf_snoc]
    refine Ev.pos (by omega) (Ev.pos (by omega) (Ev.pos (by rw [bs_size]; omega) ?_))
    unfold stepP
    by_cases hc : (bs s)[j] = 10
    · rw [if_pos hc, hc]
      refine Ev.pos rfl (Ev.cast (Ev.now _) ?_)
      show (j : Int) = ((j + 1 : Nat) : Int) - ((1 : Nat) : Int)
      omega
    · rw [if_neg hc]
      have hw : wrap64 ((j : Int) - 1) = (j : Int) - 1 := wrap_id (by omega) (by omega)
      rw [hw]
      refine Ev.neg ?_ (Ev.cast (last_loop s hn j (by omega)) ?_)
      · intro h
        apply hc
        apply UInt8.toNat_inj.mp
        have h10 : (10 : UInt8).toNat = 10 := rfl
        rw [h10]
        omega
      · show (j : Int) - _ = ((j + 1 : Nat) : Int) - ((_ + 1 : Nat) : Int)
        omega
theorem last_ev (s : ByteArray) (hn : (bs s).length ≤ 1000000) : Ev (fun k => strings_LastIndexByte.f k s 10) (((bs s).length : Int) - ((posOf (bs s)).2 : Int)) := by
  refine Ev.congr (fun k => by rw [strings_LastIndexByte.f]) (Ev.bind (a := ((bs s).length : Int) - ((posOf (bs s)).2 : Int)) ?_ (Ev.now _))
  refine Ev.congr (fun k => by rw [bytealg_LastIndexByteString.f, bs_size]) ?_
  rw [wrap_id (by omega) (by omega)]
  have h := last_loop s hn (bs s).length (Nat.le_refl _)
  rw [List.take_length] at h
  exact h
theorem lines_f (s : ByteArray) (hn : (bs s).length ≤ 1000000) : diag_Lines.f s = some ((posOf (bs s)).1 : Int) := by
  have h := pos_range (bs s)
  have h2 := pos_lines (bs s)
  unfold diag_Lines.f strings_Count.f
  show some (wrap64 ((Lib.countByte (bs s) 10 : Nat) + 1 : Int)) = _
  rw [wrap_id (by omega) (by omega), h2]
  rfl
/-- An offset, brought into the text. -/
def clampN (n : Nat) (p : Int) : Nat := min p.toNat n
theorem clamp_f (s : ByteArray) (p : Int) : diag_clamp.f s p = some ((clampN (bs s).length p : Nat) : Int) := by
  unfold diag_clamp.f clampN
  rw [bs_size]
  simp only [mn, mx]
  congr 1
  omega
theorem rclamp_f (s : ByteArray) (p : Int) : trickleref14_Clamp.f s p = some ((clampN (bs s).length p : Nat) : Int) := by
  unfold trickleref14_Clamp.f clampN
  rw [bs_size]
  split
  · congr 1; omega
  · split
    · congr 1; omega
    · congr 1; omega
theorem position_ev (s : ByteArray) (hn : (bs s).length ≤ 1000000) (p : Int) : Ev (fun k => diag_Position.f k s p) (((posOf ((bs s).take (clampN (bs s).length p))).1 : Int), ((posOf ((bs s).take (clampN (bs s).length p))).2 : Int)) := by
  refine Ev.congr (fun k => by rw [diag_Position.f]) (Ev.const (clamp_f s p) ?_)
  have hc : clampN (bs s).length p ≤ (bs s).length := Nat.min_le_right _ _
  generalize clampN (bs s).length p = c at *
  have hx : bs (s.extract 0 ((c : Int)).toNat) = (bs s).take c := by rw [Int.toNat_natCast, bs_take]
  have hl : ((bs s).take c).length = c := by rw [List.length_take]; omega
  have hr := pos_range ((bs s).take c)
  refine Ev.pos (by omega) (Ev.pos (by rw [bs_size]; omega) (Ev.const (a := ((posOf ((bs s).take c)).1 : Int)) (by rw [lines_f _ (by rw [hx]; omega), hx]) ?_))
  refine Ev.bind (a := (c : Int) - ((posOf ((bs s).take c)).2 : Int) + 1) ?_ ?_
  · refine Ev.congr (fun k => by rw [diag_start.f]) (Ev.pos (by omega) (Ev.pos (by rw [bs_size]; omega) ?_))
    refine Ev.bind (last_ev _ (by rw [hx]; omega)) ?_
    rw [hx, hl, wrap_id (by omega) (by omega)]
    exact Ev.now _
  · refine Ev.cast (Ev.now _) ?_
    rw [wrap_id (i := (c : Int) - _) (by omega) (by omega), wrap_id (by omega) (by omega)]
    congr 1
    omega
theorem rpos_loop (s : ByteArray) (hn : (bs s).length ≤ 1000000) (p : Int) : ∀ (d j : Nat), j + d = clampN (bs s).length p → Ev (fun k => trickleref14_Position.l0 k s p ((posOf ((bs s).take j)).1 : Int) ((posOf ((bs s).take j)).2 : Int) (j : Int)) (((posOf ((bs s).take (clampN (bs s).length p))).1 : Int), ((posOf ((bs s).take (clampN (bs s).length p))).2 : Int))
  | 0, j, hj => by
    refine Ev.step (fun k => by rw [trickleref14_Position.l0]) ?_
    refine Ev.const (rclamp_f s p) ?_
    refine Ev.neg (show ¬ (j : Int) < ((clampN (bs s).length p : Nat) : Int) by omega) ?_
    rw [← hj]
    exact Ev.now _
  | d + 1, j, hj => by
    have hc : clampN (bs s).length p ≤ (bs s).length := Nat.min_le_right _ _
    have hjl : j < (bs s).length := by omega
    have hr := pos_range ((bs s).take j)
    rw [List.length_take] at hr
    have ih := rpos_loop s hn p d (j + 1) (by omega)
    rw [List.take_succ_eq_append_getElem hjl, posOf_snoc] at ih
    have w0 : wrap64 ((j : Int) + 1) = ((j + 1 : Nat) : Int) := wrap_nat hjl (by omega)
    have w1 : wrap64 (((posOf ((bs s).take j)).1 : Int) + 1) = (((posOf ((bs s).take j)).1 + 1 : Nat) : Int) := by rw [wrap_id (by omega) (by omega)]; omega
    have w2 : wrap64 (((posOf ((bs s).take j)).2 : Int) + 1) = (((posOf ((bs s).take j)).2 + 1 : Nat) : Int) := by rw [wrap_id (by omega) (by omega)]; omega
    refine Ev.step (fun k => by rw [trickleref14_Position.l0]) (Ev.const (rclamp_f s p) ?_)
    rw [bt_bs s j hjl, w0, w1, w2]
    clear w0 w1 w2
    refine Ev.pos (by omega) (Ev.pos (by omega) (Ev.pos (by rw [bs_size]; omega) ?_))
    unfold stepP at ih
    by_cases hc : (bs s)[j] = 10
    · rw [if_pos hc] at ih
      rw [hc]
      exact Ev.pos rfl ih
    · rw [if_neg hc] at ih
      refine Ev.neg ?_ ih
      intro h
      apply hc
      apply UInt8.toNat_inj.mp
      have h10 : (10 : UInt8).toNat = 10 := rfl
      rw [h10]
      omega
theorem rposition_ev (s : ByteArray) (hn : (bs s).length ≤ 1000000) (p : Int) : Ev (fun k => trickleref14_Position.f k s p) (((posOf ((bs s).take (clampN (bs s).length p))).1 : Int), ((posOf ((bs s).take (clampN (bs s).length p))).2 : Int)) := by
  refine Ev.congr (fun k => by rw [trickleref14_Position.f]) ?_
  have h := rpos_loop s hn p (clampN (bs s).length p) 0 (by omega)
  rw [List.take_zero, posOf_nil] at h
  exact h
theorem examples_ev : Ev (fun k => tricklelaw14_examples.f k) true := Ev.of (k := 20) (fun k => tricklelaw14_examples.mono k) (by kernel_rfl)
end Go.Proofs.YtahgghbhpmpgfaaDoor.PX
/- DiagFormat in plain words: what the reference writes is what Format writes. -/
namespace Go.Proofs.YtahgghbhpmpgfaaDoor.PX
open Go.RowKit Go.Proofs.YtahgghbhpmpgfaaDoorW.PrintWords Go.Proofs.YtahgghbhpmpgfaaDoorW.PrintLast Go.Proofs.YtahgghbhpmpgfaaDoorW.PrintMore
set_option linter.unusedVariables false
set_option linter.unusedSimpArgs false
def mk (l : List UInt8) : ByteArray := ⟨l.toArray⟩
theorem mk_app (a b : List UInt8) : mk a ++ mk b = mk (a ++ b) := by
  refine ByteArray.ext (Array.ext' ?_)
  rw [ByteArray.data_append, Array.toList_append]
  rfl
theorem mk_size (a : List UInt8) : (mk a).size = a.length := rfl
theorem mk_bs (s : ByteArray) : mk (bs s) = s := rfl
theorem dec_len : ∀ (f u : Nat), u < f → (Lib.decDigits u).length ≤ u + 1
  | 0, u, h => by omega
  | f + 1, u, h => by
    rw [Lib.decDigits]
    split
    · simp
    · have := dec_len f (u / 10) (by omega)
      rw [List.length_append, List.length_singleton]
      omega
theorem dig : ∀ d : Fin 10, (⟨#[48, 49, 50, 51, 52, 53, 54, 55, 56, 57]⟩ : ByteArray).extract d.val (d.val + 1) = mk [UInt8.ofNat (48 + d.val)] := by decide +kernel
theorem dig_at (n : Nat) (h : n < 10) : (⟨#[48, 49, 50, 51, 52, 53, 54, 55, 56, 57]⟩ : ByteArray).extract ((n : Int)).toNat ((wrap64 ((n : Int) + 1)) : Int).toNat = mk [UInt8.ofNat (48 + n)] := by
  rw [wrap_id (by omega) (by omega), Int.toNat_natCast, show ((n : Int) + 1).toNat = n + 1 by omega]
  exact dig ⟨n, h⟩
theorem num_ev : ∀ (f n : Nat), n < f → n ≤ 1000000 → Ev (fun k => trickleref14_Num.f k (n : Int)) (mk (Lib.decDigits n))
  | 0, n, h, _ => by omega
  | f + 1, n, h, hn => by
    refine Ev.step (fun k => by rw [trickleref14_Num.f]) ?_
    rw [Lib.decDigits]
    by_cases h10 : n < 10
    · have w1 : wrap64 ((n : Int) + 1) = (n : Int) + 1 := wrap_id (by omega) (by omega)
      rw [dif_pos h10, dig_at n h10, w1]
      clear w1
      refine Ev.pos (show (n : Int) < 10 by omega) ?_
      refine Ev.pos (show 0 ≤ (n : Int) by omega) ?_
      refine Ev.pos (show (n : Int) ≤ (n : Int) + 1 by omega) ?_
      exact Ev.pos (show (n : Int) + 1 ≤ 10 by omega) (Ev.now _)
    · have e1 : wrap64 (Int.tdiv (n : Int) 10) = ((n / 10 : Nat) : Int) := by
        rw [Int.tdiv_eq_ediv_of_nonneg (by omega), wrap_id (by omega) (by omega)]; omega
      have e2 : Int.tmod (n : Int) 10 = ((n % 10 : Nat) : Int) := by
        rw [Int.tmod_eq_emod_of_nonneg (by omega)]; omega
      have w1 : wrap64 (((n % 10 : Nat) : Int) + 1) = ((n % 10 : Nat) : Int) + 1 := wrap_id (by omega) (by omega)
      rw [dif_neg h10, e1, e2, dig_at (n % 10) (by omega), w1]
      clear e1 e2 w1
      refine Ev.neg (show ¬ (n : Int) < 10 by omega) ?_
      refine Ev.bind (num_ev f (n / 10) (by omega) (by omega)) ?_
      rw [mk_size, mk_size, mk_app]
      have hl := dec_len (n / 10 + 1) (n / 10) (by omega)
      refine Ev.pos (show 0 ≤ ((n % 10 : Nat) : Int) by omega) ?_
      refine Ev.pos (show ((n % 10 : Nat) : Int) ≤ ((n % 10 : Nat) : Int) + 1 by omega) ?_
      refine Ev.pos (show ((n % 10 : Nat) : Int) + 1 ≤ 10 by omega) ?_
      exact Ev.pos (by rw [List.length_singleton]; omega) (Ev.now _)
def sumT (l : List S39) : Nat := (l.map (fun x => x.f1.size)).sum
theorem sumT_app (a b : List S39) : sumT (a ++ b) = sumT a + sumT b := by unfold sumT; rw [List.map_append, List.sum_append]
theorem sumT_cons (x : S39) (r : List S39) : sumT (x :: r) = x.f1.size + sumT r := by unfold sumT; rw [List.map_cons, List.sum_cons]
theorem rd_nat39 (l : List S39) (j : Nat) (h : j < l.length) : rd_T39 l (j : Int) = l[j] := by
  unfold rd_T39
  rw [Int.toNat_natCast, List.getD_eq_getElem?_getD, List.getElem?_eq_getElem h, Option.getD_some]
theorem great_loop (l : List S39) (hl : l.length ≤ 140737488355328) (hw : ∀ x ∈ l, x.f1.size ≤ 140737488355328) : ∀ (d j n : Nat), j + d = l.length → n ≤ 1000 → Ev (fun k => trickleref14_Great.l0 k l (n : Int) l (l.length : Int) (j : Int)) (decide (n + sumT (l.drop j) > 1000) || decide (l.length > 40))
  | 0, j, n, hj, hn => by
    refine Ev.step (fun k => by rw [trickleref14_Great.l0]) (Ev.neg (by omega) ?_)
    rw [List.drop_of_length_le (by omega)]
    refine Ev.cast (Ev.now _) ?_
    rw [show decide (n + sumT [] > 1000) = false by rw [decide_eq_false_iff_not]; show ¬ n + 0 > 1000; omega, Bool.false_or]
    exact decide_eq_decide.mpr (by omega)
  | d + 1, j, n, hj, hn => by
    have hjl : j < l.length := by omega
    have hx := hw _ (List.getElem_mem hjl)
    have w0 : wrap64 ((j : Int) + 1) = ((j + 1 : Nat) : Int) := wrap_nat hjl (by omega)
    have w1 : wrap64 ((n : Int) + (((l[j]).f1).size : Int)) = ((n + (l[j]).f1.size : Nat) : Int) := by rw [wrap_id (by omega) (by omega)]; omega
    refine Ev.step (fun k => by rw [trickleref14_Great.l0]) ?_
    rw [rd_nat39 l j hjl, w0, w1]
    clear w0 w1
    refine Ev.pos (by omega) (Ev.pos (by omega) (Ev.pos (by omega) ?_))
    rw [List.drop_eq_getElem_cons hjl, sumT_cons]
    by_cases h : n + (l[j]).f1.size > 1000
    · refine Ev.pos (by omega) (Ev.cast (Ev.now _) ?_)
      rw [show decide (n + ((l[j]).f1.size + sumT (l.drop (j + 1))) > 1000) = true by rw [decide_eq_true_eq]; omega, Bool.true_or]
    · refine Ev.neg (by omega) (Ev.cast (great_loop l hl hw d (j + 1) _ (by omega) (by omega)) ?_)
      rw [Nat.add_assoc]
theorem great_ev (l : List S39) (hl : l.length ≤ 140737488355328) (hw : ∀ x ∈ l, x.f1.size ≤ 140737488355328) : Ev (fun k => trickleref14_Great.f k l) (decide (sumT l > 1000) || decide (l.length > 40)) := by
  have h := great_loop l hl hw l.length 0 0 (by omega) (by omega)
  rw [List.drop_zero, Nat.zero_add] at h
  exact Ev.congr (fun k => by rw [trickleref14_Great.f]; rfl) h
/-- One line. -/
def lineL (s : ByteArray) (x : S39) : List UInt8 :=
  Lib.decDigits (posOf ((bs s).take (clampN (bs s).length x.f0))).1 ++ (58 :: (Lib.decDigits (posOf ((bs s).take (clampN (bs s).length x.f0))).2 ++ (58 :: 32 :: (bs x.f1 ++ [10]))))
def linesL (s : ByteArray) (l : List S39) : List UInt8 := l.flatMap (lineL s)
theorem line_mk (a b t : List UInt8) : lineF (mk a) (mk b) (mk t) = mk (a ++ (58 :: (b ++ (58 :: 32 :: (t ++ [10]))))) := by
  unfold lineF
  rw [show (⟨#[58]⟩ : ByteArray) = mk [58] from rfl, show (⟨#[58, 32]⟩ : ByteArray) = mk [58, 32] from rfl, show (⟨#[10]⟩ : ByteArray) = mk [10] from rfl]
  rw [mk_app, mk_app, mk_app, mk_app, mk_app]
  simp only [List.append_assoc, List.cons_append, List.nil_append]
theorem small_dec (u : Nat) (h : u ≤ 1001) : (Lib.decDigits u).length ≤ 21 := by
  have := Lib.itoa_length_le (u : Int) (by omega) (by omega)
  unfold Lib.itoa at this
  rw [if_neg (by omega), Int.toNat_natCast] at this
  exact this
theorem pos_small (s : ByteArray) (hs : (bs s).length ≤ 300) (p : Int) : (posOf ((bs s).take (clampN (bs s).length p))).1 ≤ 301 ∧ (posOf ((bs s).take (clampN (bs s).length p))).2 ≤ 301 := by
  have h := pos_range ((bs s).take (clampN (bs s).length p))
  rw [List.length_take] at h
  omega
theorem line_len (s : ByteArray) (hs : (bs s).length ≤ 300) (x : S39) : (lineL s x).length ≤ 100 + x.f1.size := by
  obtain ⟨h1, h2⟩ := pos_small s hs x.f0
  have d1 := small_dec _ (Nat.le_trans h1 (by omega))
  have d2 := small_dec _ (Nat.le_trans h2 (by omega))
  unfold lineL
  simp only [List.length_append, List.length_cons, List.length_nil]
  have : (bs x.f1).length = x.f1.size := rfl
  omega
theorem itoa_f (n : Nat) (h : n ≤ 1000) : strconv_Itoa.f (n : Int) = some (mk (Lib.decDigits n)) := by
  unfold strconv_Itoa.f itoaB
  rw [if_pos (by omega)]
  unfold Lib.itoa
  rw [if_neg (by omega), Int.toNat_natCast]
  rfl
theorem fmt_loop (s : ByteArray) (hs : (bs s).length ≤ 300) (l : List S39) (h40 : l.length ≤ 40) (ht : sumT l ≤ 1000) : ∀ (d j : Nat) (acc : List UInt8), j + d = l.length → acc.length ≤ 100 * j + sumT (l.take j) → Ev (fun k => diag_Format.l0 k s l acc (j : Int)) (mk (acc ++ linesL s (l.drop j)))
  | 0, j, acc, hj, ha => by
    refine Ev.step (fun k => by rw [diag_Format.l0]) (Ev.neg (by omega) ?_)
    rw [List.drop_of_length_le (by omega)]
    show Ev _ (mk (acc ++ []))
    rw [List.append_nil]
    exact Ev.now _
  | d + 1, j, acc, hj, ha => by
    have hjl : j < l.length := by omega
    have w0 : wrap64 ((j : Int) + 1) = ((j + 1 : Nat) : Int) := wrap_nat hjl (by omega)
    obtain ⟨p1, p2⟩ := pos_small s hs (l[j]).f0
    have hsum : sumT (l.take (j + 1)) = sumT (l.take j) + (l[j]).f1.size := by
      rw [List.take_succ_eq_append_getElem hjl, sumT_app, sumT_cons]; rfl
    have hsum2 : sumT (l.take (j + 1)) ≤ sumT l := by
      have := sumT_app (l.take (j + 1)) (l.drop (j + 1))
      rw [List.take_append_drop] at this
      omega
    have hln := line_len s hs (l[j])
    have d1 := small_dec _ (Nat.le_trans p1 (by omega))
    have d2 := small_dec _ (Nat.le_trans p2 (by omega))
    refine Ev.step (fun k => by rw [diag_Format.l0]) ?_
    rw [rd_nat39 l j hjl, w0]
    clear w0
    refine Ev.pos (by omega) (Ev.pos (by omega) ?_)
    refine Ev.bind (position_ev s (by omega) (l[j]).f0) ?_
    refine Ev.const (itoa_f _ (by omega)) ?_
    refine Ev.const (itoa_f _ (by omega)) ?_
    refine Ev.pos ?_ ?_
    · rw [mk_size, mk_size]; omega
    · have hline : (lineF (mk (Lib.decDigits (posOf ((bs s).take (clampN (bs s).length (l[j]).f0))).1)) (mk (Lib.decDigits (posOf ((bs s).take (clampN (bs s).length (l[j]).f0))).2)) (l[j]).f1).data.toList = lineL s (l[j]) := by
        have h := line_mk (Lib.decDigits (posOf ((bs s).take (clampN (bs s).length (l[j]).f0))).1) (Lib.decDigits (posOf ((bs s).take (clampN (bs s).length (l[j]).f0))).2) (bs (l[j]).f1)
        rw [mk_bs] at h
        rw [h]
        rfl
      rw [hline]
      refine Ev.cast (fmt_loop s hs l h40 ht d (j + 1) _ (by omega) (by rw [List.length_append]; omega)) ?_
      rw [List.drop_eq_getElem_cons hjl]
      unfold linesL
      rw [List.flatMap_cons, List.append_assoc]
theorem rfmt_loop (s : ByteArray) (hs : (bs s).length ≤ 300) (l : List S39) (h40 : l.length ≤ 40) (ht : sumT l ≤ 1000) : ∀ (d j : Nat) (acc : List UInt8), j + d = l.length → acc.length ≤ 100 * j + sumT (l.take j) → Ev (fun k => trickleref14_Format.l0 k s (mk acc) l (l.length : Int) (j : Int)) (mk (acc ++ linesL s (l.drop j)))
  | 0, j, acc, hj, ha => by
    refine Ev.step (fun k => by rw [trickleref14_Format.l0]) (Ev.neg (by omega) ?_)
    rw [List.drop_of_length_le (by omega)]
    show Ev _ (mk (acc ++ []))
    rw [List.append_nil]
    exact Ev.now _
  | d + 1, j, acc, hj, ha => by
    have hjl : j < l.length := by omega
    have w0 : wrap64 ((j : Int) + 1) = ((j + 1 : Nat) : Int) := wrap_nat hjl (by omega)
    obtain ⟨p1, p2⟩ := pos_small s hs (l[j]).f0
    have hsum : sumT (l.take (j + 1)) = sumT (l.take j) + (l[j]).f1.size := by
      rw [List.take_succ_eq_append_getElem hjl, sumT_app, sumT_cons]; rfl
    have hsum2 : sumT (l.take (j + 1)) ≤ sumT l := by
      have := sumT_app (l.take (j + 1)) (l.drop (j + 1))
      rw [List.take_append_drop] at this
      omega
    have hln := line_len s hs (l[j])
    have d1 := small_dec _ (Nat.le_trans p1 (by omega))
    have d2 := small_dec _ (Nat.le_trans p2 (by omega))
    refine Ev.step (fun k => by rw [trickleref14_Format.l0]) ?_
    rw [rd_nat39 l j hjl, w0]
    clear w0
    refine Ev.pos (by omega) (Ev.pos (by omega) (Ev.pos (by omega) ?_))
    refine Ev.bind (rposition_ev s (by omega) (l[j]).f0) ?_
    refine Ev.bind (num_ev _ _ (Nat.lt_succ_self _) (by omega)) ?_
    rw [show (⟨#[58]⟩ : ByteArray) = mk [58] from rfl, show (⟨#[58, 32]⟩ : ByteArray) = mk [58, 32] from rfl, show (⟨#[10]⟩ : ByteArray) = mk [10] from rfl]
    refine Ev.pos (by rw [mk_size]; omega) ?_
    refine Ev.bind (num_ev _ _ (Nat.lt_succ_self _) (by omega)) ?_
    have hf : (l[j]).f1 = mk (bs (l[j]).f1) := rfl
    have hfl : (bs (l[j]).f1).length = (l[j]).f1.size := rfl
    rw [hf, mk_app, mk_app, mk_app, mk_app, mk_app, mk_app]
    simp only [mk_size]
    refine Ev.pos (by simp only [List.length_append, List.length_cons, List.length_nil]; omega) ?_
    refine Ev.pos (by simp only [List.length_append, List.length_cons, List.length_nil]; omega) ?_
    refine Ev.pos (by simp only [List.length_append, List.length_cons, List.length_nil]; omega) ?_
    refine Ev.pos (by simp only [List.length_append, List.length_cons, List.length_nil]; omega) ?_
    refine Ev.pos (by simp only [List.length_append, List.length_cons, List.length_nil]; omega) ?_
    have hline : Lib.decDigits (posOf ((bs s).take (clampN (bs s).length (l[j]).f0))).1 ++ [58] ++ Lib.decDigits (posOf ((bs s).take (clampN (bs s).length (l[j]).f0))).2 ++ [58, 32] ++ bs (l[j]).f1 ++ [10] = lineL s (l[j]) := by
      unfold lineL
      simp only [List.append_assoc, List.cons_append, List.nil_append]
    rw [hline]
    refine Ev.cast (rfmt_loop s hs l h40 ht d (j + 1) _ (by omega) (by rw [List.length_append]; omega)) ?_
    rw [List.drop_eq_getElem_cons hjl]
    unfold linesL
    rw [List.flatMap_cons, List.append_assoc]
end Go.Proofs.YtahgghbhpmpgfaaDoor.PX
namespace Go.Proofs.YtahgghbhpmpgfaaDoor.Pure
open Go.RowKit Go.Proofs.YtahgghbhpmpgfaaDoor.PX Go.Proofs.YtahgghbhpmpgfaaDoorW.PrintWords Go.Proofs.YtahgghbhpmpgfaaDoorW.PrintLast
set_option linter.unusedVariables false
theorem DiagFormat (s : ByteArray) (l : List S39) (hs : s.size ≤ 140737488351232) (hw : ∀ x ∈ l, x.f1.size ≤ 140737488355328) (hl : l.length ≤ 140737488355328) : ∃ n, tricklelaw14_DiagFormat.f n s l = some true := by
  have yes : Ev (fun n => tricklelaw14_DiagFormat.j0 n s l true) true := Ev.step (fun n => by rw [tricklelaw14_DiagFormat.j0]) (Ev.pos rfl (Ev.bind examples_ev (Ev.now _)))
  refine Ev.rounds (Ev.congr (fun n => by rw [tricklelaw14_DiagFormat.f, bs_size]) ?_)
  by_cases h : ((bs s).length : Int) > 300
  · exact Ev.pos h yes
  refine Ev.neg h (Ev.bind (great_ev l hl hw) ?_)
  by_cases hg : (decide (sumT l > 1000) || decide (l.length > 40)) = true
  · rw [hg]; exact yes
  · rw [Bool.not_eq_true] at hg
    rw [hg]
    rw [Bool.or_eq_false_iff, decide_eq_false_iff_not, decide_eq_false_iff_not] at hg
    have h1 := fmt_loop s (by omega) l (by omega) (by omega) l.length 0 [] (by omega) (by simp)
    have h2 := rfmt_loop s (by omega) l (by omega) (by omega) l.length 0 [] (by omega) (by simp)
    rw [List.drop_zero, List.nil_append] at h1 h2
    refine Ev.step (fun n => by rw [tricklelaw14_DiagFormat.j0]) ?_
    refine Ev.neg (by decide) ?_
    refine Ev.bind (a := mk (linesL s l)) (Ev.congr (fun n => by rw [diag_Format.f]; rfl) h1) ?_
    refine Ev.bind (a := mk (linesL s l)) (Ev.congr (fun n => by rw [trickleref14_Format.f]; rfl) h2) ?_
    exact Ev.pos rfl (Ev.bind examples_ev (Ev.now _))
end Go.Proofs.YtahgghbhpmpgfaaDoor.Pure
/- DiagList in plain words. -/
namespace Go.Proofs.YtahgghbhpmpgfaaDoor.PX
open Go.RowKit Go.Sort Go.Proofs.YtahgghbhpmpgfaaDoorW.PrintWords Go.Proofs.YtahgghbhpmpgfaaDoorW.PrintLast Go.Proofs.YtahgghbhpmpgfaaDoorW.PrintMore
set_option linter.unusedVariables false
def addD (l : List S39) (x : S39) : List S39 := if x ∈ l then l else l ++ [x]
/-- The list without repeats. -/
def ded (l : List S39) : List S39 := l.foldl addD []
theorem ded_snoc (l : List S39) (x : S39) : ded (l ++ [x]) = addD (ded l) x := by unfold ded; rw [List.foldl_append]; rfl
theorem addD_mem (l : List S39) (x y : S39) : y ∈ addD l x ↔ (y ∈ l ∨ y = x) := by
  unfold addD
  split
  · rename_i h
    exact ⟨Or.inl, fun k => k.elim id (fun e => e ▸ h)⟩
  · rw [List.mem_append, List.mem_singleton]
theorem addD_nodup (l : List S39) (x : S39) (h : l.Nodup) : (addD l x).Nodup := by
  unfold addD
  split
  · exact h
  · rename_i hx
    rw [List.nodup_append]
    exact ⟨h, List.pairwise_singleton _ _, fun a ha b hb e => hx (by rw [List.mem_singleton.1 hb] at e; rw [← e]; exact ha)⟩
theorem addD_len (l : List S39) (x : S39) : (addD l x).length ≤ l.length + 1 ∧ 0 < (addD l x).length := by
  unfold addD
  split
  · rename_i h
    exact ⟨by omega, List.length_pos_of_mem h⟩
  · rw [List.length_append, List.length_singleton]; omega
theorem ded_take (l : List S39) (i : Nat) (h : i < l.length) : ded (l.take (i + 1)) = addD (ded (l.take i)) l[i] := by rw [take_snoc' _ _ h, ded_snoc]
theorem ded_facts (l : List S39) : ∀ i, i ≤ l.length → (ded (l.take i)).Nodup ∧ (ded (l.take i)).length ≤ i ∧ (0 < i → 0 < (ded (l.take i)).length)
  | 0, h => by rw [List.take_zero]; exact ⟨List.nodup_nil, Nat.le_refl _, fun h => by omega⟩
  | i + 1, h => by
    obtain ⟨h1, h2, h3⟩ := ded_facts l i (by omega)
    have hl := addD_len (ded (l.take i)) l[i]
    rw [ded_take l i h]
    exact ⟨addD_nodup _ _ h1, by omega, fun _ => hl.2⟩
theorem all_rounds {α : Type} (g : Nat → Nat → Option α) (a : Nat → α) : ∀ n, (∀ i, i < n → Ev (g i) (a i)) → ∃ K, ∀ k, K ≤ k → ∀ i, i < n → g i k = some (a i)
  | 0, h => ⟨0, fun k _ i hi => by omega⟩
  | n + 1, h => by
    obtain ⟨K1, h1⟩ := all_rounds g a n (fun i hi => h i (by omega))
    obtain ⟨K2, h2⟩ := h n (by omega)
    refine ⟨max K1 K2, fun k hk i hi => ?_⟩
    by_cases e : i = n
    · rw [e]; exact h2 k (by omega)
    · exact h1 k (by omega) i (by omega)
theorem ins_ev (l : List S39) (x : S39) (hn : l.Nodup) (hl : l.length ≤ 1000) : Ev (fun k => trickleref14_Add.f k (sortD l) x.f0 x.f1) (sortD (addD l x)) := by
  obtain ⟨r, r1, r2, r3⟩ := radd_ev (sortD l) x (by rw [sortD_length]; exact hl) (sortD_asc l hn)
  have e : r = sortD (addD l x) := ascD_eq _ _ r2 (sortD_asc _ (addD_nodup l x hn)) (fun y => by rw [r3, sortD_mem, sortD_mem, addD_mem])
  rw [← e]
  exact r1
end Go.Proofs.YtahgghbhpmpgfaaDoor.PX
namespace Go.Proofs.YtahgghbhpmpgfaaDoor.Pure
open Go.RowKit Go.Sort Go.Proofs.YtahgghbhpmpgfaaDoor.PX Go.Proofs.YtahgghbhpmpgfaaDoorW.PrintWords Go.Proofs.YtahgghbhpmpgfaaDoorW.PrintLast Go.Proofs.YtahgghbhpmpgfaaDoorW.PrintMore
set_option linter.unusedVariables false
theorem DiagList (l : List S39) (hw : ∀ x ∈ l, x.f1.size ≤ 140737488355328) (hl : l.length ≤ 140737488355328) : ∃ n, tricklelaw14_DiagList.f n l = some true := by
  suffices h : ∃ n, ListOk n l by
    obtain ⟨n, h⟩ := h
    exact ⟨n, by unfold tricklelaw14_DiagList.f; rw [if_pos h]⟩
  obtain ⟨K1, h1⟩ := examples_ev
  obtain ⟨K2, h2⟩ := great_ev l hl hw
  by_cases hg : (decide (sumT l > 1000) || decide (l.length > 40)) = true
  · refine ⟨max K1 K2, h1 _ (by omega), Or.inl ?_⟩
    exact (h2 _ (by omega)).trans (congrArg some hg)
  · rw [Bool.not_eq_true] at hg
    have hg2 := hg
    rw [Bool.or_eq_false_iff, decide_eq_false_iff_not, decide_eq_false_iff_not] at hg2
    have hn : l.length ≤ 40 := by omega
    have hf := ded_facts l
    obtain ⟨K3, h3⟩ := all_rounds (fun i k => trickleref14_Add.f k (sortD (ded (l.take i))) (rd_T39 l (i : Int)).f0 (rd_T39 l (i : Int)).f1) (fun i => sortD (ded (l.take (i + 1)))) l.length (fun i hi => by
      rw [rd39 l i hi, ded_take l i hi]
      have := hf i (by omega)
      exact ins_ev _ _ this.1 (by omega))
    obtain ⟨K4, h4⟩ := all_rounds (fun i k => api_Diagnostic_38.f k (ded (l.take i)) (rd_T39 l (i : Int)).f0 (rd_T39 l (i : Int)).f1) (fun i => decide (rd_T39 l (i : Int) ∈ ded (l.take i))) l.length (fun i hi => by
      have := hf i (by omega)
      exact contains_ev _ _ (by omega))
    obtain ⟨K5, h5⟩ := same_ev (sortD (ded (l.take l.length))) (by rw [sortD_length]; have := hf l.length (Nat.le_refl _); omega)
    refine ⟨K1 + K2 + K3 + K4 + K5, h1 _ (by omega), Or.inr ⟨(h2 _ (by omega)).trans (congrArg some hg), hn, fun i => sortD (ded (l.take i)), fun i => ded (l.take i), fun i => decide (rd_T39 l (i : Int) ∈ ded (l.take i)), ?_, ?_, fun i hi => ?_, fun i hi => ?_, fun i hi => ?_, fun i hi => ?_, h5 _ (by omega)⟩⟩
    · show sortD (ded (l.take 0)) = []
      rw [List.take_zero]
      exact List.length_eq_zero_iff.1 (by rw [sortD_length]; rfl)
    · show ded (l.take 0) = []
      rw [List.take_zero]; rfl
    · have := h3 (K1 + K2 + K3 + K4 + K5) (by omega) i hi
      rw [rd39 l i hi] at this
      exact this
    · have := h4 (K1 + K2 + K3 + K4 + K5) (by omega) i hi
      show api_Diagnostic_38.f (K1 + K2 + K3 + K4 + K5) (ded (l.take i)) l[i].f0 l[i].f1 = some (decide (rd_T39 l (i : Int) ∈ ded (l.take i)))
      rw [rd39 l i hi] at this ⊢
      exact this
    · show ded (l.take (i + 1)) = if decide (rd_T39 l (i : Int) ∈ ded (l.take i)) = true then ded (l.take i) else ded (l.take i) ++ [l[i]]
      rw [rd39 l i hi, ded_take l i hi]
      unfold addD
      by_cases hm : l[i] ∈ ded (l.take i)
      · rw [if_pos hm, if_pos (decide_eq_true hm)]
      · rw [if_neg hm, if_neg (by rw [decide_eq_false hm]; decide)]
    · obtain ⟨g1, g2, g3⟩ := hf i hi
      exact ⟨Nat.le_trans g2 (by omega), fun h => g3 h, fun h => Nat.lt_of_lt_of_le h g2⟩
end Go.Proofs.YtahgghbhpmpgfaaDoor.Pure
/- As the library's returnsInHanded_of_change_and, and the contract also gets that the world is shaped. -/
namespace Go.Proofs.YtahgghbhpmpgfaaDoor.PX
open Go Go.ChangeShapes Go.WideShapes Go.RowKit
theorem handed_shaped {H : Type} {enc : TypeId × Value → H} {a : Assume} {C : Checked} {os : Os} {f : FuncId} {fn : Func} {s : ChangeSpec} {conds : List PathCond} {apart fresh handsOn again : Bool} {X : World → Array Value → Prop}
    (hX : ∀ (w w' : World) (args : Array Value), w.heap = w'.heap → X w args → X w' args)
    (own : ownKnob C.prog.godebug = none) (started : os.Started) (noInit : C.prog.inits.idxOf? f = none) (hfn : C.prog.funcs[f]? = some fn)
    (witness : ∃ (w : World) (tape : Tape) (i : Input), w.os = os ∧ (w.forCall tape i).Shaped C.prog ∧ i.vars = [] ∧ Input.okWide C.prog (w.forCall tape i) .any w.heap.size f i ∧
      ((s.pre enc C.prog fn conds apart (w.forCall tape i).memory i.args ∧ X (w.forCall tape i).memory i.args) ∧ sizedMet enc C.prog fn (OpenSpec.ofChange s) apart (w.forCall tape i).memory i.args) ∧ a.holds C.prog (lone (Frame.enter C.prog f i.args .normal) [] (w.forCall tape i)))
    (contract : ∀ (W : World) (base : Nat) (args : Array Value) (ds gs : List (DataW H)) (before : List MemPlace), W.ShapedOpen C.prog →
      (∀ (j : Nat) t v, fn.params[j]? = some t → args[j]? = some v → Value.okWide C.prog W .any base t v) →
      DataW.Whole enc C.prog fn.params.toList s.vars apart W args.toList ds gs before →
      conds.all (PathCond.test C.prog ⟨fn.params.toList, ds, s.plain.varTypes C.prog, gs⟩) = true →
      (DataW.weightsEach C.prog (fn.params.toList ++ s.plain.varTypes C.prog) (ds ++ gs)).all (· ≤ reachBytes) = true → X W args →
      a.holds C.prog (lone (Frame.enter C.prog f args .normal) [] W) →
      Calls C.prog f args W fun e W' => ∃ v, e = .returned v ∧ s.post enc C.prog fn apart fresh handsOn again W args v W') :
    ReturnsInHanded a C os f .any (fun w args => (s.pre enc C.prog fn conds apart w args ∧ X w args) ∧ sizedMet enc C.prog fn (OpenSpec.ofChange s) apart w args) (s.post enc C.prog fn apart fresh handsOn again) := by
  refine returnsInHanded_of_calls own started noInit witness ?_
  intro w tape i _ hsh _ hok hpre hholds
  obtain ⟨_, _, _, fn', hfn', _, _, _, _, hval⟩ := hok
  have e : fn' = fn := Option.some.inj (hfn'.symm.trans hfn)
  subst e
  obtain ⟨⟨⟨ds, gs, before, hw, hc⟩, hx⟩, hz⟩ := hpre
  have hw' := DataW.Whole.of_heap (w' := w.forCall tape i) (by rfl) hw
  refine (contract (w.forCall tape i) w.heap.size i.args ds gs before hsh hval hw' hc (hz.weights hw) (hX _ _ _ (by rfl) hx) hholds).mono fun e W' ⟨v, he, hp⟩ => ?_
  subst he
  exact ChangeSpec.post_blind hp
end Go.Proofs.YtahgghbhpmpgfaaDoor.PX
