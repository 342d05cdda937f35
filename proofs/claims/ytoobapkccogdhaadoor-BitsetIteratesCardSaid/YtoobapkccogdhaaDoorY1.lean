/- Parts of the proof, merged in build order: Shelf, MGW, Laid, Open, PXx0, Types, Bm1, Bp1, Bs1, Ev, Bs2, PXx1, MTrim, PXx2, PXx3. -/
import Derived.Shelf.Strings.Builder1
import Derived.Shelf.Strings.Builder2
import Derived.Shelf.Strconv.Itoa0
import Derived.Shelf.Strconv.Itoa1
import Derived.Shelf.LaysM
import Derived.Shelf.Strconv.Itoa2
import Derived.Shelf.Strconv.Itoa3
import Derived.Test.YtoobapkccogdhaaDoorProg
import Derived.Test.YtoobapkccogdhaaDoorY0
import Derived.Lib.TrailingZeros
import Derived.Test.YtoobapkccogdhaaDoorRows
import Derived.LaidMore
import Derived.LaidSub
import Derived.Stop.Joined
import Derived.Lib.LaidTab
import Derived.ProofKit
import Derived.OpenShut
import Derived.DataReads
import Derived.Deep.Slices
import Derived.Below
import Derived.Deep.Draws
import Derived.Deep.AppendLies
import Derived.Maps.AppendAt
import Derived.OwnWalk
import Derived.Laws.BytesArg
import Derived.Laws.MakeOwn
import Derived.Laws.OwnMore
import Derived.Deep.OwnRows
import Derived.Tactics
import Derived.Lib.ConvBytes
import Derived.Laws.Slices
import Derived.WalkKit
import Derived.KernelRfl
import Derived.RowKit3
import Derived.Deep.LoopGhost
import Derived.Deep.QuietTactic
import Derived.BigQuiet
import Derived.WideLaws
import Derived.Deep.DeepCutAuto
import Derived.Deep.CutBlock
import Derived.Deep.RegionHeld3
import Derived.Laws.Rows
import Derived.Lib.AppendStr
import Derived.ArgAppend
import Derived.Laws.IdiomCopy
import Derived.OrdersHeld
import Derived.Laws.BitsLemmas
import Derived.RowKit
import Derived.Laws.StructEq
import Derived.ChangeOld
import Derived.Laws.Bits64b
/-
  DERIVED: THE SHELF's CONTRACTS AT THIS DUMP, IN PLAIN WORDS (tools/lay-plain.mjs out of 'YtoobapkccogdhaaDoorShelfx.lean', which tools/lay-shelf.mjs wrote): THE SAME DECLARATIONS UNDER THE SAME NAMES: 'import', 'namespace', 'open', 'def', 'theorem' AND NOTHING ELSE: no command of the shelf's: FOR A HAND-IN. Each laying: the table of numbers ('.._ren') and one theorem, a field a fact of the dump's own or the kernel's comparison; each contract: ONE APPLICATION.
-/
namespace Go.Proofs
open Go.Shelf
def Tryd.lays169_ren : Go.Shelf.Ren := ⟨fun | 169 => 57 | n => n, fun | 70 => 67 | 9 => 9 | 0 => 0 | 72 => 70 | 37 => 68 | 127 => 79 | 3 => 3 | 5 => 5 | n => n, fun | n => n⟩
theorem Tryd.lays169 : Go.Proofs.Lays.n169 Tryd.prog Tryd.lays169_ren := {
  mixed := by kernel_rfl
  f169 := Tryd.func57.trans (congrArg some (by kernel_rfl))
  t0 := Tryd.underlying0
  a0 := Tryd.isAgg0
  z0 := Tryd.sizeOf0
  v0 := Tryd.zeroValue0
  t3 := Tryd.underlying3
  a3 := Tryd.isAgg3
  z3 := Tryd.sizeOf3
  v3 := Tryd.zeroValue3
  t9 := Tryd.underlying9
  a9 := Tryd.isAgg9
  z9 := Tryd.sizeOf9
  v9 := Tryd.zeroValue9
  t37 := Tryd.underlying68
  a37 := Tryd.isAgg68
  z37 := Tryd.sizeOf68
  v37 := Tryd.zeroValue68
  t70 := Tryd.underlying67
  a70 := Tryd.isAgg67
  z70 := Tryd.sizeOf67
  v70 := Tryd.zeroValue67
  t72 := Tryd.underlying70
  a72 := Tryd.isAgg70
  z72 := Tryd.sizeOf70
  v72 := Tryd.zeroValue70
  t127 := Tryd.underlying79
  a127 := Tryd.isAgg79
  z127 := Tryd.sizeOf79
  v127 := Tryd.zeroValue79 }
theorem Tryd.Builder_Extra_169 : Builder.Extra Tryd.prog Tryd.lays169_ren := {
  sizeBuilder := by kernel_rfl
  liesBuilder := by kernel_rfl
  t5 := Tryd.underlying5
  a5 := Tryd.isAgg5
  z5 := Tryd.sizeOf5
  v5 := Tryd.zeroValue5
  infoByte := by kernel_rfl
  cellsByte := by kernel_rfl
  sizeByte := by kernel_rfl
  neB5 := by decide }
open Go.RowKit in
theorem Tryd.Builder_String_any (B b : Nat) (l : List UInt8) (w : World) (h : Lib.IsBuilder 70 5 B b (Lib.byteCells l) w) (hBw : B ≤ w.heap.size) :
    Calls Tryd.prog 57 #[.pointer (some ⟨b, 0, none⟩)] w fun e w' => e = .returned (.string ⟨l.toArray⟩) ∧ Below B w w' := Any.Builder_String_any Tryd.lays169 Tryd.Builder_Extra_169 B b l w h hBw
def Tryd.lays165_ren : Go.Shelf.Ren := ⟨fun | 165 => 55 | 240 => 59 | 241 => 60 | 276 => 65 | 277 => 66 | n => n, fun | 70 => 67 | 3 => 3 | 0 => 0 | 4 => 4 | 9 => 9 | 20 => 20 | 72 => 70 | 37 => 68 | 164 => 84 | 5 => 5 | n => n, fun | n => n⟩
theorem Tryd.lays165 : Go.Proofs.Lays.n165 Tryd.prog Tryd.lays165_ren := {
  mixed := by kernel_rfl
  f165 := Tryd.func55.trans (congrArg some (by kernel_rfl))
  f240 := Tryd.func59.trans (congrArg some (by kernel_rfl))
  f241 := Tryd.func60.trans (congrArg some (by kernel_rfl))
  f276 := Tryd.func65.trans (congrArg some (by kernel_rfl))
  f277 := Tryd.func66.trans (congrArg some (by kernel_rfl))
  t0 := Tryd.underlying0
  a0 := Tryd.isAgg0
  z0 := Tryd.sizeOf0
  v0 := Tryd.zeroValue0
  t3 := Tryd.underlying3
  a3 := Tryd.isAgg3
  z3 := Tryd.sizeOf3
  v3 := Tryd.zeroValue3
  t4 := Tryd.underlying4
  a4 := Tryd.isAgg4
  z4 := Tryd.sizeOf4
  v4 := Tryd.zeroValue4
  t9 := Tryd.underlying9
  a9 := Tryd.isAgg9
  z9 := Tryd.sizeOf9
  v9 := Tryd.zeroValue9
  t20 := Tryd.underlying20
  a20 := Tryd.isAgg20
  z20 := Tryd.sizeOf20
  v20 := Tryd.zeroValue20
  t37 := Tryd.underlying68
  a37 := Tryd.isAgg68
  z37 := Tryd.sizeOf68
  v37 := Tryd.zeroValue68
  t70 := Tryd.underlying67
  a70 := Tryd.isAgg67
  z70 := Tryd.sizeOf67
  v70 := Tryd.zeroValue67
  t72 := Tryd.underlying70
  a72 := Tryd.isAgg70
  z72 := Tryd.sizeOf70
  v72 := Tryd.zeroValue70
  t164 := Tryd.underlying84
  a164 := Tryd.isAgg84
  z164 := Tryd.sizeOf84
  v164 := Tryd.zeroValue84 }
theorem Tryd.Builder_Extra_165 : Builder.Extra Tryd.prog Tryd.lays165_ren := {
  sizeBuilder := by kernel_rfl
  liesBuilder := by kernel_rfl
  t5 := Tryd.underlying5
  a5 := Tryd.isAgg5
  z5 := Tryd.sizeOf5
  v5 := Tryd.zeroValue5
  infoByte := by kernel_rfl
  cellsByte := by kernel_rfl
  sizeByte := by kernel_rfl
  neB5 := by decide }
open Go.RowKit in
theorem Tryd.Builder_Grow_fresh (B b n : Nat) (w : World) (hB : B ≤ b) (hbk : w.heap[b]? = some (.cells #[.pointer none, .slice none 0 0] 70 (0, 0))) (hBw : B ≤ w.heap.size) (hn : n ≤ 281474976710656) :
    Calls Tryd.prog 55 #[.pointer (some ⟨b, 0, none⟩), .int .i64 n] w fun e w' => e = .returned (.tuple #[]) ∧ (Lib.BuilderAt 70 5 B b (.pointer (some ⟨b, 0, none⟩)) [] w' ∧ Below B w w') := Any.Builder_Grow_fresh Tryd.lays165 Tryd.Builder_Extra_165 B b n w hB hbk hBw hn
def Tryd.laysM171_ren : Go.Shelf.Ren := ⟨fun | 171 => 41 | 243 => 54 | 246 => 58 | 283 => 61 | 284 => 62 | 285 => 63 | 286 => 64 | 129 => 68 | 317 => 67 | 318 => 69 | 319 => 70 | 320 => 71 | 337 => 72 | 338 => 45 | n => n, fun | 3 => 3 | 9 => 9 | 2 => 2 | 4 => 4 | 171 => 80 | 0 => 0 | 53 => 56 | 37 => 68 | 5 => 5 | 173 => 82 | 212 => 89 | 51 => 90 | 20 => 20 | 213 => 91 | 46 => 77 | 232 => 94 | 233 => 76 | n => n, fun | 17 => 1 | 18 => 3 | 19 => 0 | n => n⟩
theorem Tryd.laysM171 : Go.Proofs.LaysM.n171 Tryd.prog Tryd.laysM171_ren := {
  mixed := by kernel_rfl
  f129 := Tryd.func68.trans (congrArg some (by kernel_rfl))
  f171 := Tryd.func41.trans (congrArg some (by kernel_rfl))
  f243 := Tryd.func54.trans (congrArg some (by kernel_rfl))
  f246 := Tryd.func58.trans (congrArg some (by kernel_rfl))
  f283 := Tryd.func61.trans (congrArg some (by kernel_rfl))
  f284 := Tryd.func62.trans (congrArg some (by kernel_rfl))
  f285 := Tryd.func63.trans (congrArg some (by kernel_rfl))
  f286 := Tryd.func64.trans (congrArg some (by kernel_rfl))
  f317 := Tryd.func67.trans (congrArg some (by kernel_rfl))
  f318 := Tryd.func69.trans (congrArg some (by kernel_rfl))
  f319 := Tryd.func70.trans (congrArg some (by kernel_rfl))
  f320 := Tryd.func71.trans (congrArg some (by kernel_rfl))
  f337 := Tryd.func72.trans (congrArg some (by kernel_rfl))
  f338 := Tryd.func45.trans (congrArg some (by kernel_rfl))
  t0 := Tryd.underlying0
  a0 := Tryd.isAgg0
  z0 := Tryd.sizeOf0
  v0 := Tryd.zeroValue0
  t2 := Tryd.underlying2
  a2 := Tryd.isAgg2
  z2 := Tryd.sizeOf2
  v2 := Tryd.zeroValue2
  t3 := Tryd.underlying3
  a3 := Tryd.isAgg3
  z3 := Tryd.sizeOf3
  v3 := Tryd.zeroValue3
  t4 := Tryd.underlying4
  a4 := Tryd.isAgg4
  z4 := Tryd.sizeOf4
  v4 := Tryd.zeroValue4
  t5 := Tryd.underlying5
  a5 := Tryd.isAgg5
  z5 := Tryd.sizeOf5
  v5 := Tryd.zeroValue5
  t9 := Tryd.underlying9
  a9 := Tryd.isAgg9
  z9 := Tryd.sizeOf9
  v9 := Tryd.zeroValue9
  t20 := Tryd.underlying20
  a20 := Tryd.isAgg20
  z20 := Tryd.sizeOf20
  v20 := Tryd.zeroValue20
  t37 := Tryd.underlying68
  a37 := Tryd.isAgg68
  z37 := Tryd.sizeOf68
  v37 := Tryd.zeroValue68
  t46 := Tryd.underlying77
  a46 := Tryd.isAgg77
  z46 := Tryd.sizeOf77
  v46 := Tryd.zeroValue77
  t51 := Tryd.underlying90
  a51 := Tryd.isAgg90
  z51 := Tryd.sizeOf90
  v51 := Tryd.zeroValue90
  t53 := Tryd.underlying56
  a53 := Tryd.isAgg56
  z53 := Tryd.sizeOf56
  v53 := Tryd.zeroValue56
  t171 := Tryd.underlying80
  a171 := Tryd.isAgg80
  z171 := Tryd.sizeOf80
  v171 := Tryd.zeroValue80
  t173 := Tryd.underlying82
  a173 := Tryd.isAgg82
  z173 := Tryd.sizeOf82
  v173 := Tryd.zeroValue82
  t212 := Tryd.underlying89
  a212 := Tryd.isAgg89
  z212 := Tryd.sizeOf89
  v212 := Tryd.zeroValue89
  t213 := Tryd.underlying91
  a213 := Tryd.isAgg91
  z213 := Tryd.sizeOf91
  t232 := Tryd.underlying94
  a232 := Tryd.isAgg94
  z232 := Tryd.sizeOf94
  v232 := Tryd.zeroValue94
  t233 := Tryd.underlying76
  a233 := Tryd.isAgg76
  z233 := Tryd.sizeOf76
  v233 := Tryd.zeroValue76
  g17 := by kernel_rfl
  g18 := by kernel_rfl
  g19 := by kernel_rfl
  i0 := by kernel_rfl
  i2 := by kernel_rfl
  i3 := by kernel_rfl
  i4 := by kernel_rfl
  i5 := by kernel_rfl
  i9 := by kernel_rfl
  i20 := by kernel_rfl
  i37 := by kernel_rfl
  i46 := by kernel_rfl
  i51 := by kernel_rfl
  i53 := by kernel_rfl
  i171 := by kernel_rfl
  i173 := by kernel_rfl
  i212 := by kernel_rfl
  i232 := by kernel_rfl
  i233 := by kernel_rfl
  m17 := by kernel_rfl
  m18 := by kernel_rfl
  m19 := by kernel_rfl }
open Go.RowKit Go.Sort Go.Lib in
theorem Tryd.strconv_Itoa (n : Int) (h0 : -9223372036854775808 ≤ n) (h1 : n ≤ 9223372036854775807) (w : World) (htab : Lib.TabIs Tryd.prog w "internal/strconv.uint64pow10" .u64 Lib.pow10Tab) :
    Calls Tryd.prog 41 #[.int .i64 n] w fun e w' => e = .returned (.string ⟨(Lib.itoa n).toArray⟩) ∧ ∃ k os, w' = grow (w.drewN k) os := Any.strconv_Itoa Tryd.laysM171 n h0 h1 w htab
end Go.Proofs
/- A property of worlds: the tables math/bits.deBruijn64tab and strconv's powers of ten lie in memory as their initialisers lay them. -/
namespace Go.Proofs.YtoobapkccogdhaaDoor.PX
open Go.RowKit Go.Proofs.YtoobapkccogdhaaDoorW.PrintWords
theorem var_below {P : Program} {w w1 : World} {n : String} {cs : Array Value} (h : w.var? P n = some cs) (hb : Below w.heap.size w w1) : w1.var? P n = some cs := by
  unfold World.var? at h ⊢
  rw [Option.bind_eq_some_iff] at h ⊢
  obtain ⟨g, hg, h⟩ := h
  refine ⟨g, hg, ?_⟩
  have hlt : g < w.heap.size := by
    by_cases hl : g < w.heap.size
    · exact hl
    · rw [Array.getElem?_eq_none (by omega)] at h; cases h
  rw [hb.block g hlt]
  exact h
def tab64 : List Int := Lib.deBruijn64tab.map fun (n : Nat) => (n : Int)
structure GW (w : World) : Prop where
  pow : Lib.TabIs Tryd.prog w "internal/strconv.uint64pow10" .u64 Lib.pow10Tab
  tab : Lib.TabIs Tryd.prog w "math/bits.deBruijn64tab" .u8 tab64
theorem GW.below {w w1 : World} (h : GW w) (hb : Below w.heap.size w w1) : GW w1 := ⟨var_below h.pow hb, var_below h.tab hb⟩
end Go.Proofs.YtoobapkccogdhaaDoor.PX
/- The tables math/bits.deBruijn64tab and strconv's powers of ten: what the row's condition on them gives the walks. -/
namespace Go.Proofs.YtoobapkccogdhaaDoor.PX
open Go.ChangeShapes Go.WideShapes Go.RowKit
open Go.Proofs.YtoobapkccogdhaaDoorW.PrintWords
set_option linter.unusedVariables false
theorem gBruijn : Tryd.prog.globalNamed "math/bits.deBruijn64tab" = some 0 := by kernel_rfl
theorem tBruijn : (Tryd.prog.globals[0]?).map (·.type) = some 76 := by kernel_rfl
theorem dBruijn : (Rows.laid_math_bits_deBruijn64tab : DataW Unit) = Lib.tabData .u8 tab64 := by kernel_rfl
theorem gPow : Tryd.prog.globalNamed "internal/strconv.uint64pow10" = some 1 := by kernel_rfl
theorem tPow : (Tryd.prog.globals[1]?).map (·.type) = some 89 := by kernel_rfl
theorem dPow : (Rows.laid_internal_strconv_uint64pow10 : DataW Unit) = Lib.tabData .u64 Lib.pow10Tab := by kernel_rfl
set_option maxRecDepth 100000 in
theorem gw_of_laid {W : World} (h : laidMetH Tryd.prog [("math/bits.deBruijn32tab", Rows.laid_math_bits_deBruijn32tab), ("math/bits.deBruijn64tab", Rows.laid_math_bits_deBruijn64tab), ("internal/strconv.uint64pow10", Rows.laid_internal_strconv_uint64pow10)] W) : GW W := by
  have h2 := h.filter (fun x => x.1 == "math/bits.deBruijn64tab")
  have h3 : laidMetH Tryd.prog [("math/bits.deBruijn64tab", Rows.laid_math_bits_deBruijn64tab)] W := h2
  rw [MakeChecks.laidMetH_plain _ _ _ (by kernel_rfl), dBruijn] at h3
  have h4 := h.filter (fun x => x.1 == "internal/strconv.uint64pow10")
  have h5 : laidMetH Tryd.prog [("internal/strconv.uint64pow10", Rows.laid_internal_strconv_uint64pow10)] W := h4
  rw [MakeChecks.laidMetH_plain _ _ _ (by kernel_rfl), dPow] at h5
  exact ⟨Lib.tabIs_of_head gPow tPow Tryd.underlying89 Tryd.underlying56 (by kernel_rfl) (by kernel_rfl) h5, Lib.tabIs_of_head gBruijn tBruijn Tryd.underlying76 Tryd.underlying5 (by kernel_rfl) (by kernel_rfl) h3⟩
end Go.Proofs.YtoobapkccogdhaaDoor.PX
/- Arguments opened: what a reading of a type gives in the words of the printed contracts (Kd.K, Kd.C). Of no program. -/
namespace Go.Proofs.YtoobapkccogdhaaDoor.PX
open Go.RowKit Go.Proofs.YtoobapkccogdhaaDoorW.PrintWords
set_option linter.unusedVariables false
/-- A relation between what a value stands for and what it reads as. -/
abbrev Rd (α : Type) := (H : Type) → α → DataW H → Prop
abbrev RdF (α : Type) := (H : Type) → α → List (DataW H) → Prop
structure OpensAt (N : Nat) (P : Program) {α : Type} (d : Kd α) (t : TypeId) (q : Rd α) : Prop where
  sz : d.sz = P.cellsOf t
  op : ∀ {H : Type} {enc : TypeId × Value → H} {w : World} {base : Nat} {spare : Nat → Bool} {held : Bool} {fuel : Nat} {cs : List Value} {y : DataW H × List MemPlace}, fuel ≤ N →
    DataW.trod enc P w base spare held fuel t cs = some y → ∃ x, d.K w x cs ∧ q H x y.1
structure OpensF (N : Nat) (P : Program) {α : Type} (d : Kd α) (fs : List Field) (off : Nat) (q : RdF α) : Prop where
  op : ∀ {H : Type} {enc : TypeId × Value → H} {w : World} {base : Nat} {spare : Nat → Bool} {held : Bool} {n : Nat} {cs : List Value} {ys : List (DataW H × List MemPlace)}, n ≤ N → cs.length = off + d.sz → ys.length = fs.length →
    (∀ (j : Nat) (f : Field), fs[j]? = some f → DataW.trod enc P w base spare held n f.type ((cs.drop f.offset).take (P.cellsOf f.type)) = ys[j]?) → ∃ x, d.K w x (cs.drop off) ∧ q H x (ys.map (·.1))
def rInt (k : IntKind) : Rd Int := fun _ n y => y = .lit (.int k n) ∧ (Lit.int k n).wf = true
def rBool : Rd Bool := fun _ b y => y = .lit (.bool b)
def rSl {α : Type} (q : Rd α) : Rd (List α) := fun H xs y => (xs = [] ∧ y = .nil) ∨ ∃ es rest, y = .slice es rest ∧ es.length = xs.length ∧ ∀ (i : Nat) (x : α) (e : DataW H), xs[i]? = some x → es[i]? = some e → q H x e
def rOne {α : Type} (q : Rd α) : RdF α := fun H x ys => ∃ y, ys = [y] ∧ q H x y
def rCons {α β : Type} (q : Rd α) (r : RdF β) : RdF (α × β) := fun H x ys => ∃ y zs, ys = y :: zs ∧ q H x.1 y ∧ r H x.2 zs
def rSt {α β : Type} (f : β → α) (q : RdF α) : Rd β := fun H x y => ∃ ys, y = .agg ys ∧ q H (f x) ys
section
variable {N : Nat} {P : Program}
theorem OpensAt.zero {α : Type} {d : Kd α} {t : TypeId} {q : Rd α} (hsz : d.sz = P.cellsOf t) : OpensAt 0 P d t q := ⟨hsz, fun {H enc w base spare held fuel cs y} hf h => by
  obtain rfl : fuel = 0 := by omega
  simp [DataW.trod] at h⟩
theorem OpensAt.int {t : TypeId} {k : IntKind} (ht : P.underlying t = some (.int k)) (hc : P.cellsOf t = 1) : OpensAt N P (Kd.int k) t (rInt k) := ⟨hc.symm, fun hf h => by
  obtain ⟨n, rfl, rfl, hw⟩ := DataW.trod_int ht h
  exact ⟨n, rfl, rfl, hw⟩⟩
theorem OpensAt.bool {t : TypeId} (ht : P.underlying t = some .bool) (hc : P.cellsOf t = 1) : OpensAt N P Kd.bool t rBool := ⟨hc.symm, fun hf h => by
  obtain ⟨b, rfl, rfl⟩ := DataW.trod_bool ht h
  exact ⟨b, rfl, rfl⟩⟩
theorem choose_list {α β : Type} {n : Nat} {R : Nat → α → Prop} (h : ∀ i, i < n → ∃ x, R i x) : ∃ xs : List α, xs.length = n ∧ ∀ i x, xs[i]? = some x → R i x := by
  induction n with
  | zero => exact ⟨[], rfl, fun i x h => by simp at h⟩
  | succ n ih =>
    obtain ⟨xs, hl, hx⟩ := ih (fun i hi => h i (by omega))
    obtain ⟨y, hy⟩ := h n (by omega)
    refine ⟨xs ++ [y], by simp [hl], fun i x hi => ?_⟩
    by_cases hlt : i < xs.length
    · rw [List.getElem?_append_left hlt] at hi
      exact hx i x hi
    · rw [List.getElem?_append_right (by omega)] at hi
      have : i - xs.length = 0 := by
        by_cases h0 : i - xs.length = 0
        · exact h0
        · rw [List.getElem?_eq_none (by simp; omega)] at hi
          cases hi
      rw [this] at hi
      have he : i = n := by omega
      subst he
      injection hi with hi
      subst hi
      exact hy
/-- A slice, its elements opened. -/
theorem OpensAt.sl {α : Type} {d : Kd α} {t e : TypeId} {q : Rd α} (ht : P.underlying t = some (.slice e)) (hc : P.cellsOf t = 1) (hd : OpensAt N P d e q) : OpensAt N P (Kd.slice e d) t (rSl q) := ⟨hc.symm, fun {H enc w base spare held fuel cs y} hf h => by
  rcases DataW.trod_slice ht h with ⟨rfl, rfl⟩ | ⟨a, len, cap, elems, rest, n, rfl, rfl, rfl, hb, hl, hm, hlen, hel, _, _⟩
  · exact ⟨[], ⟨none, 0, rfl, Nat.le_refl _, rfl, by simp, fun h => absurd h (by simp)⟩, .inl ⟨rfl, rfl⟩⟩
  · have hall : ∀ i, i < len → ∃ x : α × List Value × DataW H, w.cells? base (a.add (i * P.cellsOf e)) (P.cellsOf e) = some x.2.1 ∧ d.K w x.1 x.2.1 ∧ q H x.1 x.2.2 ∧ (elems[i]?).map (·.1) = some x.2.2 := by
      intro i hi
      have h1 := hel i hi
      rw [List.getElem?_eq_getElem (by omega)] at h1
      obtain ⟨cs', hc1, hc2⟩ := Option.bind_eq_some_iff.mp h1
      obtain ⟨x, hx, hq⟩ := hd.op (by omega) hc2
      exact ⟨(x, cs', elems[i].1), hc1, hx, hq, by rw [List.getElem?_eq_getElem (by omega)]; rfl⟩
    obtain ⟨xs, hxl, hxs⟩ := choose_list (β := Nat) hall
    refine ⟨xs.map (·.1), ⟨some a, cap, by simp [hxl], by simp [hxl, hl], by simp, by simp only [maxLen] at hm; simp; omega, fun h0 => ⟨a, rfl, fun j p hj => ?_⟩⟩, .inr ⟨_, _, rfl, by simp [hlen, hxl], fun i x e0 hi he => ?_⟩⟩
    · rw [List.getElem?_map] at hj
      obtain ⟨x, hx, rfl⟩ := Option.map_eq_some_iff.mp hj
      obtain ⟨h1, h2, h3, _⟩ := hxs j x hx
      obtain ⟨_, hcl, hat⟩ := World.cells?_some h1
      refine ⟨x.2.1, by rw [hd.sz]; exact hcl, h2, fun i u hu => ?_⟩
      have hil : i < P.cellsOf e := by rw [← hcl]; exact (List.getElem?_eq_some_iff.1 hu).1
      rw [hd.sz, ← Go.Deep.add_add, hat i hil, hu]
    · rw [List.getElem?_map] at hi he
      obtain ⟨x1, hx, rfl⟩ := Option.map_eq_some_iff.mp hi
      obtain ⟨_, _, h3, h4⟩ := hxs i x1 hx
      rw [h4] at he
      injection he with he
      subst he
      exact h3⟩
theorem OpensF.one {α : Type} {d : Kd α} {f : Field} {off : Nat} {q : Rd α} (hd : OpensAt N P d f.type q) (ho : f.offset = off) : OpensF N P d [f] off (rOne q) := ⟨fun {H enc w base spare held n cs ys} hn hl hy h => by
  match ys, hy with
  | [y], _ =>
    have h0 := h 0 f rfl
    rw [ho, List.take_of_length_le (by rw [List.length_drop, ← hd.sz]; omega)] at h0
    obtain ⟨x, hx, hq⟩ := hd.op hn h0
    exact ⟨x, hx, _, rfl, hq⟩⟩
theorem OpensF.cons {α β : Type} {d : Kd α} {d2 : Kd β} {f : Field} {fs : List Field} {off : Nat} {q : Rd α} {r : RdF β} (hd : OpensAt N P d f.type q) (ho : f.offset = off) (hr : OpensF N P d2 fs (off + d.sz) r) : OpensF N P (Kd.pair d d2) (f :: fs) off (rCons q r) := ⟨fun {H enc w base spare held n cs ys} hn hl hy h => by
  match ys, hy with
  | y :: zs, hy =>
    have h0 := h 0 f rfl
    rw [ho, ← hd.sz] at h0
    obtain ⟨x, hx, hq⟩ := hd.op hn h0
    obtain ⟨x2, hx2, hq2⟩ := hr.op (w := w) (enc := enc) (base := base) (spare := spare) (held := held) (cs := cs) (ys := zs) hn (by rw [hl]; show off + (d.sz + d2.sz) = _; omega) (by simpa using hy) (fun j f1 hj => h (j + 1) f1 hj)
    refine ⟨(x, x2), ⟨(cs.drop off).take d.sz, cs.drop (off + d.sz), ?_, hx, hx2⟩, y.1, zs.map (·.1), rfl, hq, hq2⟩
    rw [← List.drop_drop]
    exact (List.take_append_drop _ _).symm⟩
/-- A struct: N goes down by one at its fields. -/
theorem OpensAt.st {α β : Type} {d : Kd α} {t : TypeId} {fs : Array Field} {q : RdF α} (f : β → α) (g : α → β) (hg : ∀ x, f (g x) = x) (ht : P.underlying t = some (.struct fs)) (hc : d.sz = P.cellsOf t) (hF : OpensF N P d fs.toList 0 q) : OpensAt (N + 1) P (Kd.iso d f) t (rSt f q) := ⟨hc, fun {H enc w base spare held fuel cs y} hf h => by
  obtain ⟨xs, n, rfl, rfl, hl, hn, hi⟩ := DataW.trod_struct ht h
  obtain ⟨x, hx, hq⟩ := hF.op (w := w) (enc := enc) (base := base) (spare := spare) (held := held) (cs := cs) (ys := xs) (n := n) (by omega) (by rw [hl, ← hc]; omega) (by simpa using hn) (fun j f1 hj => hi j f1 (by simpa using hj))
  refine ⟨g x, ?_, _, rfl, ?_⟩
  · show d.K w (f (g x)) cs
    rw [hg]
    simpa using hx
  · rw [hg]; exact hq⟩
/-- An argument that is a slice. -/
theorem open_arg_slice {α : Type} {d : Kd α} {t e : TypeId} {q : Rd α} (ht : P.underlying t = some (.slice e)) (hc : P.cellsOf t = 1) (hd : ∀ M, OpensAt M P d e q)
    {H : Type} {enc : TypeId × Value → H} {w : World} {base b0 : Nat} {spare : Nat → Bool} {held : Bool} {r : Reach} {v : Value} {y : DataW H} {p : List MemPlace} (hv : Value.okWide P w r b0 t v) (h : DataW.Trod enc P w base spare held t v y p) :
    ∃ (A : Option Addr) (c : Nat) (xs : List α), v = .slice A xs.length c ∧ xs.length ≤ c ∧ d.C w A xs.length xs ∧ rSl q H xs y := by
  obtain ⟨A, len, cap, rfl⟩ := WideShapes.okWide_slice ht hv
  obtain ⟨fuel, hf⟩ := h
  obtain ⟨xs, ⟨A', c', he, hle, hC⟩, hq⟩ := (OpensAt.sl ht hc (hd fuel)).op (Nat.le_refl _) hf
  simp only [Value.cells] at he
  have he' : Value.slice A len cap = Value.slice A' xs.length c' := by simpa using he
  injection he' with h1 h2 h3
  subst h1 h2 h3
  exact ⟨_, _, xs, rfl, hle, hC, hq⟩
end
end Go.Proofs.YtoobapkccogdhaaDoor.PX
-- Written by a program of this session (wip/xprint.py, over the kit's print tool). Lean checks it.
namespace Go.Proofs.YtoobapkccogdhaaDoor.PX
open Go.RowKit Go.Proofs.YtoobapkccogdhaaDoorW.PrintWords Go.Proofs.YtoobapkccogdhaaDoorW.PrintLast Go.Proofs.YtoobapkccogdhaaDoorW.PrintMore
attribute [local go_sem] max2_int min2_int max_two min_two max_three min_three max_four min_four   -- for this text's walks alone
set_option linter.unusedVariables false
set_option linter.unusedSimpArgs false



def errW : Option Int → Value
  | none => .nilIface
  | some c => .iface 0 (.int .i64 c)
theorem errW_none : errW none = .nilIface := rfl
theorem errW_some (c : Int) : errW (some c) = .iface 0 (.int .i64 c) := rfl

theorem info3 : (Tryd.prog.info? 3).map (fun i => (i.zero, i.size, i.bytes)) = some (some (.int .i64 0), 1, 8) := by kernel_rfl
theorem info56 : (Tryd.prog.info? 56).map (fun i => (i.zero, i.size, i.bytes)) = some (some (.int .u64 0), 1, 8) := by kernel_rfl
-- the values' own types
/-! #### struct type 27 -/
/-! #### struct type 49 -/
end Go.Proofs.YtoobapkccogdhaaDoor.PX
/- This seat's types, opened: rows of whole numbers; edits. -/
namespace Go.Proofs.YtoobapkccogdhaaDoor.PX
open Go.RowKit Go.Proofs.YtoobapkccogdhaaDoorW.PrintWords
set_option linter.unusedVariables false
theorem openI (M : Nat) : OpensAt M Tryd.prog (Kd.int .i64) 3 (rInt .i64) := OpensAt.int Tryd.underlying3 (by kernel_rfl)
theorem rSl_all {α : Type} {q : Rd α} {H : Type} {xs : List α} {y : DataW H} (h : rSl q H xs y) : ∀ x ∈ xs, ∃ e, q H x e := by
  intro x hx
  rcases h with ⟨rfl, _⟩ | ⟨es, rest, rfl, hl, hi⟩
  · cases hx
  · obtain ⟨i, hlt, rfl⟩ := List.getElem_of_mem hx
    exact ⟨es[i]'(by omega), hi i _ _ (List.getElem?_eq_getElem hlt) (List.getElem?_eq_getElem (by omega))⟩
theorem wfI {α : Type} {q : Rd α} {H : Type} {x : α} {y : DataW H} (h : q H x y) : True := trivial
theorem u8_bd {v : Int} (h : (Lit.int .u8 v).wf = true) : 0 ≤ v ∧ v ≤ 255 := by
  have h1 : IntKind.u8.min = 0 := by decide
  have h2 : IntKind.u8.max = 255 := by decide
  simp only [Lit.wf, h1, h2, Bool.and_eq_true, decide_eq_true_eq] at h
  exact h
end Go.Proofs.YtoobapkccogdhaaDoor.PX
/- The elements of a set of words, plain: the ones of a word in ascending order. -/
namespace Go.Proofs.YtoobapkccogdhaaDoor.PX
/-- The places of the ones of a word. -/
def onesF (w : Nat) : List Nat := (List.range 64).filter fun i => w.testBit i
theorem ones_zero : onesF 0 = [] := by decide
theorem ctz_form (w : Nat) (h0 : w ≠ 0) (h : w < 2 ^ 64) : ∃ m, w = 2 ^ Lib.ctz 64 w * (2 * m + 1) ∧ Lib.ctz 64 w < 64 := by
  have e : Lib.ctz 64 w = Lib.ctzFrom 64 w := by simp [Lib.ctz, h0]
  rw [e]
  exact Lib.ctzFrom_spec 64 w (by omega) h
theorem bit_of_form (c m j : Nat) : (2 ^ c * (2 * m + 1)).testBit j = if j < c then false else (2 * m + 1).testBit (j - c) := by
  have h := Nat.testBit_two_pow_mul_add (2 * m + 1) (b := 0) (i := c) (Nat.two_pow_pos c) j
  rw [Nat.add_zero] at h
  rw [h]
  simp
theorem bit_of_pred (c m j : Nat) : (2 ^ c * (2 * m + 1) - 1).testBit j = if j < c then (2 ^ c - 1).testBit j else (2 * m).testBit (j - c) := by
  have hp := Nat.two_pow_pos c
  have e : 2 ^ c * (2 * m + 1) - 1 = 2 ^ c * (2 * m) + (2 ^ c - 1) := by
    rw [Nat.mul_add, Nat.mul_one]
    omega
  rw [e]
  exact Nat.testBit_two_pow_mul_add (2 * m) (b := 2 ^ c - 1) (i := c) (by omega) j
theorem bit_low (w : Nat) (h0 : w ≠ 0) (h : w < 2 ^ 64) (j : Nat) (hj : j < Lib.ctz 64 w) : w.testBit j = false := by
  obtain ⟨m, hm, hc⟩ := ctz_form w h0 h
  generalize Lib.ctz 64 w = c at *
  rw [hm, bit_of_form, if_pos hj]
theorem bit_at (w : Nat) (h0 : w ≠ 0) (h : w < 2 ^ 64) : w.testBit (Lib.ctz 64 w) = true := by
  obtain ⟨m, hm, hc⟩ := ctz_form w h0 h
  generalize Lib.ctz 64 w = c at *
  rw [hm, bit_of_form, if_neg (by omega), Nat.sub_self]
  simp
theorem bit_step (w : Nat) (h0 : w ≠ 0) (h : w < 2 ^ 64) (j : Nat) : (w &&& (w - 1)).testBit j = if j = Lib.ctz 64 w then false else w.testBit j := by
  obtain ⟨m, hm, hc⟩ := ctz_form w h0 h
  generalize Lib.ctz 64 w = c at *
  rw [hm, Nat.testBit_and, bit_of_form, bit_of_pred]
  by_cases h1 : j < c
  · rw [if_pos h1, if_pos h1, if_neg (by omega)]
    rfl
  · rw [if_neg h1, if_neg h1]
    by_cases h2 : j = c
    · rw [if_pos h2, h2, Nat.sub_self]
      simp
    · rw [if_neg h2]
      obtain ⟨t, ht⟩ : ∃ t, j - c = t + 1 := ⟨j - c - 1, by omega⟩
      rw [ht, Nat.testBit_succ, Nat.testBit_succ, show (2 * m + 1) / 2 = m by omega, show 2 * m / 2 = m by omega, Bool.and_self]
theorem ones_step (w : Nat) (h0 : w ≠ 0) (h : w < 2 ^ 64) : onesF w = Lib.ctz 64 w :: onesF (w &&& (w - 1)) := by
  obtain ⟨m, hm, hc⟩ := ctz_form w h0 h
  have hr : List.range 64 = List.range (Lib.ctz 64 w) ++ (Lib.ctz 64 w :: List.range' (Lib.ctz 64 w + 1) (63 - Lib.ctz 64 w)) := by
    rw [List.range_eq_range', List.range_eq_range']
    have e1 : List.range' 0 64 = List.range' 0 (Lib.ctz 64 w) ++ List.range' (0 + Lib.ctz 64 w) (64 - Lib.ctz 64 w) := by
      have := List.range'_append (s := 0) (m := Lib.ctz 64 w) (n := 64 - Lib.ctz 64 w) (step := 1)
      rw [Nat.one_mul] at this
      rw [this]
      congr 1
      omega
    rw [e1, Nat.zero_add, show 64 - Lib.ctz 64 w = (63 - Lib.ctz 64 w) + 1 by omega, List.range'_succ]
  unfold onesF
  rw [hr, List.filter_append, List.filter_append, List.filter_cons, List.filter_cons]
  have a1 : (List.range (Lib.ctz 64 w)).filter (fun i => w.testBit i) = [] := by
    rw [List.filter_eq_nil_iff]
    intro i hi
    rw [bit_low w h0 h i (List.mem_range.1 hi)]
    decide
  have a2 : (List.range (Lib.ctz 64 w)).filter (fun i => (w &&& (w - 1)).testBit i) = [] := by
    rw [List.filter_eq_nil_iff]
    intro i hi
    have := List.mem_range.1 hi
    rw [bit_step w h0 h, if_neg (by omega), bit_low w h0 h i this]
    decide
  rw [a1, a2, bit_at w h0 h, bit_step w h0 h, if_pos rfl, if_pos rfl, if_neg (by decide), List.nil_append, List.nil_append]
  congr 1
  apply List.filter_congr
  intro i hi
  have := (List.mem_range'_1.1 hi).1
  rw [bit_step w h0 h, if_neg (by omega)]
/-- The elements that words stand for, the first word being number i. -/
def elF : Nat → List Int → List Int
  | _, [] => []
  | i, w :: ws => (onesF w.toNat).map (fun b => ((i * 64 + b : Nat) : Int)) ++ elF (i + 1) ws
/-- Words are numbers of 64 bits. -/
def okW (l : List Int) : Prop := ∀ x ∈ l, 0 ≤ x ∧ x < 18446744073709551616
theorem and_lt (w : Nat) (h0 : w ≠ 0) : w &&& (w - 1) < w := Nat.lt_of_le_of_lt (Nat.and_le_right) (by omega)
theorem ctz_lt (w : Nat) (h0 : w ≠ 0) (h : w < 2 ^ 64) : Lib.ctz 64 w < 64 := by
  obtain ⟨m, hm, hc⟩ := ctz_form w h0 h
  exact hc
/-- The number of words without the trailing zeros among the first n. -/
def trimN (l : List Int) : Nat → Nat
  | 0 => 0
  | n + 1 => if l.getD n 0 = 0 then trimN l n else n + 1
theorem trimN_le (l : List Int) : ∀ n, trimN l n ≤ n
  | 0 => Nat.le_refl _
  | n + 1 => by
    unfold trimN
    split
    · have := trimN_le l n; omega
    · exact Nat.le_refl _
end Go.Proofs.YtoobapkccogdhaaDoor.PX
/- The ones of a word, counted byte by byte. Of no program. -/
namespace Go.Proofs.YtoobapkccogdhaaDoor.PX
/-- The ones among the first n places. -/
def cntN (n w : Nat) : Nat := ((List.range n).filter fun i => w.testBit i).length
def f1 (M a : Nat) : Nat := (a / 2 &&& M) + (a &&& M)
def H : Nat → Nat → Nat
  | 0, _ => 0
  | k + 1, w => 256 * H k (w / 256) + cntN 8 (w % 256)
end Go.Proofs.YtoobapkccogdhaaDoor.PX
/- Sets of words, plain: which elements they have; two lists in order with the same elements are one; trimmed words. Of no program. -/
namespace Go.Proofs.YtoobapkccogdhaaDoor.PX
/-- A list in strictly ascending order, of elements from 0 to 65535. -/
def Srt (l : List Int) : Prop := l.Pairwise (· < ·) ∧ ∀ x ∈ l, 0 ≤ x ∧ x ≤ 65535
theorem asc_eq : ∀ (a b : List Int), a.Pairwise (· < ·) → b.Pairwise (· < ·) → (∀ x, x ∈ a ↔ x ∈ b) → a = b
  | [], [], _, _, _ => rfl
  | [], y :: b, _, _, h => absurd ((h y).2 (by simp)) (by simp)
  | x :: a, [], _, _, h => absurd ((h x).1 (by simp)) (by simp)
  | x :: a, y :: b, ha, hb, h => by
    have ha' := List.pairwise_cons.1 ha
    have hb' := List.pairwise_cons.1 hb
    have hxy : x = y := by
      rcases List.mem_cons.1 ((h x).1 (by simp)) with h1 | h1
      · exact h1
      · rcases List.mem_cons.1 ((h y).2 (by simp)) with h2 | h2
        · exact h2.symm
        · have := hb'.1 x h1; have := ha'.1 y h2; omega
    subst hxy
    congr 1
    refine asc_eq a b ha'.2 hb'.2 fun z => ⟨fun hz => ?_, fun hz => ?_⟩
    · rcases List.mem_cons.1 ((h z).1 (by simp [hz])) with h1 | h1
      · subst h1; have := ha'.1 z hz; omega
      · exact h1
    · rcases List.mem_cons.1 ((h z).2 (by simp [hz])) with h1 | h1
      · subst h1; have := hb'.1 z hz; omega
      · exact h1
theorem srt_eq {a b : List Int} (ha : Srt a) (hb : Srt b) (h : ∀ x, x ∈ a ↔ x ∈ b) : a = b := asc_eq a b ha.1 hb.1 h
/-- Place n of the words. -/
def bitAt (ws : List Int) (n : Nat) : Bool := (ws.getD (n / 64) 0).toNat.testBit (n % 64)
theorem mem_ones (w b : Nat) : b ∈ onesF w ↔ b < 64 ∧ w.testBit b = true := by
  unfold onesF
  rw [List.mem_filter, List.mem_range]
theorem mem_elF : ∀ (ws : List Int) (i : Nat) (x : Int), x ∈ elF i ws ↔ ∃ n : Nat, x = (n : Int) ∧ i * 64 ≤ n ∧ n / 64 - i < ws.length ∧ bitAt ws (n - i * 64) = true
  | [], i, x => by
    rw [elF]
    constructor
    · intro h; cases h
    · rintro ⟨n, _, _, h, _⟩; simp at h
  | w :: ws, i, x => by
    rw [elF, List.mem_append, List.mem_map, mem_elF ws (i + 1) x]
    constructor
    · rintro (⟨b, hb, rfl⟩ | ⟨n, rfl, h1, h2, h3⟩)
      · obtain ⟨hb1, hb2⟩ := (mem_ones _ _).1 hb
        refine ⟨i * 64 + b, rfl, by omega, by rw [List.length_cons]; omega, ?_⟩
        unfold bitAt
        rw [show i * 64 + b - i * 64 = b by omega, show b / 64 = 0 by omega, show b % 64 = b by omega]
        exact hb2
      · refine ⟨n, rfl, by omega, by rw [List.length_cons]; omega, ?_⟩
        unfold bitAt at h3 ⊢
        rw [show (n - i * 64) / 64 = (n - (i + 1) * 64) / 64 + 1 by omega, show (n - i * 64) % 64 = (n - (i + 1) * 64) % 64 by omega]
        exact h3
    · rintro ⟨n, rfl, h1, h2, h3⟩
      unfold bitAt at h3
      by_cases hc : n / 64 = i
      · left
        rw [show (n - i * 64) / 64 = 0 by omega] at h3
        refine ⟨(n - i * 64) % 64, (mem_ones _ _).2 ⟨Nat.mod_lt _ (by decide), h3⟩, ?_⟩
        have : i * 64 + (n - i * 64) % 64 = n := by omega
        rw [this]
      · right
        refine ⟨n, rfl, by omega, by rw [List.length_cons] at h2; omega, ?_⟩
        unfold bitAt
        rw [show (n - i * 64) / 64 = (n - (i + 1) * 64) / 64 + 1 by omega, show (n - i * 64) % 64 = (n - (i + 1) * 64) % 64 by omega] at h3
        exact h3
theorem bitAt_out (ws : List Int) (n : Nat) (h : ws.length ≤ n / 64) : bitAt ws n = false := by
  unfold bitAt
  rw [List.getD_eq_getElem?_getD, List.getElem?_eq_none h]
  simp
/-- The elements of words. -/
theorem mem_el (ws : List Int) (x : Int) : x ∈ elF 0 ws ↔ 0 ≤ x ∧ bitAt ws x.toNat = true := by
  rw [mem_elF]
  constructor
  · rintro ⟨n, rfl, _, _, h⟩
    rw [Nat.zero_mul, Nat.sub_zero] at h
    exact ⟨by omega, by rw [Int.toNat_natCast]; exact h⟩
  · rintro ⟨h0, h⟩
    refine ⟨x.toNat, by omega, by omega, ?_, by rw [Nat.zero_mul, Nat.sub_zero]; exact h⟩
    rw [Nat.sub_zero]
    apply Nat.lt_of_not_le
    intro hl
    rw [bitAt_out ws _ hl] at h
    cases h
theorem elF_asc : ∀ (ws : List Int) (i : Nat), (elF i ws).Pairwise (· < ·)
  | [], i => by rw [elF]; exact List.Pairwise.nil
  | w :: ws, i => by
    rw [elF, List.pairwise_append]
    refine ⟨?_, elF_asc ws (i + 1), ?_⟩
    · rw [List.pairwise_map]
      have h : (onesF w.toNat).Pairwise (· < ·) := List.Pairwise.filter _ List.pairwise_lt_range
      exact h.imp (fun h => by omega)
    · intro x hx y hy
      obtain ⟨b, hb, rfl⟩ := List.mem_map.1 hx
      have hb1 := ((mem_ones _ _).1 hb).1
      obtain ⟨n, rfl, h1, _⟩ := (mem_elF _ _ _).1 hy
      omega
/-- Words of a set: of 64 bits, at most 1024, without trailing zeros. -/
structure Good (ws : List Int) : Prop where
  ok : okW ws
  len : ws.length ≤ 1024
  trim : trimN ws ws.length = ws.length
theorem srt_el {ws : List Int} (h : ws.length ≤ 1024) : Srt (elF 0 ws) := by
  refine ⟨elF_asc ws 0, fun x hx => ?_⟩
  obtain ⟨h0, hb⟩ := (mem_el ws x).1 hx
  refine ⟨h0, ?_⟩
  have : x.toNat / 64 < ws.length := by
    apply Nat.lt_of_not_le
    intro hl
    rw [bitAt_out ws _ hl] at hb
    cases hb
  omega
theorem getD_ok {ws : List Int} (h : okW ws) (i : Nat) : 0 ≤ ws.getD i 0 ∧ ws.getD i 0 < 18446744073709551616 := by
  rw [List.getD_eq_getElem?_getD]
  by_cases hi : i < ws.length
  · rw [List.getElem?_eq_getElem hi, Option.getD_some]
    exact h _ (List.getElem_mem hi)
  · rw [List.getElem?_eq_none (by omega), Option.getD_none]
    exact ⟨by omega, by omega⟩
/-- Trimming changes no element. -/
theorem trimN_zero (l : List Int) : ∀ (n i : Nat), trimN l n ≤ i → i < n → l.getD i 0 = 0
  | 0, i, _, h => absurd h (by omega)
  | n + 1, i, h1, h2 => by
    unfold trimN at h1
    split at h1
    · by_cases hi : i = n
      · rw [hi]; assumption
      · exact trimN_zero l n i h1 (by omega)
    · omega
theorem trimN_take (l : List Int) : ∀ (n m : Nat), n ≤ m → trimN (l.take m) n = trimN l n
  | 0, m, h => rfl
  | n + 1, m, h => by
    have e : (l.take m).getD n 0 = l.getD n 0 := by
      rw [List.getD_eq_getElem?_getD, List.getD_eq_getElem?_getD, List.getElem?_take, if_pos (by omega)]
    unfold trimN
    rw [e, trimN_take l n m (by omega)]
theorem trimN_idem (l : List Int) : ∀ n, trimN l (trimN l n) = trimN l n
  | 0 => rfl
  | n + 1 => by
    by_cases h : l.getD n 0 = 0
    · have e : trimN l (n + 1) = trimN l n := by rw [trimN, if_pos h]
      rw [e]; exact trimN_idem l n
    · have e : trimN l (n + 1) = n + 1 := by rw [trimN, if_neg h]
      rw [e, e]
theorem trim_good {l : List Int} (hok : okW l) (hlen : l.length ≤ 1024) : Good (l.take (trimN l l.length)) ∧ ∀ n, bitAt (l.take (trimN l l.length)) n = bitAt l n := by
  have hle := trimN_le l l.length
  have hl : (l.take (trimN l l.length)).length = trimN l l.length := by rw [List.length_take]; omega
  refine ⟨⟨fun x hx => hok x (List.mem_of_mem_take hx), by rw [hl]; omega, ?_⟩, fun n => ?_⟩
  · rw [hl, trimN_take l _ _ (Nat.le_refl _), trimN_idem]
  · have e : (l.take (trimN l l.length)).getD (n / 64) 0 = l.getD (n / 64) 0 := by
      rw [List.getD_eq_getElem?_getD, List.getD_eq_getElem?_getD, List.getElem?_take]
      split
      · rfl
      · by_cases hi : n / 64 < l.length
        · have := trimN_zero l l.length (n / 64) (by omega) hi
          rw [List.getD_eq_getElem?_getD] at this
          rw [this]; rfl
        · rw [List.getElem?_eq_none (by omega)]
    unfold bitAt
    rw [e]
end Go.Proofs.YtoobapkccogdhaaDoor.PX
/- Small words on 'with enough rounds' (Ev), lists read by whole numbers, and wraps. Of no program. -/
namespace Go.Proofs.YtoobapkccogdhaaDoor.PX
open Go.RowKit Go.Proofs.YtoobapkccogdhaaDoorW.PrintWords
theorem Ev.pos {α : Type} {c : Prop} [Decidable c] {g f : Nat → Option α} {r : α} (h : c) (k : Ev g r) : Ev (fun n => if c then g n else f n) r := by
  obtain ⟨K, hK⟩ := k
  exact ⟨K, fun n hn => (if_pos h).trans (hK n hn)⟩
theorem Ev.neg {α : Type} {c : Prop} [Decidable c] {g f : Nat → Option α} {r : α} (h : ¬ c) (k : Ev f r) : Ev (fun n => if c then g n else f n) r := by
  obtain ⟨K, hK⟩ := k
  exact ⟨K, fun n hn => (if_neg h).trans (hK n hn)⟩
theorem Ev.someb {α β : Type} {a : α} {f : Nat → α → Option β} {r : β} (k : Ev (fun n => f n a) r) : Ev (fun n => (some a).bind (f n)) r := k
theorem Ev.const {α β : Type} {c : Option α} {a : α} {f : Nat → α → Option β} {r : β} (h : c = some a) (k : Ev (fun n => f n a) r) : Ev (fun n => c.bind (f n)) r := by
  rw [h]; exact k
theorem Ev.cast {α : Type} {g : Nat → Option α} {r r' : α} (h : Ev g r) (e : r = r') : Ev g r' := e ▸ h
theorem wrap_nat {j n : Nat} (h : j < n) (hn : n ≤ 9223372036854775807) : wrap64 ((j : Int) + 1) = ((j + 1 : Nat) : Int) := by
  unfold wrap64
  omega
theorem wrap_id {i : Int} (h0 : -9223372036854775808 ≤ i) (h : i ≤ 9223372036854775807) : wrap64 i = i := by
  unfold wrap64
  omega
theorem getD_nat {α : Type} (xs : List α) (d : α) (j : Nat) (h : j < xs.length) : xs.getD ((j : Int).toNat) d = xs[j] := by
  rw [Int.toNat_natCast, List.getD_eq_getElem?_getD, List.getElem?_eq_getElem h, Option.getD_some]
theorem rd_nat (xs : List Int) (j : Nat) (h : j < xs.length) : rd xs (j : Int) = xs[j] := getD_nat xs 0 j h
theorem drop_cons {α : Type} (xs : List α) (j : Nat) (h : j < xs.length) : xs.drop j = xs[j] :: xs.drop (j + 1) := List.drop_eq_getElem_cons h
theorem take_snoc' {α : Type} (xs : List α) (j : Nat) (h : j < xs.length) : xs.take (j + 1) = xs.take j ++ [xs[j]] := List.take_succ_eq_append_getElem h
end Go.Proofs.YtoobapkccogdhaaDoor.PX
/- Words of a set under the program's operations: a place set, a place read, two words combined. Of no program. -/
namespace Go.Proofs.YtoobapkccogdhaaDoor.PX
open Go.RowKit Go.Proofs.YtoobapkccogdhaaDoorW.PrintWords Go.Proofs.YtoobapkccogdhaaDoorW.PrintMore
set_option linter.unusedVariables false
theorem shl_one (b : Nat) (hb : b < 64) : shl .u64 1 (b : Int) = ((2 ^ b : Nat) : Int) := by
  unfold shl
  have hp : 2 ^ b < 2 ^ 64 := Nat.pow_lt_pow_right (by decide) hb
  rw [IntKind.wrap_u64, Int.toNat_natCast, show min b IntKind.u64.bits = b from Nat.min_eq_left (by show b ≤ 64; omega), Int.one_mul]
  rw [show ((2 : Int) ^ b) = ((2 ^ b : Nat) : Int) by rw [Int.natCast_pow]; rfl]
  generalize 2 ^ b = x at hp ⊢
  omega
/-- Place b of a word that a place was set in. -/
theorem or_bit (w : Int) (h0 : 0 ≤ w) (h1 : w < 18446744073709551616) (b : Nat) (hb : b < 64) :
    0 ≤ Go.bits .or .u64 w (shl .u64 1 (b : Int)) ∧ Go.bits .or .u64 w (shl .u64 1 (b : Int)) < 18446744073709551616 ∧ ∀ i, (Go.bits .or .u64 w (shl .u64 1 (b : Int))).toNat.testBit i = (w.toNat.testBit i || decide (i = b)) := by
  obtain ⟨n, rfl⟩ := Int.eq_ofNat_of_zero_le h0
  have hp : 2 ^ b < 2 ^ 64 := Nat.pow_lt_pow_right (by decide) hb
  rw [shl_one b hb, bits_or_u64_nat n (2 ^ b) (by omega) (by omega)]
  have hx : n ||| 2 ^ b < 2 ^ 64 := Nat.or_lt_two_pow (by omega) hp
  refine ⟨by omega, by omega, fun i => ?_⟩
  rw [Int.toNat_natCast, Int.toNat_natCast, Nat.testBit_or, Nat.testBit_two_pow]
  congr 1
  exact decide_eq_decide.2 ⟨fun h => h.symm, fun h => h.symm⟩
/-- A place set in the words. -/
theorem set_place (ws : List Int) (hok : okW ws) (n : Nat) (hn : n / 64 < ws.length) (v : Int) (hv : v = Go.bits .or .u64 (ws.getD (n / 64) 0) (shl .u64 1 ((n % 64 : Nat) : Int))) :
    okW (ws.set (n / 64) v) ∧ ∀ m, bitAt (ws.set (n / 64) v) m = (bitAt ws m || decide (m = n)) := by
  obtain ⟨h0, h1⟩ := getD_ok hok (n / 64)
  obtain ⟨k0, k1, k2⟩ := or_bit _ h0 h1 (n % 64) (Nat.mod_lt _ (by decide))
  rw [← hv] at k0 k1 k2
  refine ⟨fun x hx => ?_, fun m => ?_⟩
  · rcases List.mem_or_eq_of_mem_set hx with h | h
    · exact hok x h
    · rw [h]; exact ⟨k0, k1⟩
  · unfold bitAt
    by_cases hm : m / 64 = n / 64
    · rw [hm, List.getD_eq_getElem?_getD, List.getElem?_set_self hn, Option.getD_some, k2]
      congr 1
      apply decide_eq_decide.2
      constructor
      · intro h; omega
      · intro h; omega
    · rw [List.getD_eq_getElem?_getD, List.getElem?_set_ne (fun h => hm h.symm), ← List.getD_eq_getElem?_getD]
      have : m ≠ n := fun h => hm (by rw [h])
      simp [this]
/-- Zero words behind. -/
theorem grow_zeros (ws : List Int) (hok : okW ws) (k : Nat) : okW (ws ++ List.replicate k 0) ∧ ∀ m, bitAt (ws ++ List.replicate k 0) m = bitAt ws m := by
  refine ⟨fun x hx => ?_, fun m => ?_⟩
  · rcases List.mem_append.1 hx with h | h
    · exact hok x h
    · rw [(List.mem_replicate.1 h).2]; omega
  · unfold bitAt
    have e : (ws ++ List.replicate k 0).getD (m / 64) 0 = ws.getD (m / 64) 0 := by
      rw [List.getD_eq_getElem?_getD, List.getD_eq_getElem?_getD]
      by_cases h : m / 64 < ws.length
      · rw [List.getElem?_append_left h]
      · rw [List.getElem?_append_right (by omega), List.getElem?_eq_none (l := ws) (by omega), List.getElem?_replicate]
        split <;> rfl
    rw [e]
end Go.Proofs.YtoobapkccogdhaaDoor.PX
-- Written by a program of this session (wip/xprint.py, over the kit's print tool). Lean checks it.
namespace Go.Proofs.YtoobapkccogdhaaDoor.PX
open Go.RowKit Go.Proofs.YtoobapkccogdhaaDoorW.PrintWords Go.Proofs.YtoobapkccogdhaaDoorW.PrintLast Go.Proofs.YtoobapkccogdhaaDoorW.PrintMore
attribute [local go_sem] max2_int min2_int max_two min_two max_three min_three max_four min_four   -- for this text's walks alone
set_option linter.unusedVariables false
set_option linter.unusedSimpArgs false

/-! ### bitset_valid: function 37 -/
def bitset_valid.f (a0 : Int) : Option (Bool) := if a0 ≥ 0 then (some (decide (a0 ≤ 65535))) else (some false)
set_option maxHeartbeats 8000000 in
set_option maxRecDepth 100000 in
theorem bitset_valid.calls (a0 : Int) (r : Bool) (w : World) (h : bitset_valid.f a0 = some r) :
    Calls Tryd.prog 37 #[.int .i64 a0] w fun e w' => e = .returned (.bool r) ∧ Drawn0 w w' := by
  have H : (if a0 ≥ 0 then (some (decide (a0 ≤ 65535))) else (some false)) = some r := h
  clear h
  by_cases c2 : a0 ≥ 0
  · rw [if_pos c2] at H
    have c2b0 : decide (0 ≤ a0) = true := decide_eq_true c2
    clear c2
    obtain rfl := Option.some.inj H
    go_enter Tryd.func37, Tryd.ntmps37
    go_wp2
    go_ret
    exact ⟨by first | rfl | (simp; done) | (simp [*]; done), by repeat (first | exact Drawn0.refl _ | apply Drawn0.step)⟩
  · rw [if_neg c2] at H
    have c2b0 : decide (0 ≤ a0) = false := decide_eq_false c2
    clear c2
    obtain rfl := Option.some.inj H
    go_enter Tryd.func37, Tryd.ntmps37
    go_wp2
    go_ret
    exact ⟨by first | rfl | (simp; done) | (simp [*]; done), by repeat (first | exact Drawn0.refl _ | apply Drawn0.step)⟩

end Go.Proofs.YtoobapkccogdhaaDoor.PX
/- bitset.trimmed: the words without trailing zeros, and that the call computes it. -/
namespace Go.Proofs.YtoobapkccogdhaaDoor.PX
open Go.RowKit Go.Proofs.YtoobapkccogdhaaDoorW.PrintWords Go.Proofs.YtoobapkccogdhaaDoorW.PrintLast Go.Proofs.YtoobapkccogdhaaDoorW.PrintMore
set_option linter.unusedVariables false
set_option linter.unusedSimpArgs false
def bitset_trimmed.f (l0 : List Int) : Option (List Int) := some (l0.take (trimN l0 l0.length))
set_option maxHeartbeats 2000000 in
set_option maxRecDepth 100000 in
theorem bitset_trimmed.calls (P0_ : Nat → Prop) (A0 : Option Addr) (c0 : Nat) (l0 : List Int) (r : List Int) (w : World) (hs0 : Kd.V (Kd.int .u64) 56 w w.heap.size (fun k_ => P0_ k_) (.slice A0 l0.length c0) l0) (h : bitset_trimmed.f l0 = some r) :
    Calls Tryd.prog 38 #[.slice A0 l0.length c0] w fun e w' => ∃ v0_ : Value, e = .returned (.agg #[v0_]) ∧ Kd.V (Kd.int .u64) 56 w' w.heap.size (fun k_ => (P0_ k_ ∨ w.heap.size ≤ k_)) v0_ r ∧ Below w.heap.size w w' := by
  obtain rfl := Option.some.inj h
  have HV := Aside0.mk hs0
  have HC : Aside0 (Kd.C (Kd.int .u64) (w.alloc (.cells #[.slice none 0 0] 27)) A0 l0.length l0) := ⟨Kd.C_alloc (Kd.V_reads' hs0).2.2 _⟩
  have HL : Aside0 (l0.length ≤ c0 ∧ l0.length ≤ 9223372036854775807) := ⟨(Kd.V_reads' hs0).2.1, (Kd.V_reads' hs0).2.2.2.1⟩
  clear hs0 h
  go_enter Tryd.func38, Tryd.ntmps38
  go_wp2
  go_loopg [3] (l0.length + 1) (fun kq v3 W => ∃ i : Int, v3 = .int .i64 i ∧ Aside0 (0 ≤ i ∧ i ≤ l0.length ∧ i < kq) ∧ Aside0 (trimN l0 i.toNat = trimN l0 l0.length) ∧ W = w.alloc (.cells #[.slice none 0 0] 27))
  case atStart => exact ⟨_, rfl, ⟨by omega, by omega, by omega⟩, ⟨by rw [Int.toNat_natCast]⟩, rfl⟩
  case round =>
    obtain ⟨i, rfl, HI, HT, rfl⟩ := hrel
    by_cases c1 : 0 < i
    · have hj : i.toNat - 1 < l0.length := by have := HI.out; omega
      have hw : wrap64 (i - 1) = i - 1 := by have h1 := HI.out; have h2 := HL.out; unfold wrap64; omega
      obtain ⟨ad, e0, hx⟩ := Kd.at_int HC.out (i - 1) (by omega) (by have := HI.out; omega)
      cases e0
      have hstep : trimN l0 i.toNat = if l0.getD (i.toNat - 1) 0 = 0 then trimN l0 (i.toNat - 1) else i.toNat := by
        obtain ⟨n, hn⟩ : ∃ n, i.toNat = n + 1 := ⟨i.toNat - 1, by omega⟩
        rw [hn]
        rfl
      have hrd : rd l0 (i - 1) = l0.getD (i.toNat - 1) 0 := by unfold rd; congr 1; omega
      rw [hrd] at hx
      have b1 : decide (0 < i) = true := decide_eq_true c1
      have p1 := eq_true (show 0 ≤ wrap64 (i - 1) by omega)
      have p2 := eq_true (show wrap64 (i - 1) < (l0.length : Int) by have := HI.out; omega)
      rw [← hw] at hx
      obtain ⟨x, hxx⟩ : ∃ x, x = l0.getD (i.toNat - 1) 0 := ⟨_, rfl⟩
      rw [← hxx] at hx hstep
      have HW := Aside0.mk hw
      have HS := Aside0.mk hstep
      clear hw hstep hrd hxx hj
      by_cases c2 : x = 0
      · have z1 : (x == 0) = true := beq_iff_eq.mpr c2
        have HX := Aside0.mk c2
        clear c2 c1
        go_wp2
        cases gk with
        | zero => exact absurd HI.out (by omega)
        | succ kq2 =>
          go_roundg kq2
          case measure => omega
          case rel => exact ⟨wrap64 (i - 1), rfl, ⟨by have h1 := HI.out; have h2 := HW.out; have h3 : 0 < i := of_decide_eq_true b1; omega⟩, ⟨by have h1 := HS.out; rw [if_pos HX.out] at h1; rw [HW.out, ← HT.out, h1]; congr 1; have h3 : 0 < i := of_decide_eq_true b1; omega⟩, rfl⟩
      · have z1 : (x == 0) = false := beq_eq_false_iff_ne.mpr c2
        have HX := Aside0.mk c2
        have hi : i.toNat = trimN l0 l0.length := by rw [← HT.out, HS.out, if_neg c2]
        have hi2 : i = (trimN l0 l0.length : Int) := by omega
        have HE := Aside0.mk hi2
        have q1 := eq_true (show 0 ≤ i by omega)
        have q2 := eq_true (show i ≤ (c0 : Int) by have h1 := HI.out; have h2 := HL.out; omega)
        clear c2 c1 hi hi2
        have ht : (l0.take (trimN l0 l0.length)).length = i.toNat := by rw [List.length_take, HE.out]; have := trimN_le l0 l0.length; omega
        have HF := Kd.F_take (m := trimN l0 l0.length) (Kd.V_at HV.out).2.2 (trimN_le _ _)
        have HR := Aside0.mk (Kd.V_alloc (Kd.V_mono (Kd.V_mk (e := 56) (base := w.heap.size) (c := i.toNat) (by rw [ht]; exact Nat.le_refl _) HF) (fun k_ hk => (Or.inl hk : P0_ k_ ∨ w.heap.size ≤ k_))) (.cells #[.slice (some ad) i.toNat i.toNat] 27))
        rw [ht] at HR
        clear ht HF
        go_wp2
        exact bodyPost_ret (v := .agg #[.slice (some ad) i.toNat i.toNat]) (by simp [results, Tryd.results38, go_sem]) rfl ⟨_, rfl, HR.out, below_alloc (Below.refl _ _) _⟩
    · have hi0 : i = 0 := by have := HI.out; omega
      subst hi0
      have b1 : decide ((0 : Int) < 0) = false := by decide
      have HE : Aside0 (trimN l0 l0.length = 0) := ⟨by rw [← HT.out]; rfl⟩
      have HF := Kd.F_take (m := 0) (Kd.V_at HV.out).2.2 (by omega)
      have HR := Aside0.mk (Kd.V_alloc (Kd.V_mono (Kd.V_mk (e := 56) (base := w.heap.size) (c := 0) (by simp) HF) (fun k_ hk => (Or.inl hk : P0_ k_ ∨ w.heap.size ≤ k_))) (.cells #[.slice A0 0 0] 27))
      clear c1 HF
      have q2 := eq_true (show (0 : Int) ≤ (c0 : Int) by omega)
      have hA : (A0.map fun x => x.add 0) = A0 := by cases A0 <;> simp [Addr.add]
      go_wp2
      rw [HE.out]
      exact bodyPost_ret (v := .agg #[.slice A0 0 0]) (by simp [results, Tryd.results38, go_sem]) rfl ⟨_, rfl, HR.out, below_alloc (Below.refl _ _) _⟩
end Go.Proofs.YtoobapkccogdhaaDoor.PX
-- Written by a program of this session (wip/xprint.py, over the kit's print tool). Lean checks it.
namespace Go.Proofs.YtoobapkccogdhaaDoor.PX
open Go.RowKit Go.Proofs.YtoobapkccogdhaaDoorW.PrintWords Go.Proofs.YtoobapkccogdhaaDoorW.PrintLast Go.Proofs.YtoobapkccogdhaaDoorW.PrintMore
attribute [local go_sem] max2_int min2_int max_two min_two max_three min_three max_four min_four   -- for this text's walks alone
set_option linter.unusedVariables false
set_option linter.unusedSimpArgs false

/-! ### bitset_Of: function 13 -/
def bitset_Of.l0 : Nat → List Int → List Int → Int → Int → Option (List Int)
  | 0, _, _, _, _ => none
  | k + 1, x3, x7, x8, x9 => if x9 < x8 then (if 0 ≤ x9 then (if x9 < (x7.length : Int) then ((bitset_valid.f (rd x7 x9)).bind fun t106 => (if t106 = true then (if (wrap64 ((wrap64 ((wrap64 (Int.tdiv (rd x7 x9) 64)) + 1)) - (x3.length : Int))) > 0 then (if 0 ≤ (wrap64 ((wrap64 ((wrap64 (Int.tdiv (rd x7 x9) 64)) + 1)) - (x3.length : Int))) then (if x3.length + (wrap64 ((wrap64 ((wrap64 (Int.tdiv (rd x7 x9) 64)) + 1)) - (x3.length : Int)) : Int).toNat < 17592186044416 then ((some (x3 ++ List.replicate (wrap64 ((wrap64 ((wrap64 (Int.tdiv (rd x7 x9) 64)) + 1)) - (x3.length : Int)) : Int).toNat 0 : List Int)).bind fun y107 => (if 0 ≤ (wrap64 (Int.tdiv (rd x7 x9) 64)) then (if (wrap64 (Int.tdiv (rd x7 x9) 64)) < (y107.length : Int) then (if 0 ≤ (Int.tmod (rd x7 x9) 64) then (bitset_Of.l0 k (y107.set ((wrap64 (Int.tdiv (rd x7 x9) 64)) : Int).toNat (Go.bits .or .u64 (rd y107 (wrap64 (Int.tdiv (rd x7 x9) 64))) (shl .u64 1 (Int.tmod (rd x7 x9) 64)))) x7 x8 (wrap64 (x9 + 1))) else (none)) else (none)) else (none))) else (none)) else (none)) else (if 0 ≤ (wrap64 (Int.tdiv (rd x7 x9) 64)) then (if (wrap64 (Int.tdiv (rd x7 x9) 64)) < (x3.length : Int) then (if 0 ≤ (Int.tmod (rd x7 x9) 64) then (bitset_Of.l0 k (x3.set ((wrap64 (Int.tdiv (rd x7 x9) 64)) : Int).toNat (Go.bits .or .u64 (rd x3 (wrap64 (Int.tdiv (rd x7 x9) 64))) (shl .u64 1 (Int.tmod (rd x7 x9) 64)))) x7 x8 (wrap64 (x9 + 1))) else (none)) else (none)) else (none))) else (bitset_Of.l0 k x3 x7 x8 (wrap64 (x9 + 1))))) else (none)) else (none)) else ((bitset_trimmed.f x3).bind fun t102 => (some t102))
def bitset_Of.f (k : Nat) (l0 : List Int) : Option (List Int) := bitset_Of.l0 k ([] : List Int) l0 (l0.length : Int) 0
theorem bitset_Of.mono_l : ∀ k, (∀ y0 y1 y2 y3, LeO (bitset_Of.l0 k y0 y1 y2 y3) (bitset_Of.l0 (k + 1) y0 y1 y2 y3))
  | 0 => fun _ _ _ _ r h => by simp [bitset_Of.l0] at h
  | k + 1 => by
    have ih0 := bitset_Of.mono_l k
    · intro y0 y1 y2 y3
      unfold bitset_Of.l0
      repeat' first
      | (with_reducible exact ih0 _ _ _ _)
      | (with_reducible exact LeO.refl _)
      | (with_reducible exact LeO.none _)
      | (with_reducible refine LeO.ite ?_ ?_)
      | (with_reducible refine LeO.bind ?_ (fun _ => ?_))
      | exact ih0 _ _ _ _
      | exact LeO.none _
      | refine LeO.ite ?_ ?_
      | refine LeO.bind ?_ (fun _ => ?_)
theorem bitset_Of.mono : ∀ a0 k, LeO (bitset_Of.f k a0) (bitset_Of.f (k + 1) a0) := by
  intro a0 k
  have ih0 := bitset_Of.mono_l k
  unfold bitset_Of.f
  repeat' first
      | (with_reducible exact ih0 _ _ _ _)
      | (with_reducible exact LeO.refl _)
      | (with_reducible exact LeO.none _)
      | (with_reducible refine LeO.ite ?_ ?_)
      | (with_reducible refine LeO.bind ?_ (fun _ => ?_))
      | exact ih0 _ _ _ _
      | exact LeO.none _
      | refine LeO.ite ?_ ?_
      | refine LeO.bind ?_ (fun _ => ?_)
def bitset_Of.T9 : Bool × List (List Nat × List Nat) := (true, [([], []), ([], []), ([1], [1]), ([0, 2], [0, 2]), ([3], [3]), ([], []), ([5], [5]), ([6], [6]), ([4, 7], [4, 7]), ([0, 2, 0, 1, 2, 3, 4, 5, 6, 7, 8], [0, 2]), ([9, 8, 0, 1, 2, 3, 4, 5, 6, 7, 8], [8, 9])])
def bitset_Of.B9 : List Nat := [0, 0, 2, 7, 15, 0, 32, 96, 255, 511, 1023]
theorem bitset_Of.tab9 : rtab .any (opsOf Tryd.f13 9) = bitset_Of.T9 := by kernel_rfl
theorem bitset_Of.bits9 : waitsOk bitset_Of.T9.2 bitset_Of.B9 = true := by kernel_rfl
set_option maxHeartbeats 8000000 in
set_option maxRecDepth 100000 in
theorem bitset_Of.calls (k : Nat) (A0 : Option Addr) (c0 : Nat) (l0 : List Int) (r : List Int) (w : World) (hr0 : Kd.C (Kd.int .i64) w A0 l0.length l0) (hc0 : l0.length ≤ c0) (h : bitset_Of.f k l0 = some r) :
    Calls Tryd.prog 13 #[.slice A0 l0.length c0] w fun e w' => ∃ v0_ : Value, e = .returned (.agg #[v0_]) ∧ Kd.V (Kd.int .u64) 56 w' w.heap.size (fun k_ => (w.heap.size ≤ k_)) v0_ r ∧ Below w.heap.size w w' := by
  have hu27 := Tryd.underlying27
  have HR0 := Aside0.mk hr0
  have HC0 := Aside0.mk hc0
  clear hr0 hc0
  have HB := Aside0.mk (Below.refl w.heap.size w)
  have H : (bitset_Of.l0 k ([] : List Int) l0 (l0.length : Int) 0) = some r := h
  clear h
  have H' := Aside0.mk H
  clear H
  go_enter Tryd.func13, Tryd.ntmps13
  go_wp2_with (first | ((with_reducible refine gate_dst (N := 2) rfl ?_); refine box_event ?hg (N := 2) ?hd (cs := #[.slice none 0 0]) (t := 27) ?hr ?_; (case hd => rfl); (case hg => rfl); (case hr => first | (go_simp; done) | (go_simp; rfl)); intro gb101 hg w2 hbox hb; have n0_ := Aside0.mk (below_step (by repeat (first | (with_reducible first | exact HB.out | apply below_alloc | apply pw_below_drewN | apply below_drew1) | exact HB.out)) hb); have n1_ := Aside0.mk (hbox); have n2_ := Aside0.mk ((by rw [hg]; exact (below_size (by repeat (first | (with_reducible first | exact HB.out | apply below_alloc | apply pw_below_drewN | apply below_drew1) | exact HB.out))) : w.heap.size ≤ gb101)); have n3_ := Aside0.mk ((by rw [hg]; exact (below_size (by repeat (first | (with_reducible first | exact HB.out | apply below_alloc | apply pw_below_drewN | apply below_drew1) | exact HB.out))) : w.heap.size ≤ gb101)); clear HB; have HB := n0_; have BK101 := n1_; have GW101 := n2_; have GE101 := n3_; clear n0_ n1_ n2_ n3_; clear hb hbox hg))
  go_loopg [3, 9] k (fun kq v3 v9 w' => ∃ (x3_1 : List Int) (x9_1 : Int), v9 = .int .i64 x9_1 ∧ Aside0 (bitset_Of.l0 kq x3_1 l0 (l0.length : Int) x9_1 = some r) ∧ Aside0 (kq ≤ k) ∧ Aside0 (Kd.R (Kd.int .u64) 56 w' w.heap.size (fun k_ => (w.heap.size ≤ k_)) v3 x3_1) ∧ Aside0 (w'.heap[gb101]? = some (.cells #[(.slice none 0 0)] 27 (0, 0))) ∧ Aside0 (Below w.heap.size w w'))
  case atStart => exact ⟨(([] : List Int)), (0), (by first | rfl | (simp; done) | (simp [*]; done)), H', ⟨Nat.le_refl _⟩, ⟨by first | exact Kd.R_nil _ _ _ _ _ | exact Kd.N_nil _ _ _ _ _ | exact Kd.V_nil _ _ _ _ _ | exact Kd.Q_nil _ _ _ _ _ | exact Kd.S_nil _ _ _ _ _⟩, ⟨by (with_reducible repeat (first | refine blk_drewN ?_ _ | refine blk_drew ?_ | refine blk_alloc ?_ _)); exact BK101.out⟩, ⟨by repeat (first | (with_reducible first | exact HB.out | apply below_alloc | apply pw_below_drewN | apply below_drew1 | refine below_set ?_ GE101.out) | exact HB.out)⟩⟩
  case round =>
    clear H'
    try clear c1
    try clear p2
    obtain ⟨x3_1, x9_1, rfl, HA, HK1, HO_3, BK101, HB⟩ := hrel
    cases gk with
    | zero => exact absurd HA.out (by simp [bitset_Of.l0])
    | succ k1 =>
      have H := HA.out
      clear HA
      simp only [bitset_Of.l0] at H
      by_cases c3 : x9_1 < (l0.length : Int)
      · rw [if_pos c3] at H
        have c3b0 : decide (x9_1 < (l0.length : Int)) = true := decide_eq_true c3
        clear c3
        by_cases c4 : 0 ≤ x9_1
        · rw [if_pos c4] at H
          have c4b0 : decide (0 ≤ x9_1) = true := decide_eq_true c4
          clear c4
          by_cases c5 : x9_1 < (l0.length : Int)
          · rw [if_pos c5] at H
            have c5b0 : decide (x9_1 < (l0.length : Int)) = true := decide_eq_true c5
            clear c5
            replace H := Option.bind_eq_some_iff.mp H
            obtain ⟨t106, A60, H⟩ := H
            replace H : (if t106 = true then (if (wrap64 ((wrap64 ((wrap64 (Int.tdiv (rd l0 x9_1) 64)) + 1)) - (x3_1.length : Int))) > 0 then (if 0 ≤ (wrap64 ((wrap64 ((wrap64 (Int.tdiv (rd l0 x9_1) 64)) + 1)) - (x3_1.length : Int))) then (if x3_1.length + (wrap64 ((wrap64 ((wrap64 (Int.tdiv (rd l0 x9_1) 64)) + 1)) - (x3_1.length : Int)) : Int).toNat < 17592186044416 then ((some (x3_1 ++ List.replicate (wrap64 ((wrap64 ((wrap64 (Int.tdiv (rd l0 x9_1) 64)) + 1)) - (x3_1.length : Int)) : Int).toNat 0 : List Int)).bind fun y107 => (if 0 ≤ (wrap64 (Int.tdiv (rd l0 x9_1) 64)) then (if (wrap64 (Int.tdiv (rd l0 x9_1) 64)) < (y107.length : Int) then (if 0 ≤ (Int.tmod (rd l0 x9_1) 64) then (bitset_Of.l0 k1 (y107.set ((wrap64 (Int.tdiv (rd l0 x9_1) 64)) : Int).toNat (Go.bits .or .u64 (rd y107 (wrap64 (Int.tdiv (rd l0 x9_1) 64))) (shl .u64 1 (Int.tmod (rd l0 x9_1) 64)))) l0 (l0.length : Int) (wrap64 (x9_1 + 1))) else (none)) else (none)) else (none))) else (none)) else (none)) else (if 0 ≤ (wrap64 (Int.tdiv (rd l0 x9_1) 64)) then (if (wrap64 (Int.tdiv (rd l0 x9_1) 64)) < (x3_1.length : Int) then (if 0 ≤ (Int.tmod (rd l0 x9_1) 64) then (bitset_Of.l0 k1 (x3_1.set ((wrap64 (Int.tdiv (rd l0 x9_1) 64)) : Int).toNat (Go.bits .or .u64 (rd x3_1 (wrap64 (Int.tdiv (rd l0 x9_1) 64))) (shl .u64 1 (Int.tmod (rd l0 x9_1) 64)))) l0 (l0.length : Int) (wrap64 (x9_1 + 1))) else (none)) else (none)) else (none))) else (bitset_Of.l0 k1 x3_1 l0 (l0.length : Int) (wrap64 (x9_1 + 1)))) = some r := H
            have A6 := Aside0.mk A60
            clear A60
            by_cases c7 : t106 = true
            · subst c7
              have H1 : (if (wrap64 ((wrap64 ((wrap64 (Int.tdiv (rd l0 x9_1) 64)) + 1)) - (x3_1.length : Int))) > 0 then (if 0 ≤ (wrap64 ((wrap64 ((wrap64 (Int.tdiv (rd l0 x9_1) 64)) + 1)) - (x3_1.length : Int))) then (if x3_1.length + (wrap64 ((wrap64 ((wrap64 (Int.tdiv (rd l0 x9_1) 64)) + 1)) - (x3_1.length : Int)) : Int).toNat < 17592186044416 then ((some (x3_1 ++ List.replicate (wrap64 ((wrap64 ((wrap64 (Int.tdiv (rd l0 x9_1) 64)) + 1)) - (x3_1.length : Int)) : Int).toNat 0 : List Int)).bind fun y107 => (if 0 ≤ (wrap64 (Int.tdiv (rd l0 x9_1) 64)) then (if (wrap64 (Int.tdiv (rd l0 x9_1) 64)) < (y107.length : Int) then (if 0 ≤ (Int.tmod (rd l0 x9_1) 64) then (bitset_Of.l0 k1 (y107.set ((wrap64 (Int.tdiv (rd l0 x9_1) 64)) : Int).toNat (Go.bits .or .u64 (rd y107 (wrap64 (Int.tdiv (rd l0 x9_1) 64))) (shl .u64 1 (Int.tmod (rd l0 x9_1) 64)))) l0 (l0.length : Int) (wrap64 (x9_1 + 1))) else (none)) else (none)) else (none))) else (none)) else (none)) else (if 0 ≤ (wrap64 (Int.tdiv (rd l0 x9_1) 64)) then (if (wrap64 (Int.tdiv (rd l0 x9_1) 64)) < (x3_1.length : Int) then (if 0 ≤ (Int.tmod (rd l0 x9_1) 64) then (bitset_Of.l0 k1 (x3_1.set ((wrap64 (Int.tdiv (rd l0 x9_1) 64)) : Int).toNat (Go.bits .or .u64 (rd x3_1 (wrap64 (Int.tdiv (rd l0 x9_1) 64))) (shl .u64 1 (Int.tmod (rd l0 x9_1) 64)))) l0 (l0.length : Int) (wrap64 (x9_1 + 1))) else (none)) else (none)) else (none))) = some r := by rw [if_pos rfl] at H; exact H
              clear H
              have H := H1
              clear H1
              by_cases c8 : (wrap64 ((wrap64 ((wrap64 (Int.tdiv (rd l0 x9_1) 64)) + 1)) - (x3_1.length : Int))) > 0
              · rw [if_pos c8] at H
                have c8b0 : decide (0 < (wrap64 ((wrap64 ((wrap64 (Int.tdiv (rd l0 x9_1) 64)) + 1)) - (x3_1.length : Int)))) = true := decide_eq_true c8
                clear c8
                obtain ⟨ji9, hji9⟩ : ∃ j_ : Int, (wrap64 ((wrap64 ((wrap64 (Int.tdiv (rd l0 x9_1) 64)) + 1)) - (x3_1.length : Int))) = j_ := ⟨_, rfl⟩
                replace H : (if 0 ≤ (ji9) then (if x3_1.length + (ji9 : Int).toNat < 17592186044416 then ((some (x3_1 ++ List.replicate (ji9 : Int).toNat 0 : List Int)).bind fun y107 => (if 0 ≤ (wrap64 (Int.tdiv (rd l0 x9_1) 64)) then (if (wrap64 (Int.tdiv (rd l0 x9_1) 64)) < (y107.length : Int) then (if 0 ≤ (Int.tmod (rd l0 x9_1) 64) then (bitset_Of.l0 k1 (y107.set ((wrap64 (Int.tdiv (rd l0 x9_1) 64)) : Int).toNat (Go.bits .or .u64 (rd y107 (wrap64 (Int.tdiv (rd l0 x9_1) 64))) (shl .u64 1 (Int.tmod (rd l0 x9_1) 64)))) l0 (l0.length : Int) (wrap64 (x9_1 + 1))) else (none)) else (none)) else (none))) else (none)) else (none)) = some r := by first | (rw [hji9] at H; exact H) | (simp only [hji9] at H ⊢; exact H)
                (try rw [hji9] at c8b0)
                (try rw [hji9] at A6)
                have hji9w : (IntKind.i64.wrap ((wrap64 ((wrap64 (Int.tdiv (rd l0 x9_1) 64)) + 1)) - (x3_1.length : Int))) = ji9 := (i64_w _).trans hji9
                by_cases c10 : 0 ≤ (ji9)
                · rw [if_pos c10] at H
                  have c10b0 := eq_true c10
                  have c10b1 : decide (0 ≤ (ji9)) = true := decide_eq_true c10
                  clear c10
                  by_cases c11 : x3_1.length + (ji9 : Int).toNat < 17592186044416
                  · rw [if_pos c11] at H
                    have LMc11 := Aside0.mk c11
                    clear c11
                    obtain ⟨y107, hy107⟩ : ∃ y_ : List Int, y_ = (x3_1 ++ List.replicate (ji9 : Int).toNat 0) := ⟨_, rfl⟩
                    replace H : (if 0 ≤ (wrap64 (Int.tdiv (rd l0 x9_1) 64)) then (if (wrap64 (Int.tdiv (rd l0 x9_1) 64)) < (y107.length : Int) then (if 0 ≤ (Int.tmod (rd l0 x9_1) 64) then (bitset_Of.l0 k1 (y107.set ((wrap64 (Int.tdiv (rd l0 x9_1) 64)) : Int).toNat (Go.bits .or .u64 (rd y107 (wrap64 (Int.tdiv (rd l0 x9_1) 64))) (shl .u64 1 (Int.tmod (rd l0 x9_1) 64)))) l0 (l0.length : Int) (wrap64 (x9_1 + 1))) else (none)) else (none)) else (none)) = some r := by first | (rw [hy107]; with_reducible exact H) | (have H2_ := (Option.bind_some _ _).symm.trans H; rw [hy107]; with_reducible exact H2_) | (have H2_ := (Option.bind_some _ _).symm.trans H; with_reducible exact H2_) | with_reducible exact H | (rw [hy107]; exact H) | exact H
                    have Ny107 := Aside0.mk hy107
                    clear hy107
                    obtain ⟨ji12, hji12⟩ : ∃ j_ : Int, (wrap64 (Int.tdiv (rd l0 x9_1) 64)) = j_ := ⟨_, rfl⟩
                    replace H : (if 0 ≤ (ji12) then (if (ji12) < (y107.length : Int) then (if 0 ≤ (Int.tmod (rd l0 x9_1) 64) then (bitset_Of.l0 k1 (y107.set ((ji12) : Int).toNat (Go.bits .or .u64 (rd y107 (ji12)) (shl .u64 1 (Int.tmod (rd l0 x9_1) 64)))) l0 (l0.length : Int) (wrap64 (x9_1 + 1))) else (none)) else (none)) else (none)) = some r := by first | (rw [hji12] at H; exact H) | (simp only [hji12] at H ⊢; exact H)
                    (try rw [hji12] at c8b0)
                    (try rw [hji12] at A6)
                    have hji12w : (IntKind.i64.wrap (Int.tdiv (rd l0 x9_1) 64)) = ji12 := (i64_w _).trans hji12
                    have hji9x : wrap64 (wrap64 (ji12 + 1) - (x3_1.length : Int)) = ji9 := (by rw [← hji12]; exact hji9)
                    have hji9y : (IntKind.i64.wrap (wrap64 (ji12 + 1) - (x3_1.length : Int))) = ji9 := (i64_w _).trans hji9x
                    by_cases c13 : 0 ≤ (ji12)
                    · rw [if_pos c13] at H
                      have c13b0 : decide (0 ≤ (ji12)) = true := decide_eq_true c13
                      clear c13
                      by_cases c14 : (ji12) < (y107.length : Int)
                      · rw [if_pos c14] at H
                        have c14b0 : decide ((ji12) < (y107.length : Int)) = true := decide_eq_true c14
                        clear c14
                        obtain ⟨ji15, hji15⟩ : ∃ j_ : Int, (Int.tmod (rd l0 x9_1) 64) = j_ := ⟨_, rfl⟩
                        replace H : (if 0 ≤ (ji15) then (bitset_Of.l0 k1 (y107.set ((ji12) : Int).toNat (Go.bits .or .u64 (rd y107 (ji12)) (shl .u64 1 (ji15)))) l0 (l0.length : Int) (wrap64 (x9_1 + 1))) else (none)) = some r := by first | (rw [hji15] at H; exact H) | (simp only [hji15] at H ⊢; exact H)
                        (try rw [hji15] at A6)
                        by_cases c16 : 0 ≤ (ji15)
                        · rw [if_pos c16] at H
                          have c16b0 := eq_true c16
                          have c16b1 : decide (0 ≤ (ji15)) = true := decide_eq_true c16
                          clear c16
                          obtain ⟨ji17, hji17⟩ : ∃ j_ : Int, (shl .u64 1 (ji15)) = j_ := ⟨_, rfl⟩
                          replace H : (bitset_Of.l0 k1 (y107.set ((ji12) : Int).toNat (Go.bits .or .u64 (rd y107 (ji12)) (ji17))) l0 (l0.length : Int) (wrap64 (x9_1 + 1))) = some r := by first | (rw [hji17] at H; exact H) | (simp only [hji17] at H ⊢; exact H)
                          (try rw [hji17] at A6)
                          have hji17_ : (IntKind.u64.wrap (1 * 2 ^ min (ji15).toNat 64)) = ji17 := hji17
                          have hji17z : (ji15) ≤ 64 → (IntKind.u64.wrap (1 * 2 ^ (ji15).toNat)) = ji17 := shl_small hji17
                          have hji17u : (IntKind.u64.wrap (2 ^ min (ji15).toNat 64)) = ji17 := by have h_ := hji17_; rw [Int.one_mul] at h_; exact h_
                          have hji17v : (ji15) ≤ 64 → (IntKind.u64.wrap (2 ^ (ji15).toNat)) = ji17 := fun hle_ => by have h_ := hji17z hle_; rw [Int.one_mul] at h_; exact h_
                          obtain ⟨y111, hy111⟩ : ∃ y_ : List Int, y_ = (y107.set ((ji12) : Int).toNat (Go.bits .or .u64 (rd y107 (ji12)) (ji17))) := ⟨_, rfl⟩
                          replace H : (bitset_Of.l0 k1 y111 l0 (l0.length : Int) (wrap64 (x9_1 + 1))) = some r := by first | (rw [hy111]; with_reducible exact H) | (have H2_ := (Option.bind_some _ _).symm.trans H; rw [hy111]; with_reducible exact H2_) | (have H2_ := (Option.bind_some _ _).symm.trans H; with_reducible exact H2_) | with_reducible exact H | (rw [hy111]; exact H) | exact H
                          have Ny111 := Aside0.mk hy111
                          clear hy111
                          have H' := Aside0.mk H
                          clear H
                          have p105 : 0 ≤ (x9_1 : Int) := of_decide_eq_true (by first | (with_reducible assumption) | assumption)
                          have q105 : x9_1 < (l0.length : Int) := of_decide_eq_true (by first | (with_reducible assumption) | assumption)
                          obtain ⟨ad105, e105, hx105_0⟩ := Kd.at_int HR0.out x9_1 p105 q105
                          cases e105
                          replace hx105_0 := (HB.out.cell (World.block_lt_of_cell? w _ hx105_0)).trans hx105_0
                          replace p105 := eq_true p105
                          replace q105 := eq_true q105
                          try go_wp2_with (first | ((with_reducible refine gate_callee (f := 37) rfl ?_); refine goesL_ (some 14) rfl rfl Tryd.func37 (by kernel_rfl) rfl #[.int .i64 (rd l0 x9_1)] rfl (by (try simp only [List.map_toArray, List.map_cons, List.map_nil]); first | done | rfl | (simp only [List.length_drop, List.length_take]; rfl)) ?_; (with_reducible refine (bitset_valid.calls (rd l0 x9_1) true _ A6.out).mono ?_); rintro e w' ⟨rfl, ⟨nd, rfl⟩⟩; refine ⟨_, rfl, ?_⟩; (try (rw [drewN_self wr]; generalize hq_ : World.drewN wr _ = wr; have n0_ : Aside0 (Kd.R (Kd.int .u64) 56 wr w.heap.size (fun k_ => (w.heap.size ≤ k_)) u3 x3_1) := ⟨by rw [← hq_]; exact (by (with_reducible repeat (first | apply Kd.R_alloc | apply Kd.R_drewN | apply Kd.R_drew)); exact HO_3.out)⟩; have n1_ : Aside0 (wr.heap[gb101]? = some (.cells #[.slice none 0 0] 27 (0, 0))) := ⟨by rw [← hq_]; exact (by (with_reducible repeat (first | refine blk_drewN ?_ _ | refine blk_drew ?_ | refine blk_alloc ?_ _)); exact BK101.out)⟩; have n2_ : Aside0 (Below w.heap.size w wr) := ⟨by rw [← hq_]; exact (by repeat (first | (with_reducible first | exact HB.out | apply below_alloc | apply pw_below_drewN | apply below_drew1 | refine below_set ?_ GE101.out) | exact HB.out))⟩; clear HO_3 BK101 HB hq_; have HO_3 := n0_; have BK101 := n1_; have HB := n2_; clear n0_ n1_ n2_)); obtain ⟨Ao19, co19, eo19⟩ := Kd.R_slice HO_3.out; subst eo19) | (at_builtin; refine Kd.R_append_zeros (Kd.int .u64) (w0 := w) w.heap.size rfl (.tmp 24) (.tmp 25) 25 3 56 (.int .u64 0) 8 rfl Tryd.underlying25 Tryd.underlying3 info56 rfl (by decide) (by omega) (.slice Ao19 x3_1.length co19) x3_1 0 (ji9 : Int) (fun k_ => (w.heap.size ≤ k_)) rfl rfl rfl ?aF ?aO (of_decide_eq_true (by first | (with_reducible assumption) | assumption)) ?aB ?aS ?aL ?_; (case aB => exact (by repeat (first | (with_reducible first | exact HB.out | apply below_alloc | apply pw_below_drewN | apply below_drew1 | refine below_set ?_ GE101.out) | exact HB.out))); (case aF => exact (fun k_ hk => (Nat.le_trans (below_size (by repeat (first | (with_reducible first | exact HB.out | apply below_alloc | apply pw_below_drewN | apply below_drew1 | refine below_set ?_ GE101.out) | exact HB.out))) hk))); (case aO => exact (by (with_reducible repeat (first | apply Kd.R_alloc | apply Kd.R_drewN | apply Kd.R_drew)); exact HO_3.out)); (case aS => exact (below_size (by repeat (first | (with_reducible first | exact HB.out | apply below_alloc | apply pw_below_drewN | apply below_drew1 | refine below_set ?_ GE101.out) | exact HB.out)))); (case aL => have := LMc11.out; omega); intro v108 w20 ho hb hg hat; rw [← Ny107.out] at ho; have n0_ := Aside0.mk (blk_grown (g := gb101) (o := .cells #[.slice none 0 0] 27 (0, 0)) (by (with_reducible repeat (first | refine blk_drewN ?_ _ | refine blk_drew ?_ | refine blk_alloc ?_ _)); exact BK101.out) hg (Kd.R_ne HO_3.out BK101.out (by decide))); have n1_ := Aside0.mk (hb); have n2_ := Aside0.mk (ho); clear BK101; clear HB; clear HO_3; have BK101 := n0_; have HB := n1_; have HO109 := n2_; clear n0_ n1_ n2_; clear ho hb hg hat))
                          have n0_ := Aside0.mk (Kd.R_drew HO109.out)
                          have n1_ := Aside0.mk (blk_drew BK101.out)
                          have n2_ := Aside0.mk (below_drew1 HB.out)
                          clear HO109
                          clear BK101
                          clear HB
                          have HO109 := n0_
                          have BK101 := n1_
                          have HB := n2_
                          clear n0_ n1_ n2_
                          obtain ⟨Ao22, co22, eo22⟩ := Kd.R_slice HO109.out
                          (first | subst eo22 | (injection eo22 with f1_ f2_ f3_; have f4_ := f1_.symm; have f5_ := f3_.symm; clear f1_ f2_ f3_; subst f4_; subst f5_))
                          have p110 : 0 ≤ ((ji12) : Int) := of_decide_eq_true (by first | (with_reducible assumption) | assumption)
                          have q110 : (ji12) < (y107.length : Int) := of_decide_eq_true (by first | (with_reducible assumption) | assumption)
                          obtain ⟨ad110, e110, hx110_0⟩ := Kd.at_int (Kd.R_reads' HO109.out).2.2 (ji12) p110 q110
                          cases e110
                          replace p110 := eq_true p110
                          replace q110 := eq_true q110
                          have p18 : 0 ≤ ((ji12) : Int) := of_decide_eq_true (by first | (with_reducible assumption) | assumption)
                          have q18 : ((ji12) : Int) < ((y107.length : Int) : Int) := of_decide_eq_true (by first | (with_reducible assumption) | assumption)
                          obtain ⟨go18, co18, eo18, gb18, gl18, cl18, HG18⟩ := Kd.R_form HO109.out (by omega)
                          (first | cases eo18 | (injection eo18 with ea_ en_ ec_; (first | subst ea_ | (injection ea_ with ea_; subst ea_)); subst ec_; clear en_))
                          have GB18 := Aside0.mk gb18
                          have GG18 := Aside0.mk HG18
                          clear gb18 gl18 HG18
                          (first | simp only [add_plain] at hx110_0 | skip)
                          obtain ⟨hx18_0, hf18_0⟩ := Kd.R_celln 0 HO109.out ((ji12) : Int) p18 q18
                          replace p18 := eq_true p18
                          replace q18 := eq_true q18
                          have HP23 := Kd.R_putn HO109.out ((ji12) : Int) (Go.bits .or .u64 (rd y107 (ji12)) (ji17))
                          rw [← Ny111.out] at HP23
                          have HQ23 := Aside0.mk HP23
                          clear HP23
                          refine start_ (n := 11) (S := fun w' => w'.cell? ⟨go18, ((ji12)).toNat, none⟩ = some (.int .u64 (rd y107 (ji12)))) (ds := [10]) #[false, false, false, false, false, false, false, false, false, false, false] (by kernel_rfl) rfl rfl (hx110_0) (fun hHeld => ?_); refine with_tabW bitset_Of.tab9 bitset_Of.bits9 (fun HT_ HW_ => ?_)
                          generalize w20.drew = w21 at HO109 BK101 HB GG18 HQ23 hf18_0 hx110_0 hx18_0 hHeld ⊢
                          refine pure_ (i := 0) (N := some 27) (v := ?_) (a' := ?_) #[true, false, false, false, false, false, false, false, false, false, false] rfl rfl (any_of HT_.out (by kernel_rfl)) (fun _ _ _ h => h) (Or.inl ⟨by rfl, ?_⟩) ?_ ?_
                          rotate_left
                          · intro w'
                            go_simp
                            with_reducible rfl
                          rotate_left
                          · simp only [Act.put, List.setIfInBounds_toArray, List.set_cons_zero, List.set_cons_succ, i64_w, i32_w]
                            rfl
                          refine pure_ (i := 1) (N := some 28) (v := ?_) (a' := ?_) #[true, true, false, false, false, false, false, false, false, false, false] rfl rfl (any_of HT_.out (by kernel_rfl)) (fun _ _ _ h => h) (Or.inl ⟨by rfl, ?_⟩) ?_ ?_
                          rotate_left
                          · intro w'
                            go_simp
                            with_reducible rfl
                          rotate_left
                          · simp only [Act.put, List.setIfInBounds_toArray, List.set_cons_zero, List.set_cons_succ, i64_w, i32_w]
                            rfl
                          refine pure_ (i := 2) (N := some 29) (v := ?_) (a' := ?_) #[true, true, true, false, false, false, false, false, false, false, false] rfl rfl (any_of HT_.out (by kernel_rfl)) (fun _ _ _ h => h) (Or.inl ⟨by rfl, ?_⟩) ?_ ?_
                          rotate_left
                          · intro w'
                            go_simp
                            with_reducible rfl
                          rotate_left
                          · simp only [Act.put, List.setIfInBounds_toArray, List.set_cons_zero, List.set_cons_succ, i64_w, i32_w]
                            rfl
                          refine pure_ (i := 3) (N := some 30) (v := ?_) (a' := ?_) #[true, true, true, true, false, false, false, false, false, false, false] rfl rfl (any_of HT_.out (by kernel_rfl)) (fun _ _ _ h => h) (Or.inl ⟨by rfl, ?_⟩) ?_ ?_
                          rotate_left
                          · intro w'
                            go_simp
                            with_reducible rfl
                          rotate_left
                          · simp only [Act.put, List.setIfInBounds_toArray, List.set_cons_zero, List.set_cons_succ, i64_w, i32_w]
                            rfl
                          refine pure_ (i := 5) (N := some 32) (v := ?_) (a' := ?_) #[true, true, true, true, false, true, false, false, false, false, false] rfl rfl (any_of HT_.out (by kernel_rfl)) (fun _ _ _ h => h) (Or.inl ⟨by rfl, ?_⟩) ?_ ?_
                          rotate_left
                          · intro w'
                            go_simp
                            with_reducible rfl
                          rotate_left
                          · simp only [Act.put, List.setIfInBounds_toArray, List.set_cons_zero, List.set_cons_succ, i64_w, i32_w]
                            rfl
                          refine pure_ (i := 6) (N := some 33) (v := ?_) (a' := ?_) #[true, true, true, true, false, true, true, false, false, false, false] rfl rfl (any_of HT_.out (by kernel_rfl)) (fun _ _ _ h => h) (Or.inl ⟨by rfl, ?_⟩) ?_ ?_
                          rotate_left
                          · intro w'
                            go_simp
                            with_reducible rfl
                          rotate_left
                          · simp only [Act.put, List.setIfInBounds_toArray, List.set_cons_zero, List.set_cons_succ, i64_w, i32_w]
                            rfl
                          refine pure_ (i := 7) (N := some 34) (v := ?_) (a' := ?_) #[true, true, true, true, false, true, true, true, false, false, false] rfl rfl (any_of HT_.out (by kernel_rfl)) (fun _ _ _ h => h) (Or.inl ⟨by rfl, ?_⟩) ?_ ?_
                          rotate_left
                          · intro w'
                            go_simp
                            with_reducible rfl
                          rotate_left
                          · simp only [Act.put, List.setIfInBounds_toArray, List.set_cons_zero, List.set_cons_succ, i64_w, i32_w]
                            rfl
                          refine take_ (i := 4) (N := some 31) (v := ?_) (a' := ?_) #[true, true, true, true, true, true, true, true, false, false, false] rfl rfl (take_ofW HT_.out HW_.out (by kernel_rfl)) (fun _ _ _ h => h) (Or.inl ⟨by rfl, ?_⟩) hHeld ?_ ?_
                          rotate_left
                          · intro w' s0
                            go_simp
                            with_reducible rfl
                          rotate_left
                          · simp only [Act.put, List.setIfInBounds_toArray, List.set_cons_zero, List.set_cons_succ, i64_w, i32_w]
                            rfl
                          refine pure_ (i := 8) (N := some 35) (v := ?_) (a' := ?_) #[true, true, true, true, true, true, true, true, true, false, false] rfl rfl (any_of HT_.out (by kernel_rfl)) (fun _ _ _ h => h) (Or.inl ⟨by rfl, ?_⟩) ?_ ?_
                          rotate_left
                          · intro w'
                            go_simp
                            with_reducible rfl
                          rotate_left
                          · simp only [Act.put, List.setIfInBounds_toArray, List.set_cons_zero, List.set_cons_succ, i64_w, i32_w]
                            rfl
                          refine pure_ (i := 9) (N := some 36) (v := ?_) (a' := ?_) #[true, true, true, true, true, true, true, true, true, true, false] rfl rfl (any_of HT_.out (by kernel_rfl)) (fun _ _ _ h => h) (Or.inl ⟨by rfl, ?_⟩) ?_ ?_
                          rotate_left
                          · intro w'
                            go_simp
                            with_reducible rfl
                          rotate_left
                          · simp only [Act.put, List.setIfInBounds_toArray, List.set_cons_zero, List.set_cons_succ, i64_w, i32_w]
                            rfl
                          refine last_ (i := 10) (N := none) #[true, true, true, true, true, true, true, true, true, true, true] rfl rfl (one_of HT_.out (by kernel_rfl)) (by decide) (fun K hK => ?_)
                          refine skip_ (w1 := ?_) (by rfl) rfl ?_ ?_
                          rotate_left
                          · go_simp
                            rfl
                          refine hK.out _ _ ?_
                          clear hK K
                          refine done_ (done_of HT_.out (by kernel_rfl)) ?_
                          try go_wp2
                          go_roundg k1
                          case measure => have := HK1.out; omega
                          case rel => exact ⟨(y111), (wrap64 (x9_1 + 1)), (by first | rfl | (simp; done) | (simp [*]; done)), H', ⟨by have := HK1.out; omega⟩, ⟨by (with_reducible repeat (first | apply Kd.R_alloc | apply Kd.R_drewN | apply Kd.R_drew)); exact HQ23.out⟩, ⟨by (with_reducible repeat (first | refine blk_drewN ?_ _ | refine blk_drew ?_ | refine blk_alloc ?_ _)); refine blk_far ?_ (by have h_ := Kd.R_ne HO109.out BK101.out (by decide); intro e_; exact h_ (by rw [e_]; rfl)) _; (with_reducible repeat (first | refine blk_drewN ?_ _ | refine blk_drew ?_ | refine blk_alloc ?_ _)); exact BK101.out⟩, ⟨by repeat (first | (with_reducible first | exact HB.out | apply below_alloc | apply pw_below_drewN | apply below_drew1 | refine below_set ?_ GB18.out | refine below_set ?_ GE101.out) | exact HB.out)⟩⟩
                        · rw [if_neg c16] at H
                          exact absurd H (by simp)
                      · rw [if_neg c14] at H
                        exact absurd H (by simp)
                    · rw [if_neg c13] at H
                      exact absurd H (by simp)
                  · rw [if_neg c11] at H
                    exact absurd H (by simp)
                · rw [if_neg c10] at H
                  exact absurd H (by simp)
              · rw [if_neg c8] at H
                have c8b0 : decide (0 < (wrap64 ((wrap64 ((wrap64 (Int.tdiv (rd l0 x9_1) 64)) + 1)) - (x3_1.length : Int)))) = false := decide_eq_false c8
                clear c8
                obtain ⟨ji24, hji24⟩ : ∃ j_ : Int, (wrap64 (Int.tdiv (rd l0 x9_1) 64)) = j_ := ⟨_, rfl⟩
                replace H : (if 0 ≤ (ji24) then (if (ji24) < (x3_1.length : Int) then (if 0 ≤ (Int.tmod (rd l0 x9_1) 64) then (bitset_Of.l0 k1 (x3_1.set ((ji24) : Int).toNat (Go.bits .or .u64 (rd x3_1 (ji24)) (shl .u64 1 (Int.tmod (rd l0 x9_1) 64)))) l0 (l0.length : Int) (wrap64 (x9_1 + 1))) else (none)) else (none)) else (none)) = some r := by first | (rw [hji24] at H; exact H) | (simp only [hji24] at H ⊢; exact H)
                (try rw [hji24] at c8b0)
                (try rw [hji24] at A6)
                have hji24w : (IntKind.i64.wrap (Int.tdiv (rd l0 x9_1) 64)) = ji24 := (i64_w _).trans hji24
                by_cases c25 : 0 ≤ (ji24)
                · rw [if_pos c25] at H
                  have c25b0 : decide (0 ≤ (ji24)) = true := decide_eq_true c25
                  clear c25
                  by_cases c26 : (ji24) < (x3_1.length : Int)
                  · rw [if_pos c26] at H
                    have c26b0 : decide ((ji24) < (x3_1.length : Int)) = true := decide_eq_true c26
                    clear c26
                    obtain ⟨ji27, hji27⟩ : ∃ j_ : Int, (Int.tmod (rd l0 x9_1) 64) = j_ := ⟨_, rfl⟩
                    replace H : (if 0 ≤ (ji27) then (bitset_Of.l0 k1 (x3_1.set ((ji24) : Int).toNat (Go.bits .or .u64 (rd x3_1 (ji24)) (shl .u64 1 (ji27)))) l0 (l0.length : Int) (wrap64 (x9_1 + 1))) else (none)) = some r := by first | (rw [hji27] at H; exact H) | (simp only [hji27] at H ⊢; exact H)
                    (try rw [hji27] at A6)
                    by_cases c28 : 0 ≤ (ji27)
                    · rw [if_pos c28] at H
                      have c28b0 := eq_true c28
                      have c28b1 : decide (0 ≤ (ji27)) = true := decide_eq_true c28
                      clear c28
                      obtain ⟨ji29, hji29⟩ : ∃ j_ : Int, (shl .u64 1 (ji27)) = j_ := ⟨_, rfl⟩
                      replace H : (bitset_Of.l0 k1 (x3_1.set ((ji24) : Int).toNat (Go.bits .or .u64 (rd x3_1 (ji24)) (ji29))) l0 (l0.length : Int) (wrap64 (x9_1 + 1))) = some r := by first | (rw [hji29] at H; exact H) | (simp only [hji29] at H ⊢; exact H)
                      (try rw [hji29] at A6)
                      have hji29_ : (IntKind.u64.wrap (1 * 2 ^ min (ji27).toNat 64)) = ji29 := hji29
                      have hji29z : (ji27) ≤ 64 → (IntKind.u64.wrap (1 * 2 ^ (ji27).toNat)) = ji29 := shl_small hji29
                      have hji29u : (IntKind.u64.wrap (2 ^ min (ji27).toNat 64)) = ji29 := by have h_ := hji29_; rw [Int.one_mul] at h_; exact h_
                      have hji29v : (ji27) ≤ 64 → (IntKind.u64.wrap (2 ^ (ji27).toNat)) = ji29 := fun hle_ => by have h_ := hji29z hle_; rw [Int.one_mul] at h_; exact h_
                      obtain ⟨y113, hy113⟩ : ∃ y_ : List Int, y_ = (x3_1.set ((ji24) : Int).toNat (Go.bits .or .u64 (rd x3_1 (ji24)) (ji29))) := ⟨_, rfl⟩
                      replace H : (bitset_Of.l0 k1 y113 l0 (l0.length : Int) (wrap64 (x9_1 + 1))) = some r := by first | (rw [hy113]; with_reducible exact H) | (have H2_ := (Option.bind_some _ _).symm.trans H; rw [hy113]; with_reducible exact H2_) | (have H2_ := (Option.bind_some _ _).symm.trans H; with_reducible exact H2_) | with_reducible exact H | (rw [hy113]; exact H) | exact H
                      have Ny113 := Aside0.mk hy113
                      clear hy113
                      have H' := Aside0.mk H
                      clear H
                      have p105 : 0 ≤ (x9_1 : Int) := of_decide_eq_true (by first | (with_reducible assumption) | assumption)
                      have q105 : x9_1 < (l0.length : Int) := of_decide_eq_true (by first | (with_reducible assumption) | assumption)
                      obtain ⟨ad105, e105, hx105_0⟩ := Kd.at_int HR0.out x9_1 p105 q105
                      cases e105
                      replace hx105_0 := (HB.out.cell (World.block_lt_of_cell? w _ hx105_0)).trans hx105_0
                      replace p105 := eq_true p105
                      replace q105 := eq_true q105
                      try go_wp2_with (first | ((with_reducible refine gate_callee (f := 37) rfl ?_); refine goesL_ (some 14) rfl rfl Tryd.func37 (by kernel_rfl) rfl #[.int .i64 (rd l0 x9_1)] rfl (by (try simp only [List.map_toArray, List.map_cons, List.map_nil]); first | done | rfl | (simp only [List.length_drop, List.length_take]; rfl)) ?_; (with_reducible refine (bitset_valid.calls (rd l0 x9_1) true _ A6.out).mono ?_); rintro e w' ⟨rfl, ⟨nd, rfl⟩⟩; refine ⟨_, rfl, ?_⟩; (try (rw [drewN_self wr]; generalize hq_ : World.drewN wr _ = wr; have n0_ : Aside0 (Kd.R (Kd.int .u64) 56 wr w.heap.size (fun k_ => (w.heap.size ≤ k_)) u3 x3_1) := ⟨by rw [← hq_]; exact (by (with_reducible repeat (first | apply Kd.R_alloc | apply Kd.R_drewN | apply Kd.R_drew)); exact HO_3.out)⟩; have n1_ : Aside0 (wr.heap[gb101]? = some (.cells #[.slice none 0 0] 27 (0, 0))) := ⟨by rw [← hq_]; exact (by (with_reducible repeat (first | refine blk_drewN ?_ _ | refine blk_drew ?_ | refine blk_alloc ?_ _)); exact BK101.out)⟩; have n2_ : Aside0 (Below w.heap.size w wr) := ⟨by rw [← hq_]; exact (by repeat (first | (with_reducible first | exact HB.out | apply below_alloc | apply pw_below_drewN | apply below_drew1 | refine below_set ?_ GE101.out) | exact HB.out))⟩; clear HO_3 BK101 HB hq_; have HO_3 := n0_; have BK101 := n1_; have HB := n2_; clear n0_ n1_ n2_)); obtain ⟨Ao31, co31, eo31⟩ := Kd.R_slice HO_3.out; subst eo31))
                      have n0_ := Aside0.mk (Kd.R_drew HO_3.out)
                      have n1_ := Aside0.mk (blk_drew BK101.out)
                      have n2_ := Aside0.mk (below_drew1 HB.out)
                      clear HO_3
                      clear BK101
                      clear HB
                      have HO_3 := n0_
                      have BK101 := n1_
                      have HB := n2_
                      clear n0_ n1_ n2_
                      have p112 : 0 ≤ ((ji24) : Int) := of_decide_eq_true (by first | (with_reducible assumption) | assumption)
                      have q112 : (ji24) < (x3_1.length : Int) := of_decide_eq_true (by first | (with_reducible assumption) | assumption)
                      obtain ⟨ad112, e112, hx112_0⟩ := Kd.at_int (Kd.R_reads' HO_3.out).2.2 (ji24) p112 q112
                      cases e112
                      replace p112 := eq_true p112
                      replace q112 := eq_true q112
                      have p30 : 0 ≤ ((ji24) : Int) := of_decide_eq_true (by first | (with_reducible assumption) | assumption)
                      have q30 : ((ji24) : Int) < ((x3_1.length : Int) : Int) := of_decide_eq_true (by first | (with_reducible assumption) | assumption)
                      obtain ⟨go30, co30, eo30, gb30, gl30, cl30, HG30⟩ := Kd.R_form HO_3.out (by omega)
                      (first | cases eo30 | (injection eo30 with ea_ en_ ec_; (first | subst ea_ | (injection ea_ with ea_; subst ea_)); subst ec_; clear en_))
                      have GB30 := Aside0.mk gb30
                      have GG30 := Aside0.mk HG30
                      clear gb30 gl30 HG30
                      (first | simp only [add_plain] at hx112_0 | skip)
                      obtain ⟨hx30_0, hf30_0⟩ := Kd.R_celln 0 HO_3.out ((ji24) : Int) p30 q30
                      replace p30 := eq_true p30
                      replace q30 := eq_true q30
                      have HP33 := Kd.R_putn HO_3.out ((ji24) : Int) (Go.bits .or .u64 (rd x3_1 (ji24)) (ji29))
                      rw [← Ny113.out] at HP33
                      have HQ33 := Aside0.mk HP33
                      clear HP33
                      refine start_ (n := 11) (S := fun w' => w'.cell? ⟨go30, ((ji24)).toNat, none⟩ = some (.int .u64 (rd x3_1 (ji24)))) (ds := [10]) #[false, false, false, false, false, false, false, false, false, false, false] (by kernel_rfl) rfl rfl (hx112_0) (fun hHeld => ?_); refine with_tabW bitset_Of.tab9 bitset_Of.bits9 (fun HT_ HW_ => ?_)
                      generalize wr.drew = w32 at HO_3 BK101 HB GG30 HQ33 hf30_0 hx112_0 hx30_0 hHeld ⊢
                      refine pure_ (i := 0) (N := some 27) (v := ?_) (a' := ?_) #[true, false, false, false, false, false, false, false, false, false, false] rfl rfl (any_of HT_.out (by kernel_rfl)) (fun _ _ _ h => h) (Or.inl ⟨by rfl, ?_⟩) ?_ ?_
                      rotate_left
                      · intro w'
                        go_simp
                        with_reducible rfl
                      rotate_left
                      · simp only [Act.put, List.setIfInBounds_toArray, List.set_cons_zero, List.set_cons_succ, i64_w, i32_w]
                        rfl
                      refine pure_ (i := 1) (N := some 28) (v := ?_) (a' := ?_) #[true, true, false, false, false, false, false, false, false, false, false] rfl rfl (any_of HT_.out (by kernel_rfl)) (fun _ _ _ h => h) (Or.inl ⟨by rfl, ?_⟩) ?_ ?_
                      rotate_left
                      · intro w'
                        go_simp
                        with_reducible rfl
                      rotate_left
                      · simp only [Act.put, List.setIfInBounds_toArray, List.set_cons_zero, List.set_cons_succ, i64_w, i32_w]
                        rfl
                      refine pure_ (i := 2) (N := some 29) (v := ?_) (a' := ?_) #[true, true, true, false, false, false, false, false, false, false, false] rfl rfl (any_of HT_.out (by kernel_rfl)) (fun _ _ _ h => h) (Or.inl ⟨by rfl, ?_⟩) ?_ ?_
                      rotate_left
                      · intro w'
                        go_simp
                        with_reducible rfl
                      rotate_left
                      · simp only [Act.put, List.setIfInBounds_toArray, List.set_cons_zero, List.set_cons_succ, i64_w, i32_w]
                        rfl
                      refine pure_ (i := 3) (N := some 30) (v := ?_) (a' := ?_) #[true, true, true, true, false, false, false, false, false, false, false] rfl rfl (any_of HT_.out (by kernel_rfl)) (fun _ _ _ h => h) (Or.inl ⟨by rfl, ?_⟩) ?_ ?_
                      rotate_left
                      · intro w'
                        go_simp
                        with_reducible rfl
                      rotate_left
                      · simp only [Act.put, List.setIfInBounds_toArray, List.set_cons_zero, List.set_cons_succ, i64_w, i32_w]
                        rfl
                      refine pure_ (i := 5) (N := some 32) (v := ?_) (a' := ?_) #[true, true, true, true, false, true, false, false, false, false, false] rfl rfl (any_of HT_.out (by kernel_rfl)) (fun _ _ _ h => h) (Or.inl ⟨by rfl, ?_⟩) ?_ ?_
                      rotate_left
                      · intro w'
                        go_simp
                        with_reducible rfl
                      rotate_left
                      · simp only [Act.put, List.setIfInBounds_toArray, List.set_cons_zero, List.set_cons_succ, i64_w, i32_w]
                        rfl
                      refine pure_ (i := 6) (N := some 33) (v := ?_) (a' := ?_) #[true, true, true, true, false, true, true, false, false, false, false] rfl rfl (any_of HT_.out (by kernel_rfl)) (fun _ _ _ h => h) (Or.inl ⟨by rfl, ?_⟩) ?_ ?_
                      rotate_left
                      · intro w'
                        go_simp
                        with_reducible rfl
                      rotate_left
                      · simp only [Act.put, List.setIfInBounds_toArray, List.set_cons_zero, List.set_cons_succ, i64_w, i32_w]
                        rfl
                      refine pure_ (i := 7) (N := some 34) (v := ?_) (a' := ?_) #[true, true, true, true, false, true, true, true, false, false, false] rfl rfl (any_of HT_.out (by kernel_rfl)) (fun _ _ _ h => h) (Or.inl ⟨by rfl, ?_⟩) ?_ ?_
                      rotate_left
                      · intro w'
                        go_simp
                        with_reducible rfl
                      rotate_left
                      · simp only [Act.put, List.setIfInBounds_toArray, List.set_cons_zero, List.set_cons_succ, i64_w, i32_w]
                        rfl
                      refine take_ (i := 4) (N := some 31) (v := ?_) (a' := ?_) #[true, true, true, true, true, true, true, true, false, false, false] rfl rfl (take_ofW HT_.out HW_.out (by kernel_rfl)) (fun _ _ _ h => h) (Or.inl ⟨by rfl, ?_⟩) hHeld ?_ ?_
                      rotate_left
                      · intro w' s0
                        go_simp
                        with_reducible rfl
                      rotate_left
                      · simp only [Act.put, List.setIfInBounds_toArray, List.set_cons_zero, List.set_cons_succ, i64_w, i32_w]
                        rfl
                      refine pure_ (i := 8) (N := some 35) (v := ?_) (a' := ?_) #[true, true, true, true, true, true, true, true, true, false, false] rfl rfl (any_of HT_.out (by kernel_rfl)) (fun _ _ _ h => h) (Or.inl ⟨by rfl, ?_⟩) ?_ ?_
                      rotate_left
                      · intro w'
                        go_simp
                        with_reducible rfl
                      rotate_left
                      · simp only [Act.put, List.setIfInBounds_toArray, List.set_cons_zero, List.set_cons_succ, i64_w, i32_w]
                        rfl
                      refine pure_ (i := 9) (N := some 36) (v := ?_) (a' := ?_) #[true, true, true, true, true, true, true, true, true, true, false] rfl rfl (any_of HT_.out (by kernel_rfl)) (fun _ _ _ h => h) (Or.inl ⟨by rfl, ?_⟩) ?_ ?_
                      rotate_left
                      · intro w'
                        go_simp
                        with_reducible rfl
                      rotate_left
                      · simp only [Act.put, List.setIfInBounds_toArray, List.set_cons_zero, List.set_cons_succ, i64_w, i32_w]
                        rfl
                      refine last_ (i := 10) (N := none) #[true, true, true, true, true, true, true, true, true, true, true] rfl rfl (one_of HT_.out (by kernel_rfl)) (by decide) (fun K hK => ?_)
                      refine skip_ (w1 := ?_) (by rfl) rfl ?_ ?_
                      rotate_left
                      · go_simp
                        rfl
                      refine hK.out _ _ ?_
                      clear hK K
                      refine done_ (done_of HT_.out (by kernel_rfl)) ?_
                      try go_wp2
                      go_roundg k1
                      case measure => have := HK1.out; omega
                      case rel => exact ⟨(y113), (wrap64 (x9_1 + 1)), (by first | rfl | (simp; done) | (simp [*]; done)), H', ⟨by have := HK1.out; omega⟩, ⟨by (with_reducible repeat (first | apply Kd.R_alloc | apply Kd.R_drewN | apply Kd.R_drew)); exact HQ33.out⟩, ⟨by (with_reducible repeat (first | refine blk_drewN ?_ _ | refine blk_drew ?_ | refine blk_alloc ?_ _)); refine blk_far ?_ (by have h_ := Kd.R_ne HO_3.out BK101.out (by decide); intro e_; exact h_ (by rw [e_]; rfl)) _; (with_reducible repeat (first | refine blk_drewN ?_ _ | refine blk_drew ?_ | refine blk_alloc ?_ _)); exact BK101.out⟩, ⟨by repeat (first | (with_reducible first | exact HB.out | apply below_alloc | apply pw_below_drewN | apply below_drew1 | refine below_set ?_ GB30.out | refine below_set ?_ GE101.out) | exact HB.out)⟩⟩
                    · rw [if_neg c28] at H
                      exact absurd H (by simp)
                  · rw [if_neg c26] at H
                    exact absurd H (by simp)
                · rw [if_neg c25] at H
                  exact absurd H (by simp)
            · replace c7 := Bool.eq_false_iff.mpr c7
              subst c7
              have H1 : (bitset_Of.l0 k1 x3_1 l0 (l0.length : Int) (wrap64 (x9_1 + 1))) = some r := by rw [if_neg (show ¬ (false = true) by decide)] at H; exact H
              clear H
              have H := H1
              clear H1
              have H' := Aside0.mk H
              clear H
              have p105 : 0 ≤ (x9_1 : Int) := of_decide_eq_true (by first | (with_reducible assumption) | assumption)
              have q105 : x9_1 < (l0.length : Int) := of_decide_eq_true (by first | (with_reducible assumption) | assumption)
              obtain ⟨ad105, e105, hx105_0⟩ := Kd.at_int HR0.out x9_1 p105 q105
              cases e105
              replace hx105_0 := (HB.out.cell (World.block_lt_of_cell? w _ hx105_0)).trans hx105_0
              replace p105 := eq_true p105
              replace q105 := eq_true q105
              go_wp2_with (first | ((with_reducible refine gate_callee (f := 37) rfl ?_); refine goesL_ (some 14) rfl rfl Tryd.func37 (by kernel_rfl) rfl #[.int .i64 (rd l0 x9_1)] rfl (by (try simp only [List.map_toArray, List.map_cons, List.map_nil]); first | done | rfl | (simp only [List.length_drop, List.length_take]; rfl)) ?_; (with_reducible refine (bitset_valid.calls (rd l0 x9_1) false _ A6.out).mono ?_); rintro e w' ⟨rfl, ⟨nd, rfl⟩⟩; refine ⟨_, rfl, ?_⟩))
              go_roundg k1
              case measure => have := HK1.out; omega
              case rel => exact ⟨(x3_1), (wrap64 (x9_1 + 1)), (by first | rfl | (simp; done) | (simp [*]; done)), H', ⟨by have := HK1.out; omega⟩, ⟨by (with_reducible repeat (first | apply Kd.R_alloc | apply Kd.R_drewN | apply Kd.R_drew)); exact HO_3.out⟩, ⟨by (with_reducible repeat (first | refine blk_drewN ?_ _ | refine blk_drew ?_ | refine blk_alloc ?_ _)); exact BK101.out⟩, ⟨by repeat (first | (with_reducible first | exact HB.out | apply below_alloc | apply pw_below_drewN | apply below_drew1 | refine below_set ?_ GE101.out) | exact HB.out)⟩⟩
          · rw [if_neg c5] at H
            exact absurd H (by simp)
        · rw [if_neg c4] at H
          exact absurd H (by simp)
      · rw [if_neg c3] at H
        have c3b0 : decide (x9_1 < (l0.length : Int)) = false := decide_eq_false c3
        clear c3
        replace H := Option.bind_eq_some_iff.mp H
        obtain ⟨t102, A340, H⟩ := H
        replace H : (some t102) = some r := H
        have A34 := Aside0.mk A340
        clear A340
        obtain rfl := Option.some.inj H
        obtain ⟨Ao35, co35, eo35⟩ := Kd.R_slice HO_3.out
        subst eo35
        go_wp2_with (first | ((with_reducible refine gate_callee (f := 38) rfl ?_); refine goesL_ (some 39) rfl rfl Tryd.func38 (by kernel_rfl) rfl #[.slice Ao35 x3_1.length co35] rfl (by (try simp only [List.map_toArray, List.map_cons, List.map_nil]); first | done | rfl | (simp only [List.length_drop, List.length_take]; rfl)) ?_; (with_reducible refine (bitset_trimmed.calls (fun k_ => some k_ = (.slice Ao35 x3_1.length co35 : Value).ownBlock) _ _ x3_1 t102 _ ?side1 A34.out).mono ?_); (case side1 => exact Kd.R_V (Kd.R_tight rfl (Kd.R_types (HO_3.out) BK101.out (by decide)))); rintro e w36 ⟨v103, rfl, ho0, hb⟩; refine ⟨_, rfl, ?_⟩; have n0_ := Aside0.mk (Kd.R_below (by (with_reducible repeat (first | apply Kd.R_alloc | apply Kd.R_drewN | apply Kd.R_drew)); exact HO_3.out) hb); have n1_ := Aside0.mk (Kd.V_lower (Kd.V_mono (ok' := fun k_ => (w.heap.size ≤ k_) ∧ k_ ≠ gb101) ho0 (fun k_ hk_ => ⟨Or.elim hk_ (fun hs_ => ((Kd.R_types (HO_3.out) BK101.out (by decide)).1 k_ hs_.symm).1) (fun hn_ => (Nat.le_trans (below_size (by repeat (first | (with_reducible first | exact HB.out | apply below_alloc | apply pw_below_drewN | apply below_drew1 | refine below_set ?_ GE101.out) | exact HB.out))) hn_)), Or.elim hk_ (fun hs_ => ((Kd.R_types (HO_3.out) BK101.out (by decide)).1 k_ hs_.symm).2) (fun hn_ => (Kd.freshB (g := gb101) (o := .cells #[.slice none 0 0] 27 (0, 0)) (by (with_reducible repeat (first | refine blk_drewN ?_ _ | refine blk_drew ?_ | refine blk_alloc ?_ _)); exact BK101.out) k_ hn_))⟩)) (below_size (by repeat (first | (with_reducible first | exact HB.out | apply below_alloc | apply pw_below_drewN | apply below_drew1 | refine below_set ?_ GE101.out) | exact HB.out)))); have n2_ := Aside0.mk (blk_below (g := gb101) (o := .cells #[.slice none 0 0] 27 (0, 0)) (by (with_reducible repeat (first | refine blk_drewN ?_ _ | refine blk_drew ?_ | refine blk_alloc ?_ _)); exact BK101.out) hb); have n3_ := Aside0.mk (below_step (by repeat (first | (with_reducible first | exact HB.out | apply below_alloc | apply pw_below_drewN | apply below_drew1 | refine below_set ?_ GE101.out) | exact HB.out)) hb); clear HO_3; clear BK101; clear HB; have HO_3 := n0_; have HO104 := n1_; have BK101 := n2_; have HB := n3_; clear n0_ n1_ n2_ n3_; (try clear hb); (try clear hb2); (try clear hk); (try clear hi); (try clear ho0); obtain ⟨Ao37, co37, eo37⟩ := Kd.V_slice HO104.out; subst eo37; have hcz38_0 : w36.cell? ⟨gb101, 0, none⟩ = some (.slice none 0 0) := (blk_cell BK101.out 0).trans rfl; have hfz38_0 := blk_frozen BK101.out 0))
        refine bodyPost_ret (results_cell_row rfl _ _ gb101 27 #[.slice Ao37 t102.length co37] (0, 0) _ rfl (by (with_reducible repeat (first | refine blk_drewN ?_ _ | refine blk_drew ?_ | refine blk_alloc ?_ _)); refine blk_put (cs := #[.slice none 0 0]) ?_ 0 _ rfl; (with_reducible repeat (first | refine blk_drewN ?_ _ | refine blk_drew ?_ | refine blk_alloc ?_ _)); exact BK101.out) Tryd.underlying27 rfl (by kernel_rfl)) rfl ?_
        exact ⟨_, by first | rfl | (simp [errW_none, errW_some] <;> rfl) | (simp [*, errW_none, errW_some] <;> rfl), by (with_reducible repeat (first | apply Kd.V_alloc | apply Kd.V_drewN | apply Kd.V_drew)); exact Kd.V_mono (Kd.V_far (p := ⟨gb101, 0, none⟩) (Kd.V_mono HO104.out (fun k_ hk => (⟨hk, hk.2⟩ : _ ∧ k_ ≠ gb101))) (fun _ hk => hk.2) (.slice Ao37 t102.length co37)) (fun _ hk => hk.1.1), by repeat (first | (with_reducible first | exact HB.out | apply below_alloc | apply pw_below_drewN | apply below_drew1 | refine below_set ?_ GE101.out) | exact HB.out)⟩

end Go.Proofs.YtoobapkccogdhaaDoor.PX
-- Written by a program of this session (wip/xprint.py, over the kit's print tool). Lean checks it.
namespace Go.Proofs.YtoobapkccogdhaaDoor.PX
open Go.RowKit Go.Proofs.YtoobapkccogdhaaDoorW.PrintWords Go.Proofs.YtoobapkccogdhaaDoorW.PrintLast Go.Proofs.YtoobapkccogdhaaDoorW.PrintMore
attribute [local go_sem] max2_int min2_int max_two min_two max_three min_three max_four min_four   -- for this text's walks alone
set_option linter.unusedVariables false
set_option linter.unusedSimpArgs false

/-! ### bitset_Set_word: function 40 -/
def bitset_Set_word.f (l0_0 : List Int) (a1 : Int) : Option (Int) := if a1 < (l0_0.length : Int) then (if 0 ≤ a1 then (some (rd l0_0 a1)) else (none)) else (some 0)
set_option maxHeartbeats 8000000 in
set_option maxRecDepth 100000 in
theorem bitset_Set_word.calls (A0_0 : Option Addr) (c0_0 : Nat) (l0_0 : List Int) (a1 : Int) (r : Int) (w : World) (hr0_0 : Kd.C (Kd.int .u64) w A0_0 l0_0.length l0_0) (hc0_0 : l0_0.length ≤ c0_0) (h : bitset_Set_word.f l0_0 a1 = some r) :
    Calls Tryd.prog 40 #[.agg #[.slice A0_0 l0_0.length c0_0], .int .i64 a1] w fun e w' => e = .returned (.int .u64 r) ∧ Below w.heap.size w w' := by
  have hu27 := Tryd.underlying27
  have HR0_0 := Aside0.mk hr0_0
  have HC0_0 := Aside0.mk hc0_0
  clear hr0_0 hc0_0
  have HB := Aside0.mk (Below.refl w.heap.size w)
  have H : (if a1 < (l0_0.length : Int) then (if 0 ≤ a1 then (some (rd l0_0 a1)) else (none)) else (some 0)) = some r := h
  clear h
  by_cases c3 : a1 < (l0_0.length : Int)
  · rw [if_pos c3] at H
    have c3b0 : decide (a1 < (l0_0.length : Int)) = true := decide_eq_true c3
    clear c3
    by_cases c4 : 0 ≤ a1
    · rw [if_pos c4] at H
      have c4b0 : decide (0 ≤ a1) = true := decide_eq_true c4
      clear c4
      obtain rfl := Option.some.inj H
      go_enter Tryd.func40, Tryd.ntmps40
      go_wp2_with (first | ((with_reducible refine gate_dst (N := 2) rfl ?_); refine box_event ?hg (N := 2) ?hd (cs := #[.slice A0_0 l0_0.length c0_0]) (t := 27) ?hr ?_; (case hd => rfl); (case hg => rfl); (case hr => first | (go_simp; done) | (go_simp; rfl)); intro gb114 hg w5 hbox hb; have n0_ := Aside0.mk (below_step (by repeat (first | (with_reducible first | exact HB.out | apply below_alloc | apply pw_below_drewN | apply below_drew1) | exact HB.out)) hb); have n1_ := Aside0.mk (hbox); have n2_ := Aside0.mk ((by rw [hg]; exact (below_size (by repeat (first | (with_reducible first | exact HB.out | apply below_alloc | apply pw_below_drewN | apply below_drew1) | exact HB.out))) : w.heap.size ≤ gb114)); have n3_ := Aside0.mk ((by rw [hg]; exact (below_size (by repeat (first | (with_reducible first | exact HB.out | apply below_alloc | apply pw_below_drewN | apply below_drew1) | exact HB.out))) : w.heap.size ≤ gb114)); clear HB; have HB := n0_; have BK114 := n1_; have GW114 := n2_; have GE114 := n3_; clear n0_ n1_ n2_ n3_; clear hb hbox hg; have hcz6_0 : w5.cell? ⟨gb114, 0, none⟩ = some (.slice A0_0 l0_0.length c0_0) := (blk_cell BK114.out 0).trans rfl; have hfz6_0 := blk_frozen BK114.out 0; have p115 : 0 ≤ (a1 : Int) := of_decide_eq_true (by first | (with_reducible assumption) | assumption); have q115 : a1 < (l0_0.length : Int) := of_decide_eq_true (by first | (with_reducible assumption) | assumption); obtain ⟨ad115, e115, hx115_0⟩ := Kd.at_int HR0_0.out a1 p115 q115; cases e115; replace hx115_0 := (HB.out.cell (World.block_lt_of_cell? w _ hx115_0)).trans hx115_0; replace p115 := eq_true p115; replace q115 := eq_true q115))
      go_ret
      exact ⟨by first | rfl | (simp [errW_none, errW_some] <;> rfl) | (simp [*, errW_none, errW_some] <;> rfl), by repeat (first | (with_reducible first | exact HB.out | apply below_alloc | apply pw_below_drewN | apply below_drew1 | refine below_set ?_ GE114.out) | exact HB.out)⟩
    · rw [if_neg c4] at H
      exact absurd H (by simp)
  · rw [if_neg c3] at H
    have c3b0 : decide (a1 < (l0_0.length : Int)) = false := decide_eq_false c3
    clear c3
    obtain rfl := Option.some.inj H
    go_enter Tryd.func40, Tryd.ntmps40
    go_wp2_with (first | ((with_reducible refine gate_dst (N := 2) rfl ?_); refine box_event ?hg (N := 2) ?hd (cs := #[.slice A0_0 l0_0.length c0_0]) (t := 27) ?hr ?_; (case hd => rfl); (case hg => rfl); (case hr => first | (go_simp; done) | (go_simp; rfl)); intro gb114 hg w7 hbox hb; have n0_ := Aside0.mk (below_step (by repeat (first | (with_reducible first | exact HB.out | apply below_alloc | apply pw_below_drewN | apply below_drew1) | exact HB.out)) hb); have n1_ := Aside0.mk (hbox); have n2_ := Aside0.mk ((by rw [hg]; exact (below_size (by repeat (first | (with_reducible first | exact HB.out | apply below_alloc | apply pw_below_drewN | apply below_drew1) | exact HB.out))) : w.heap.size ≤ gb114)); have n3_ := Aside0.mk ((by rw [hg]; exact (below_size (by repeat (first | (with_reducible first | exact HB.out | apply below_alloc | apply pw_below_drewN | apply below_drew1) | exact HB.out))) : w.heap.size ≤ gb114)); clear HB; have HB := n0_; have BK114 := n1_; have GW114 := n2_; have GE114 := n3_; clear n0_ n1_ n2_ n3_; clear hb hbox hg; have hcz8_0 : w7.cell? ⟨gb114, 0, none⟩ = some (.slice A0_0 l0_0.length c0_0) := (blk_cell BK114.out 0).trans rfl; have hfz8_0 := blk_frozen BK114.out 0))
    go_ret
    exact ⟨by first | rfl | (simp [errW_none, errW_some] <;> rfl) | (simp [*, errW_none, errW_some] <;> rfl), by repeat (first | (with_reducible first | exact HB.out | apply below_alloc | apply pw_below_drewN | apply below_drew1 | refine below_set ?_ GE114.out) | exact HB.out)⟩

/-! ### bitset_Set_Has: function 16 -/
def bitset_Set_Has.f (l0_0 : List Int) (a1 : Int) : Option (Bool) := (bitset_valid.f a1).bind fun t117 => (if t117 = true then ((bitset_Set_word.f l0_0 (wrap64 (Int.tdiv a1 64))).bind fun t118 => (if 0 ≤ (Int.tmod a1 64) then (some ((Go.bits .and .u64 (shr .u64 t118 (Int.tmod a1 64)) 1) == 1)) else (none))) else (some false))
set_option maxHeartbeats 8000000 in
set_option maxRecDepth 100000 in
theorem bitset_Set_Has.calls (A0_0 : Option Addr) (c0_0 : Nat) (l0_0 : List Int) (a1 : Int) (r : Bool) (w : World) (hr0_0 : Kd.C (Kd.int .u64) w A0_0 l0_0.length l0_0) (hc0_0 : l0_0.length ≤ c0_0) (h : bitset_Set_Has.f l0_0 a1 = some r) :
    Calls Tryd.prog 16 #[.agg #[.slice A0_0 l0_0.length c0_0], .int .i64 a1] w fun e w' => e = .returned (.bool r) ∧ Below w.heap.size w w' := by
  have hu27 := Tryd.underlying27
  have HR0_0 := Aside0.mk hr0_0
  have HC0_0 := Aside0.mk hc0_0
  clear hr0_0 hc0_0
  have HB := Aside0.mk (Below.refl w.heap.size w)
  have H : ((bitset_valid.f a1).bind fun t117 => (if t117 = true then ((bitset_Set_word.f l0_0 (wrap64 (Int.tdiv a1 64))).bind fun t118 => (if 0 ≤ (Int.tmod a1 64) then (some ((Go.bits .and .u64 (shr .u64 t118 (Int.tmod a1 64)) 1) == 1)) else (none))) else (some false))) = some r := h
  clear h
  replace H := Option.bind_eq_some_iff.mp H
  obtain ⟨t117, A30, H⟩ := H
  replace H : (if t117 = true then ((bitset_Set_word.f l0_0 (wrap64 (Int.tdiv a1 64))).bind fun t118 => (if 0 ≤ (Int.tmod a1 64) then (some ((Go.bits .and .u64 (shr .u64 t118 (Int.tmod a1 64)) 1) == 1)) else (none))) else (some false)) = some r := H
  have A3 := Aside0.mk A30
  clear A30
  by_cases c4 : t117 = true
  · subst c4
    have H1 : ((bitset_Set_word.f l0_0 (wrap64 (Int.tdiv a1 64))).bind fun t118 => (if 0 ≤ (Int.tmod a1 64) then (some ((Go.bits .and .u64 (shr .u64 t118 (Int.tmod a1 64)) 1) == 1)) else (none))) = some r := by rw [if_pos rfl] at H; exact H
    clear H
    have H := H1
    clear H1
    replace H := Option.bind_eq_some_iff.mp H
    obtain ⟨t118, A50, H⟩ := H
    replace H : (if 0 ≤ (Int.tmod a1 64) then (some ((Go.bits .and .u64 (shr .u64 t118 (Int.tmod a1 64)) 1) == 1)) else (none)) = some r := H
    have A5 := Aside0.mk A50
    clear A50
    obtain ⟨ji6, hji6⟩ : ∃ j_ : Int, (Int.tmod a1 64) = j_ := ⟨_, rfl⟩
    replace H : (if 0 ≤ (ji6) then (some ((Go.bits .and .u64 (shr .u64 t118 (ji6)) 1) == 1)) else (none)) = some r := by first | (rw [hji6] at H; exact H) | (simp only [hji6] at H ⊢; exact H)
    (try rw [hji6] at A3)
    (try rw [hji6] at A5)
    by_cases c7 : 0 ≤ (ji6)
    · rw [if_pos c7] at H
      have c7b0 := eq_true c7
      have c7b1 : decide (0 ≤ (ji6)) = true := decide_eq_true c7
      clear c7
      obtain ⟨ji8, hji8⟩ : ∃ j_ : Int, (shr .u64 t118 (ji6)) = j_ := ⟨_, rfl⟩
      replace H : (some ((Go.bits .and .u64 (ji8) 1) == 1)) = some r := by first | (rw [hji8] at H; exact H) | (simp only [hji8] at H ⊢; exact H)
      (try rw [hji8] at A3)
      (try rw [hji8] at A5)
      have hji8_ : (t118 / 2 ^ min (ji6).toNat 64) = ji8 := hji8
      have hji8z : (ji6) ≤ 64 → (t118 / 2 ^ (ji6).toNat) = ji8 := shr_small hji8
      obtain rfl := Option.some.inj H
      go_enter Tryd.func16, Tryd.ntmps16
      go_wp2_with (first | ((with_reducible refine gate_dst (N := 2) rfl ?_); refine box_event ?hg (N := 2) ?hd (cs := #[.slice A0_0 l0_0.length c0_0]) (t := 27) ?hr ?_; (case hd => rfl); (case hg => rfl); (case hr => first | (go_simp; done) | (go_simp; rfl)); intro gb116 hg w9 hbox hb; have n0_ := Aside0.mk (below_step (by repeat (first | (with_reducible first | exact HB.out | apply below_alloc | apply pw_below_drewN | apply below_drew1) | exact HB.out)) hb); have n1_ := Aside0.mk (hbox); have n2_ := Aside0.mk ((by rw [hg]; exact (below_size (by repeat (first | (with_reducible first | exact HB.out | apply below_alloc | apply pw_below_drewN | apply below_drew1) | exact HB.out))) : w.heap.size ≤ gb116)); have n3_ := Aside0.mk ((by rw [hg]; exact (below_size (by repeat (first | (with_reducible first | exact HB.out | apply below_alloc | apply pw_below_drewN | apply below_drew1) | exact HB.out))) : w.heap.size ≤ gb116)); clear HB; have HB := n0_; have BK116 := n1_; have GW116 := n2_; have GE116 := n3_; clear n0_ n1_ n2_ n3_; clear hb hbox hg) | ((with_reducible refine gate_callee (f := 37) rfl ?_); refine goesL_ (some 6) rfl rfl Tryd.func37 (by kernel_rfl) rfl #[.int .i64 a1] rfl (by (try simp only [List.map_toArray, List.map_cons, List.map_nil]); first | done | rfl | (simp only [List.length_drop, List.length_take]; rfl)) ?_; (with_reducible refine (bitset_valid.calls a1 true _ A3.out).mono ?_); rintro e w' ⟨rfl, ⟨nd, rfl⟩⟩; refine ⟨_, rfl, ?_⟩; have hcz10_0 : w9.cell? ⟨gb116, 0, none⟩ = some (.slice A0_0 l0_0.length c0_0) := (blk_cell BK116.out 0).trans rfl; have hfz10_0 := blk_frozen BK116.out 0) | (go_at_call 40; (with_reducible refine (bitset_Set_word.calls _ _ l0_0 (wrap64 (Int.tdiv a1 64)) t118 _ ?side1 ?side2 A5.out).mono ?_); (case side1 => repeat (first | exact (Kd.C_below HR0_0.out (by repeat (first | (with_reducible first | exact HB.out | apply below_alloc | apply pw_below_drewN | apply below_drew1 | refine below_set ?_ GE116.out) | exact HB.out))) | (with_reducible refine Kd.C_alloc ?_ _) | (with_reducible refine Kd.C_drewN ?_ _) | (with_reducible refine Kd.C_drew ?_))); (case side2 => exact HC0_0.out); rintro e w11 ⟨rfl, hb⟩; have n0_ := Aside0.mk (blk_below (g := gb116) (o := .cells #[.slice A0_0 l0_0.length c0_0] 27 (0, 0)) (by (with_reducible repeat (first | refine blk_drewN ?_ _ | refine blk_drew ?_ | refine blk_alloc ?_ _)); exact BK116.out) hb); have n1_ := Aside0.mk (below_step (by repeat (first | (with_reducible first | exact HB.out | apply below_alloc | apply pw_below_drewN | apply below_drew1 | refine below_set ?_ GE116.out) | exact HB.out)) hb); clear BK116; clear HB; have BK116 := n0_; have HB := n1_; clear n0_ n1_; (try clear hb); (try clear hb2); (try clear hk); (try clear hi)))
      go_ret
      exact ⟨by first | rfl | (simp [errW_none, errW_some] <;> rfl) | (simp only [← hji6, ← hji8]; first | rfl | (simp [errW_none, errW_some] <;> rfl)) | (simp [*, errW_none, errW_some] <;> rfl), by repeat (first | (with_reducible first | exact HB.out | apply below_alloc | apply pw_below_drewN | apply below_drew1 | refine below_set ?_ GE116.out) | exact HB.out)⟩
    · rw [if_neg c7] at H
      exact absurd H (by simp)
  · replace c4 := Bool.eq_false_iff.mpr c4
    subst c4
    have H1 : (some false) = some r := by rw [if_neg (show ¬ (false = true) by decide)] at H; exact H
    clear H
    have H := H1
    clear H1
    obtain rfl := Option.some.inj H
    go_enter Tryd.func16, Tryd.ntmps16
    go_wp2_with (first | ((with_reducible refine gate_dst (N := 2) rfl ?_); refine box_event ?hg (N := 2) ?hd (cs := #[.slice A0_0 l0_0.length c0_0]) (t := 27) ?hr ?_; (case hd => rfl); (case hg => rfl); (case hr => first | (go_simp; done) | (go_simp; rfl)); intro gb116 hg w12 hbox hb; have n0_ := Aside0.mk (below_step (by repeat (first | (with_reducible first | exact HB.out | apply below_alloc | apply pw_below_drewN | apply below_drew1) | exact HB.out)) hb); have n1_ := Aside0.mk (hbox); have n2_ := Aside0.mk ((by rw [hg]; exact (below_size (by repeat (first | (with_reducible first | exact HB.out | apply below_alloc | apply pw_below_drewN | apply below_drew1) | exact HB.out))) : w.heap.size ≤ gb116)); have n3_ := Aside0.mk ((by rw [hg]; exact (below_size (by repeat (first | (with_reducible first | exact HB.out | apply below_alloc | apply pw_below_drewN | apply below_drew1) | exact HB.out))) : w.heap.size ≤ gb116)); clear HB; have HB := n0_; have BK116 := n1_; have GW116 := n2_; have GE116 := n3_; clear n0_ n1_ n2_ n3_; clear hb hbox hg) | ((with_reducible refine gate_callee (f := 37) rfl ?_); refine goesL_ (some 6) rfl rfl Tryd.func37 (by kernel_rfl) rfl #[.int .i64 a1] rfl (by (try simp only [List.map_toArray, List.map_cons, List.map_nil]); first | done | rfl | (simp only [List.length_drop, List.length_take]; rfl)) ?_; (with_reducible refine (bitset_valid.calls a1 false _ A3.out).mono ?_); rintro e w' ⟨rfl, ⟨nd, rfl⟩⟩; refine ⟨_, rfl, ?_⟩))
    go_ret
    exact ⟨by first | rfl | (simp [errW_none, errW_some] <;> rfl) | (simp [*, errW_none, errW_some] <;> rfl), by repeat (first | (with_reducible first | exact HB.out | apply below_alloc | apply pw_below_drewN | apply below_drew1 | refine below_set ?_ GE116.out) | exact HB.out)⟩

end Go.Proofs.YtoobapkccogdhaaDoor.PX
