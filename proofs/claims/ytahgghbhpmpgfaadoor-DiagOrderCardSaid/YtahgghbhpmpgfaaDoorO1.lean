/- Parts of the proof, merged in build order: Shelf, MGW, Laid, Open, PXx0, Types, MLib, PXx3, MBuilder, MFormat, PXx5, PXx6. -/
import Derived.Shelf.Strings.Builder1
import Derived.Shelf.Small.Bits
import Derived.Shelf.Utf8.RuneCount
import Derived.Shelf.Strconv.Itoa0
import Derived.Shelf.Strconv.Itoa1
import Derived.Shelf.LaysM
import Derived.Shelf.Strconv.Itoa2
import Derived.Shelf.Strconv.Itoa3
import Derived.Shelf.Strings.Search1
import Derived.Shelf.Strings.Search2
import Derived.Shelf.Strings.Search3
import Derived.Shelf.Strings.Cut
import Derived.Shelf.Strings.Count
import Derived.Shelf.Strings.Shaped
import Derived.Shelf.Strings.Split
import Derived.Shelf.Strings.SplitShaped
import Derived.Shelf.Unicode.Decode
import Derived.Shelf.Strings.RuneCount
import Derived.Shelf.Strings.Explode
import Derived.Shelf.Unicode.DecodeSlow
import Derived.Shelf.Unicode.DecodeAny
import Derived.Ground.Names2Prog
import Derived.Shelf.Slices.SearchI
import Derived.Test.YtahgghbhpmpgfaaDoorProg
import Derived.Test.YtahgghbhpmpgfaaDoorO0
import Derived.Test.YtahgghbhpmpgfaaDoorRows
import Derived.LaidMore
import Derived.LaidSub
import Derived.Stop.Joined
import Derived.Lib.LaidTab
import Derived.ProofKit
import Derived.OpenShut
import Derived.DataReads
import Derived.Deep.Slices
import Derived.Below
import Derived.Deep.Draws
import Derived.Deep.AppendLies
import Derived.Maps.AppendAt
import Derived.OwnWalk
import Derived.Laws.BytesArg
import Derived.Laws.MakeOwn
import Derived.Laws.OwnMore
import Derived.Deep.OwnRows
import Derived.Tactics
import Derived.Lib.ConvBytes
import Derived.Laws.Slices
import Derived.WalkKit
import Derived.KernelRfl
import Derived.RowKit3
import Derived.Deep.LoopGhost
import Derived.Deep.QuietTactic
import Derived.BigQuiet
import Derived.WideLaws
import Derived.Deep.DeepCutAuto
import Derived.Deep.CutBlock
import Derived.Deep.RegionHeld3
import Derived.Laws.Rows
import Derived.Lib.AppendStr
import Derived.ArgAppend
import Derived.Laws.IdiomCopy
import Derived.OrdersHeld
import Derived.Laws.BitsLemmas
import Derived.RowKit
import Derived.SizedLaws
import Derived.ChangeOld
import Derived.Lib.ItoaLen
import Derived.Lib.AppendIntMem
import Derived.Lib.Builder
import Derived.Laws.Externs
/-
  DERIVED: THE SHELF's CONTRACTS AT THIS DUMP, IN PLAIN WORDS (tools/lay-plain.mjs out of 'YtahgghbhpmpgfaaDoorShelfx.lean', which tools/lay-shelf.mjs wrote): THE SAME DECLARATIONS UNDER THE SAME NAMES: 'import', 'namespace', 'open', 'def', 'theorem' AND NOTHING ELSE: no command of the shelf's: FOR A HAND-IN. Each laying: the table of numbers ('.._ren') and one theorem, a field a fact of the dump's own or the kernel's comparison; each contract: ONE APPLICATION.
-/
namespace Go.Proofs
open Go.Shelf
def Tryd.lays169_ren : Go.Shelf.Ren := ⟨fun | 169 => 34 | n => n, fun | 70 => 47 | 9 => 9 | 0 => 0 | 72 => 50 | 37 => 48 | 127 => 70 | 3 => 3 | 5 => 5 | n => n, fun | n => n⟩
theorem Tryd.lays169 : Go.Proofs.Lays.n169 Tryd.prog Tryd.lays169_ren := {
  mixed := by kernel_rfl
  f169 := Tryd.func34.trans (congrArg some (by kernel_rfl))
  t0 := Tryd.underlying0
  a0 := Tryd.isAgg0
  z0 := Tryd.sizeOf0
  v0 := Tryd.zeroValue0
  t3 := Tryd.underlying3
  a3 := Tryd.isAgg3
  z3 := Tryd.sizeOf3
  v3 := Tryd.zeroValue3
  t9 := Tryd.underlying9
  a9 := Tryd.isAgg9
  z9 := Tryd.sizeOf9
  v9 := Tryd.zeroValue9
  t37 := Tryd.underlying48
  a37 := Tryd.isAgg48
  z37 := Tryd.sizeOf48
  v37 := Tryd.zeroValue48
  t70 := Tryd.underlying47
  a70 := Tryd.isAgg47
  z70 := Tryd.sizeOf47
  v70 := Tryd.zeroValue47
  t72 := Tryd.underlying50
  a72 := Tryd.isAgg50
  z72 := Tryd.sizeOf50
  v72 := Tryd.zeroValue50
  t127 := Tryd.underlying70
  a127 := Tryd.isAgg70
  z127 := Tryd.sizeOf70
  v127 := Tryd.zeroValue70 }
theorem Tryd.Builder_Extra_169 : Builder.Extra Tryd.prog Tryd.lays169_ren := {
  sizeBuilder := by kernel_rfl
  liesBuilder := by kernel_rfl
  t5 := Tryd.underlying5
  a5 := Tryd.isAgg5
  z5 := Tryd.sizeOf5
  v5 := Tryd.zeroValue5
  infoByte := by kernel_rfl
  cellsByte := by kernel_rfl
  sizeByte := by kernel_rfl
  neB5 := by decide }
open Go.RowKit in
theorem Tryd.Builder_String_any (B b : Nat) (l : List UInt8) (w : World) (h : Lib.IsBuilder 50 5 B b (Lib.byteCells l) w) (hBw : B ≤ w.heap.size) :
    Calls Tryd.prog 34 #[.pointer (some ⟨b, 0, none⟩)] w fun e w' => e = .returned (.string ⟨l.toArray⟩) ∧ Below B w w' := Any.Builder_String_any Tryd.lays169 Tryd.Builder_Extra_169 B b l w h hBw
def Tryd.laysM171_ren : Go.Shelf.Ren := ⟨fun | 171 => 33 | 243 => 51 | 246 => 62 | 283 => 78 | 284 => 79 | 285 => 80 | 286 => 81 | 129 => 73 | 317 => 90 | 318 => 91 | 319 => 92 | 320 => 93 | 337 => 96 | 338 => 97 | n => n, fun | 3 => 3 | 9 => 9 | 2 => 2 | 4 => 4 | 171 => 94 | 0 => 0 | 53 => 92 | 37 => 48 | 5 => 5 | 173 => 96 | 212 => 109 | 51 => 90 | 20 => 20 | 213 => 110 | 46 => 75 | 232 => 117 | 233 => 118 | n => n, fun | 17 => 1 | 18 => 4 | 19 => 5 | n => n⟩
theorem Tryd.laysM171 : Go.Proofs.LaysM.n171 Tryd.prog Tryd.laysM171_ren := {
  mixed := by kernel_rfl
  f129 := Tryd.func73.trans (congrArg some (by kernel_rfl))
  f171 := Tryd.func33.trans (congrArg some (by kernel_rfl))
  f243 := Tryd.func51.trans (congrArg some (by kernel_rfl))
  f246 := Tryd.func62.trans (congrArg some (by kernel_rfl))
  f283 := Tryd.func78.trans (congrArg some (by kernel_rfl))
  f284 := Tryd.func79.trans (congrArg some (by kernel_rfl))
  f285 := Tryd.func80.trans (congrArg some (by kernel_rfl))
  f286 := Tryd.func81.trans (congrArg some (by kernel_rfl))
  f317 := Tryd.func90.trans (congrArg some (by kernel_rfl))
  f318 := Tryd.func91.trans (congrArg some (by kernel_rfl))
  f319 := Tryd.func92.trans (congrArg some (by kernel_rfl))
  f320 := Tryd.func93.trans (congrArg some (by kernel_rfl))
  f337 := Tryd.func96.trans (congrArg some (by kernel_rfl))
  f338 := Tryd.func97.trans (congrArg some (by kernel_rfl))
  t0 := Tryd.underlying0
  a0 := Tryd.isAgg0
  z0 := Tryd.sizeOf0
  v0 := Tryd.zeroValue0
  t2 := Tryd.underlying2
  a2 := Tryd.isAgg2
  z2 := Tryd.sizeOf2
  v2 := Tryd.zeroValue2
  t3 := Tryd.underlying3
  a3 := Tryd.isAgg3
  z3 := Tryd.sizeOf3
  v3 := Tryd.zeroValue3
  t4 := Tryd.underlying4
  a4 := Tryd.isAgg4
  z4 := Tryd.sizeOf4
  v4 := Tryd.zeroValue4
  t5 := Tryd.underlying5
  a5 := Tryd.isAgg5
  z5 := Tryd.sizeOf5
  v5 := Tryd.zeroValue5
  t9 := Tryd.underlying9
  a9 := Tryd.isAgg9
  z9 := Tryd.sizeOf9
  v9 := Tryd.zeroValue9
  t20 := Tryd.underlying20
  a20 := Tryd.isAgg20
  z20 := Tryd.sizeOf20
  v20 := Tryd.zeroValue20
  t37 := Tryd.underlying48
  a37 := Tryd.isAgg48
  z37 := Tryd.sizeOf48
  v37 := Tryd.zeroValue48
  t46 := Tryd.underlying75
  a46 := Tryd.isAgg75
  z46 := Tryd.sizeOf75
  v46 := Tryd.zeroValue75
  t51 := Tryd.underlying90
  a51 := Tryd.isAgg90
  z51 := Tryd.sizeOf90
  v51 := Tryd.zeroValue90
  t53 := Tryd.underlying92
  a53 := Tryd.isAgg92
  z53 := Tryd.sizeOf92
  v53 := Tryd.zeroValue92
  t171 := Tryd.underlying94
  a171 := Tryd.isAgg94
  z171 := Tryd.sizeOf94
  v171 := Tryd.zeroValue94
  t173 := Tryd.underlying96
  a173 := Tryd.isAgg96
  z173 := Tryd.sizeOf96
  v173 := Tryd.zeroValue96
  t212 := Tryd.underlying109
  a212 := Tryd.isAgg109
  z212 := Tryd.sizeOf109
  v212 := Tryd.zeroValue109
  t213 := Tryd.underlying110
  a213 := Tryd.isAgg110
  z213 := Tryd.sizeOf110
  t232 := Tryd.underlying117
  a232 := Tryd.isAgg117
  z232 := Tryd.sizeOf117
  v232 := Tryd.zeroValue117
  t233 := Tryd.underlying118
  a233 := Tryd.isAgg118
  z233 := Tryd.sizeOf118
  v233 := Tryd.zeroValue118
  g17 := by kernel_rfl
  g18 := by kernel_rfl
  g19 := by kernel_rfl
  i0 := by kernel_rfl
  i2 := by kernel_rfl
  i3 := by kernel_rfl
  i4 := by kernel_rfl
  i5 := by kernel_rfl
  i9 := by kernel_rfl
  i20 := by kernel_rfl
  i37 := by kernel_rfl
  i46 := by kernel_rfl
  i51 := by kernel_rfl
  i53 := by kernel_rfl
  i171 := by kernel_rfl
  i173 := by kernel_rfl
  i212 := by kernel_rfl
  i232 := by kernel_rfl
  i233 := by kernel_rfl
  m17 := by kernel_rfl
  m18 := by kernel_rfl
  m19 := by kernel_rfl }
open Go.RowKit Go.Sort Go.Lib in
theorem Tryd.strconv_Itoa (n : Int) (h0 : -9223372036854775808 ≤ n) (h1 : n ≤ 9223372036854775807) (w : World) (htab : Lib.TabIs Tryd.prog w "internal/strconv.uint64pow10" .u64 Lib.pow10Tab) :
    Calls Tryd.prog 33 #[.int .i64 n] w fun e w' => e = .returned (.string ⟨(Lib.itoa n).toArray⟩) ∧ ∃ k os, w' = grow (w.drewN k) os := Any.strconv_Itoa Tryd.laysM171 n h0 h1 w htab
def Tryd.lays138_ren : Go.Shelf.Ren := ⟨fun | 138 => 31 | 195 => 47 | 218 => 48 | 143 => 49 | 219 => 60 | 217 => 74 | 225 => 75 | 224 => 76 | 267 => 77 | 266 => 88 | 314 => 89 | n => n, fun | 9 => 9 | 3 => 3 | 4 => 4 | 5 => 5 | 0 => 0 | 46 => 75 | 146 => 106 | 51 => 90 | n => n, fun | 1 => 0 | n => n⟩
theorem Tryd.lays138 : Go.Proofs.Lays.n138 Tryd.prog Tryd.lays138_ren := {
  mixed := by kernel_rfl
  f138 := Tryd.func31.trans (congrArg some (by kernel_rfl))
  f143 := Tryd.func49.trans (congrArg some (by kernel_rfl))
  f195 := Tryd.func47.trans (congrArg some (by kernel_rfl))
  f217 := Tryd.func74.trans (congrArg some (by kernel_rfl))
  f218 := Tryd.func48.trans (congrArg some (by kernel_rfl))
  f219 := Tryd.func60.trans (congrArg some (by kernel_rfl))
  f224 := Tryd.func76.trans (congrArg some (by kernel_rfl))
  f225 := Tryd.func75.trans (congrArg some (by kernel_rfl))
  f266 := Tryd.func88.trans (congrArg some (by kernel_rfl))
  f267 := Tryd.func77.trans (congrArg some (by kernel_rfl))
  f314 := Tryd.func89.trans (congrArg some (by kernel_rfl))
  t0 := Tryd.underlying0
  a0 := Tryd.isAgg0
  z0 := Tryd.sizeOf0
  v0 := Tryd.zeroValue0
  t3 := Tryd.underlying3
  a3 := Tryd.isAgg3
  z3 := Tryd.sizeOf3
  v3 := Tryd.zeroValue3
  t4 := Tryd.underlying4
  a4 := Tryd.isAgg4
  z4 := Tryd.sizeOf4
  v4 := Tryd.zeroValue4
  t5 := Tryd.underlying5
  a5 := Tryd.isAgg5
  z5 := Tryd.sizeOf5
  v5 := Tryd.zeroValue5
  t9 := Tryd.underlying9
  a9 := Tryd.isAgg9
  z9 := Tryd.sizeOf9
  v9 := Tryd.zeroValue9
  t46 := Tryd.underlying75
  a46 := Tryd.isAgg75
  z46 := Tryd.sizeOf75
  v46 := Tryd.zeroValue75
  t51 := Tryd.underlying90
  a51 := Tryd.isAgg90
  z51 := Tryd.sizeOf90
  v51 := Tryd.zeroValue90
  t146 := Tryd.underlying106
  a146 := Tryd.isAgg106
  z146 := Tryd.sizeOf106
  v146 := Tryd.zeroValue106
  g1 := by kernel_rfl }
open Go.RowKit Go.Lib in
theorem Tryd.strings_Count_one (s : ByteArray) (c : UInt8) (w : World) :
    Calls Tryd.prog 31 #[.string s, .string ⟨#[c]⟩] w fun e w' => e = .returned (.int .i64 (Lib.countByte s.data.toList c)) ∧ w' = w := Any.strings_Count_one Tryd.lays138 s c w
end Go.Proofs
/- A property of worlds: the table of strconv's powers of ten lies in memory as its initialiser lays it, and the first variable holds a whole number. -/
namespace Go.Proofs.YtahgghbhpmpgfaaDoor.PX
open Go.RowKit Go.Proofs.YtahgghbhpmpgfaaDoorW.PrintWords
theorem var_below {P : Program} {w w1 : World} {n : String} {cs : Array Value} (h : w.var? P n = some cs) (hb : Below w.heap.size w w1) : w1.var? P n = some cs := by
  unfold World.var? at h ⊢
  rw [Option.bind_eq_some_iff] at h ⊢
  obtain ⟨g, hg, h⟩ := h
  refine ⟨g, hg, ?_⟩
  have hlt : g < w.heap.size := by
    by_cases hl : g < w.heap.size
    · exact hl
    · rw [Array.getElem?_eq_none (by omega)] at h; cases h
  rw [hb.block g hlt]
  exact h
structure GW (w : World) : Prop where
  pow : Lib.TabIs Tryd.prog w "internal/strconv.uint64pow10" .u64 Lib.pow10Tab
  mx : ∃ m, w.cell? ⟨0, 0, none⟩ = some (.int .i64 m)
theorem GW.below {w w1 : World} (h : GW w) (hb : Below w.heap.size w w1) : GW w1 := ⟨var_below h.pow hb, by
  obtain ⟨m, hm⟩ := h.mx
  exact ⟨m, (hb.cell (World.block_lt_of_cell? w _ hm)).trans hm⟩⟩
end Go.Proofs.YtahgghbhpmpgfaaDoor.PX
/- What the row's conditions on the listed variables, and the shape of the world, give the walks. -/
namespace Go.Proofs.YtahgghbhpmpgfaaDoor.PX
open Go.ChangeShapes Go.WideShapes Go.RowKit
open Go.Proofs.YtahgghbhpmpgfaaDoorW.PrintWords
set_option linter.unusedVariables false
theorem gPow : Tryd.prog.globalNamed "internal/strconv.uint64pow10" = some 1 := by kernel_rfl
theorem tPow : (Tryd.prog.globals[1]?).map (·.type) = some 109 := by kernel_rfl
theorem dPow : (Rows.laid_internal_strconv_uint64pow10 : DataW Unit) = Lib.tabData .u64 Lib.pow10Tab := by kernel_rfl
theorem int_of_shape {P : Program} {w : World} {g : Nat} {t : TypeId} {k : IntKind} {zero : Array Value} (h : w.ShapedOpen P) (hg : g < P.globals.size)
    (h0 : ((begin P (fun _ _ => 0) default).world.heap[g]?).bind Obj.row? = some (zero, t)) (hz : zero.size = 1)
    (hb : P.buildable t = true) (hc : P.cellTypes P.depth t = some [t]) (hu : P.underlying t = some (.int k)) : ∃ n, w.cell? ⟨g, 0, none⟩ = some (.int k n) := by
  obtain ⟨cs, hh, hs, hr⟩ := h.1 g zero t hg h0
  obtain ⟨ts, hts, _, hall⟩ := hr hb
  rw [hc] at hts
  cases hts
  have h1 : 0 < cs.size := by omega
  obtain ⟨u, hu', hok⟩ := hall 0 cs[0] (by simp [h1])
  have : u = t := by simpa using hu'.symm
  subst this
  have hcell : w.cell? ⟨g, 0, none⟩ = some cs[0] := by simp [World.cell?, hh, h1]
  rw [hcell]
  unfold Cell.ok at hok
  rw [hu] at hok
  cases hv : cs[0] <;> rw [hv] at hok <;> first | (simp at hok; done) | (obtain ⟨rfl, _⟩ := hok; exact ⟨_, rfl⟩) | (simp at hok; obtain ⟨rfl, _⟩ := hok; exact ⟨_, rfl⟩)
theorem mx_of_shape {W : World} (h : W.ShapedOpen Tryd.prog) : ∃ m, W.cell? ⟨0, 0, none⟩ = some (.int .i64 m) :=
  int_of_shape (zero := #[.int .i64 0]) h (of_decide_eq_true (by kernel_rfl)) (by kernel_rfl) rfl (by kernel_rfl) (by kernel_rfl) Tryd.underlying3
set_option maxRecDepth 100000 in
theorem gw_of_pow {W : World} (h5 : laidMetH Tryd.prog [("internal/strconv.uint64pow10", Rows.laid_internal_strconv_uint64pow10)] W) (hs : W.ShapedOpen Tryd.prog) : GW W := by
  rw [MakeChecks.laidMetH_plain _ _ _ (by kernel_rfl), dPow] at h5
  exact ⟨Lib.tabIs_of_head gPow tPow Tryd.underlying109 Tryd.underlying92 (by kernel_rfl) (by kernel_rfl) h5, mx_of_shape hs⟩
set_option maxRecDepth 100000 in
theorem gw_of_laid {W : World} (h : laidMetH Tryd.prog [("math/bits.deBruijn32tab", Rows.laid_math_bits_deBruijn32tab), ("math/bits.deBruijn64tab", Rows.laid_math_bits_deBruijn64tab), ("internal/strconv.uint64pow10", Rows.laid_internal_strconv_uint64pow10)] W) (hs : W.ShapedOpen Tryd.prog) : GW W :=
  gw_of_pow (h.filter (fun x => x.1 == "internal/strconv.uint64pow10")) hs
end Go.Proofs.YtahgghbhpmpgfaaDoor.PX
/- Arguments opened: what a reading of a type gives in the words of the printed contracts (Kd.K, Kd.C). Of no program. -/
namespace Go.Proofs.YtahgghbhpmpgfaaDoor.PX
open Go.RowKit Go.Proofs.YtahgghbhpmpgfaaDoorW.PrintWords
set_option linter.unusedVariables false
/-- A relation between what a value stands for and what it reads as. -/
abbrev Rd (α : Type) := (H : Type) → α → DataW H → Prop
abbrev RdF (α : Type) := (H : Type) → α → List (DataW H) → Prop
structure OpensAt (N : Nat) (P : Program) {α : Type} (d : Kd α) (t : TypeId) (q : Rd α) : Prop where
  sz : d.sz = P.cellsOf t
  op : ∀ {H : Type} {enc : TypeId × Value → H} {w : World} {base : Nat} {spare : Nat → Bool} {held : Bool} {fuel : Nat} {cs : List Value} {y : DataW H × List MemPlace}, fuel ≤ N →
    DataW.trod enc P w base spare held fuel t cs = some y → ∃ x, d.K w x cs ∧ q H x y.1
structure OpensF (N : Nat) (P : Program) {α : Type} (d : Kd α) (fs : List Field) (off : Nat) (q : RdF α) : Prop where
  op : ∀ {H : Type} {enc : TypeId × Value → H} {w : World} {base : Nat} {spare : Nat → Bool} {held : Bool} {n : Nat} {cs : List Value} {ys : List (DataW H × List MemPlace)}, n ≤ N → cs.length = off + d.sz → ys.length = fs.length →
    (∀ (j : Nat) (f : Field), fs[j]? = some f → DataW.trod enc P w base spare held n f.type ((cs.drop f.offset).take (P.cellsOf f.type)) = ys[j]?) → ∃ x, d.K w x (cs.drop off) ∧ q H x (ys.map (·.1))
def rInt (k : IntKind) : Rd Int := fun _ n y => y = .lit (.int k n) ∧ (Lit.int k n).wf = true
def rBool : Rd Bool := fun _ b y => y = .lit (.bool b)
def rStr : Rd ByteArray := fun _ s y => y = .lit (.string s.data.toList) ∧ s.size ≤ maxLen
def rSl {α : Type} (q : Rd α) : Rd (List α) := fun H xs y => (xs = [] ∧ y = .nil) ∨ ∃ es rest, y = .slice es rest ∧ es.length = xs.length ∧ ∀ (i : Nat) (x : α) (e : DataW H), xs[i]? = some x → es[i]? = some e → q H x e
def rOne {α : Type} (q : Rd α) : RdF α := fun H x ys => ∃ y, ys = [y] ∧ q H x y
def rCons {α β : Type} (q : Rd α) (r : RdF β) : RdF (α × β) := fun H x ys => ∃ y zs, ys = y :: zs ∧ q H x.1 y ∧ r H x.2 zs
def rSt {α β : Type} (f : β → α) (q : RdF α) : Rd β := fun H x y => ∃ ys, y = .agg ys ∧ q H (f x) ys
section
variable {N : Nat} {P : Program}
theorem OpensAt.zero {α : Type} {d : Kd α} {t : TypeId} {q : Rd α} (hsz : d.sz = P.cellsOf t) : OpensAt 0 P d t q := ⟨hsz, fun {H enc w base spare held fuel cs y} hf h => by
  obtain rfl : fuel = 0 := by omega
  simp [DataW.trod] at h⟩
theorem OpensAt.int {t : TypeId} {k : IntKind} (ht : P.underlying t = some (.int k)) (hc : P.cellsOf t = 1) : OpensAt N P (Kd.int k) t (rInt k) := ⟨hc.symm, fun hf h => by
  obtain ⟨n, rfl, rfl, hw⟩ := DataW.trod_int ht h
  exact ⟨n, rfl, rfl, hw⟩⟩
theorem OpensAt.bool {t : TypeId} (ht : P.underlying t = some .bool) (hc : P.cellsOf t = 1) : OpensAt N P Kd.bool t rBool := ⟨hc.symm, fun hf h => by
  obtain ⟨b, rfl, rfl⟩ := DataW.trod_bool ht h
  exact ⟨b, rfl, rfl⟩⟩
theorem OpensAt.str {t : TypeId} (ht : P.underlying t = some .string) (hc : P.cellsOf t = 1) : OpensAt N P Kd.string t rStr := ⟨hc.symm, fun hf h => by
  obtain ⟨s, rfl, rfl, hs⟩ := DataW.trod_string ht h
  exact ⟨s, rfl, rfl, hs⟩⟩
theorem choose_list {α β : Type} {n : Nat} {R : Nat → α → Prop} (h : ∀ i, i < n → ∃ x, R i x) : ∃ xs : List α, xs.length = n ∧ ∀ i x, xs[i]? = some x → R i x := by
  induction n with
  | zero => exact ⟨[], rfl, fun i x h => by simp at h⟩
  | succ n ih =>
    obtain ⟨xs, hl, hx⟩ := ih (fun i hi => h i (by omega))
    obtain ⟨y, hy⟩ := h n (by omega)
    refine ⟨xs ++ [y], by simp [hl], fun i x hi => ?_⟩
    by_cases hlt : i < xs.length
    · rw [List.getElem?_append_left hlt] at hi
      exact hx i x hi
    · rw [List.getElem?_append_right (by omega)] at hi
      have : i - xs.length = 0 := by
        by_cases h0 : i - xs.length = 0
        · exact h0
        · rw [List.getElem?_eq_none (by simp; omega)] at hi
          cases hi
      rw [this] at hi
      have he : i = n := by omega
      subst he
      injection hi with hi
      subst hi
      exact hy
/-- A slice, its elements opened. -/
theorem OpensAt.sl {α : Type} {d : Kd α} {t e : TypeId} {q : Rd α} (ht : P.underlying t = some (.slice e)) (hc : P.cellsOf t = 1) (hd : OpensAt N P d e q) : OpensAt N P (Kd.slice e d) t (rSl q) := ⟨hc.symm, fun {H enc w base spare held fuel cs y} hf h => by
  rcases DataW.trod_slice ht h with ⟨rfl, rfl⟩ | ⟨a, len, cap, elems, rest, n, rfl, rfl, rfl, hb, hl, hm, hlen, hel, _, _⟩
  · exact ⟨[], ⟨none, 0, rfl, Nat.le_refl _, rfl, by simp, fun h => absurd h (by simp)⟩, .inl ⟨rfl, rfl⟩⟩
  · have hall : ∀ i, i < len → ∃ x : α × List Value × DataW H, w.cells? base (a.add (i * P.cellsOf e)) (P.cellsOf e) = some x.2.1 ∧ d.K w x.1 x.2.1 ∧ q H x.1 x.2.2 ∧ (elems[i]?).map (·.1) = some x.2.2 := by
      intro i hi
      have h1 := hel i hi
      rw [List.getElem?_eq_getElem (by omega)] at h1
      obtain ⟨cs', hc1, hc2⟩ := Option.bind_eq_some_iff.mp h1
      obtain ⟨x, hx, hq⟩ := hd.op (by omega) hc2
      exact ⟨(x, cs', elems[i].1), hc1, hx, hq, by rw [List.getElem?_eq_getElem (by omega)]; rfl⟩
    obtain ⟨xs, hxl, hxs⟩ := choose_list (β := Nat) hall
    refine ⟨xs.map (·.1), ⟨some a, cap, by simp [hxl], by simp [hxl, hl], by simp, by simp only [maxLen] at hm; simp; omega, fun h0 => ⟨a, rfl, fun j p hj => ?_⟩⟩, .inr ⟨_, _, rfl, by simp [hlen, hxl], fun i x e0 hi he => ?_⟩⟩
    · rw [List.getElem?_map] at hj
      obtain ⟨x, hx, rfl⟩ := Option.map_eq_some_iff.mp hj
      obtain ⟨h1, h2, h3, _⟩ := hxs j x hx
      obtain ⟨_, hcl, hat⟩ := World.cells?_some h1
      refine ⟨x.2.1, by rw [hd.sz]; exact hcl, h2, fun i u hu => ?_⟩
      have hil : i < P.cellsOf e := by rw [← hcl]; exact (List.getElem?_eq_some_iff.1 hu).1
      rw [hd.sz, ← Go.Deep.add_add, hat i hil, hu]
    · rw [List.getElem?_map] at hi he
      obtain ⟨x1, hx, rfl⟩ := Option.map_eq_some_iff.mp hi
      obtain ⟨_, _, h3, h4⟩ := hxs i x1 hx
      rw [h4] at he
      injection he with he
      subst he
      exact h3⟩
theorem OpensF.one {α : Type} {d : Kd α} {f : Field} {off : Nat} {q : Rd α} (hd : OpensAt N P d f.type q) (ho : f.offset = off) : OpensF N P d [f] off (rOne q) := ⟨fun {H enc w base spare held n cs ys} hn hl hy h => by
  match ys, hy with
  | [y], _ =>
    have h0 := h 0 f rfl
    rw [ho, List.take_of_length_le (by rw [List.length_drop, ← hd.sz]; omega)] at h0
    obtain ⟨x, hx, hq⟩ := hd.op hn h0
    exact ⟨x, hx, _, rfl, hq⟩⟩
theorem OpensF.cons {α β : Type} {d : Kd α} {d2 : Kd β} {f : Field} {fs : List Field} {off : Nat} {q : Rd α} {r : RdF β} (hd : OpensAt N P d f.type q) (ho : f.offset = off) (hr : OpensF N P d2 fs (off + d.sz) r) : OpensF N P (Kd.pair d d2) (f :: fs) off (rCons q r) := ⟨fun {H enc w base spare held n cs ys} hn hl hy h => by
  match ys, hy with
  | y :: zs, hy =>
    have h0 := h 0 f rfl
    rw [ho, ← hd.sz] at h0
    obtain ⟨x, hx, hq⟩ := hd.op hn h0
    obtain ⟨x2, hx2, hq2⟩ := hr.op (w := w) (enc := enc) (base := base) (spare := spare) (held := held) (cs := cs) (ys := zs) hn (by rw [hl]; show off + (d.sz + d2.sz) = _; omega) (by simpa using hy) (fun j f1 hj => h (j + 1) f1 hj)
    refine ⟨(x, x2), ⟨(cs.drop off).take d.sz, cs.drop (off + d.sz), ?_, hx, hx2⟩, y.1, zs.map (·.1), rfl, hq, hq2⟩
    rw [← List.drop_drop]
    exact (List.take_append_drop _ _).symm⟩
/-- A struct: N goes down by one at its fields. -/
theorem OpensAt.st {α β : Type} {d : Kd α} {t : TypeId} {fs : Array Field} {q : RdF α} (f : β → α) (g : α → β) (hg : ∀ x, f (g x) = x) (ht : P.underlying t = some (.struct fs)) (hc : d.sz = P.cellsOf t) (hF : OpensF N P d fs.toList 0 q) : OpensAt (N + 1) P (Kd.iso d f) t (rSt f q) := ⟨hc, fun {H enc w base spare held fuel cs y} hf h => by
  obtain ⟨xs, n, rfl, rfl, hl, hn, hi⟩ := DataW.trod_struct ht h
  obtain ⟨x, hx, hq⟩ := hF.op (w := w) (enc := enc) (base := base) (spare := spare) (held := held) (cs := cs) (ys := xs) (n := n) (by omega) (by rw [hl, ← hc]; omega) (by simpa using hn) (fun j f1 hj => hi j f1 (by simpa using hj))
  refine ⟨g x, ?_, _, rfl, ?_⟩
  · show d.K w (f (g x)) cs
    rw [hg]
    simpa using hx
  · rw [hg]; exact hq⟩
theorem OpensAt.stAny {α β : Type} {d : Kd α} {t : TypeId} {fs : Array Field} {q : RdF α} (f : β → α) (g : α → β) (hg : ∀ x, f (g x) = x) (ht : P.underlying t = some (.struct fs)) (hc : d.sz = P.cellsOf t) (hF : ∀ M, OpensF M P d fs.toList 0 q) (N : Nat) : OpensAt N P (Kd.iso d f) t (rSt f q) := by
  cases N with
  | zero => exact OpensAt.zero hc
  | succ N => exact OpensAt.st f g hg ht hc (hF N)
/-- An argument that is a slice. -/
theorem open_arg_slice {α : Type} {d : Kd α} {t e : TypeId} {q : Rd α} (ht : P.underlying t = some (.slice e)) (hc : P.cellsOf t = 1) (hd : ∀ M, OpensAt M P d e q)
    {H : Type} {enc : TypeId × Value → H} {w : World} {base b0 : Nat} {spare : Nat → Bool} {held : Bool} {r : Reach} {v : Value} {y : DataW H} {p : List MemPlace} (hv : Value.okWide P w r b0 t v) (h : DataW.Trod enc P w base spare held t v y p) :
    ∃ (A : Option Addr) (c : Nat) (xs : List α), v = .slice A xs.length c ∧ xs.length ≤ c ∧ d.C w A xs.length xs ∧ rSl q H xs y := by
  obtain ⟨A, len, cap, rfl⟩ := WideShapes.okWide_slice ht hv
  obtain ⟨fuel, hf⟩ := h
  obtain ⟨xs, ⟨A', c', he, hle, hC⟩, hq⟩ := (OpensAt.sl ht hc (hd fuel)).op (Nat.le_refl _) hf
  simp only [Value.cells] at he
  have he' : Value.slice A len cap = Value.slice A' xs.length c' := by simpa using he
  injection he' with h1 h2 h3
  subst h1 h2 h3
  exact ⟨_, _, xs, rfl, hle, hC, hq⟩
end
end Go.Proofs.YtahgghbhpmpgfaaDoor.PX
-- Written by a program of this session (wip/xprint.py, over the kit's print tool). Lean checks it.
namespace Go.Proofs.YtahgghbhpmpgfaaDoor.PX
open Go.RowKit Go.Proofs.YtahgghbhpmpgfaaDoorW.PrintWords Go.Proofs.YtahgghbhpmpgfaaDoorW.PrintLast Go.Proofs.YtahgghbhpmpgfaaDoorW.PrintMore
attribute [local go_sem] max2_int min2_int max_two min_two max_three min_three max_four min_four   -- for this text's walks alone
set_option linter.unusedVariables false
set_option linter.unusedSimpArgs false



def errW : Option Int → Value
  | none => .nilIface
  | some c => .iface 0 (.int .i64 c)
theorem errW_none : errW none = .nilIface := rfl
theorem errW_some (c : Int) : errW (some c) = .iface 0 (.int .i64 c) := rfl

theorem info39 : (Tryd.prog.info? 39).map (fun i => (i.zero, i.size, i.bytes)) = some (some (.agg #[(.int .i64 0), (.string ⟨#[]⟩)]), 2, 24) := by kernel_rfl
-- the values' own types
/-! #### struct type 39 -/
structure S39 where
  f0 : Int
  f1 : ByteArray
def z39 : S39 := ⟨(0 : Int), (⟨#[]⟩ : ByteArray)⟩
def k39 : Kd S39 := Kd.iso (Kd.pair (Kd.int .i64) Kd.string) (fun x : S39 => (x.f0, x.f1))
theorem k39_open {w : World} {x : S39} {cs : List Value} (h : k39.K w x cs) : cs = [.int .i64 x.f0, .string x.f1] := by
  obtain ⟨_, _, rfl, rfl, rfl⟩ := h
  exact rfl
theorem k39_openM {w : World} {base : Nat} {ok : Nat → Prop} {x : S39} {cs : List Value} (h : k39.M w base ok x cs) : cs = [.int .i64 x.f0, .string x.f1] := by
  obtain ⟨_, _, rfl, rfl, rfl⟩ := h
  exact rfl
theorem k39_mk (w : World) (x : S39)  : k39.K w x [.int .i64 x.f0, .string x.f1] := ⟨[.int .i64 x.f0], [.string x.f1], rfl, rfl, rfl⟩
theorem k39_mkM (w : World) (base : Nat) (ok : Nat → Prop) (x : S39)  : k39.M w base ok x [.int .i64 x.f0, .string x.f1] := ⟨[.int .i64 x.f0], [.string x.f1], rfl, rfl, rfl⟩
def rd_T39 (xs : List S39) (i : Int) : S39 := xs.getD i.toNat z39
theorem at_T39 {w : World} {A : Option Addr} {n : Nat} {xs : List S39} (h : Kd.C k39 w A n xs) (i : Int) (h0 : 0 ≤ i) (h1 : i < n) : ∃ ad , A = some ad ∧ w.cell? (ad.add (i.toNat * 2)) = some (.int .i64 (rd_T39 xs i).f0) ∧ w.cell? ⟨(ad.add (i.toNat * 2)).block, (ad.add (i.toNat * 2)).off + 1, none⟩ = some (.string (rd_T39 xs i).f1) := by
  obtain ⟨ad, c, e, _, hK, hc0⟩ := Kd.C_get h z39 i h0 h1
  have hc : ∀ j u, c[j]? = some u → w.cell? (ad.add (i.toNat * 2 + j)) = some u := hc0
  obtain rfl := k39_open hK
  exact ⟨ad, e, hc 0 _ rfl, by rw [← add_field _ _ 1 (by omega)]; exact hc 1 _ rfl⟩

end Go.Proofs.YtahgghbhpmpgfaaDoor.PX
/- This seat's types, opened: diagnostics. -/
namespace Go.Proofs.YtahgghbhpmpgfaaDoor.PX
open Go.RowKit Go.Proofs.YtahgghbhpmpgfaaDoorW.PrintWords
theorem open39 (M : Nat) : OpensAt M Tryd.prog k39 39 (rSt (fun x : S39 => (x.f0, x.f1)) (rCons (rInt .i64) (rOne rStr))) :=
  OpensAt.stAny _ (fun p => ⟨p.1, p.2⟩) (fun _ => rfl) Tryd.underlying39 (by kernel_rfl) (fun M => OpensF.cons (OpensAt.int Tryd.underlying3 (by kernel_rfl)) (by rfl) (OpensF.one (OpensAt.str Tryd.underlying9 (by kernel_rfl)) (by rfl))) M
open Go.ChangeShapes Go.WideShapes in
theorem len_sized {H : Type} {P : Program} {ts : List TypeId} {ds : List (DataW H)} {α : Type} {q : Rd α} {l : List α} {d : DataW H} (hsz : (DataW.weightsEach P ts ds).all (· ≤ reachBytes) = true) {j : Nat} {t e : TypeId} (ht : ts[j]? = some t) (hd : ds[j]? = some d) (hu : P.underlying t = some (.slice e)) (hB : 1 ≤ P.bytesOf e) (hq : rSl q H l d) : l.length ≤ 140737488355328 := by
  rcases hq with ⟨rfl, _⟩ | ⟨es, rest, rfl, hl, _⟩
  · simp
  · have z := sized_slice hsz ht hd hu
    have r := reachBytes_lt
    have h1 : (es.length + rest.length) * 1 ≤ (es.length + rest.length) * P.bytesOf e := Nat.mul_le_mul_left _ hB
    omega
open Go.ChangeShapes Go.WideShapes
theorem weights_all_mem {H : Type} {P : Program} {e : TypeId} : ∀ (es : List (DataW H)) (d : DataW H), d ∈ es → ∀ n ∈ d.weights P e, n ∈ DataW.weightsAll P e es
  | c :: r, d, hd, n, hn => by
    rw [DataW.weightsAll, List.mem_append]
    rcases List.mem_cons.mp hd with rfl | hd
    · exact .inl hn
    · exact .inr (weights_all_mem r d hd n hn)
theorem text_sized {H : Type} {ts : List TypeId} {ds : List (DataW H)} {l : List S39} {d : DataW H} (hsz : (DataW.weightsEach Tryd.prog ts ds).all (· ≤ reachBytes) = true) {j : Nat} (ht : ts[j]? = some 27) (hd : ds[j]? = some d) (hq : rSl (rSt (fun x : S39 => (x.f0, x.f1)) (rCons (rInt .i64) (rOne rStr))) H l d) : ∀ x ∈ l, x.f1.size ≤ 140737488355328 := by
  intro x hx
  rcases hq with ⟨rfl, _⟩ | ⟨es, rest, rfl, hl, hi⟩
  · cases hx
  · obtain ⟨i, hlt, rfl⟩ := List.getElem_of_mem hx
    have hlt2 : i < es.length := by omega
    obtain ⟨ys, hy, z0, zs, hz, -, z1, hz1, h1⟩ := hi i _ _ (List.getElem?_eq_getElem hlt) (List.getElem?_eq_getElem hlt2)
    have hn : (l[i].f1.data.toList).length ∈ (es[i]'hlt2).weights Tryd.prog 39 := by
      rw [hy, hz, hz1, h1.1, DataW.weights]
      simp [Tryd.underlying39, DataW.weightsEach, DataW.weights]
    have h2 := weights_all_mem es _ (List.getElem_mem hlt2) _ hn
    have h3 := DataW.weights_mem_each ht hd _ (show _ ∈ DataW.weights Tryd.prog 27 (.slice es rest) by
      rw [DataW.weights, Tryd.underlying27]
      exact List.mem_cons_of_mem _ (List.mem_append_left _ h2))
    have h4 := of_decide_eq_true (List.all_eq_true.1 hsz _ h3)
    have r := reachBytes_lt
    have h5 : (l[i].f1.data.toList).length = l[i].f1.size := rfl
    omega
end Go.Proofs.YtahgghbhpmpgfaaDoor.PX
/- Library functions at this program, in the printed form: strings.Count and stringslite.Index at one byte, strconv.Itoa, strings.Split. -/
namespace Go.Proofs.YtahgghbhpmpgfaaDoor.PX
open Go.RowKit Go.Proofs.YtahgghbhpmpgfaaDoorW.PrintWords Go.Proofs.YtahgghbhpmpgfaaDoorW.PrintMore
set_option linter.unusedVariables false
def oneByte (s : ByteArray) : Option UInt8 := match s.data.toList with
  | [c] => some c
  | _ => none
theorem oneByte_eq {s : ByteArray} {c : UInt8} (h : oneByte s = some c) : s = ⟨#[c]⟩ := by
  unfold oneByte at h
  split at h
  · rename_i x hx
    obtain rfl := Option.some.inj h
    have : s.data = #[x] := Array.ext' hx
    cases s
    cases this
    rfl
  · cases h
def strings_Count.f (a0 a1 : ByteArray) : Option Int := (oneByte a1).bind fun c => some (Lib.countByte a0.data.toList c : Int)
theorem strings_Count.calls (a0 a1 : ByteArray) (r : Int) (w : World) (h : strings_Count.f a0 a1 = some r) :
    Calls Tryd.prog 31 #[.string a0, .string a1] w fun e w' => e = .returned (.int .i64 r) ∧ Drawn0 w w' := by
  obtain ⟨c, hc, h⟩ := Option.bind_eq_some_iff.mp h
  obtain rfl := Option.some.inj h
  obtain rfl := oneByte_eq hc
  refine (Tryd.strings_Count_one a0 c w).mono ?_
  rintro e w1 ⟨rfl, rfl⟩
  exact ⟨rfl, Drawn0.refl _⟩
def itoaB (n : Int) : ByteArray := ⟨(Lib.itoa n).toArray⟩
def strconv_Itoa.f (a0 : Int) : Option ByteArray := if -9223372036854775808 ≤ a0 ∧ a0 ≤ 9223372036854775807 then some (itoaB a0) else none
theorem strconv_Itoa.calls (a0 : Int) (r : ByteArray) (w : World) (hG : GW w) (h : strconv_Itoa.f a0 = some r) :
    Calls Tryd.prog 33 #[.int .i64 a0] w fun e w' => e = .returned (.string r) ∧ Below w.heap.size w w' := by
  unfold strconv_Itoa.f at h
  split at h
  case isFalse => cases h
  rename_i hh
  obtain rfl := Option.some.inj h
  refine (Tryd.strconv_Itoa a0 hh.1 hh.2 w hG.pow).mono ?_
  rintro e w1 ⟨rfl, k, os, rfl⟩
  exact ⟨rfl, Lib.below_grow _ _ (Nat.le_refl _) k os⟩
end Go.Proofs.YtahgghbhpmpgfaaDoor.PX
-- Written by a program of this session (wip/xprint.py, over the kit's print tool). Lean checks it.
namespace Go.Proofs.YtahgghbhpmpgfaaDoor.PX
open Go.RowKit Go.Proofs.YtahgghbhpmpgfaaDoorW.PrintWords Go.Proofs.YtahgghbhpmpgfaaDoorW.PrintLast Go.Proofs.YtahgghbhpmpgfaaDoorW.PrintMore
attribute [local go_sem] max2_int min2_int max_two min_two max_three min_three max_four min_four   -- for this text's walks alone
set_option linter.unusedVariables false
set_option linter.unusedSimpArgs false

/-! ### diag_Lines: function 14 -/
def diag_Lines.f (a0 : ByteArray) : Option (Int) := (strings_Count.f a0 (⟨#[10]⟩ : ByteArray)).bind fun t104 => (some (wrap64 (t104 + 1)))
set_option maxHeartbeats 8000000 in
set_option maxRecDepth 100000 in
theorem diag_Lines.calls (a0 : ByteArray) (r : Int) (w : World) (h : diag_Lines.f a0 = some r) :
    Calls Tryd.prog 14 #[.string a0] w fun e w' => e = .returned (.int .i64 r) ∧ Drawn0 w w' := by
  have H : ((strings_Count.f a0 (⟨#[10]⟩ : ByteArray)).bind fun t104 => (some (wrap64 (t104 + 1)))) = some r := h
  clear h
  replace H := Option.bind_eq_some_iff.mp H
  obtain ⟨t104, A20, H⟩ := H
  replace H : (some (wrap64 (t104 + 1))) = some r := H
  have A2 := Aside0.mk A20
  clear A20
  obtain rfl := Option.some.inj H
  go_enter Tryd.func14, Tryd.ntmps14
  go_wp2_with (first | ((with_reducible refine gate_callee (f := 31) rfl ?_); refine goesL_ (some 4) rfl rfl Tryd.func31 (by kernel_rfl) rfl #[.string a0, .string (⟨#[10]⟩ : ByteArray)] rfl (by (try simp only [List.map_toArray, List.map_cons, List.map_nil]); first | done | rfl | (simp only [List.length_drop, List.length_take]; rfl)) ?_; (with_reducible refine (strings_Count.calls a0 (⟨#[10]⟩ : ByteArray) t104 _ A2.out).mono ?_); rintro e w' ⟨rfl, ⟨nd, rfl⟩⟩; refine ⟨_, rfl, ?_⟩))
  go_ret
  exact ⟨by first | rfl | (simp; done) | (simp [*]; done), by repeat (first | exact Drawn0.refl _ | apply Drawn0.step)⟩

/-! ### diag_clamp: function 28 -/
def diag_clamp.f (a0 : ByteArray) (a1 : Int) : Option (Int) := some (mn (mx a1 0) (a0.size : Int))
set_option maxHeartbeats 8000000 in
set_option maxRecDepth 100000 in
theorem diag_clamp.calls (a0 : ByteArray) (a1 : Int) (r : Int) (w : World) (h : diag_clamp.f a0 a1 = some r) :
    Calls Tryd.prog 28 #[.string a0, .int .i64 a1] w fun e w' => e = .returned (.int .i64 r) ∧ Below w.heap.size w w' := by
  have HB := Aside0.mk (Below.refl w.heap.size w)
  have H : (some (mn (mx a1 0) (a0.size : Int))) = some r := h
  clear h
  obtain ⟨ji3, hji3⟩ : ∃ j_ : Int, (mx a1 0) = j_ := ⟨_, rfl⟩
  replace H : (some (mn (ji3) (a0.size : Int))) = some r := by first | (rw [hji3] at H; exact H) | (simp only [hji3] at H ⊢; exact H)
  (try (have hji3l : 0 ≤ ji3 := by (rw [← hji3]; unfold mx; (repeat' split) <;> omega)))
  (try (have hji3m : 0 ≤ ji3 := by omega))
  have hji3_ : (if a1 < 0 then 0 else a1) = ji3 := hji3
  obtain ⟨ji4, hji4⟩ : ∃ j_ : Int, (mn (ji3) (a0.size : Int)) = j_ := ⟨_, rfl⟩
  replace H : (some ji4) = some r := by first | (rw [hji4] at H; exact H) | (simp only [hji4] at H ⊢; exact H)
  have hji4_ : (if (a0.size : Int) < (ji3) then (a0.size : Int) else (ji3)) = ji4 := hji4
  obtain rfl := Option.some.inj H
  go_enter Tryd.func28, Tryd.ntmps28
  go_wp2
  go_ret
  exact ⟨by first | rfl | (simp [errW_none, errW_some] <;> rfl) | (simp only [← hji3, ← hji4]; first | rfl | (simp [errW_none, errW_some] <;> rfl)) | (simp [*, errW_none, errW_some] <;> rfl), by repeat (first | (with_reducible first | exact HB.out | apply below_alloc | apply pw_below_drewN | apply below_drew1) | exact HB.out)⟩

/-! ### bytealg_LastIndexByteString: function 59 -/
def bytealg_LastIndexByteString.l0 : Nat → ByteArray → Int → Int → Option (Int)
  | 0, _, _, _ => none
  | k + 1, x0, x1, x5 => if x5 ≥ 0 then (if 0 ≤ x5 then (if x5 < (x0.size : Int) then (if (bt x0 x5) = x1 then (some x5) else (bytealg_LastIndexByteString.l0 k x0 x1 (wrap64 (x5 - 1)))) else (none)) else (none)) else (some (-1))
def bytealg_LastIndexByteString.f (k : Nat) (a0 : ByteArray) (a1 : Int) : Option (Int) := bytealg_LastIndexByteString.l0 k a0 a1 (wrap64 ((a0.size : Int) - 1))
theorem bytealg_LastIndexByteString.mono_l : ∀ k, (∀ y0 y1 y2, LeO (bytealg_LastIndexByteString.l0 k y0 y1 y2) (bytealg_LastIndexByteString.l0 (k + 1) y0 y1 y2))
  | 0 => fun _ _ _ r h => by simp [bytealg_LastIndexByteString.l0] at h
  | k + 1 => by
    have ih0 := bytealg_LastIndexByteString.mono_l k
    · intro y0 y1 y2
      unfold bytealg_LastIndexByteString.l0
      repeat' first
      | (with_reducible exact ih0 _ _ _)
      | (with_reducible exact LeO.refl _)
      | (with_reducible exact LeO.none _)
      | (with_reducible refine LeO.ite ?_ ?_)
      | (with_reducible refine LeO.bind ?_ (fun _ => ?_))
      | exact ih0 _ _ _
      | exact LeO.none _
      | refine LeO.ite ?_ ?_
      | refine LeO.bind ?_ (fun _ => ?_)
theorem bytealg_LastIndexByteString.mono : ∀ a0 a1 k, LeO (bytealg_LastIndexByteString.f k a0 a1) (bytealg_LastIndexByteString.f (k + 1) a0 a1) := by
  intro a0 a1 k
  have ih0 := bytealg_LastIndexByteString.mono_l k
  unfold bytealg_LastIndexByteString.f
  repeat' first
      | (with_reducible exact ih0 _ _ _)
      | (with_reducible exact LeO.refl _)
      | (with_reducible exact LeO.none _)
      | (with_reducible refine LeO.ite ?_ ?_)
      | (with_reducible refine LeO.bind ?_ (fun _ => ?_))
      | exact ih0 _ _ _
      | exact LeO.none _
      | refine LeO.ite ?_ ?_
      | refine LeO.bind ?_ (fun _ => ?_)
set_option maxHeartbeats 8000000 in
set_option maxRecDepth 100000 in
theorem bytealg_LastIndexByteString.calls (k : Nat) (a0 : ByteArray) (a1 : Int) (r : Int) (w : World) (h : bytealg_LastIndexByteString.f k a0 a1 = some r) :
    Calls Tryd.prog 59 #[.string a0, .int .u8 a1] w fun e w' => e = .returned (.int .i64 r) ∧ Drawn0 w w' := by
  have H : (bytealg_LastIndexByteString.l0 k a0 a1 (wrap64 ((a0.size : Int) - 1))) = some r := h
  clear h
  have H' := Aside0.mk H
  clear H
  go_enter Tryd.func59, Tryd.ntmps59
  go_wp2
  go_loopg [5] k (fun kq v5 w' => ∃ (x5_1 : Int), v5 = .int .i64 x5_1 ∧ Aside0 (bytealg_LastIndexByteString.l0 kq a0 a1 x5_1 = some r) ∧ Aside0 (kq ≤ k) ∧ Drawn0 w w')
  case atStart => exact ⟨(wrap64 ((a0.size : Int) - 1)), (by first | rfl | (simp; done) | (simp [*]; done)), H', ⟨Nat.le_refl _⟩, by repeat (first | exact Drawn0.refl _ | apply Drawn0.step)⟩
  case round =>
    clear H'
    try clear p2
    obtain ⟨x5_1, rfl, HA, HK1, ⟨m1, rfl⟩⟩ := hrel
    cases gk with
    | zero => exact absurd HA.out (by simp [bytealg_LastIndexByteString.l0])
    | succ k1 =>
      have H := HA.out
      clear HA
      simp only [bytealg_LastIndexByteString.l0] at H
      by_cases c3 : x5_1 ≥ 0
      · rw [if_pos c3] at H
        have c3b0 : decide (0 ≤ x5_1) = true := decide_eq_true c3
        clear c3
        by_cases c4 : 0 ≤ x5_1
        · rw [if_pos c4] at H
          have c4b0 : decide (0 ≤ x5_1) = true := decide_eq_true c4
          clear c4
          by_cases c5 : x5_1 < (a0.size : Int)
          · rw [if_pos c5] at H
            have c5b0 : decide (x5_1 < (a0.size : Int)) = true := decide_eq_true c5
            clear c5
            by_cases c7 : (bt a0 x5_1) = a1
            · rw [if_pos c7] at H
              have c7b0 : ((bt a0 x5_1) == a1) = true := beq_iff_eq.mpr c7
              have c7b1 : ((bt a0 x5_1) != a1) = false := bne_eq_false_iff_eq.mpr c7
              clear c7
              obtain rfl := Option.some.inj H
              have p6 : 0 ≤ (x5_1 : Int) := of_decide_eq_true (by first | (with_reducible assumption) | assumption)
              have q6 : x5_1 < (a0.size : Int) := of_decide_eq_true (by first | (with_reducible assumption) | assumption)
              have hx6 := bt_at a0 x5_1
              replace p6 := eq_true p6
              replace q6 := eq_true q6
              go_wp2
              go_ret
              exact ⟨by first | rfl | (simp; done) | (simp [*]; done), by repeat (first | exact Drawn0.refl _ | apply Drawn0.step)⟩
            · rw [if_neg c7] at H
              have c7b0 : ((bt a0 x5_1) == a1) = false := beq_eq_false_iff_ne.mpr c7
              have c7b1 : ((bt a0 x5_1) != a1) = true := bne_iff_ne.mpr c7
              have H' := Aside0.mk H
              clear H
              have p6 : 0 ≤ (x5_1 : Int) := of_decide_eq_true (by first | (with_reducible assumption) | assumption)
              have q6 : x5_1 < (a0.size : Int) := of_decide_eq_true (by first | (with_reducible assumption) | assumption)
              have hx6 := bt_at a0 x5_1
              replace p6 := eq_true p6
              replace q6 := eq_true q6
              go_wp2
              go_roundg k1
              case measure => have := HK1.out; omega
              case rel => exact ⟨(wrap64 (x5_1 - 1)), (by first | rfl | (simp; done) | (simp [*]; done)), H', ⟨by have := HK1.out; omega⟩, by repeat (first | exact Drawn0.refl _ | apply Drawn0.step)⟩
          · rw [if_neg c5] at H
            exact absurd H (by simp)
        · rw [if_neg c4] at H
          exact absurd H (by simp)
      · rw [if_neg c3] at H
        have c3b0 : decide (0 ≤ x5_1) = false := decide_eq_false c3
        clear c3
        obtain rfl := Option.some.inj H
        go_wp2
        go_ret
        exact ⟨by first | rfl | (simp; done) | (simp [*]; done), by repeat (first | exact Drawn0.refl _ | apply Drawn0.step)⟩

/-! ### strings_LastIndexByte: function 46 -/
def strings_LastIndexByte.f (k : Nat) (a0 : ByteArray) (a1 : Int) : Option (Int) := (bytealg_LastIndexByteString.f k a0 a1).bind fun t105 => (some t105)
theorem strings_LastIndexByte.mono : ∀ a0 a1 k, LeO (strings_LastIndexByte.f k a0 a1) (strings_LastIndexByte.f (k + 1) a0 a1) := by
  intro a0 a1 k
  unfold strings_LastIndexByte.f
  repeat' first
      | (with_reducible exact bytealg_LastIndexByteString.mono _ _ _)
      | (with_reducible exact LeO.refl _)
      | (with_reducible exact LeO.none _)
      | (with_reducible refine LeO.ite ?_ ?_)
      | (with_reducible refine LeO.bind ?_ (fun _ => ?_))
      | exact bytealg_LastIndexByteString.mono _ _ _
      | exact LeO.none _
      | refine LeO.ite ?_ ?_
      | refine LeO.bind ?_ (fun _ => ?_)
set_option maxHeartbeats 8000000 in
set_option maxRecDepth 100000 in
theorem strings_LastIndexByte.calls (k : Nat) (a0 : ByteArray) (a1 : Int) (r : Int) (w : World) (h : strings_LastIndexByte.f k a0 a1 = some r) :
    Calls Tryd.prog 46 #[.string a0, .int .u8 a1] w fun e w' => e = .returned (.int .i64 r) ∧ Drawn0 w w' := by
  have H : ((bytealg_LastIndexByteString.f k a0 a1).bind fun t105 => (some t105)) = some r := h
  clear h
  replace H := Option.bind_eq_some_iff.mp H
  obtain ⟨t105, A30, H⟩ := H
  replace H : (some t105) = some r := H
  have A3 := Aside0.mk A30
  clear A30
  obtain rfl := Option.some.inj H
  go_enter Tryd.func46, Tryd.ntmps46
  go_wp2_with (first | ((with_reducible refine gate_callee (f := 59) rfl ?_); refine goesL_ (some 7) rfl rfl Tryd.func59 (by kernel_rfl) rfl #[.string a0, .int .u8 a1] rfl (by (try simp only [List.map_toArray, List.map_cons, List.map_nil]); first | done | rfl | (simp only [List.length_drop, List.length_take]; rfl)) ?_; (with_reducible refine (bytealg_LastIndexByteString.calls k a0 a1 t105 _ A3.out).mono ?_); rintro e w' ⟨rfl, ⟨nd, rfl⟩⟩; refine ⟨_, rfl, ?_⟩))
  go_ret
  exact ⟨by first | rfl | (simp; done) | (simp [*]; done), by repeat (first | exact Drawn0.refl _ | apply Drawn0.step)⟩

/-! ### diag_start: function 29 -/
def diag_start.f (k : Nat) (a0 : ByteArray) (a1 : Int) : Option (Int) := if 0 ≤ a1 then (if a1 ≤ (a0.size : Int) then ((strings_LastIndexByte.f k (a0.extract 0 (a1 : Int).toNat) 10).bind fun t106 => (some (wrap64 (t106 + 1)))) else (none)) else (none)
theorem diag_start.mono : ∀ a0 a1 k, LeO (diag_start.f k a0 a1) (diag_start.f (k + 1) a0 a1) := by
  intro a0 a1 k
  unfold diag_start.f
  repeat' first
      | (with_reducible exact strings_LastIndexByte.mono _ _ _)
      | (with_reducible exact LeO.refl _)
      | (with_reducible exact LeO.none _)
      | (with_reducible refine LeO.ite ?_ ?_)
      | (with_reducible refine LeO.bind ?_ (fun _ => ?_))
      | exact strings_LastIndexByte.mono _ _ _
      | exact LeO.none _
      | refine LeO.ite ?_ ?_
      | refine LeO.bind ?_ (fun _ => ?_)
set_option maxHeartbeats 8000000 in
set_option maxRecDepth 100000 in
theorem diag_start.calls (k : Nat) (a0 : ByteArray) (a1 : Int) (r : Int) (w : World) (h : diag_start.f k a0 a1 = some r) :
    Calls Tryd.prog 29 #[.string a0, .int .i64 a1] w fun e w' => e = .returned (.int .i64 r) ∧ Drawn0 w w' := by
  have H : (if 0 ≤ a1 then (if a1 ≤ (a0.size : Int) then ((strings_LastIndexByte.f k (a0.extract 0 (a1 : Int).toNat) 10).bind fun t106 => (some (wrap64 (t106 + 1)))) else (none)) else (none)) = some r := h
  clear h
  by_cases c3 : 0 ≤ a1
  · rw [if_pos c3] at H
    have c3b0 := eq_true c3
    have c3b1 : decide (0 ≤ a1) = true := decide_eq_true c3
    clear c3
    by_cases c4 : a1 ≤ (a0.size : Int)
    · rw [if_pos c4] at H
      have c4b0 := eq_true c4
      have c4b1 : decide (a1 ≤ (a0.size : Int)) = true := decide_eq_true c4
      clear c4
      replace H := Option.bind_eq_some_iff.mp H
      obtain ⟨t106, A50, H⟩ := H
      replace H : (some (wrap64 (t106 + 1))) = some r := H
      have A5 := Aside0.mk A50
      clear A50
      obtain rfl := Option.some.inj H
      go_enter Tryd.func29, Tryd.ntmps29
      go_wp2_with (first | ((with_reducible refine gate_callee (f := 46) rfl ?_); refine goesL_ (some 8) rfl rfl Tryd.func46 (by kernel_rfl) rfl #[.string (a0.extract 0 (a1 : Int).toNat), .int .u8 10] rfl (by (try simp only [List.map_toArray, List.map_cons, List.map_nil]); first | done | rfl | (simp only [List.length_drop, List.length_take]; rfl)) ?_; (with_reducible refine (strings_LastIndexByte.calls k (a0.extract 0 (a1 : Int).toNat) 10 t106 _ A5.out).mono ?_); rintro e w' ⟨rfl, ⟨nd, rfl⟩⟩; refine ⟨_, rfl, ?_⟩))
      go_ret
      exact ⟨by first | rfl | (simp; done) | (simp [*]; done), by repeat (first | exact Drawn0.refl _ | apply Drawn0.step)⟩
    · rw [if_neg c4] at H
      exact absurd H (by simp)
  · rw [if_neg c3] at H
    exact absurd H (by simp)

/-! ### diag_Position: function 12 -/
def diag_Position.f (k : Nat) (a0 : ByteArray) (a1 : Int) : Option (Int × Int) := (diag_clamp.f a0 a1).bind fun t107 => (if 0 ≤ t107 then (if t107 ≤ (a0.size : Int) then ((diag_Lines.f (a0.extract 0 (t107 : Int).toNat)).bind fun t108 => ((diag_start.f k a0 t107).bind fun t109 => (some (t108, wrap64 ((wrap64 (t107 - t109)) + 1))))) else (none)) else (none))
theorem diag_Position.mono : ∀ a0 a1 k, LeO (diag_Position.f k a0 a1) (diag_Position.f (k + 1) a0 a1) := by
  intro a0 a1 k
  unfold diag_Position.f
  repeat' first
      | (with_reducible exact diag_start.mono _ _ _)
      | (with_reducible exact LeO.refl _)
      | (with_reducible exact LeO.none _)
      | (with_reducible refine LeO.ite ?_ ?_)
      | (with_reducible refine LeO.bind ?_ (fun _ => ?_))
      | exact diag_start.mono _ _ _
      | exact LeO.none _
      | refine LeO.ite ?_ ?_
      | refine LeO.bind ?_ (fun _ => ?_)
set_option maxHeartbeats 8000000 in
set_option maxRecDepth 100000 in
theorem diag_Position.calls (k : Nat) (a0 : ByteArray) (a1 : Int) (r1 : Int) (r2 : Int) (w : World) (h : diag_Position.f k a0 a1 = some (r1, r2)) :
    Calls Tryd.prog 12 #[.string a0, .int .i64 a1] w fun e w' => e = .returned (.tuple #[.int .i64 r1, .int .i64 r2]) ∧ Below w.heap.size w w' := by
  have HB := Aside0.mk (Below.refl w.heap.size w)
  have H : ((diag_clamp.f a0 a1).bind fun t107 => (if 0 ≤ t107 then (if t107 ≤ (a0.size : Int) then ((diag_Lines.f (a0.extract 0 (t107 : Int).toNat)).bind fun t108 => ((diag_start.f k a0 t107).bind fun t109 => (some (t108, wrap64 ((wrap64 (t107 - t109)) + 1))))) else (none)) else (none))) = some (r1, r2) := h
  clear h
  replace H := Option.bind_eq_some_iff.mp H
  obtain ⟨t107, A30, H⟩ := H
  replace H : (if 0 ≤ t107 then (if t107 ≤ (a0.size : Int) then ((diag_Lines.f (a0.extract 0 (t107 : Int).toNat)).bind fun t108 => ((diag_start.f k a0 t107).bind fun t109 => (some (t108, wrap64 ((wrap64 (t107 - t109)) + 1))))) else (none)) else (none)) = some (r1, r2) := H
  have A3 := Aside0.mk A30
  clear A30
  by_cases c4 : 0 ≤ t107
  · rw [if_pos c4] at H
    have c4b0 := eq_true c4
    have c4b1 : decide (0 ≤ t107) = true := decide_eq_true c4
    clear c4
    by_cases c5 : t107 ≤ (a0.size : Int)
    · rw [if_pos c5] at H
      have c5b0 := eq_true c5
      have c5b1 : decide (t107 ≤ (a0.size : Int)) = true := decide_eq_true c5
      clear c5
      replace H := Option.bind_eq_some_iff.mp H
      obtain ⟨t108, A60, H⟩ := H
      replace H : ((diag_start.f k a0 t107).bind fun t109 => (some (t108, wrap64 ((wrap64 (t107 - t109)) + 1)))) = some (r1, r2) := H
      have A6 := Aside0.mk A60
      clear A60
      replace H := Option.bind_eq_some_iff.mp H
      obtain ⟨t109, A70, H⟩ := H
      replace H : (some (t108, wrap64 ((wrap64 (t107 - t109)) + 1))) = some (r1, r2) := H
      have A7 := Aside0.mk A70
      clear A70
      simp only [Option.some.injEq, Prod.mk.injEq] at H
      obtain ⟨rfl, rfl⟩ := H
      go_enter Tryd.func12, Tryd.ntmps12
      go_wp2_with (first | ((with_reducible refine gate_callee (f := 28) rfl ?_); refine goesL_ (some 8) rfl rfl Tryd.func28 (by kernel_rfl) rfl #[.string a0, .int .i64 a1] rfl (by (try simp only [List.map_toArray, List.map_cons, List.map_nil]); first | done | rfl | (simp only [List.length_drop, List.length_take]; rfl)) ?_; (with_reducible refine (diag_clamp.calls a0 a1 t107 _ A3.out).mono ?_); rintro e w8 ⟨rfl, hb⟩; refine ⟨_, rfl, ?_⟩; have n0_ := Aside0.mk (below_step (by repeat (first | (with_reducible first | exact HB.out | apply below_alloc | apply pw_below_drewN | apply below_drew1) | exact HB.out)) hb); clear HB; have HB := n0_; clear n0_; (try clear hb); (try clear hb2); (try clear hk); (try clear hi)) | ((with_reducible refine gate_callee (f := 14) rfl ?_); refine goesL_ (some 12) rfl rfl Tryd.func14 (by kernel_rfl) rfl #[.string (a0.extract 0 (t107 : Int).toNat)] rfl (by (try simp only [List.map_toArray, List.map_cons, List.map_nil]); first | done | rfl | (simp only [List.length_drop, List.length_take]; rfl)) ?_; (with_reducible refine (diag_Lines.calls (a0.extract 0 (t107 : Int).toNat) t108 _ A6.out).mono ?_); rintro e w' ⟨rfl, ⟨nd, rfl⟩⟩; refine ⟨_, rfl, ?_⟩) | ((with_reducible refine gate_callee (f := 29) rfl ?_); refine goesL_ (some 16) rfl rfl Tryd.func29 (by kernel_rfl) rfl #[.string a0, .int .i64 t107] rfl (by (try simp only [List.map_toArray, List.map_cons, List.map_nil]); first | done | rfl | (simp only [List.length_drop, List.length_take]; rfl)) ?_; (with_reducible refine (diag_start.calls k a0 t107 t109 _ A7.out).mono ?_); rintro e w' ⟨rfl, ⟨nd, rfl⟩⟩; refine ⟨_, rfl, ?_⟩))
      go_ret2
      exact ⟨by first | rfl | (simp [errW_none, errW_some] <;> rfl) | (simp [*, errW_none, errW_some] <;> rfl), by repeat (first | (with_reducible first | exact HB.out | apply below_alloc | apply pw_below_drewN | apply below_drew1) | exact HB.out)⟩
    · rw [if_neg c5] at H
      exact absurd H (by simp)
  · rw [if_neg c4] at H
    exact absurd H (by simp)

-- NOT PRINTED: function 61 (abi_NoEscape)

-- NOT PRINTED: function 50 (strings_Builder_copyCheck)

-- NOT PRINTED: function 32 (strings_Builder_WriteString)

end Go.Proofs.YtahgghbhpmpgfaaDoor.PX
/- strings.Builder over this program: copyCheck, WriteByte, WriteString and String, at a builder that the caller has made. -/
namespace Go.Proofs.YtahgghbhpmpgfaaDoor.PX
open Go.RowKit Go.Proofs.YtahgghbhpmpgfaaDoorW.PrintWords
set_option linter.unusedVariables false
set_option linter.unusedSimpArgs false
/-- A builder of the call's own that holds the bytes l. -/
def Bd (B b : Nat) (l : List UInt8) (w : World) : Prop := Lib.IsBuilder 50 5 B b (Lib.byteCells l) w
theorem builderAt_below {B b : Nat} {p : Value} {bs : List Value} {w w1 : World} (h : Lib.BuilderAt 50 5 B b p bs w) (hb : Below w.heap.size w w1) : Lib.BuilderAt 50 5 B b p bs w1 := by
  have hlt := h.lt
  obtain ⟨hB, v, hk, ho, hne⟩ := h
  exact ⟨hB, v, (hb.block b hlt).trans hk, pw_own_below ho hb, hne⟩
theorem Bd.below {B b : Nat} {l : List UInt8} {w w1 : World} (h : Bd B b l w) (hb : Below w.heap.size w w1) : Bd B b l w1 :=
  h.elim (fun h => .inl (builderAt_below h hb)) (fun h => .inr (builderAt_below h hb))
/-- Blocks of other types than a builder's and a byte's stand as they stood. -/
def KeepB (w w1 : World) : Prop := ∀ (t : TypeId) (g : Nat) (cs : Array Value), t ≠ 50 → t ≠ 5 → w.heap[g]? = some (.cells cs t (0, 0)) → w1.heap[g]? = some (.cells cs t (0, 0))
theorem KeepB.refl (w : World) : KeepB w w := fun _ _ _ _ _ h => h
theorem KeepB.trans {a b c : World} (h : KeepB a b) (k : KeepB b c) : KeepB a c := fun t g cs h1 h2 hg => k t g cs h1 h2 (h t g cs h1 h2 hg)
theorem KeepB.set {w : World} {b j : Nat} {v : Value} {cs1 : Array Value} (hb : w.heap[b]? = some (.cells cs1 50 (0, 0))) : KeepB w (w.setCell ⟨b, j, none⟩ v) := fun t g cs h1 h2 hg => by
  have hne : g ≠ b := by
    rintro rfl
    rw [hg] at hb
    cases hb
    exact h1 rfl
  exact (Below.heap_setCell w ⟨b, j, none⟩ v g hne).trans hg
theorem KeepB.alloc (w : World) (o : Obj) : KeepB w (w.alloc o) := fun t g cs h1 h2 hg => by
  have hlt : g < w.heap.size := by
    by_cases hl : g < w.heap.size
    · exact hl
    · rw [Array.getElem?_eq_none (by omega)] at hg; cases hg
  rw [Lib.alloc_old w _ g hlt]
  exact hg
theorem KeepB.grown {w w1 : World} {B n : Nat} {v : Value} {xs : List Value} (ho : w.ownsRow B 5 1 v n xs) (hgr : w.grownBy w1 v.ownBlock) : KeepB w w1 := fun t g cs h1 h2 hg => by
  have hlt : g < w.heap.size := by
    by_cases hl : g < w.heap.size
    · exact hl
    · rw [Array.getElem?_eq_none (by omega)] at hg; cases hg
  have hne : v.ownBlock ≠ some g := by
    intro e
    obtain ⟨cells, hc⟩ := own_typed ho g e
    rw [hg] at hc
    cases hc
    exact h2 rfl
  rw [hgr.block g hlt (fun e => hne e.symm)]
  exact hg
set_option maxHeartbeats 1000000 in
set_option maxRecDepth 100000 in
theorem check_calls (B b : Nat) (bs : List Value) (w : World) (h : Lib.IsBuilder 50 5 B b bs w) :
    Calls Tryd.prog 50 #[.pointer (some ⟨b, 0, none⟩)] w fun e w1 => e = .returned (.tuple #[]) ∧ Lib.BuilderAt 50 5 B b (.pointer (some ⟨b, 0, none⟩)) bs w1 ∧ Below B w w1 ∧ KeepB w w1 := by
  obtain ⟨j, hj, hjs⟩ := Option.map_eq_some_iff.1 (show (Tryd.prog.info? 50).map (·.size) = some 2 by kernel_rfl)
  have hlies : liesAt Tryd.prog Tryd.prog.depth 50 (2 / Tryd.prog.cellsOf 50) 0 50 1 = true := by kernel_rfl
  rcases h with h | h
  · have h0 := h.cell0
    have hsh := h.shape
    have hfz := h.frozen0
    go_enter Tryd.func50, Tryd.ntmps50
    go_wp2
    rw [Lib.run_to_unsafe w ⟨b, 0, none⟩ Tryd.underlying47 Tryd.underlying78 hj (by rw [hjs]; decide) hsh (Nat.zero_lt_succ 1)]
    simp only [Result.andThen]
    rw [Oper.upon_value]
    go_wp2
    rw [run_callFunc_extern Tryd.func61 (by kernel_rfl) (by kernel_rfl) (by kernel_rfl) (e := Extern.AbiNoEscape.same) (by kernel_rfl), Lib.run_noEscape]
    simp only [Result.andThen]
    rw [Oper.upon_value]
    go_wp2
    rw [Lib.run_from_unsafe w ⟨b, 0, none⟩ Tryd.underlying78 Tryd.underlying47 hj hsh hlies]
    simp only [Result.andThen]
    rw [Oper.upon_value]
    go_wp2
    go_end0
    exact ⟨rfl, h.used _, (Below.refl B w).setCell (p := ⟨b, 0, none⟩) h.1 _, KeepB.set (h.2.choose_spec.1)⟩
  · have h0 := h.cell0
    go_enter Tryd.func50, Tryd.ntmps50
    go_wp2
    rw [Lib.run_neq_ptr_same w _ Tryd.underlying47 hj]
    go_wp2
    go_end0
    exact ⟨rfl, h, Below.refl B w, KeepB.refl w⟩
theorem byteCells_append (a c : List UInt8) : Lib.byteCells a ++ Lib.byteCells c = Lib.byteCells (a ++ c) := by simp [Lib.byteCells]
theorem info_u8 : (Tryd.prog.info? 5).map (fun i => (i.zero, i.size, i.bytes)) = some (some (.int .u8 0), 1, 1) := by kernel_rfl
set_option maxHeartbeats 2000000 in
set_option maxRecDepth 100000 in
theorem writeString_calls (B b : Nat) (l : List UInt8) (s : ByteArray) (w : World) (h : Bd B b l w) (hlen : l.length + s.size ≤ 140737488355328) (hBw : B ≤ w.heap.size) :
    Calls Tryd.prog 32 #[.pointer (some ⟨b, 0, none⟩), .string s] w fun e w1 => e = .returned (.tuple #[.int .i64 s.size, .nilIface]) ∧ Bd B b (l ++ s.data.toList) w1 ∧ Below B w w1 ∧ KeepB w w1 := by
  obtain ⟨i0, hi, hz0, hz1, hz2⟩ := info_parts info_u8
  have hbl : (Lib.byteCells l).length = l.length := Lib.byteCells_length l
  go_enter Tryd.func32, Tryd.ntmps32
  go_wp2_with (go_at_call 50; refine (check_calls B b (Lib.byteCells l) _ h).mono ?_)
  rintro e w1 ⟨rfl, h1, hb1, hk1⟩
  obtain ⟨hB, v, hbk, hown, hne⟩ := h1
  have c0 : w1.cell? ⟨b, 0, none⟩ = some (.pointer (some ⟨b, 0, none⟩)) := by rw [Lib.cell_of_heap hbk]; rfl
  have c1 : w1.cell? ⟨b, 1, none⟩ = some v := by rw [Lib.cell_of_heap hbk]; rfl
  go_wp2_with (at_builtin; refine Lib.wpList_append_own_string _ rfl _ _ 48 9 rfl B 5 i0 Tryd.underlying48 Tryd.underlying9 hi hz0 hz1 hz2 _ _ _ rfl hown s rfl ?c3 ?c4 ?c5 ?_)
  case c3 => unfold maxLen; omega
  case c4 => omega
  case c5 => have := hb1.size; omega
  intro v2 w2 hown2 hgrow _
  have hlt : b < w1.heap.size := Lib.BuilderAt.lt ⟨hB, v, hbk, hown, hne⟩
  have hb2 : w2.heap[b]? = some (.cells #[.pointer (some ⟨b, 0, none⟩), v] 50 (0, 0)) := by
    rw [hgrow.block b hlt (fun e => hne e.symm)]
    exact hbk
  have d0 : w2.cell? ⟨b, 0, none⟩ = some (.pointer (some ⟨b, 0, none⟩)) := by rw [Lib.cell_of_heap hb2]; rfl
  have d1 : w2.cell? ⟨b, 1, none⟩ = some v := by rw [Lib.cell_of_heap hb2]; rfl
  have f1 : w2.frozen? ⟨b, 1, none⟩ = false := Lib.frozen_of_heap hb2 1
  obtain ⟨ao, n2, cap, rfl⟩ : ∃ ao n2 cap, v2 = .slice ao n2 cap := by
    rcases hown2.2 with ⟨hv, _⟩ | ⟨g, cap, cur, hv, _⟩
    · exact ⟨_, _, _, hv⟩
    · exact ⟨_, _, _, hv⟩
  go_wp2
  go_ret2
  refine ⟨rfl, .inr ?_, ?_, ?_⟩
  · have h5 := Lib.BuilderAt.put (T := 50) (e := 5) (bs' := Lib.byteCells l ++ Lib.strCells s) hB hb2 (by rw [List.length_append, hbl, Lib.strCells_length]; simpa [hbl] using hown2) (by decide)
    rw [show Lib.byteCells l ++ Lib.strCells s = Lib.byteCells (l ++ s.data.toList) from byteCells_append l s.data.toList] at h5
    exact h5
  · exact (hb1.grown hgrow (by have := hb1.size; omega) (fun k hk => (hown.lt k hk).1)).setCell (p := ⟨b, 1, none⟩) hB _
  · exact (hk1.trans (KeepB.grown hown hgrow)).trans (KeepB.set hb2)
end Go.Proofs.YtahgghbhpmpgfaaDoor.PX
/- diag.Format: what it computes, and that the call computes it. -/
namespace Go.Proofs.YtahgghbhpmpgfaaDoor.PX
open Go.RowKit Go.Proofs.YtahgghbhpmpgfaaDoorW.PrintWords Go.Proofs.YtahgghbhpmpgfaaDoorW.PrintLast Go.Proofs.YtahgghbhpmpgfaaDoorW.PrintMore
set_option linter.unusedVariables false
set_option linter.unusedSimpArgs false
/-- One line of Format. -/
def lineF (s1 s2 t : ByteArray) : ByteArray := ((((s1 ++ (⟨#[58]⟩ : ByteArray)) ++ s2) ++ (⟨#[58, 32]⟩ : ByteArray)) ++ t) ++ (⟨#[10]⟩ : ByteArray)
def diag_Format.l0 : Nat → ByteArray → List S39 → List UInt8 → Int → Option ByteArray
  | 0, _, _, _, _ => none
  | k + 1, a0, l1, acc, x12 => if x12 < (l1.length : Int) then (if 0 ≤ x12 then ((diag_Position.f k a0 ((rd_T39 l1 x12).f0)).bind fun bt => ((strconv_Itoa.f bt.1).bind fun s1 => ((strconv_Itoa.f bt.2).bind fun s2 => (if acc.length + s1.size + s2.size + ((rd_T39 l1 x12).f1).size + 100 ≤ 140737488355328 then (diag_Format.l0 k a0 l1 (acc ++ (lineF s1 s2 ((rd_T39 l1 x12).f1)).data.toList) (wrap64 (x12 + 1))) else none)))) else none) else some ⟨acc.toArray⟩
def diag_Format.f (k : Nat) (a0 : ByteArray) (l1 : List S39) : Option ByteArray := diag_Format.l0 k a0 l1 [] 0
theorem Bd.drew {B b : Nat} {l : List UInt8} {w : World} (h : Bd B b l w) : Bd B b l w.drew := h
theorem diag_Format.mono_l : ∀ k, (∀ y0 y1 y2 y3, LeO (diag_Format.l0 k y0 y1 y2 y3) (diag_Format.l0 (k + 1) y0 y1 y2 y3))
  | 0 => fun _ _ _ _ r h => by simp [diag_Format.l0] at h
  | k + 1 => by
    have ih0 := diag_Format.mono_l k
    · intro y0 y1 y2 y3
      unfold diag_Format.l0
      repeat' first
      | (with_reducible exact ih0 _ _ _ _)
      | (with_reducible exact diag_Position.mono _ _ _)
      | (with_reducible exact LeO.refl _)
      | (with_reducible exact LeO.none _)
      | (with_reducible refine LeO.ite ?_ ?_)
      | (with_reducible refine LeO.bind ?_ (fun _ => ?_))
theorem diag_Format.mono : ∀ a0 a1 k, LeO (diag_Format.f k a0 a1) (diag_Format.f (k + 1) a0 a1) := by
  intro a0 a1 k
  exact diag_Format.mono_l k _ _ _ _
def diag_Format.T6 : Bool × List (List Nat × List Nat) := (true, [([], []), ([0], [0]), ([1], [1]), ([], []), ([3, 1], [3]), ([2, 4], [2, 4]), ([5], [5]), ([], []), ([7], [7]), ([6, 8], [6, 8]), ([9], [9]), ([10, 4], [10])])
def diag_Format.B6 : List Nat := [0, 1, 3, 0, 11, 31, 63, 0, 128, 511, 1023, 2047]
theorem diag_Format.tab6 : rtab .any (opsOf Tryd.f17 6) = diag_Format.T6 := by kernel_rfl
theorem diag_Format.bits6 : waitsOk diag_Format.T6.2 diag_Format.B6 = true := by kernel_rfl
set_option maxHeartbeats 8000000 in
set_option maxRecDepth 100000 in
theorem diag_Format.calls (k : Nat) (a0 : ByteArray) (A1 : Option Addr) (c1 : Nat) (l1 : List (S39)) (r : ByteArray) (w : World) (hr1 : Kd.C k39 w A1 l1.length l1) (hc1 : l1.length ≤ c1) (hG : GW w) (h : diag_Format.f k a0 l1 = some r) :
    Calls Tryd.prog 17 #[.string a0, .slice A1 l1.length c1] w fun e w' => e = .returned (.string r) ∧ Below w.heap.size w w' := by
  have hu39 := Tryd.underlying39
  have HG := Aside0.mk hG
  have HR1 := Aside0.mk hr1
  have HC1 := Aside0.mk hc1
  clear hr1 hc1 hG
  have HB := Aside0.mk (Below.refl w.heap.size w)
  have H : (diag_Format.l0 k a0 l1 [] 0) = some r := h
  clear h
  have H' := Aside0.mk H
  clear H
  have hbd : Bd w.heap.size w.heap.size [] (w.alloc (.cells #[.pointer none, .slice none 0 0] 50)) := by
    refine .inl ⟨Nat.le_refl _, .slice none 0 0, ?_, ?_, by simp [Value.ownBlock]⟩
    · exact Array.getElem?_push_size
    · exact ⟨rfl, .inl ⟨rfl, rfl⟩⟩
  have HD0 := Aside0.mk hbd
  clear hbd
  go_enter Tryd.func17, Tryd.ntmps17
  go_wp2
  go_loopg [12] k (fun kq v12 w' => ∃ (acc : List UInt8) (x12 : Int), v12 = .int .i64 x12 ∧ Aside0 (diag_Format.l0 kq a0 l1 acc x12 = some r) ∧ Aside0 (kq ≤ k) ∧ Aside0 (Bd w.heap.size w.heap.size acc w') ∧ Aside0 (Below w.heap.size w w'))
  case atStart => exact ⟨[], 0, rfl, H', ⟨Nat.le_refl _⟩, HD0, ⟨by repeat (first | (with_reducible first | exact HB.out | apply below_alloc | apply pw_below_drewN | apply below_drew1) | exact HB.out)⟩⟩
  case round =>
    clear H' HD0 HB
    obtain ⟨acc, x12, rfl, HA, HK1, HD, HB⟩ := hrel
    cases gk with
    | zero => exact absurd HA.out (by simp [diag_Format.l0])
    | succ k1 =>
      have H := HA.out
      clear HA
      simp only [diag_Format.l0] at H
      by_cases c3 : x12 < (l1.length : Int)
      · rw [if_pos c3] at H
        have c3b0 : decide (x12 < (l1.length : Int)) = true := decide_eq_true c3
        by_cases c4 : 0 ≤ x12
        · rw [if_pos c4] at H
          obtain ⟨⟨t150, t151⟩, A60, H⟩ := Option.bind_eq_some_iff.mp H
          obtain ⟨s1, A70, H⟩ := Option.bind_eq_some_iff.mp H
          obtain ⟨s2, A90, H⟩ := Option.bind_eq_some_iff.mp H
          have A6 := Aside0.mk A60
          have A7 : Aside0 (strconv_Itoa.f t150 = some s1) := ⟨A70⟩
          have A9 : Aside0 (strconv_Itoa.f t151 = some s2) := ⟨A90⟩
          clear A60 A70 A90
          by_cases c8 : acc.length + s1.size + s2.size + ((rd_T39 l1 x12).f1).size + 100 ≤ 140737488355328
          · rw [if_pos c8] at H
            have H' := Aside0.mk H
            clear H
            have z1 : (9223372036854775807 < s1.size + 1) = False := eq_false (by omega)
            have z2 : (9223372036854775807 < s1.size + 1 + s2.size) = False := eq_false (by omega)
            have z3 : (9223372036854775807 < s1.size + 1 + s2.size + 2) = False := eq_false (by omega)
            have z4 : (9223372036854775807 < s1.size + 1 + s2.size + 2 + ((rd_T39 l1 x12).f1).size) = False := eq_false (by omega)
            have z5 : (9223372036854775807 < s1.size + 1 + s2.size + 2 + ((rd_T39 l1 x12).f1).size + 1) = False := eq_false (by omega)
            have y1 : (s1 ++ (⟨#[58]⟩ : ByteArray)).size = s1.size + 1 := by simp only [ByteArray.size_append]; rfl
            have y2 : ((s1 ++ (⟨#[58]⟩ : ByteArray)) ++ s2).size = s1.size + 1 + s2.size := by rw [ByteArray.size_append, y1]
            have y3 : (((s1 ++ (⟨#[58]⟩ : ByteArray)) ++ s2) ++ (⟨#[58, 32]⟩ : ByteArray)).size = s1.size + 1 + s2.size + 2 := by rw [ByteArray.size_append, y2]; rfl
            have y4 : ((((s1 ++ (⟨#[58]⟩ : ByteArray)) ++ s2) ++ (⟨#[58, 32]⟩ : ByteArray)) ++ ((rd_T39 l1 x12).f1)).size = s1.size + 1 + s2.size + 2 + ((rd_T39 l1 x12).f1).size := by rw [ByteArray.size_append, y3]
            have w2 : (9223372036854775807 < (s1 ++ (⟨#[58]⟩ : ByteArray)).size + s2.size) = False := eq_false (by rw [y1]; omega)
            have w3 : (9223372036854775807 < ((s1 ++ (⟨#[58]⟩ : ByteArray)) ++ s2).size + 2) = False := eq_false (by rw [y2]; omega)
            have w4 : (9223372036854775807 < (((s1 ++ (⟨#[58]⟩ : ByteArray)) ++ s2) ++ (⟨#[58, 32]⟩ : ByteArray)).size + ((rd_T39 l1 x12).f1).size) = False := eq_false (by rw [y3]; omega)
            have w5 : (9223372036854775807 < ((((s1 ++ (⟨#[58]⟩ : ByteArray)) ++ s2) ++ (⟨#[58, 32]⟩ : ByteArray)) ++ ((rd_T39 l1 x12).f1)).size + 1) = False := eq_false (by rw [y4]; omega)
            have HS : Aside0 (acc.length + (((((s1 ++ (⟨#[58]⟩ : ByteArray)) ++ s2) ++ (⟨#[58, 32]⟩ : ByteArray)) ++ ((rd_T39 l1 x12).f1)) ++ (⟨#[10]⟩ : ByteArray)).size ≤ 140737488355328) := ⟨by
              have : (((((s1 ++ (⟨#[58]⟩ : ByteArray)) ++ s2) ++ (⟨#[58, 32]⟩ : ByteArray)) ++ ((rd_T39 l1 x12).f1)) ++ (⟨#[10]⟩ : ByteArray)).size = s1.size + 1 + s2.size + 2 + ((rd_T39 l1 x12).f1).size + 1 := by rw [ByteArray.size_append, y4]; rfl
              omega⟩
            clear y1 y2 y3 y4 c8
            obtain ⟨ad148, e148, hx148_0, hx148_1⟩ := at_T39 HR1.out x12 c4 c3
            cases e148
            replace hx148_0 := (HB.out.cell (World.block_lt_of_cell? w _ hx148_0)).trans hx148_0
            replace hx148_1 := (HB.out.cell (World.block_lt_of_cell? w _ hx148_1)).trans hx148_1
            have p148 := eq_true c4
            have q148 := eq_true c3
            clear c3 c4
            go_upto_region 5 with (first | ((with_reducible refine gate_dst (N := 7) rfl ?_); refine box_event ?hg (N := 7) ?hd (cs := #[.int .i64 0, .string (⟨#[]⟩ : ByteArray)]) (t := 39) ?hr ?_; (case hd => rfl); (case hg => rfl); (case hr => first | (go_simp; done) | (go_simp; rfl)); intro gb hg w15 hbox hb; have n0_ := Aside0.mk (below_step (by repeat (first | (with_reducible first | exact HB.out | apply below_alloc | apply pw_below_drewN | apply below_drew1) | exact HB.out)) hb); have n1_ := Aside0.mk (hbox); have n2_ := Aside0.mk ((by rw [hg]; exact (below_size (by repeat (first | (with_reducible first | exact HB.out | apply below_alloc | apply pw_below_drewN | apply below_drew1) | exact HB.out)))) : w.heap.size ≤ gb); have n3_ := Aside0.mk hb; have n4_ := Aside0.mk (Nat.le_of_eq hg.symm); clear HB; have HB := n0_; have BK := n1_; have GE := n2_; have HX := n3_; have GX := n4_; clear n0_ n1_ n2_ n3_ n4_; clear hb hbox hg; have hcz16_0 : w15.cell? ⟨gb, 0, none⟩ = some (.int .i64 0) := (blk_cell BK.out 0).trans rfl; have hcz16_1 : w15.cell? ⟨gb, 1, none⟩ = some (.string (⟨#[]⟩ : ByteArray)) := (blk_cell BK.out 1).trans rfl; have hfz16_0 := blk_frozen BK.out 0; have hfz16_1 := blk_frozen BK.out 1))
            have n0_ : Aside0 (((w15.setCell ⟨gb, 0, none⟩ (.int .i64 ((rd_T39 l1 x12).f0))).setCell ⟨gb, 1, none⟩ (.string ((rd_T39 l1 x12).f1))).heap[gb]? = some (.cells #[.int .i64 ((rd_T39 l1 x12).f0), .string ((rd_T39 l1 x12).f1)] 39 (0, 0))) := ⟨by (with_reducible repeat (first | refine blk_drewN ?_ _ | refine blk_drew ?_ | refine blk_alloc ?_ _)); refine blk_put (cs := #[.int .i64 ((rd_T39 l1 x12).f0), .string (⟨#[]⟩ : ByteArray)]) ?_ 1 _ rfl; (with_reducible repeat (first | refine blk_drewN ?_ _ | refine blk_drew ?_ | refine blk_alloc ?_ _)); refine blk_put (cs := #[.int .i64 0, .string (⟨#[]⟩ : ByteArray)]) ?_ 0 _ rfl; (with_reducible repeat (first | refine blk_drewN ?_ _ | refine blk_drew ?_ | refine blk_alloc ?_ _)); exact BK.out⟩
            have n1_ : Aside0 (Below w.heap.size w ((w15.setCell ⟨gb, 0, none⟩ (.int .i64 ((rd_T39 l1 x12).f0))).setCell ⟨gb, 1, none⟩ (.string ((rd_T39 l1 x12).f1)))) := ⟨by repeat (first | (with_reducible first | exact HB.out | refine below_set ?_ GE.out) | exact HB.out)⟩
            have n2_ : Aside0 (Bd w.heap.size w.heap.size acc ((w15.setCell ⟨gb, 0, none⟩ (.int .i64 ((rd_T39 l1 x12).f0))).setCell ⟨gb, 1, none⟩ (.string ((rd_T39 l1 x12).f1)))) := ⟨HD.out.below (by repeat (first | (with_reducible first | exact HX.out | refine below_set ?_ GX.out) | exact HX.out))⟩
            clear BK HB HD HX GX hcz16_0 hcz16_1 hfz16_0 hfz16_1 hx148_0 hx148_1
            generalize ((w15.setCell ⟨gb, 0, none⟩ (.int .i64 ((rd_T39 l1 x12).f0))).setCell ⟨gb, 1, none⟩ (.string ((rd_T39 l1 x12).f1))) = w17 at n0_ n1_ n2_ ⊢
            have BK := n0_
            have HB := n1_
            have HD := n2_
            clear n0_ n1_ n2_
            have hcz17_0 : w17.cell? ⟨gb, 0, none⟩ = some (.int .i64 ((rd_T39 l1 x12).f0)) := (blk_cell BK.out 0).trans rfl
            have hcz17_1 : w17.cell? ⟨gb, 1, none⟩ = some (.string ((rd_T39 l1 x12).f1)) := (blk_cell BK.out 1).trans rfl
            go_upto_region 6 with (first | ((with_reducible refine gate_callee (f := 12) rfl ?_); refine goesL_ (some 20) rfl rfl Tryd.func12 (by kernel_rfl) rfl #[.string a0, .int .i64 ((rd_T39 l1 x12).f0)] rfl (by (try simp only [List.map_toArray, List.map_cons, List.map_nil]); first | done | rfl | (simp only [List.length_drop, List.length_take]; rfl)) ?_; (with_reducible refine (diag_Position.calls k1 a0 ((rd_T39 l1 x12).f0) t150 t151 _ A6.out).mono ?_); rintro e w18 ⟨rfl, hb⟩; refine ⟨_, rfl, ?_⟩; have n0_ := Aside0.mk (blk_below (g := gb) (o := .cells #[.int .i64 ((rd_T39 l1 x12).f0), .string ((rd_T39 l1 x12).f1)] 39 (0, 0)) (by (with_reducible repeat (first | refine blk_drewN ?_ _ | refine blk_drew ?_ | refine blk_alloc ?_ _)); exact BK.out) hb); have n1_ := Aside0.mk (below_step (by repeat (first | (with_reducible first | exact HB.out | apply below_alloc | apply pw_below_drewN | apply below_drew1 | refine below_set ?_ GE.out) | exact HB.out)) hb); have n2_ := Aside0.mk (Bd.below HD.out hb); clear BK HB HD; have BK := n0_; have HB := n1_; have HD := n2_; clear n0_ n1_ n2_ hb))
            have n0_ := Aside0.mk (blk_drew BK.out)
            have n1_ := Aside0.mk (below_drew1 HB.out)
            have n2_ := Aside0.mk (Bd.drew HD.out)
            clear BK HB HD hcz17_0 hcz17_1
            have BK := n0_
            have HB := n1_
            have HD := n2_
            clear n0_ n1_ n2_
            refine start_ (n := 12) (S := fun w' => w'.cell? ⟨gb, 0, none⟩ = some (.int .i64 ((rd_T39 l1 x12).f0)) ∧ w'.cell? ⟨gb, 1, none⟩ = some (.string ((rd_T39 l1 x12).f1))) (ds := []) #[false, false, false, false, false, false, false, false, false, false, false, false] (by kernel_rfl) rfl rfl ⟨(blk_cell BK.out 0).trans rfl, (blk_cell BK.out 1).trans rfl⟩ (fun hHeld => ?_); refine with_tabW diag_Format.tab6 diag_Format.bits6 (fun HT_ HW_ => ?_)
            generalize w18.drew = w19 at BK HB HD hHeld ⊢
            refine pure_ (i := 0) (N := some 23) (v := ?_) (a' := ?_) #[true, false, false, false, false, false, false, false, false, false, false, false] rfl rfl (any_of HT_.out (by kernel_rfl)) (fun _ _ _ h => h) (Or.inl ⟨by rfl, ?_⟩) ?_ ?_
            rotate_left
            · intro w'
              go_simp
              with_reducible rfl
            rotate_left
            · simp only [Act.put, List.setIfInBounds_toArray, List.set_cons_zero, List.set_cons_succ, i64_w, i32_w]
              rfl
            refine pure_ (i := 3) (N := some 26) (v := ?_) (a' := ?_) #[true, false, false, true, false, false, false, false, false, false, false, false] rfl rfl (any_of HT_.out (by kernel_rfl)) (fun _ _ _ h => h) (Or.inl ⟨by rfl, ?_⟩) ?_ ?_
            rotate_left
            · intro w'
              go_simp
              with_reducible rfl
            rotate_left
            · simp only [Act.put, List.setIfInBounds_toArray, List.set_cons_zero, List.set_cons_succ, i64_w, i32_w]
              rfl
            refine pure_ (i := 7) (N := some 30) (v := ?_) (a' := ?_) #[true, false, false, true, false, false, false, true, false, false, false, false] rfl rfl (any_of HT_.out (by kernel_rfl)) (fun _ _ _ h => h) (Or.inl ⟨by rfl, ?_⟩) ?_ ?_
            rotate_left
            · intro w'
              go_simp
              with_reducible rfl
            rotate_left
            · simp only [Act.put, List.setIfInBounds_toArray, List.set_cons_zero, List.set_cons_succ, i64_w, i32_w]
              rfl
            refine take_ (i := 8) (N := some 31) (v := ?_) (a' := ?_) #[true, false, false, true, false, false, false, true, true, false, false, false] rfl rfl (take_ofW HT_.out HW_.out (by kernel_rfl)) (fun _ _ _ h => h) (Or.inl ⟨by rfl, ?_⟩) hHeld ?_ ?_
            rotate_left
            · rintro w' ⟨h0_, h1_⟩
              go_simp
              with_reducible rfl
            rotate_left
            · simp only [Act.put, List.setIfInBounds_toArray, List.set_cons_zero, List.set_cons_succ, i64_w, i32_w]
              rfl
            refine one_ (i := 1) (N := some 24) #[true, true, false, true, false, false, false, true, true, false, false, false] rfl rfl (one_of HT_.out (by kernel_rfl)) (by decide) (fun K hK => ?_)
            refine goes_ Tryd.func33 (by kernel_rfl) rfl #[.int .i64 t150] (by rfl) rfl rfl (by (try simp only [List.map_toArray, List.map_cons, List.map_nil]); first | done | rfl | (simp only [List.length_drop, List.length_take]; rfl)) ?_
            refine (strconv_Itoa.calls t150 s1 _ (GW.below HG.out (by repeat (first | (with_reducible first | exact HB.out | apply below_alloc | apply pw_below_drewN | apply below_drew1 | refine below_set ?_ GE.out) | exact HB.out))) A7.out).mono ?_
            rintro e w20 ⟨rfl, hb⟩
            refine ⟨_, rfl, ?_⟩
            have n0_ := Aside0.mk (blk_below (g := gb) (o := .cells #[.int .i64 ((rd_T39 l1 x12).f0), .string ((rd_T39 l1 x12).f1)] 39 (0, 0)) (by (with_reducible repeat (first | refine blk_drewN ?_ _ | refine blk_drew ?_ | refine blk_alloc ?_ _)); exact BK.out) hb); have n1_ := Aside0.mk (below_step (by repeat (first | (with_reducible first | exact HB.out | apply below_alloc | apply pw_below_drewN | apply below_drew1 | refine below_set ?_ GE.out) | exact HB.out)) hb); have n2_ := Aside0.mk (Bd.below HD.out hb); clear BK HB HD; have BK := n0_; have HB := n1_; have HD := n2_; clear n0_ n1_ n2_ hb
            refine hK.out _ _ ⟨(blk_cell BK.out 0).trans rfl, (blk_cell BK.out 1).trans rfl⟩ (fun hHeld => ?_)
            clear hK K
            refine norm_ (a' := ?_) ?_ ?_
            rotate_left
            · show Act.put _ (some 24) _ = _
              simp only [Act.put, List.setIfInBounds_toArray, List.set_cons_zero, List.set_cons_succ, i64_w, i32_w]
              rfl
            refine pure_ (i := 2) (N := some 25) (v := ?_) (a' := ?_) #[true, true, true, true, false, false, false, true, true, false, false, false] rfl rfl (any_of HT_.out (by kernel_rfl)) (fun _ _ _ h => h) (Or.inl ⟨by rfl, ?_⟩) ?_ ?_
            rotate_left
            · intro w'
              go_simp
              with_reducible rfl
            rotate_left
            · simp only [Act.put, List.setIfInBounds_toArray, List.set_cons_zero, List.set_cons_succ, i64_w, i32_w]
              rfl
            refine one_ (i := 4) (N := some 27) #[true, true, true, true, true, false, false, true, true, false, false, false] rfl rfl (one_of HT_.out (by kernel_rfl)) (by decide) (fun K hK => ?_)
            refine goes_ Tryd.func33 (by kernel_rfl) rfl #[.int .i64 t151] (by rfl) rfl rfl (by (try simp only [List.map_toArray, List.map_cons, List.map_nil]); first | done | rfl | (simp only [List.length_drop, List.length_take]; rfl)) ?_
            refine (strconv_Itoa.calls t151 s2 _ (GW.below HG.out (by repeat (first | (with_reducible first | exact HB.out | apply below_alloc | apply pw_below_drewN | apply below_drew1 | refine below_set ?_ GE.out) | exact HB.out))) A9.out).mono ?_
            rintro e w21 ⟨rfl, hb⟩
            refine ⟨_, rfl, ?_⟩
            have n0_ := Aside0.mk (blk_below (g := gb) (o := .cells #[.int .i64 ((rd_T39 l1 x12).f0), .string ((rd_T39 l1 x12).f1)] 39 (0, 0)) (by (with_reducible repeat (first | refine blk_drewN ?_ _ | refine blk_drew ?_ | refine blk_alloc ?_ _)); exact BK.out) hb); have n1_ := Aside0.mk (below_step (by repeat (first | (with_reducible first | exact HB.out | apply below_alloc | apply pw_below_drewN | apply below_drew1 | refine below_set ?_ GE.out) | exact HB.out)) hb); have n2_ := Aside0.mk (Bd.below HD.out hb); clear BK HB HD; have BK := n0_; have HB := n1_; have HD := n2_; clear n0_ n1_ n2_ hb
            refine hK.out _ _ ⟨(blk_cell BK.out 0).trans rfl, (blk_cell BK.out 1).trans rfl⟩ (fun hHeld => ?_)
            clear hK K
            refine norm_ (a' := ?_) ?_ ?_
            rotate_left
            · show Act.put _ (some 27) _ = _
              simp only [Act.put, List.setIfInBounds_toArray, List.set_cons_zero, List.set_cons_succ, i64_w, i32_w]
              rfl
            refine pure_ (i := 5) (N := some 28) (v := ?_) (a' := ?_) #[true, true, true, true, true, true, false, true, true, false, false, false] rfl rfl (any_of HT_.out (by kernel_rfl)) (fun _ _ _ h => h) (Or.inl ⟨by rfl, ?_⟩) ?_ ?_
            rotate_left
            · intro w'
              go_simp
              with_reducible rfl
            rotate_left
            · simp only [Act.put, List.setIfInBounds_toArray, List.set_cons_zero, List.set_cons_succ, i64_w, i32_w]
              rfl
            refine pure_ (i := 6) (N := some 29) (v := ?_) (a' := ?_) #[true, true, true, true, true, true, true, true, true, false, false, false] rfl rfl (any_of HT_.out (by kernel_rfl)) (fun _ _ _ h => h) (Or.inl ⟨by rfl, ?_⟩) ?_ ?_
            rotate_left
            · intro w'
              go_simp
              with_reducible rfl
            rotate_left
            · simp only [Act.put, List.setIfInBounds_toArray, List.set_cons_zero, List.set_cons_succ, i64_w, i32_w]
              rfl
            refine pure_ (i := 9) (N := some 32) (v := ?_) (a' := ?_) #[true, true, true, true, true, true, true, true, true, true, false, false] rfl rfl (any_of HT_.out (by kernel_rfl)) (fun _ _ _ h => h) (Or.inl ⟨by rfl, ?_⟩) ?_ ?_
            rotate_left
            · intro w'
              go_simp
              with_reducible rfl
            rotate_left
            · simp only [Act.put, List.setIfInBounds_toArray, List.set_cons_zero, List.set_cons_succ, i64_w, i32_w]
              rfl
            refine pure_ (i := 10) (N := some 33) (v := ?_) (a' := ?_) #[true, true, true, true, true, true, true, true, true, true, true, false] rfl rfl (any_of HT_.out (by kernel_rfl)) (fun _ _ _ h => h) (Or.inl ⟨by rfl, ?_⟩) ?_ ?_
            rotate_left
            · intro w'
              go_simp
              with_reducible rfl
            rotate_left
            · simp only [Act.put, List.setIfInBounds_toArray, List.set_cons_zero, List.set_cons_succ, i64_w, i32_w]
              rfl
            refine one_ (i := 11) (N := some 34) #[true, true, true, true, true, true, true, true, true, true, true, true] rfl rfl (one_of HT_.out (by kernel_rfl)) (by decide) (fun K hK => ?_)
            refine goes_ Tryd.func32 (by kernel_rfl) rfl #[.pointer (some ⟨w.heap.size, 0, none⟩), .string (((((s1 ++ (⟨#[58]⟩ : ByteArray)) ++ s2) ++ (⟨#[58, 32]⟩ : ByteArray)) ++ ((rd_T39 l1 x12).f1)) ++ (⟨#[10]⟩ : ByteArray))] (by rfl) rfl rfl (by (try simp only [List.map_toArray, List.map_cons, List.map_nil]); first | done | rfl | (simp only [List.length_drop, List.length_take]; rfl)) ?_
            refine (writeString_calls w.heap.size w.heap.size acc (((((s1 ++ (⟨#[58]⟩ : ByteArray)) ++ s2) ++ (⟨#[58, 32]⟩ : ByteArray)) ++ ((rd_T39 l1 x12).f1)) ++ (⟨#[10]⟩ : ByteArray)) _ HD.out HS.out (below_size HB.out)).mono ?_
            rintro e w22 ⟨rfl, hd, hb, hk⟩
            refine ⟨_, rfl, ?_⟩
            have n0_ := Aside0.mk (hk 39 gb #[.int .i64 ((rd_T39 l1 x12).f0), .string ((rd_T39 l1 x12).f1)] (by decide) (by decide) BK.out); have n1_ := Aside0.mk (HB.out.trans hb); have n2_ := Aside0.mk hd; clear BK HB HD; have BK := n0_; have HB := n1_; have HD := n2_; clear n0_ n1_ n2_ hb hd hk
            refine hK.out _ _ ⟨(blk_cell BK.out 0).trans rfl, (blk_cell BK.out 1).trans rfl⟩ (fun hHeld => ?_)
            clear hK K
            refine norm_ (a' := ?_) ?_ ?_
            rotate_left
            · show Act.put _ (some 34) _ = _
              simp only [Act.put, List.setIfInBounds_toArray, List.set_cons_zero, List.set_cons_succ, i64_w, i32_w]
              rfl
            refine done_ (done_of HT_.out (by kernel_rfl)) ?_
            try go_wp2
            go_roundg k1
            case measure => have := HK1.out; omega
            case rel => exact ⟨acc ++ (lineF s1 s2 ((rd_T39 l1 x12).f1)).data.toList, (wrap64 (x12 + 1)), (by first | rfl | (simp; done) | (simp [*]; done)), H', ⟨by have := HK1.out; omega⟩, HD, HB⟩
          · rw [if_neg c8] at H
            cases H
        · rw [if_neg c4] at H
          cases H
      · rw [if_neg c3] at H
        have c3b0 : decide (x12 < (l1.length : Int)) = false := decide_eq_false c3
        obtain rfl := Option.some.inj H
        clear c3 H
        go_wp2_with (first | (go_at_call 34; refine (Tryd.Builder_String_any w.heap.size w.heap.size _ _ HD.out (below_size HB.out)).mono ?_; rintro e w23 ⟨rfl, hb⟩))
        go_ret
        exact ⟨rfl, HB.out.trans hb⟩
end Go.Proofs.YtahgghbhpmpgfaaDoor.PX
-- Written by a program of this session (wip/xprint.py, over the kit's print tool). Lean checks it.
namespace Go.Proofs.YtahgghbhpmpgfaaDoor.PX
open Go.RowKit Go.Proofs.YtahgghbhpmpgfaaDoorW.PrintWords Go.Proofs.YtahgghbhpmpgfaaDoorW.PrintLast Go.Proofs.YtahgghbhpmpgfaaDoorW.PrintMore
attribute [local go_sem] max2_int min2_int max_two min_two max_three min_three max_four min_four   -- for this text's walks alone
set_option linter.unusedVariables false
set_option linter.unusedSimpArgs false

/-! ### tricklelaw14_examples: function 11 -/
def tricklelaw14_examples.f (k : Nat)  : Option (Bool) := (diag_Position.f k (⟨#[97, 98, 10, 99]⟩ : ByteArray) 3).bind fun bt128 => ((diag_Position.f k (⟨#[97, 98, 10, 99]⟩ : ByteArray) 2).bind fun bt130 => (if bt128.1 = 2 then (if bt128.2 = 1 then (if bt130.1 = 1 then (if bt130.2 = 3 then ((diag_Format.f k (⟨#[97, 98, 10, 99]⟩ : ByteArray) (([(⟨3, (⟨#[117, 110, 101, 120, 112, 101, 99, 116, 101, 100, 32, 99]⟩ : ByteArray)⟩ : S39)] : List (S39)))).bind fun t135 => (some (t135.toList == ([50, 58, 49, 58, 32, 117, 110, 101, 120, 112, 101, 99, 116, 101, 100, 32, 99, 10] : List UInt8)))) else (some false)) else (some false)) else (some false)) else (some false)))
theorem tricklelaw14_examples.mono : ∀ k, LeO (tricklelaw14_examples.f k ) (tricklelaw14_examples.f (k + 1) ) := by
  intro  k
  unfold tricklelaw14_examples.f
  repeat' first
      | (with_reducible exact diag_Format.mono _ _ _)
      | (with_reducible exact diag_Position.mono _ _ _)
      | (with_reducible exact LeO.refl _)
      | (with_reducible exact LeO.none _)
      | (with_reducible refine LeO.ite ?_ ?_)
      | (with_reducible refine LeO.bind ?_ (fun _ => ?_))
      | exact diag_Format.mono _ _ _
      | exact diag_Position.mono _ _ _
      | exact LeO.none _
      | refine LeO.ite ?_ ?_
      | refine LeO.bind ?_ (fun _ => ?_)
set_option maxHeartbeats 8000000 in
set_option maxRecDepth 100000 in
theorem tricklelaw14_examples.calls (k : Nat)  (r : Bool) (w : World) (hG : GW w) (h : tricklelaw14_examples.f k  = some r) :
    Calls Tryd.prog 11 #[] w fun e w' => e = .returned (.bool r) ∧ Below w.heap.size w w' := by
  have hu39 := Tryd.underlying39
  have HG := Aside0.mk hG
  clear hG
  have HB := Aside0.mk (Below.refl w.heap.size w)
  have H : ((diag_Position.f k (⟨#[97, 98, 10, 99]⟩ : ByteArray) 3).bind fun bt128 => ((diag_Position.f k (⟨#[97, 98, 10, 99]⟩ : ByteArray) 2).bind fun bt130 => (if bt128.1 = 2 then (if bt128.2 = 1 then (if bt130.1 = 1 then (if bt130.2 = 3 then ((diag_Format.f k (⟨#[97, 98, 10, 99]⟩ : ByteArray) (([(⟨3, (⟨#[117, 110, 101, 120, 112, 101, 99, 116, 101, 100, 32, 99]⟩ : ByteArray)⟩ : S39)] : List (S39)))).bind fun t135 => (some (t135.toList == ([50, 58, 49, 58, 32, 117, 110, 101, 120, 112, 101, 99, 116, 101, 100, 32, 99, 10] : List UInt8)))) else (some false)) else (some false)) else (some false)) else (some false)))) = some r := h
  clear h
  replace H := Option.bind_eq_some_iff.mp H
  obtain ⟨⟨t128, t129⟩, A10, H⟩ := H
  replace H : ((diag_Position.f k (⟨#[97, 98, 10, 99]⟩ : ByteArray) 2).bind fun bt130 => (if t128 = 2 then (if t129 = 1 then (if bt130.1 = 1 then (if bt130.2 = 3 then ((diag_Format.f k (⟨#[97, 98, 10, 99]⟩ : ByteArray) (([(⟨3, (⟨#[117, 110, 101, 120, 112, 101, 99, 116, 101, 100, 32, 99]⟩ : ByteArray)⟩ : S39)] : List (S39)))).bind fun t135 => (some (t135.toList == ([50, 58, 49, 58, 32, 117, 110, 101, 120, 112, 101, 99, 116, 101, 100, 32, 99, 10] : List UInt8)))) else (some false)) else (some false)) else (some false)) else (some false))) = some r := H
  have A1 := Aside0.mk A10
  clear A10
  replace H := Option.bind_eq_some_iff.mp H
  obtain ⟨⟨t130, t131⟩, A20, H⟩ := H
  replace H : (if t128 = 2 then (if t129 = 1 then (if t130 = 1 then (if t131 = 3 then ((diag_Format.f k (⟨#[97, 98, 10, 99]⟩ : ByteArray) (([(⟨3, (⟨#[117, 110, 101, 120, 112, 101, 99, 116, 101, 100, 32, 99]⟩ : ByteArray)⟩ : S39)] : List (S39)))).bind fun t135 => (some (t135.toList == ([50, 58, 49, 58, 32, 117, 110, 101, 120, 112, 101, 99, 116, 101, 100, 32, 99, 10] : List UInt8)))) else (some false)) else (some false)) else (some false)) else (some false)) = some r := H
  have A2 := Aside0.mk A20
  clear A20
  by_cases c3 : t128 = 2
  · rw [if_pos c3] at H
    have c3b0 : (t128 == 2) = true := beq_iff_eq.mpr c3
    have c3b1 : (t128 != 2) = false := bne_eq_false_iff_eq.mpr c3
    clear c3
    by_cases c4 : t129 = 1
    · rw [if_pos c4] at H
      have c4b0 : (t129 == 1) = true := beq_iff_eq.mpr c4
      have c4b1 : (t129 != 1) = false := bne_eq_false_iff_eq.mpr c4
      clear c4
      by_cases c5 : t130 = 1
      · rw [if_pos c5] at H
        have c5b0 : (t130 == 1) = true := beq_iff_eq.mpr c5
        have c5b1 : (t130 != 1) = false := bne_eq_false_iff_eq.mpr c5
        clear c5
        by_cases c6 : t131 = 3
        · rw [if_pos c6] at H
          have c6b0 : (t131 == 3) = true := beq_iff_eq.mpr c6
          have c6b1 : (t131 != 3) = false := bne_eq_false_iff_eq.mpr c6
          clear c6
          obtain ⟨y132, hy132⟩ : ∃ y_ : List (S39), y_ = (([(⟨3, (⟨#[117, 110, 101, 120, 112, 101, 99, 116, 101, 100, 32, 99]⟩ : ByteArray)⟩ : S39)] : List (S39))) := ⟨_, rfl⟩
          replace H : ((diag_Format.f k (⟨#[97, 98, 10, 99]⟩ : ByteArray) y132).bind fun t135 => (some (t135.toList == ([50, 58, 49, 58, 32, 117, 110, 101, 120, 112, 101, 99, 116, 101, 100, 32, 99, 10] : List UInt8)))) = some r := by first | (rw [hy132]; with_reducible exact H) | (have H2_ := (Option.bind_some _ _).symm.trans H; rw [hy132]; with_reducible exact H2_) | (have H2_ := (Option.bind_some _ _).symm.trans H; with_reducible exact H2_) | with_reducible exact H | (rw [hy132]; exact H) | exact H
          have Ny132 := Aside0.mk hy132
          clear hy132
          replace H := Option.bind_eq_some_iff.mp H
          obtain ⟨t135, A70, H⟩ := H
          replace H : (some (t135.toList == ([50, 58, 49, 58, 32, 117, 110, 101, 120, 112, 101, 99, 116, 101, 100, 32, 99, 10] : List UInt8))) = some r := H
          have A7 := Aside0.mk A70
          clear A70
          obtain rfl := Option.some.inj H
          go_enter Tryd.func11, Tryd.ntmps11
          go_wp2_with (first | ((with_reducible refine gate_callee (f := 12) rfl ?_); refine goesL_ (some 6) rfl rfl Tryd.func12 (by kernel_rfl) rfl #[.string (⟨#[97, 98, 10, 99]⟩ : ByteArray), .int .i64 3] rfl (by (try simp only [List.map_toArray, List.map_cons, List.map_nil]); first | done | rfl | (simp only [List.length_drop, List.length_take]; rfl)) ?_; (with_reducible refine (diag_Position.calls k (⟨#[97, 98, 10, 99]⟩ : ByteArray) 3 t128 t129 _ A1.out).mono ?_); rintro e w8 ⟨rfl, hb⟩; refine ⟨_, rfl, ?_⟩; have n0_ := Aside0.mk (below_step (by repeat (first | (with_reducible first | exact HB.out | apply below_alloc | apply pw_below_drewN | apply below_drew1) | exact HB.out)) hb); clear HB; have HB := n0_; clear n0_; (try clear hb); (try clear hb2); (try clear hk); (try clear hi)) | ((with_reducible refine gate_callee (f := 12) rfl ?_); refine goesL_ (some 10) rfl rfl Tryd.func12 (by kernel_rfl) rfl #[.string (⟨#[97, 98, 10, 99]⟩ : ByteArray), .int .i64 2] rfl (by (try simp only [List.map_toArray, List.map_cons, List.map_nil]); first | done | rfl | (simp only [List.length_drop, List.length_take]; rfl)) ?_; (with_reducible refine (diag_Position.calls k (⟨#[97, 98, 10, 99]⟩ : ByteArray) 2 t130 t131 _ A2.out).mono ?_); rintro e w9 ⟨rfl, hb⟩; refine ⟨_, rfl, ?_⟩; have n0_ := Aside0.mk (below_step (by repeat (first | (with_reducible first | exact HB.out | apply below_alloc | apply pw_below_drewN | apply below_drew1) | exact HB.out)) hb); clear HB; have HB := n0_; clear n0_; (try clear hb); (try clear hb2); (try clear hk); (try clear hi)) | ((with_reducible refine gate_dst (N := 29) rfl ?_); (try (refine gate_guard (by rfl) ?_; dsimp only)); refine Kd.R_lit k39 _ 39 ?hg (N := 29) ?hd (xs := ([(⟨3, (⟨#[117, 110, 101, 120, 112, 101, 99, 116, 101, 100, 32, 99]⟩ : ByteArray)⟩ : S39)] : List (S39))) (inner := [.int .i64 3, .string (⟨#[117, 110, 101, 120, 112, 101, 99, 116, 101, 100, 32, 99]⟩ : ByteArray)]) (ok := fun _ => True) (okp := fun _ => True) ?hr ?hp (fun _ hk => hk) trivial (Below.refl _ _) (Nat.le_refl _) (by simp) ?_; (case hd => rfl); (case hg => rfl); (case hr => first | (go_simp; done) | (go_simp; rfl)); (case hp => exact (Reps.c2 (show Kd.M k39 _ _ _ (⟨3, (⟨#[117, 110, 101, 120, 112, 101, 99, 116, 101, 100, 32, 99]⟩ : ByteArray)⟩ : S39) [.int .i64 3, .string (⟨#[117, 110, 101, 120, 112, 101, 99, 116, 101, 100, 32, 99]⟩ : ByteArray)] from (k39_mkM _ _ _ (⟨3, (⟨#[117, 110, 101, 120, 112, 101, 99, 116, 101, 100, 32, 99]⟩ : ByteArray)⟩ : S39) )) (Reps.none _ _))); intro v133 w10 ho11 hb hg_ hnew_; clear hg_ hnew_; (first | rw [← Ny132.out] at ho11 | (simp only [Int.reduceToNat] at ho11; rw [← Ny132.out] at ho11)); have n0_ := Aside0.mk (Kd.R_lower ho11 (below_size (by repeat (first | (with_reducible first | exact HB.out | apply below_alloc | apply pw_below_drewN | apply below_drew1) | exact HB.out)))); have n1_ := Aside0.mk (below_step (by repeat (first | (with_reducible first | exact HB.out | apply below_alloc | apply pw_below_drewN | apply below_drew1) | exact HB.out)) hb); clear HB; have HO134 := n0_; have HB := n1_; clear n0_ n1_; clear hb ho11; obtain ⟨Ao12, co12, eo12⟩ := Kd.R_slice HO134.out; subst eo12) | (go_at_call 17; (with_reducible refine (diag_Format.calls k (⟨#[97, 98, 10, 99]⟩ : ByteArray) _ _ y132 t135 _ ?side1 ?side2 ?side3 A7.out).mono ?_); (case side1 => repeat (first | exact (Kd.R_reads' HO134.out).2.2 | (with_reducible refine Kd.C_alloc ?_ _) | (with_reducible refine Kd.C_drewN ?_ _) | (with_reducible refine Kd.C_drew ?_))); (case side2 => exact (Kd.R_reads' HO134.out).2.1); (case side3 => refine GW.below HG.out ?_; repeat (first | (with_reducible first | exact HB.out | apply below_alloc | apply pw_below_drewN | apply below_drew1) | exact HB.out)); rintro e w13 ⟨rfl, hb⟩; have n0_ := Aside0.mk (Kd.R_below (by (with_reducible repeat (first | apply Kd.R_alloc | apply Kd.R_drewN | apply Kd.R_drew)); exact HO134.out) hb); have n1_ := Aside0.mk (below_step (by repeat (first | (with_reducible first | exact HB.out | apply below_alloc | apply pw_below_drewN | apply below_drew1) | exact HB.out)) hb); clear HO134; clear HB; have HO134 := n0_; have HB := n1_; clear n0_ n1_; (try clear hb); (try clear hb2); (try clear hk); (try clear hi)))
          go_ret
          exact ⟨by first | rfl | (simp [errW_none, errW_some] <;> rfl) | (simp [*, errW_none, errW_some] <;> rfl), by repeat (first | (with_reducible first | exact HB.out | apply below_alloc | apply pw_below_drewN | apply below_drew1) | exact HB.out)⟩
        · rw [if_neg c6] at H
          have c6b0 : (t131 == 3) = false := beq_eq_false_iff_ne.mpr c6
          have c6b1 : (t131 != 3) = true := bne_iff_ne.mpr c6
          obtain rfl := Option.some.inj H
          go_enter Tryd.func11, Tryd.ntmps11
          go_wp2_with (first | ((with_reducible refine gate_callee (f := 12) rfl ?_); refine goesL_ (some 6) rfl rfl Tryd.func12 (by kernel_rfl) rfl #[.string (⟨#[97, 98, 10, 99]⟩ : ByteArray), .int .i64 3] rfl (by (try simp only [List.map_toArray, List.map_cons, List.map_nil]); first | done | rfl | (simp only [List.length_drop, List.length_take]; rfl)) ?_; (with_reducible refine (diag_Position.calls k (⟨#[97, 98, 10, 99]⟩ : ByteArray) 3 t128 t129 _ A1.out).mono ?_); rintro e w14 ⟨rfl, hb⟩; refine ⟨_, rfl, ?_⟩; have n0_ := Aside0.mk (below_step (by repeat (first | (with_reducible first | exact HB.out | apply below_alloc | apply pw_below_drewN | apply below_drew1) | exact HB.out)) hb); clear HB; have HB := n0_; clear n0_; (try clear hb); (try clear hb2); (try clear hk); (try clear hi)) | ((with_reducible refine gate_callee (f := 12) rfl ?_); refine goesL_ (some 10) rfl rfl Tryd.func12 (by kernel_rfl) rfl #[.string (⟨#[97, 98, 10, 99]⟩ : ByteArray), .int .i64 2] rfl (by (try simp only [List.map_toArray, List.map_cons, List.map_nil]); first | done | rfl | (simp only [List.length_drop, List.length_take]; rfl)) ?_; (with_reducible refine (diag_Position.calls k (⟨#[97, 98, 10, 99]⟩ : ByteArray) 2 t130 t131 _ A2.out).mono ?_); rintro e w15 ⟨rfl, hb⟩; refine ⟨_, rfl, ?_⟩; have n0_ := Aside0.mk (below_step (by repeat (first | (with_reducible first | exact HB.out | apply below_alloc | apply pw_below_drewN | apply below_drew1) | exact HB.out)) hb); clear HB; have HB := n0_; clear n0_; (try clear hb); (try clear hb2); (try clear hk); (try clear hi)))
          go_ret
          exact ⟨by first | rfl | (simp [errW_none, errW_some] <;> rfl) | (simp [*, errW_none, errW_some] <;> rfl), by repeat (first | (with_reducible first | exact HB.out | apply below_alloc | apply pw_below_drewN | apply below_drew1) | exact HB.out)⟩
      · rw [if_neg c5] at H
        have c5b0 : (t130 == 1) = false := beq_eq_false_iff_ne.mpr c5
        have c5b1 : (t130 != 1) = true := bne_iff_ne.mpr c5
        obtain rfl := Option.some.inj H
        go_enter Tryd.func11, Tryd.ntmps11
        go_wp2_with (first | ((with_reducible refine gate_callee (f := 12) rfl ?_); refine goesL_ (some 6) rfl rfl Tryd.func12 (by kernel_rfl) rfl #[.string (⟨#[97, 98, 10, 99]⟩ : ByteArray), .int .i64 3] rfl (by (try simp only [List.map_toArray, List.map_cons, List.map_nil]); first | done | rfl | (simp only [List.length_drop, List.length_take]; rfl)) ?_; (with_reducible refine (diag_Position.calls k (⟨#[97, 98, 10, 99]⟩ : ByteArray) 3 t128 t129 _ A1.out).mono ?_); rintro e w16 ⟨rfl, hb⟩; refine ⟨_, rfl, ?_⟩; have n0_ := Aside0.mk (below_step (by repeat (first | (with_reducible first | exact HB.out | apply below_alloc | apply pw_below_drewN | apply below_drew1) | exact HB.out)) hb); clear HB; have HB := n0_; clear n0_; (try clear hb); (try clear hb2); (try clear hk); (try clear hi)) | ((with_reducible refine gate_callee (f := 12) rfl ?_); refine goesL_ (some 10) rfl rfl Tryd.func12 (by kernel_rfl) rfl #[.string (⟨#[97, 98, 10, 99]⟩ : ByteArray), .int .i64 2] rfl (by (try simp only [List.map_toArray, List.map_cons, List.map_nil]); first | done | rfl | (simp only [List.length_drop, List.length_take]; rfl)) ?_; (with_reducible refine (diag_Position.calls k (⟨#[97, 98, 10, 99]⟩ : ByteArray) 2 t130 t131 _ A2.out).mono ?_); rintro e w17 ⟨rfl, hb⟩; refine ⟨_, rfl, ?_⟩; have n0_ := Aside0.mk (below_step (by repeat (first | (with_reducible first | exact HB.out | apply below_alloc | apply pw_below_drewN | apply below_drew1) | exact HB.out)) hb); clear HB; have HB := n0_; clear n0_; (try clear hb); (try clear hb2); (try clear hk); (try clear hi)))
        go_ret
        exact ⟨by first | rfl | (simp [errW_none, errW_some] <;> rfl) | (simp [*, errW_none, errW_some] <;> rfl), by repeat (first | (with_reducible first | exact HB.out | apply below_alloc | apply pw_below_drewN | apply below_drew1) | exact HB.out)⟩
    · rw [if_neg c4] at H
      have c4b0 : (t129 == 1) = false := beq_eq_false_iff_ne.mpr c4
      have c4b1 : (t129 != 1) = true := bne_iff_ne.mpr c4
      obtain rfl := Option.some.inj H
      go_enter Tryd.func11, Tryd.ntmps11
      go_wp2_with (first | ((with_reducible refine gate_callee (f := 12) rfl ?_); refine goesL_ (some 6) rfl rfl Tryd.func12 (by kernel_rfl) rfl #[.string (⟨#[97, 98, 10, 99]⟩ : ByteArray), .int .i64 3] rfl (by (try simp only [List.map_toArray, List.map_cons, List.map_nil]); first | done | rfl | (simp only [List.length_drop, List.length_take]; rfl)) ?_; (with_reducible refine (diag_Position.calls k (⟨#[97, 98, 10, 99]⟩ : ByteArray) 3 t128 t129 _ A1.out).mono ?_); rintro e w18 ⟨rfl, hb⟩; refine ⟨_, rfl, ?_⟩; have n0_ := Aside0.mk (below_step (by repeat (first | (with_reducible first | exact HB.out | apply below_alloc | apply pw_below_drewN | apply below_drew1) | exact HB.out)) hb); clear HB; have HB := n0_; clear n0_; (try clear hb); (try clear hb2); (try clear hk); (try clear hi)) | ((with_reducible refine gate_callee (f := 12) rfl ?_); refine goesL_ (some 10) rfl rfl Tryd.func12 (by kernel_rfl) rfl #[.string (⟨#[97, 98, 10, 99]⟩ : ByteArray), .int .i64 2] rfl (by (try simp only [List.map_toArray, List.map_cons, List.map_nil]); first | done | rfl | (simp only [List.length_drop, List.length_take]; rfl)) ?_; (with_reducible refine (diag_Position.calls k (⟨#[97, 98, 10, 99]⟩ : ByteArray) 2 t130 t131 _ A2.out).mono ?_); rintro e w19 ⟨rfl, hb⟩; refine ⟨_, rfl, ?_⟩; have n0_ := Aside0.mk (below_step (by repeat (first | (with_reducible first | exact HB.out | apply below_alloc | apply pw_below_drewN | apply below_drew1) | exact HB.out)) hb); clear HB; have HB := n0_; clear n0_; (try clear hb); (try clear hb2); (try clear hk); (try clear hi)))
      go_ret
      exact ⟨by first | rfl | (simp [errW_none, errW_some] <;> rfl) | (simp [*, errW_none, errW_some] <;> rfl), by repeat (first | (with_reducible first | exact HB.out | apply below_alloc | apply pw_below_drewN | apply below_drew1) | exact HB.out)⟩
  · rw [if_neg c3] at H
    have c3b0 : (t128 == 2) = false := beq_eq_false_iff_ne.mpr c3
    have c3b1 : (t128 != 2) = true := bne_iff_ne.mpr c3
    obtain rfl := Option.some.inj H
    go_enter Tryd.func11, Tryd.ntmps11
    go_wp2_with (first | ((with_reducible refine gate_callee (f := 12) rfl ?_); refine goesL_ (some 6) rfl rfl Tryd.func12 (by kernel_rfl) rfl #[.string (⟨#[97, 98, 10, 99]⟩ : ByteArray), .int .i64 3] rfl (by (try simp only [List.map_toArray, List.map_cons, List.map_nil]); first | done | rfl | (simp only [List.length_drop, List.length_take]; rfl)) ?_; (with_reducible refine (diag_Position.calls k (⟨#[97, 98, 10, 99]⟩ : ByteArray) 3 t128 t129 _ A1.out).mono ?_); rintro e w20 ⟨rfl, hb⟩; refine ⟨_, rfl, ?_⟩; have n0_ := Aside0.mk (below_step (by repeat (first | (with_reducible first | exact HB.out | apply below_alloc | apply pw_below_drewN | apply below_drew1) | exact HB.out)) hb); clear HB; have HB := n0_; clear n0_; (try clear hb); (try clear hb2); (try clear hk); (try clear hi)) | ((with_reducible refine gate_callee (f := 12) rfl ?_); refine goesL_ (some 10) rfl rfl Tryd.func12 (by kernel_rfl) rfl #[.string (⟨#[97, 98, 10, 99]⟩ : ByteArray), .int .i64 2] rfl (by (try simp only [List.map_toArray, List.map_cons, List.map_nil]); first | done | rfl | (simp only [List.length_drop, List.length_take]; rfl)) ?_; (with_reducible refine (diag_Position.calls k (⟨#[97, 98, 10, 99]⟩ : ByteArray) 2 t130 t131 _ A2.out).mono ?_); rintro e w21 ⟨rfl, hb⟩; refine ⟨_, rfl, ?_⟩; have n0_ := Aside0.mk (below_step (by repeat (first | (with_reducible first | exact HB.out | apply below_alloc | apply pw_below_drewN | apply below_drew1) | exact HB.out)) hb); clear HB; have HB := n0_; clear n0_; (try clear hb); (try clear hb2); (try clear hk); (try clear hi)))
    go_ret
    exact ⟨by first | rfl | (simp [errW_none, errW_some] <;> rfl) | (simp [*, errW_none, errW_some] <;> rfl), by repeat (first | (with_reducible first | exact HB.out | apply below_alloc | apply pw_below_drewN | apply below_drew1) | exact HB.out)⟩

/-! ### trickleref14_Clamp: function 30 -/
def trickleref14_Clamp.f (a0 : ByteArray) (a1 : Int) : Option (Int) := if a1 < 0 then (some 0) else (if a1 > (a0.size : Int) then (some (a0.size : Int)) else (some a1))
/-! ### trickleref14_Position: function 13 -/
def trickleref14_Position.l0 : Nat → ByteArray → Int → Int → Int → Int → Option (Int × Int)
  | 0, _, _, _, _, _ => none
  | k + 1, x0, x1, x6, x7, x8 => (trickleref14_Clamp.f x0 x1).bind fun t136 => (if x8 < t136 then (if 0 ≤ x8 then (if x8 < (x0.size : Int) then (if (bt x0 x8) = 10 then (trickleref14_Position.l0 k x0 x1 (wrap64 (x6 + 1)) 1 (wrap64 (x8 + 1))) else (trickleref14_Position.l0 k x0 x1 x6 (wrap64 (x7 + 1)) (wrap64 (x8 + 1)))) else (none)) else (none)) else (some (x6, x7)))
def trickleref14_Position.f (k : Nat) (a0 : ByteArray) (a1 : Int) : Option (Int × Int) := trickleref14_Position.l0 k a0 a1 1 1 0
/-! ### trickleref14_Lines: function 15 -/
/-! ### tricklelaw14_DiagPosition: function 3 -/
end Go.Proofs.YtahgghbhpmpgfaaDoor.PX
-- Written by a program of this session (wip/xprint.py, over the kit's print tool). Lean checks it.
namespace Go.Proofs.YtahgghbhpmpgfaaDoor.PX
open Go.RowKit Go.Proofs.YtahgghbhpmpgfaaDoorW.PrintWords Go.Proofs.YtahgghbhpmpgfaaDoorW.PrintLast Go.Proofs.YtahgghbhpmpgfaaDoorW.PrintMore
attribute [local go_sem] max2_int min2_int max_two min_two max_three min_three max_four min_four   -- for this text's walks alone
set_option linter.unusedVariables false
set_option linter.unusedSimpArgs false

/-! ### trickleref14_Great: function 16 -/
def trickleref14_Great.l0 : Nat → List (S39) → Int → List (S39) → Int → Int → Option (Bool)
  | 0, _, _, _, _, _ => none
  | k + 1, x0, x3, x6, x7, x8 => if x8 < x7 then (if 0 ≤ x8 then (if x8 < (x6.length : Int) then (if (wrap64 (x3 + (((rd_T39 x6 x8).f1).size : Int))) > 1000 then (some true) else (trickleref14_Great.l0 k x0 (wrap64 (x3 + (((rd_T39 x6 x8).f1).size : Int))) x6 x7 (wrap64 (x8 + 1)))) else (none)) else (none)) else (some (decide ((x0.length : Int) > 40)))
def trickleref14_Great.f (k : Nat) (l0 : List (S39)) : Option (Bool) := trickleref14_Great.l0 k l0 0 l0 (l0.length : Int) 0
set_option maxHeartbeats 8000000 in
set_option maxRecDepth 100000 in
theorem trickleref14_Great.calls (k : Nat) (A0 : Option Addr) (c0 : Nat) (l0 : List (S39)) (r : Bool) (w : World) (hr0 : Kd.C k39 w A0 l0.length l0) (hc0 : l0.length ≤ c0) (h : trickleref14_Great.f k l0 = some r) :
    Calls Tryd.prog 16 #[.slice A0 l0.length c0] w fun e w' => e = .returned (.bool r) ∧ Below w.heap.size w w' := by
  have hu39 := Tryd.underlying39
  have HR0 := Aside0.mk hr0
  have HC0 := Aside0.mk hc0
  clear hr0 hc0
  have HB := Aside0.mk (Below.refl w.heap.size w)
  have H : (trickleref14_Great.l0 k l0 0 l0 (l0.length : Int) 0) = some r := h
  clear h
  have H' := Aside0.mk H
  clear H
  go_enter Tryd.func16, Tryd.ntmps16
  go_wp2
  go_loopg [3, 8] k (fun kq v3 v8 w' => ∃ (x3_1 : Int) (x8_1 : Int), v3 = .int .i64 x3_1 ∧ v8 = .int .i64 x8_1 ∧ Aside0 (trickleref14_Great.l0 kq l0 x3_1 l0 (l0.length : Int) x8_1 = some r) ∧ Aside0 (kq ≤ k) ∧ Aside0 (Below w.heap.size w w'))
  case atStart => exact ⟨(0), (0), (by first | rfl | (simp; done) | (simp [*]; done)), (by first | rfl | (simp; done) | (simp [*]; done)), H', ⟨Nat.le_refl _⟩, ⟨by repeat (first | (with_reducible first | exact HB.out | apply below_alloc | apply pw_below_drewN | apply below_drew1) | exact HB.out)⟩⟩
  case round =>
    clear H'
    try clear c1
    obtain ⟨x3_1, x8_1, rfl, rfl, HA, HK1, HB⟩ := hrel
    cases gk with
    | zero => exact absurd HA.out (by simp [trickleref14_Great.l0])
    | succ k1 =>
      have H := HA.out
      clear HA
      simp only [trickleref14_Great.l0] at H
      by_cases c2 : x8_1 < (l0.length : Int)
      · rw [if_pos c2] at H
        have c2b0 : decide (x8_1 < (l0.length : Int)) = true := decide_eq_true c2
        clear c2
        by_cases c3 : 0 ≤ x8_1
        · rw [if_pos c3] at H
          have c3b0 : decide (0 ≤ x8_1) = true := decide_eq_true c3
          clear c3
          by_cases c4 : x8_1 < (l0.length : Int)
          · rw [if_pos c4] at H
            have c4b0 : decide (x8_1 < (l0.length : Int)) = true := decide_eq_true c4
            clear c4
            by_cases c5 : (wrap64 (x3_1 + (((rd_T39 l0 x8_1).f1).size : Int))) > 1000
            · rw [if_pos c5] at H
              have c5b0 : decide (1000 < (wrap64 (x3_1 + (((rd_T39 l0 x8_1).f1).size : Int)))) = true := decide_eq_true c5
              clear c5
              obtain rfl := Option.some.inj H
              have p145 : 0 ≤ (x8_1 : Int) := of_decide_eq_true (by first | (with_reducible assumption) | assumption)
              have q145 : x8_1 < (l0.length : Int) := of_decide_eq_true (by first | (with_reducible assumption) | assumption)
              obtain ⟨ad145, e145, hx145_0, hx145_1⟩ := at_T39 HR0.out x8_1 p145 q145
              cases e145
              replace hx145_0 := (HB.out.cell (World.block_lt_of_cell? w _ hx145_0)).trans hx145_0
              replace hx145_1 := (HB.out.cell (World.block_lt_of_cell? w _ hx145_1)).trans hx145_1
              replace p145 := eq_true p145
              replace q145 := eq_true q145
              go_wp2_with (first | ((with_reducible refine gate_dst (N := 5) rfl ?_); refine box_event ?hg (N := 5) ?hd (cs := #[.int .i64 0, .string (⟨#[]⟩ : ByteArray)]) (t := 39) ?hr ?_; (case hd => rfl); (case hg => rfl); (case hr => first | (go_simp; done) | (go_simp; rfl)); intro gb146 hg w6 hbox hb; have n0_ := Aside0.mk (below_step (by repeat (first | (with_reducible first | exact HB.out | apply below_alloc | apply pw_below_drewN | apply below_drew1) | exact HB.out)) hb); have n1_ := Aside0.mk (hbox); have n2_ := Aside0.mk ((by rw [hg]; exact (below_size (by repeat (first | (with_reducible first | exact HB.out | apply below_alloc | apply pw_below_drewN | apply below_drew1) | exact HB.out))) : w.heap.size ≤ gb146)); have n3_ := Aside0.mk ((by rw [hg]; exact (below_size (by repeat (first | (with_reducible first | exact HB.out | apply below_alloc | apply pw_below_drewN | apply below_drew1) | exact HB.out))) : w.heap.size ≤ gb146)); clear HB; have HB := n0_; have BK146 := n1_; have GW146 := n2_; have GE146 := n3_; clear n0_ n1_ n2_ n3_; clear hb hbox hg; have hcz7_0 : w6.cell? ⟨gb146, 0, none⟩ = some (.int .i64 0) := (blk_cell BK146.out 0).trans rfl; have hcz7_1 : w6.cell? ⟨gb146, 1, none⟩ = some (.string (⟨#[]⟩ : ByteArray)) := (blk_cell BK146.out 1).trans rfl; have hfz7_0 := blk_frozen BK146.out 0; have hfz7_1 := blk_frozen BK146.out 1))
              go_ret
              exact ⟨by first | rfl | (simp [errW_none, errW_some] <;> rfl) | (simp [*, errW_none, errW_some] <;> rfl), by repeat (first | (with_reducible first | exact HB.out | apply below_alloc | apply pw_below_drewN | apply below_drew1 | refine below_set ?_ GE146.out) | exact HB.out)⟩
            · rw [if_neg c5] at H
              have c5b0 : decide (1000 < (wrap64 (x3_1 + (((rd_T39 l0 x8_1).f1).size : Int)))) = false := decide_eq_false c5
              clear c5
              have H' := Aside0.mk H
              clear H
              have p145 : 0 ≤ (x8_1 : Int) := of_decide_eq_true (by first | (with_reducible assumption) | assumption)
              have q145 : x8_1 < (l0.length : Int) := of_decide_eq_true (by first | (with_reducible assumption) | assumption)
              obtain ⟨ad145, e145, hx145_0, hx145_1⟩ := at_T39 HR0.out x8_1 p145 q145
              cases e145
              replace hx145_0 := (HB.out.cell (World.block_lt_of_cell? w _ hx145_0)).trans hx145_0
              replace hx145_1 := (HB.out.cell (World.block_lt_of_cell? w _ hx145_1)).trans hx145_1
              replace p145 := eq_true p145
              replace q145 := eq_true q145
              go_wp2_with (first | ((with_reducible refine gate_dst (N := 5) rfl ?_); refine box_event ?hg (N := 5) ?hd (cs := #[.int .i64 0, .string (⟨#[]⟩ : ByteArray)]) (t := 39) ?hr ?_; (case hd => rfl); (case hg => rfl); (case hr => first | (go_simp; done) | (go_simp; rfl)); intro gb146 hg w8 hbox hb; have n0_ := Aside0.mk (below_step (by repeat (first | (with_reducible first | exact HB.out | apply below_alloc | apply pw_below_drewN | apply below_drew1) | exact HB.out)) hb); have n1_ := Aside0.mk (hbox); have n2_ := Aside0.mk ((by rw [hg]; exact (below_size (by repeat (first | (with_reducible first | exact HB.out | apply below_alloc | apply pw_below_drewN | apply below_drew1) | exact HB.out))) : w.heap.size ≤ gb146)); have n3_ := Aside0.mk ((by rw [hg]; exact (below_size (by repeat (first | (with_reducible first | exact HB.out | apply below_alloc | apply pw_below_drewN | apply below_drew1) | exact HB.out))) : w.heap.size ≤ gb146)); clear HB; have HB := n0_; have BK146 := n1_; have GW146 := n2_; have GE146 := n3_; clear n0_ n1_ n2_ n3_; clear hb hbox hg; have hcz9_0 : w8.cell? ⟨gb146, 0, none⟩ = some (.int .i64 0) := (blk_cell BK146.out 0).trans rfl; have hcz9_1 : w8.cell? ⟨gb146, 1, none⟩ = some (.string (⟨#[]⟩ : ByteArray)) := (blk_cell BK146.out 1).trans rfl; have hfz9_0 := blk_frozen BK146.out 0; have hfz9_1 := blk_frozen BK146.out 1))
              go_roundg k1
              case measure => have := HK1.out; omega
              case rel => exact ⟨(wrap64 (x3_1 + (((rd_T39 l0 x8_1).f1).size : Int))), (wrap64 (x8_1 + 1)), (by first | rfl | (simp; done) | (simp [*]; done)), (by first | rfl | (simp; done) | (simp [*]; done)), H', ⟨by have := HK1.out; omega⟩, ⟨by repeat (first | (with_reducible first | exact HB.out | apply below_alloc | apply pw_below_drewN | apply below_drew1 | refine below_set ?_ GE146.out) | exact HB.out)⟩⟩
          · rw [if_neg c4] at H
            exact absurd H (by simp)
        · rw [if_neg c3] at H
          exact absurd H (by simp)
      · rw [if_neg c2] at H
        have c2b0 : decide (x8_1 < (l0.length : Int)) = false := decide_eq_false c2
        clear c2
        obtain rfl := Option.some.inj H
        go_wp2
        go_ret
        exact ⟨by first | rfl | (simp [errW_none, errW_some] <;> rfl) | (simp [*, errW_none, errW_some] <;> rfl), by repeat (first | (with_reducible first | exact HB.out | apply below_alloc | apply pw_below_drewN | apply below_drew1) | exact HB.out)⟩

/-! ### trickleref14_Num: function 35 -/
def trickleref14_Num.f : Nat → Int → Option (ByteArray)
  | 0, _ => none
  | k + 1, a0 => if a0 < 10 then (if 0 ≤ a0 then (if a0 ≤ (wrap64 (a0 + 1)) then (if (wrap64 (a0 + 1)) ≤ 10 then (some ((⟨#[48, 49, 50, 51, 52, 53, 54, 55, 56, 57]⟩ : ByteArray).extract (a0 : Int).toNat ((wrap64 (a0 + 1)) : Int).toNat)) else (none)) else (none)) else (none)) else ((trickleref14_Num.f k (wrap64 (Int.tdiv a0 10))).bind fun t147 => (if 0 ≤ (Int.tmod a0 10) then (if (Int.tmod a0 10) ≤ (wrap64 ((Int.tmod a0 10) + 1)) then (if (wrap64 ((Int.tmod a0 10) + 1)) ≤ 10 then (if t147.size + ((⟨#[48, 49, 50, 51, 52, 53, 54, 55, 56, 57]⟩ : ByteArray).extract ((Int.tmod a0 10) : Int).toNat ((wrap64 ((Int.tmod a0 10) + 1)) : Int).toNat).size ≤ 9223372036854775807 then (some (t147 ++ ((⟨#[48, 49, 50, 51, 52, 53, 54, 55, 56, 57]⟩ : ByteArray).extract ((Int.tmod a0 10) : Int).toNat ((wrap64 ((Int.tmod a0 10) + 1)) : Int).toNat))) else (none)) else (none)) else (none)) else (none)))
/-! ### trickleref14_Format: function 18 -/
def trickleref14_Format.l0 : Nat → ByteArray → ByteArray → List (S39) → Int → Int → Option (ByteArray)
  | 0, _, _, _, _, _ => none
  | k + 1, x0, x5, x10, x11, x12 => if x12 < x11 then (if 0 ≤ x12 then (if x12 < (x10.length : Int) then ((trickleref14_Position.f k x0 ((rd_T39 x10 x12).f0)).bind fun bt150 => ((trickleref14_Num.f k bt150.1).bind fun t152 => (if t152.size + 1 ≤ 9223372036854775807 then ((trickleref14_Num.f k bt150.2).bind fun t153 => (if (t152 ++ (⟨#[58]⟩ : ByteArray)).size + t153.size ≤ 9223372036854775807 then (if ((t152 ++ (⟨#[58]⟩ : ByteArray)) ++ t153).size + 2 ≤ 9223372036854775807 then (if (((t152 ++ (⟨#[58]⟩ : ByteArray)) ++ t153) ++ (⟨#[58, 32]⟩ : ByteArray)).size + ((rd_T39 x10 x12).f1).size ≤ 9223372036854775807 then (if ((((t152 ++ (⟨#[58]⟩ : ByteArray)) ++ t153) ++ (⟨#[58, 32]⟩ : ByteArray)) ++ ((rd_T39 x10 x12).f1)).size + 1 ≤ 9223372036854775807 then (if x5.size + (((((t152 ++ (⟨#[58]⟩ : ByteArray)) ++ t153) ++ (⟨#[58, 32]⟩ : ByteArray)) ++ ((rd_T39 x10 x12).f1)) ++ (⟨#[10]⟩ : ByteArray)).size ≤ 9223372036854775807 then (trickleref14_Format.l0 k x0 (x5 ++ (((((t152 ++ (⟨#[58]⟩ : ByteArray)) ++ t153) ++ (⟨#[58, 32]⟩ : ByteArray)) ++ ((rd_T39 x10 x12).f1)) ++ (⟨#[10]⟩ : ByteArray))) x10 x11 (wrap64 (x12 + 1))) else (none)) else (none)) else (none)) else (none)) else (none))) else (none)))) else (none)) else (none)) else (some x5)
def trickleref14_Format.f (k : Nat) (a0 : ByteArray) (l1 : List (S39)) : Option (ByteArray) := trickleref14_Format.l0 k a0 (⟨#[]⟩ : ByteArray) l1 (l1.length : Int) 0
def trickleref14_Format.T6 : Bool × List (List Nat × List Nat) := (true, [([], []), ([], []), ([1], [1]), ([2], [2]), ([], []), ([4, 2], [4]), ([3, 5], [3, 5]), ([6], [6]), ([], []), ([8], [8]), ([7, 9], [7, 9]), ([10], [10]), ([0, 11], [0, 11]), ([12, 5, 0, 1, 2, 3, 4, 5, 6, 7, 8, 9, 10, 11, 12], [0, 12])])
def trickleref14_Format.B6 : List Nat := [0, 0, 2, 6, 0, 22, 62, 126, 0, 256, 1022, 2046, 4095, 8191]
theorem trickleref14_Format.tab6 : rtab .any (opsOf Tryd.f18 6) = trickleref14_Format.T6 := by kernel_rfl
theorem trickleref14_Format.bits6 : waitsOk trickleref14_Format.T6.2 trickleref14_Format.B6 = true := by kernel_rfl
/-! ### tricklelaw14_DiagFormat: function 4 -/
def tricklelaw14_DiagFormat.j0 : Nat → ByteArray → List (S39) → Bool → Option (Bool)
  | 0, _, _, _ => none
  | k + 1, x0, x1, x11 => if x11 = true then ((tricklelaw14_examples.f k).bind fun t155 => (some t155)) else ((diag_Format.f k x0 x1).bind fun t156 => ((trickleref14_Format.f k x0 x1).bind fun t157 => (if t156.toList = t157.toList then ((tricklelaw14_examples.f k).bind fun t158 => (some t158)) else (some false))))
def tricklelaw14_DiagFormat.f (k : Nat) (a0 : ByteArray) (l1 : List (S39)) : Option (Bool) := if (a0.size : Int) > 300 then (tricklelaw14_DiagFormat.j0 k a0 l1 true) else ((trickleref14_Great.f k l1).bind fun t154 => (tricklelaw14_DiagFormat.j0 k a0 l1 t154))
end Go.Proofs.YtahgghbhpmpgfaaDoor.PX
