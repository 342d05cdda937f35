/-
  DERIVED: THE SHELF's CONTRACTS AT THIS DUMP, IN PLAIN WORDS (tools/lay-plain.mjs out of 'YtmpbkemicfmbaaaDoorShelfx.lean', which tools/lay-shelf.mjs wrote): THE SAME DECLARATIONS UNDER THE SAME NAMES: 'import', 'namespace', 'open', 'def', 'theorem' AND NOTHING ELSE: no command of the shelf's: FOR A HAND-IN. Each laying: the table of numbers ('.._ren') and one theorem, a field a fact of the dump's own or the kernel's comparison; each contract: ONE APPLICATION.
-/
import Derived.Shelf.Small.Strs
import Derived.Shelf.Strings.Search1
import Derived.Shelf.Strings.Fields
import Derived.Test.YtmpbkemicfmbaaaDoorProg
namespace Go.Proofs
open Go.Shelf
def Tryd.lays137_ren : Go.Shelf.Ren := ⟨fun | 137 => 39 | 217 => 52 | 266 => 57 | n => n, fun | 9 => 9 | 5 => 5 | 3 => 3 | n => n, fun | n => n⟩
theorem Tryd.lays137 : Go.Proofs.Lays.n137 Tryd.prog Tryd.lays137_ren := {
  mixed := by kernel_rfl
  f137 := Tryd.func39.trans (congrArg some (by kernel_rfl))
  f217 := Tryd.func52.trans (congrArg some (by kernel_rfl))
  f266 := Tryd.func57.trans (congrArg some (by kernel_rfl))
  t3 := Tryd.underlying3
  a3 := Tryd.isAgg3
  z3 := Tryd.sizeOf3
  v3 := Tryd.zeroValue3
  t5 := Tryd.underlying5
  a5 := Tryd.isAgg5
  z5 := Tryd.sizeOf5
  v5 := Tryd.zeroValue5
  t9 := Tryd.underlying9
  a9 := Tryd.isAgg9
  z9 := Tryd.sizeOf9
  v9 := Tryd.zeroValue9 }
open Go.RowKit in
theorem Tryd.strings_IndexByte (s : ByteArray) (c : Int) (w : World) :
    Calls Tryd.prog 39 #[.string s, .int .u8 c] w fun e w' => e = .returned (.int .i64 (Lib.indexByte s.data.toList c.toNat.toUInt8)) ∧ w' = w := Any.strings_IndexByte Tryd.lays137 s c w
def Tryd.lays157_ren : Go.Shelf.Ren := ⟨fun | 157 => 34 | 229 => 50 | 199 => 51 | 261 => 56 | 311 => 59 | 312 => 60 | n => n, fun | 9 => 9 | 31 => 39 | 3 => 3 | 5 => 5 | 4 => 4 | 119 => 67 | 0 => 0 | 40 => 69 | 152 => 72 | 21 => 21 | 154 => 74 | 51 => 75 | 141 => 77 | 196 => 82 | 193 => 79 | 198 => 85 | 49 => 83 | 194 => 80 | 201 => 88 | 226 => 90 | 46 => 91 | 227 => 92 | n => n, fun | 0 => 0 | 6 => 1 | n => n⟩
theorem Tryd.lays157 : Go.Proofs.Lays.n157 Tryd.prog Tryd.lays157_ren := {
  mixed := by kernel_rfl
  f157 := Tryd.func34.trans (congrArg some (by kernel_rfl))
  f199 := Tryd.func51.trans (congrArg some (by kernel_rfl))
  f229 := Tryd.func50.trans (congrArg some (by kernel_rfl))
  f261 := Tryd.func56.trans (congrArg some (by kernel_rfl))
  f311 := Tryd.func59.trans (congrArg some (by kernel_rfl))
  f312 := Tryd.func60.trans (congrArg some (by kernel_rfl))
  t0 := Tryd.underlying0
  a0 := Tryd.isAgg0
  z0 := Tryd.sizeOf0
  v0 := Tryd.zeroValue0
  t3 := Tryd.underlying3
  a3 := Tryd.isAgg3
  z3 := Tryd.sizeOf3
  v3 := Tryd.zeroValue3
  t4 := Tryd.underlying4
  a4 := Tryd.isAgg4
  z4 := Tryd.sizeOf4
  v4 := Tryd.zeroValue4
  t5 := Tryd.underlying5
  a5 := Tryd.isAgg5
  z5 := Tryd.sizeOf5
  v5 := Tryd.zeroValue5
  t9 := Tryd.underlying9
  a9 := Tryd.isAgg9
  z9 := Tryd.sizeOf9
  v9 := Tryd.zeroValue9
  t21 := Tryd.underlying21
  a21 := Tryd.isAgg21
  z21 := Tryd.sizeOf21
  v21 := Tryd.zeroValue21
  t31 := Tryd.underlying39
  a31 := Tryd.isAgg39
  z31 := Tryd.sizeOf39
  v31 := Tryd.zeroValue39
  t40 := Tryd.underlying69
  a40 := Tryd.isAgg69
  z40 := Tryd.sizeOf69
  v40 := Tryd.zeroValue69
  t46 := Tryd.underlying91
  a46 := Tryd.isAgg91
  z46 := Tryd.sizeOf91
  v46 := Tryd.zeroValue91
  t49 := Tryd.underlying83
  a49 := Tryd.isAgg83
  z49 := Tryd.sizeOf83
  v49 := Tryd.zeroValue83
  t51 := Tryd.underlying75
  a51 := Tryd.isAgg75
  z51 := Tryd.sizeOf75
  v51 := Tryd.zeroValue75
  t119 := Tryd.underlying67
  a119 := Tryd.isAgg67
  z119 := Tryd.sizeOf67
  t141 := Tryd.underlying77
  a141 := Tryd.isAgg77
  z141 := Tryd.sizeOf77
  v141 := Tryd.zeroValue77
  t152 := Tryd.underlying72
  a152 := Tryd.isAgg72
  z152 := Tryd.sizeOf72
  v152 := Tryd.zeroValue72
  t154 := Tryd.underlying74
  a154 := Tryd.isAgg74
  z154 := Tryd.sizeOf74
  v154 := Tryd.zeroValue74
  t193 := Tryd.underlying79
  a193 := Tryd.isAgg79
  z193 := Tryd.sizeOf79
  v193 := Tryd.zeroValue79
  t194 := Tryd.underlying80
  a194 := Tryd.isAgg80
  z194 := Tryd.sizeOf80
  v194 := Tryd.zeroValue80
  t196 := Tryd.underlying82
  a196 := Tryd.isAgg82
  z196 := Tryd.sizeOf82
  v196 := Tryd.zeroValue82
  t198 := Tryd.underlying85
  a198 := Tryd.isAgg85
  z198 := Tryd.sizeOf85
  v198 := Tryd.zeroValue85
  t201 := Tryd.underlying88
  a201 := Tryd.isAgg88
  z201 := Tryd.sizeOf88
  v201 := Tryd.zeroValue88
  t226 := Tryd.underlying90
  a226 := Tryd.isAgg90
  z226 := Tryd.sizeOf90
  v226 := Tryd.zeroValue90
  t227 := Tryd.underlying92
  a227 := Tryd.isAgg92
  z227 := Tryd.sizeOf92
  v227 := Tryd.zeroValue92
  g0 := by kernel_rfl
  g6 := by kernel_rfl }
open Go.RowKit Go.Lib in
theorem Tryd.strings_Fields (s : ByteArray) (w : World) (hs : s.size < 4294967281) (hascii : ∀ (j : Nat) b, s.data.toList[j]? = some b → b.toNat < 128) (htab : Lib.TabIs Tryd.prog w "strings.asciiSpace" .u8 Lib.asciiSpaceTab) :
    Calls Tryd.prog 34 #[.string s] w fun e w' =>
      e = .returned (.slice (some ⟨w.heap.size, 0, none⟩) (Lib.fields s.data.toList).length (Lib.fields s.data.toList).length) ∧ w' = w.alloc (.cells ((Lib.fields s.data.toList).map fun l => Value.string ⟨l.toArray⟩).toArray 9) := Any.strings_Fields Tryd.lays157 (by kernel_rfl) (by kernel_rfl) s w hs hascii htab
end Go.Proofs
