/-
  DERIVED: THE SHELF's CONTRACTS AT THIS DUMP, IN PLAIN WORDS (tools/lay-plain.mjs out of 'TrydShelf.lean', which tools/lay-shelf.mjs wrote): THE SAME DECLARATIONS UNDER THE SAME NAMES: 'import', 'namespace', 'open', 'def', 'theorem' AND NOTHING ELSE: no command of the shelf's: FOR A HAND-IN. Each laying: the table of numbers ('.._ren') and one theorem, a field a fact of the dump's own or the kernel's comparison; each contract: ONE APPLICATION.
-/
import Derived.Shelf.Strings.Fields
import Derived.Shelf.LaysM
import Derived.Shelf.Strings.SplitShaped
import Derived.Test.YtabkfgkpofjeoaaDoorProg
namespace Go.Proofs
open Go.Shelf
def Tryd.laysM157_ren : Go.Shelf.Ren := ⟨fun | 157 => 59 | 229 => 72 | 199 => 73 | 261 => 78 | 311 => 81 | 312 => 82 | n => n, fun | 9 => 9 | 31 => 61 | 3 => 3 | 5 => 5 | 4 => 4 | 119 => 92 | 0 => 0 | 40 => 94 | 152 => 102 | 21 => 21 | 154 => 104 | 51 => 105 | 141 => 107 | 196 => 114 | 193 => 111 | 198 => 116 | 49 => 51 | 194 => 112 | 201 => 119 | 226 => 121 | 46 => 85 | 227 => 122 | n => n, fun | 0 => 0 | 6 => 1 | n => n⟩
theorem Tryd.laysM157 : Go.Proofs.LaysM.n157 Tryd.prog Tryd.laysM157_ren := {
  mixed := by kernel_rfl
  f157 := Tryd.func59.trans (congrArg some (by kernel_rfl))
  f199 := Tryd.func73.trans (congrArg some (by kernel_rfl))
  f229 := Tryd.func72.trans (congrArg some (by kernel_rfl))
  f261 := Tryd.func78.trans (congrArg some (by kernel_rfl))
  f311 := Tryd.func81.trans (congrArg some (by kernel_rfl))
  f312 := Tryd.func82.trans (congrArg some (by kernel_rfl))
  t0 := Tryd.underlying0
  a0 := Tryd.isAgg0
  z0 := Tryd.sizeOf0
  v0 := Tryd.zeroValue0
  t3 := Tryd.underlying3
  a3 := Tryd.isAgg3
  z3 := Tryd.sizeOf3
  v3 := Tryd.zeroValue3
  t4 := Tryd.underlying4
  a4 := Tryd.isAgg4
  z4 := Tryd.sizeOf4
  v4 := Tryd.zeroValue4
  t5 := Tryd.underlying5
  a5 := Tryd.isAgg5
  z5 := Tryd.sizeOf5
  v5 := Tryd.zeroValue5
  t9 := Tryd.underlying9
  a9 := Tryd.isAgg9
  z9 := Tryd.sizeOf9
  v9 := Tryd.zeroValue9
  t21 := Tryd.underlying21
  a21 := Tryd.isAgg21
  z21 := Tryd.sizeOf21
  v21 := Tryd.zeroValue21
  t31 := Tryd.underlying61
  a31 := Tryd.isAgg61
  z31 := Tryd.sizeOf61
  v31 := Tryd.zeroValue61
  t40 := Tryd.underlying94
  a40 := Tryd.isAgg94
  z40 := Tryd.sizeOf94
  v40 := Tryd.zeroValue94
  t46 := Tryd.underlying85
  a46 := Tryd.isAgg85
  z46 := Tryd.sizeOf85
  v46 := Tryd.zeroValue85
  t49 := Tryd.underlying51
  a49 := Tryd.isAgg51
  z49 := Tryd.sizeOf51
  v49 := Tryd.zeroValue51
  t51 := Tryd.underlying105
  a51 := Tryd.isAgg105
  z51 := Tryd.sizeOf105
  v51 := Tryd.zeroValue105
  t119 := Tryd.underlying92
  a119 := Tryd.isAgg92
  z119 := Tryd.sizeOf92
  t141 := Tryd.underlying107
  a141 := Tryd.isAgg107
  z141 := Tryd.sizeOf107
  v141 := Tryd.zeroValue107
  t152 := Tryd.underlying102
  a152 := Tryd.isAgg102
  z152 := Tryd.sizeOf102
  v152 := Tryd.zeroValue102
  t154 := Tryd.underlying104
  a154 := Tryd.isAgg104
  z154 := Tryd.sizeOf104
  v154 := Tryd.zeroValue104
  t193 := Tryd.underlying111
  a193 := Tryd.isAgg111
  z193 := Tryd.sizeOf111
  v193 := Tryd.zeroValue111
  t194 := Tryd.underlying112
  a194 := Tryd.isAgg112
  z194 := Tryd.sizeOf112
  v194 := Tryd.zeroValue112
  t196 := Tryd.underlying114
  a196 := Tryd.isAgg114
  z196 := Tryd.sizeOf114
  v196 := Tryd.zeroValue114
  t198 := Tryd.underlying116
  a198 := Tryd.isAgg116
  z198 := Tryd.sizeOf116
  v198 := Tryd.zeroValue116
  t201 := Tryd.underlying119
  a201 := Tryd.isAgg119
  z201 := Tryd.sizeOf119
  v201 := Tryd.zeroValue119
  t226 := Tryd.underlying121
  a226 := Tryd.isAgg121
  z226 := Tryd.sizeOf121
  v226 := Tryd.zeroValue121
  t227 := Tryd.underlying122
  a227 := Tryd.isAgg122
  z227 := Tryd.sizeOf122
  v227 := Tryd.zeroValue122
  g0 := by kernel_rfl
  g6 := by kernel_rfl
  i0 := by kernel_rfl
  i3 := by kernel_rfl
  i4 := by kernel_rfl
  i5 := by kernel_rfl
  i9 := by kernel_rfl
  i21 := by kernel_rfl
  i31 := by kernel_rfl
  i40 := by kernel_rfl
  i46 := by kernel_rfl
  i49 := by kernel_rfl
  i51 := by kernel_rfl
  i141 := by kernel_rfl
  i152 := by kernel_rfl
  i154 := by kernel_rfl
  i193 := by kernel_rfl
  i194 := by kernel_rfl
  i196 := by kernel_rfl
  i198 := by kernel_rfl
  i201 := by kernel_rfl
  i226 := by kernel_rfl
  i227 := by kernel_rfl
  m0 := by kernel_rfl
  m6 := by kernel_rfl }
open Go.RowKit Go.Lib in
/-- strings.Fields on ASCII bytes. -/
theorem Tryd.strings_Fields_laid (s : ByteArray) (w : World) (hs : s.size < 4294967281) (hascii : ∀ (j : Nat) b, s.data.toList[j]? = some b → b.toNat < 128) (htab : Lib.TabIs Tryd.prog w "strings.asciiSpace" .u8 Lib.asciiSpaceTab) :
    Calls Tryd.prog 59 #[.string s] w fun e w' =>
      e = .returned (.slice (some ⟨w.heap.size, 0, none⟩) (Lib.fields s.data.toList).length (Lib.fields s.data.toList).length) ∧ w' = w.alloc (.cells ((Lib.fields s.data.toList).map fun l => Value.string ⟨l.toArray⟩).toArray 9) := Any.strings_Fields_laid Tryd.laysM157 s w hs hascii htab
end Go.Proofs
