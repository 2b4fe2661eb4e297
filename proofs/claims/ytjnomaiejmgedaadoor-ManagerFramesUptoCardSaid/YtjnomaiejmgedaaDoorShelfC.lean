/-
  DERIVED: THE SHELF's CONTRACTS AT THIS DUMP, IN PLAIN WORDS (tools/lay-plain.mjs out of 'TrydShelfC.lean', which tools/lay-shelf.mjs wrote): THE SAME DECLARATIONS UNDER THE SAME NAMES: 'import', 'namespace', 'open', 'def', 'theorem' AND NOTHING ELSE: no command of the shelf's: FOR A HAND-IN. Each laying: the table of numbers ('.._ren') and one theorem, a field a fact of the dump's own or the kernel's comparison; each contract: ONE APPLICATION.
-/
import Derived.Shelf.Strings.Fields
import Derived.Shelf.Strings.SplitShaped
import Derived.Shelf.LaysM
import Derived.Shelf.Strings.IndexAny
import Derived.Shelf.Strings.IndexAnyAll
import Derived.Ground.Names2Prog
import Derived.Test.YtjnomaiejmgedaaDoorProg
namespace Go.Proofs
open Go.Shelf
def Tryd.laysM157_ren : Go.Shelf.Ren := ⟨fun | 157 => 120 | 229 => 147 | 199 => 148 | 261 => 161 | 311 => 165 | 312 => 166 | n => n, fun | 9 => 9 | 31 => 26 | 3 => 3 | 5 => 5 | 4 => 4 | 119 => 222 | 0 => 0 | 40 => 224 | 152 => 234 | 21 => 21 | 154 => 236 | 51 => 38 | 141 => 238 | 196 => 247 | 193 => 244 | 198 => 249 | 49 => 41 | 194 => 245 | 201 => 252 | 226 => 254 | 46 => 40 | 227 => 255 | n => n, fun | 0 => 1 | 6 => 2 | n => n⟩
theorem Tryd.laysM157 : Go.Proofs.LaysM.n157 Tryd.prog Tryd.laysM157_ren := {
  mixed := by kernel_rfl
  f157 := Tryd.func120.trans (congrArg some (by kernel_rfl))
  f199 := Tryd.func148.trans (congrArg some (by kernel_rfl))
  f229 := Tryd.func147.trans (congrArg some (by kernel_rfl))
  f261 := Tryd.func161.trans (congrArg some (by kernel_rfl))
  f311 := Tryd.func165.trans (congrArg some (by kernel_rfl))
  f312 := Tryd.func166.trans (congrArg some (by kernel_rfl))
  t0 := Tryd.underlying0
  a0 := Tryd.isAgg0
  z0 := Tryd.sizeOf0
  v0 := Tryd.zeroValue0
  t3 := Tryd.underlying3
  a3 := Tryd.isAgg3
  z3 := Tryd.sizeOf3
  v3 := Tryd.zeroValue3
  t4 := Tryd.underlying4
  a4 := Tryd.isAgg4
  z4 := Tryd.sizeOf4
  v4 := Tryd.zeroValue4
  t5 := Tryd.underlying5
  a5 := Tryd.isAgg5
  z5 := Tryd.sizeOf5
  v5 := Tryd.zeroValue5
  t9 := Tryd.underlying9
  a9 := Tryd.isAgg9
  z9 := Tryd.sizeOf9
  v9 := Tryd.zeroValue9
  t21 := Tryd.underlying21
  a21 := Tryd.isAgg21
  z21 := Tryd.sizeOf21
  v21 := Tryd.zeroValue21
  t31 := Tryd.underlying26
  a31 := Tryd.isAgg26
  z31 := Tryd.sizeOf26
  v31 := Tryd.zeroValue26
  t40 := Tryd.underlying224
  a40 := Tryd.isAgg224
  z40 := Tryd.sizeOf224
  v40 := Tryd.zeroValue224
  t46 := Tryd.underlying40
  a46 := Tryd.isAgg40
  z46 := Tryd.sizeOf40
  v46 := Tryd.zeroValue40
  t49 := Tryd.underlying41
  a49 := Tryd.isAgg41
  z49 := Tryd.sizeOf41
  v49 := Tryd.zeroValue41
  t51 := Tryd.underlying38
  a51 := Tryd.isAgg38
  z51 := Tryd.sizeOf38
  v51 := Tryd.zeroValue38
  t119 := Tryd.underlying222
  a119 := Tryd.isAgg222
  z119 := Tryd.sizeOf222
  t141 := Tryd.underlying238
  a141 := Tryd.isAgg238
  z141 := Tryd.sizeOf238
  v141 := Tryd.zeroValue238
  t152 := Tryd.underlying234
  a152 := Tryd.isAgg234
  z152 := Tryd.sizeOf234
  v152 := Tryd.zeroValue234
  t154 := Tryd.underlying236
  a154 := Tryd.isAgg236
  z154 := Tryd.sizeOf236
  v154 := Tryd.zeroValue236
  t193 := Tryd.underlying244
  a193 := Tryd.isAgg244
  z193 := Tryd.sizeOf244
  v193 := Tryd.zeroValue244
  t194 := Tryd.underlying245
  a194 := Tryd.isAgg245
  z194 := Tryd.sizeOf245
  v194 := Tryd.zeroValue245
  t196 := Tryd.underlying247
  a196 := Tryd.isAgg247
  z196 := Tryd.sizeOf247
  v196 := Tryd.zeroValue247
  t198 := Tryd.underlying249
  a198 := Tryd.isAgg249
  z198 := Tryd.sizeOf249
  v198 := Tryd.zeroValue249
  t201 := Tryd.underlying252
  a201 := Tryd.isAgg252
  z201 := Tryd.sizeOf252
  v201 := Tryd.zeroValue252
  t226 := Tryd.underlying254
  a226 := Tryd.isAgg254
  z226 := Tryd.sizeOf254
  v226 := Tryd.zeroValue254
  t227 := Tryd.underlying255
  a227 := Tryd.isAgg255
  z227 := Tryd.sizeOf255
  v227 := Tryd.zeroValue255
  g0 := by kernel_rfl
  g6 := by kernel_rfl
  i0 := by kernel_rfl
  i3 := by kernel_rfl
  i4 := by kernel_rfl
  i5 := by kernel_rfl
  i9 := by kernel_rfl
  i21 := by kernel_rfl
  i31 := by kernel_rfl
  i40 := by kernel_rfl
  i46 := by kernel_rfl
  i49 := by kernel_rfl
  i51 := by kernel_rfl
  i141 := by kernel_rfl
  i152 := by kernel_rfl
  i154 := by kernel_rfl
  i193 := by kernel_rfl
  i194 := by kernel_rfl
  i196 := by kernel_rfl
  i198 := by kernel_rfl
  i201 := by kernel_rfl
  i226 := by kernel_rfl
  i227 := by kernel_rfl
  m0 := by kernel_rfl
  m6 := by kernel_rfl }
open Go.RowKit Go.Lib in
theorem Tryd.strings_Fields_laid (s : ByteArray) (w : World) (hs : s.size < 4294967281) (hascii : ∀ (j : Nat) b, s.data.toList[j]? = some b → b.toNat < 128) (htab : Lib.TabIs Tryd.prog w "strings.asciiSpace" .u8 Lib.asciiSpaceTab) :
    Calls Tryd.prog 120 #[.string s] w fun e w' =>
      e = .returned (.slice (some ⟨w.heap.size, 0, none⟩) (Lib.fields s.data.toList).length (Lib.fields s.data.toList).length) ∧ w' = w.alloc (.cells ((Lib.fields s.data.toList).map fun l => Value.string ⟨l.toArray⟩).toArray 9) := Any.strings_Fields_laid Tryd.laysM157 s w hs hascii htab
def Tryd.lays153_ren : Go.Shelf.Ren := ⟨fun | 153 => 149 | 152 => 146 | 226 => 162 | 227 => 77 | 228 => 115 | 137 => 157 | 119 => 158 | 224 => 159 | 225 => 160 | 217 => 164 | 266 => 167 | n => n, fun | 9 => 9 | 3 => 3 | 4 => 4 | 5 => 5 | 21 => 21 | 117 => 160 | 116 => 159 | 0 => 0 | 46 => 40 | 124 => 163 | n => n, fun | n => n⟩
theorem Tryd.lays153 : Go.Proofs.Lays.n153 Tryd.prog Tryd.lays153_ren := {
  mixed := by kernel_rfl
  f119 := Tryd.func158.trans (congrArg some (by kernel_rfl))
  f137 := Tryd.func157.trans (congrArg some (by kernel_rfl))
  f152 := Tryd.func146.trans (congrArg some (by kernel_rfl))
  f153 := Tryd.func149.trans (congrArg some (by kernel_rfl))
  f217 := Tryd.func164.trans (congrArg some (by kernel_rfl))
  f224 := Tryd.func159.trans (congrArg some (by kernel_rfl))
  f225 := Tryd.func160.trans (congrArg some (by kernel_rfl))
  f226 := Tryd.func162.trans (congrArg some (by kernel_rfl))
  f227 := Tryd.func77.trans (congrArg some (by kernel_rfl))
  f228 := Tryd.func115.trans (congrArg some (by kernel_rfl))
  f266 := Tryd.func167.trans (congrArg some (by kernel_rfl))
  t0 := Tryd.underlying0
  a0 := Tryd.isAgg0
  z0 := Tryd.sizeOf0
  v0 := Tryd.zeroValue0
  t3 := Tryd.underlying3
  a3 := Tryd.isAgg3
  z3 := Tryd.sizeOf3
  v3 := Tryd.zeroValue3
  t4 := Tryd.underlying4
  a4 := Tryd.isAgg4
  z4 := Tryd.sizeOf4
  v4 := Tryd.zeroValue4
  t5 := Tryd.underlying5
  a5 := Tryd.isAgg5
  z5 := Tryd.sizeOf5
  v5 := Tryd.zeroValue5
  t9 := Tryd.underlying9
  a9 := Tryd.isAgg9
  z9 := Tryd.sizeOf9
  v9 := Tryd.zeroValue9
  t21 := Tryd.underlying21
  a21 := Tryd.isAgg21
  z21 := Tryd.sizeOf21
  v21 := Tryd.zeroValue21
  t46 := Tryd.underlying40
  a46 := Tryd.isAgg40
  z46 := Tryd.sizeOf40
  v46 := Tryd.zeroValue40
  t116 := Tryd.underlying159
  a116 := Tryd.isAgg159
  z116 := Tryd.sizeOf159
  t117 := Tryd.underlying160
  a117 := Tryd.isAgg160
  z117 := Tryd.sizeOf160
  v117 := Tryd.zeroValue160
  t124 := Tryd.underlying163
  a124 := Tryd.isAgg163
  z124 := Tryd.sizeOf163
  v124 := Tryd.zeroValue163 }
open Go.RowKit Go.Lib in
theorem Tryd.strings_IndexAny_laid (s chars : ByteArray) (w : World) (hs : s.size < 4294967281) (hcs : chars.size < 4294967281) (has : ∀ (j : Nat) b, s.data.toList[j]? = some b → b.toNat < 128) (hac : ∀ (j : Nat) b, chars.data.toList[j]? = some b → b.toNat < 128) :
    Calls Tryd.prog 149 #[.string s, .string chars] w fun e w' => e = .returned (.int .i64 (Lib.indexAny s.data.toList chars.data.toList)) ∧ Below w.heap.size w w' := Any.strings_IndexAny_laid Tryd.lays153 (by kernel_rfl) s chars w hs hcs has hac
end Go.Proofs
