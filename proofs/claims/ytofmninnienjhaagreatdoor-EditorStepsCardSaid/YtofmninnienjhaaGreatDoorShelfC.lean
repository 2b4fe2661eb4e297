/-
  DERIVED: THE SHELF's CONTRACTS AT THIS DUMP, IN PLAIN WORDS (tools/lay-plain.mjs out of 'TryzShelfC.lean', which tools/lay-shelf.mjs wrote): THE SAME DECLARATIONS UNDER THE SAME NAMES: 'import', 'namespace', 'open', 'def', 'theorem' AND NOTHING ELSE: no command of the shelf's: FOR A HAND-IN. Each laying: the table of numbers ('.._ren') and one theorem, a field a fact of the dump's own or the kernel's comparison; each contract: ONE APPLICATION.
-/
import Derived.Shelf.Strings.Fields
import Derived.Shelf.Strings.SplitShaped
import Derived.Shelf.LaysM
import Derived.Shelf.Strings.IndexAny
import Derived.Shelf.Strings.IndexAnyAll
import Derived.Ground.Names2Prog
import Derived.Test.YtofmninnienjhaaGreatDoorProg
namespace Go.Proofs
open Go.Shelf
def Tryz.laysM157_ren : Go.Shelf.Ren := ⟨fun | 157 => 101 | 229 => 116 | 199 => 117 | 261 => 131 | 311 => 144 | 312 => 145 | n => n, fun | 9 => 9 | 31 => 54 | 3 => 3 | 5 => 5 | 4 => 4 | 119 => 161 | 0 => 0 | 40 => 163 | 152 => 168 | 21 => 21 | 154 => 170 | 51 => 69 | 141 => 172 | 196 => 186 | 193 => 183 | 198 => 189 | 49 => 187 | 194 => 184 | 201 => 192 | 226 => 197 | 46 => 180 | 227 => 198 | n => n, fun | 0 => 0 | 6 => 2 | n => n⟩
theorem Tryz.laysM157 : Go.Proofs.LaysM.n157 Tryz.prog Tryz.laysM157_ren := {
  mixed := by kernel_rfl
  f157 := Tryz.func101.trans (congrArg some (by kernel_rfl))
  f199 := Tryz.func117.trans (congrArg some (by kernel_rfl))
  f229 := Tryz.func116.trans (congrArg some (by kernel_rfl))
  f261 := Tryz.func131.trans (congrArg some (by kernel_rfl))
  f311 := Tryz.func144.trans (congrArg some (by kernel_rfl))
  f312 := Tryz.func145.trans (congrArg some (by kernel_rfl))
  t0 := Tryz.underlying0
  a0 := Tryz.isAgg0
  z0 := Tryz.sizeOf0
  v0 := Tryz.zeroValue0
  t3 := Tryz.underlying3
  a3 := Tryz.isAgg3
  z3 := Tryz.sizeOf3
  v3 := Tryz.zeroValue3
  t4 := Tryz.underlying4
  a4 := Tryz.isAgg4
  z4 := Tryz.sizeOf4
  v4 := Tryz.zeroValue4
  t5 := Tryz.underlying5
  a5 := Tryz.isAgg5
  z5 := Tryz.sizeOf5
  v5 := Tryz.zeroValue5
  t9 := Tryz.underlying9
  a9 := Tryz.isAgg9
  z9 := Tryz.sizeOf9
  v9 := Tryz.zeroValue9
  t21 := Tryz.underlying21
  a21 := Tryz.isAgg21
  z21 := Tryz.sizeOf21
  v21 := Tryz.zeroValue21
  t31 := Tryz.underlying54
  a31 := Tryz.isAgg54
  z31 := Tryz.sizeOf54
  v31 := Tryz.zeroValue54
  t40 := Tryz.underlying163
  a40 := Tryz.isAgg163
  z40 := Tryz.sizeOf163
  v40 := Tryz.zeroValue163
  t46 := Tryz.underlying180
  a46 := Tryz.isAgg180
  z46 := Tryz.sizeOf180
  v46 := Tryz.zeroValue180
  t49 := Tryz.underlying187
  a49 := Tryz.isAgg187
  z49 := Tryz.sizeOf187
  v49 := Tryz.zeroValue187
  t51 := Tryz.underlying69
  a51 := Tryz.isAgg69
  z51 := Tryz.sizeOf69
  v51 := Tryz.zeroValue69
  t119 := Tryz.underlying161
  a119 := Tryz.isAgg161
  z119 := Tryz.sizeOf161
  t141 := Tryz.underlying172
  a141 := Tryz.isAgg172
  z141 := Tryz.sizeOf172
  v141 := Tryz.zeroValue172
  t152 := Tryz.underlying168
  a152 := Tryz.isAgg168
  z152 := Tryz.sizeOf168
  v152 := Tryz.zeroValue168
  t154 := Tryz.underlying170
  a154 := Tryz.isAgg170
  z154 := Tryz.sizeOf170
  v154 := Tryz.zeroValue170
  t193 := Tryz.underlying183
  a193 := Tryz.isAgg183
  z193 := Tryz.sizeOf183
  v193 := Tryz.zeroValue183
  t194 := Tryz.underlying184
  a194 := Tryz.isAgg184
  z194 := Tryz.sizeOf184
  v194 := Tryz.zeroValue184
  t196 := Tryz.underlying186
  a196 := Tryz.isAgg186
  z196 := Tryz.sizeOf186
  v196 := Tryz.zeroValue186
  t198 := Tryz.underlying189
  a198 := Tryz.isAgg189
  z198 := Tryz.sizeOf189
  v198 := Tryz.zeroValue189
  t201 := Tryz.underlying192
  a201 := Tryz.isAgg192
  z201 := Tryz.sizeOf192
  v201 := Tryz.zeroValue192
  t226 := Tryz.underlying197
  a226 := Tryz.isAgg197
  z226 := Tryz.sizeOf197
  v226 := Tryz.zeroValue197
  t227 := Tryz.underlying198
  a227 := Tryz.isAgg198
  z227 := Tryz.sizeOf198
  v227 := Tryz.zeroValue198
  g0 := by kernel_rfl
  g6 := by kernel_rfl
  i0 := by kernel_rfl
  i3 := by kernel_rfl
  i4 := by kernel_rfl
  i5 := by kernel_rfl
  i9 := by kernel_rfl
  i21 := by kernel_rfl
  i31 := by kernel_rfl
  i40 := by kernel_rfl
  i46 := by kernel_rfl
  i49 := by kernel_rfl
  i51 := by kernel_rfl
  i141 := by kernel_rfl
  i152 := by kernel_rfl
  i154 := by kernel_rfl
  i193 := by kernel_rfl
  i194 := by kernel_rfl
  i196 := by kernel_rfl
  i198 := by kernel_rfl
  i201 := by kernel_rfl
  i226 := by kernel_rfl
  i227 := by kernel_rfl
  m0 := by kernel_rfl
  m6 := by kernel_rfl }
open Go.RowKit Go.Lib in
theorem Tryz.strings_Fields_laid (s : ByteArray) (w : World) (hs : s.size < 4294967281) (hascii : ∀ (j : Nat) b, s.data.toList[j]? = some b → b.toNat < 128) (htab : Lib.TabIs Tryz.prog w "strings.asciiSpace" .u8 Lib.asciiSpaceTab) :
    Calls Tryz.prog 101 #[.string s] w fun e w' =>
      e = .returned (.slice (some ⟨w.heap.size, 0, none⟩) (Lib.fields s.data.toList).length (Lib.fields s.data.toList).length) ∧ w' = w.alloc (.cells ((Lib.fields s.data.toList).map fun l => Value.string ⟨l.toArray⟩).toArray 9) := Any.strings_Fields_laid Tryz.laysM157 s w hs hascii htab
def Tryz.lays153_ren : Go.Shelf.Ren := ⟨fun | 153 => 118 | 152 => 132 | 226 => 133 | 227 => 134 | 228 => 135 | 137 => 136 | 119 => 146 | 224 => 139 | 225 => 138 | 217 => 137 | 266 => 147 | n => n, fun | 9 => 9 | 3 => 3 | 4 => 4 | 5 => 5 | 21 => 21 | 117 => 176 | 116 => 175 | 0 => 0 | 46 => 180 | 124 => 194 | n => n, fun | n => n⟩
theorem Tryz.lays153 : Go.Proofs.Lays.n153 Tryz.prog Tryz.lays153_ren := {
  mixed := by kernel_rfl
  f119 := Tryz.func146.trans (congrArg some (by kernel_rfl))
  f137 := Tryz.func136.trans (congrArg some (by kernel_rfl))
  f152 := Tryz.func132.trans (congrArg some (by kernel_rfl))
  f153 := Tryz.func118.trans (congrArg some (by kernel_rfl))
  f217 := Tryz.func137.trans (congrArg some (by kernel_rfl))
  f224 := Tryz.func139.trans (congrArg some (by kernel_rfl))
  f225 := Tryz.func138.trans (congrArg some (by kernel_rfl))
  f226 := Tryz.func133.trans (congrArg some (by kernel_rfl))
  f227 := Tryz.func134.trans (congrArg some (by kernel_rfl))
  f228 := Tryz.func135.trans (congrArg some (by kernel_rfl))
  f266 := Tryz.func147.trans (congrArg some (by kernel_rfl))
  t0 := Tryz.underlying0
  a0 := Tryz.isAgg0
  z0 := Tryz.sizeOf0
  v0 := Tryz.zeroValue0
  t3 := Tryz.underlying3
  a3 := Tryz.isAgg3
  z3 := Tryz.sizeOf3
  v3 := Tryz.zeroValue3
  t4 := Tryz.underlying4
  a4 := Tryz.isAgg4
  z4 := Tryz.sizeOf4
  v4 := Tryz.zeroValue4
  t5 := Tryz.underlying5
  a5 := Tryz.isAgg5
  z5 := Tryz.sizeOf5
  v5 := Tryz.zeroValue5
  t9 := Tryz.underlying9
  a9 := Tryz.isAgg9
  z9 := Tryz.sizeOf9
  v9 := Tryz.zeroValue9
  t21 := Tryz.underlying21
  a21 := Tryz.isAgg21
  z21 := Tryz.sizeOf21
  v21 := Tryz.zeroValue21
  t46 := Tryz.underlying180
  a46 := Tryz.isAgg180
  z46 := Tryz.sizeOf180
  v46 := Tryz.zeroValue180
  t116 := Tryz.underlying175
  a116 := Tryz.isAgg175
  z116 := Tryz.sizeOf175
  t117 := Tryz.underlying176
  a117 := Tryz.isAgg176
  z117 := Tryz.sizeOf176
  v117 := Tryz.zeroValue176
  t124 := Tryz.underlying194
  a124 := Tryz.isAgg194
  z124 := Tryz.sizeOf194
  v124 := Tryz.zeroValue194 }
open Go.RowKit Go.Lib in
theorem Tryz.strings_IndexAny_laid (s chars : ByteArray) (w : World) (hs : s.size < 4294967281) (hcs : chars.size < 4294967281) (has : ∀ (j : Nat) b, s.data.toList[j]? = some b → b.toNat < 128) (hac : ∀ (j : Nat) b, chars.data.toList[j]? = some b → b.toNat < 128) :
    Calls Tryz.prog 118 #[.string s, .string chars] w fun e w' => e = .returned (.int .i64 (Lib.indexAny s.data.toList chars.data.toList)) ∧ Below w.heap.size w w' := Any.strings_IndexAny_laid Tryz.lays153 (by kernel_rfl) s chars w hs hcs has hac
end Go.Proofs
