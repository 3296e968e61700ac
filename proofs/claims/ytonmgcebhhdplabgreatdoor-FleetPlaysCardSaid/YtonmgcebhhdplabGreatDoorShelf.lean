/-
 DERIVED: THE SHELF's CONTRACTS AT THIS DUMP, IN PLAIN WORDS (tools/lay-plain.mjs out of 'TryzShelf.lean', which tools/lay-shelf.mjs wrote): THE SAME DECLARATIONS UNDER THE SAME NAMES: 'import', 'namespace', 'open', 'def', 'theorem' AND NOTHING ELSE: no command of the shelf's: FOR A HAND-IN. Each laying: the table of numbers ('.._ren') and one theorem, a field a fact of the dump's own or the kernel's comparison; each contract: ONE APPLICATION.
-/
import Derived.Shelf.Small.Bits
import Derived.Shelf.Small.Wraps
import Derived.Shelf.Strconv.Itoa0
import Derived.Shelf.Strconv.Itoa1
import Derived.Shelf.LaysM
import Derived.Shelf.Strconv.Itoa2
import Derived.Shelf.Strconv.Itoa3
import Derived.Shelf.Sort.Plain
import Derived.Shelf.Slices.Turned
import Derived.Shelf.Slices.Equal
import Derived.Ground.Names2Prog
import Derived.Shelf.Slices.Clone
import Derived.Shelf.Slices.SearchI
import Derived.Shelf.Slices.In.SortNone
import Derived.Shelf.Slices.Empties2
import Derived.Ground.SlgnProg
import Derived.Shelf.SlicesE.Clone
import Derived.Test.YtonmgcebhhdplabGreatDoorProg
namespace Go.Proofs
open Go.Shelf
def Tryz.laysM171_ren : Go.Shelf.Ren := ⟨fun | 171 => 93 | 243 => 110 | 246 => 115 | 283 => 117 | 284 => 118 | 285 => 119 | 286 => 120 | 129 => 91 | 317 => 121 | 318 => 122 | 319 => 123 | 320 => 124 | 337 => 125 | 338 => 126 | n => n, fun | 3 => 3 | 9 => 9 | 2 => 2 | 4 => 4 | 171 => 179 | 0 => 0 | 53 => 156 | 37 => 158 | 5 => 5 | 173 => 181 | 212 => 185 | 51 => 154 | 20 => 20 | 213 => 186 | 46 => 134 | 232 => 187 | 233 => 188 | n => n, fun | 17 => 0 | 18 => 1 | 19 => 2 | n => n⟩
theorem Tryz.laysM171 : Go.Proofs.LaysM.n171 Tryz.prog Tryz.laysM171_ren := {
 mixed := by kernel_rfl
 f129 := Tryz.func91.trans (congrArg some (by kernel_rfl))
 f171 := Tryz.func93.trans (congrArg some (by kernel_rfl))
 f243 := Tryz.func110.trans (congrArg some (by kernel_rfl))
 f246 := Tryz.func115.trans (congrArg some (by kernel_rfl))
 f283 := Tryz.func117.trans (congrArg some (by kernel_rfl))
 f284 := Tryz.func118.trans (congrArg some (by kernel_rfl))
 f285 := Tryz.func119.trans (congrArg some (by kernel_rfl))
 f286 := Tryz.func120.trans (congrArg some (by kernel_rfl))
 f317 := Tryz.func121.trans (congrArg some (by kernel_rfl))
 f318 := Tryz.func122.trans (congrArg some (by kernel_rfl))
 f319 := Tryz.func123.trans (congrArg some (by kernel_rfl))
 f320 := Tryz.func124.trans (congrArg some (by kernel_rfl))
 f337 := Tryz.func125.trans (congrArg some (by kernel_rfl))
 f338 := Tryz.func126.trans (congrArg some (by kernel_rfl))
 t0 := Tryz.underlying0
 a0 := Tryz.isAgg0
 z0 := Tryz.sizeOf0
 v0 := Tryz.zeroValue0
 t2 := Tryz.underlying2
 a2 := Tryz.isAgg2
 z2 := Tryz.sizeOf2
 v2 := Tryz.zeroValue2
 t3 := Tryz.underlying3
 a3 := Tryz.isAgg3
 z3 := Tryz.sizeOf3
 v3 := Tryz.zeroValue3
 t4 := Tryz.underlying4
 a4 := Tryz.isAgg4
 z4 := Tryz.sizeOf4
 v4 := Tryz.zeroValue4
 t5 := Tryz.underlying5
 a5 := Tryz.isAgg5
 z5 := Tryz.sizeOf5
 v5 := Tryz.zeroValue5
 t9 := Tryz.underlying9
 a9 := Tryz.isAgg9
 z9 := Tryz.sizeOf9
 v9 := Tryz.zeroValue9
 t20 := Tryz.underlying20
 a20 := Tryz.isAgg20
 z20 := Tryz.sizeOf20
 v20 := Tryz.zeroValue20
 t37 := Tryz.underlying158
 a37 := Tryz.isAgg158
 z37 := Tryz.sizeOf158
 v37 := Tryz.zeroValue158
 t46 := Tryz.underlying134
 a46 := Tryz.isAgg134
 z46 := Tryz.sizeOf134
 v46 := Tryz.zeroValue134
 t51 := Tryz.underlying154
 a51 := Tryz.isAgg154
 z51 := Tryz.sizeOf154
 v51 := Tryz.zeroValue154
 t53 := Tryz.underlying156
 a53 := Tryz.isAgg156
 z53 := Tryz.sizeOf156
 v53 := Tryz.zeroValue156
 t171 := Tryz.underlying179
 a171 := Tryz.isAgg179
 z171 := Tryz.sizeOf179
 v171 := Tryz.zeroValue179
 t173 := Tryz.underlying181
 a173 := Tryz.isAgg181
 z173 := Tryz.sizeOf181
 v173 := Tryz.zeroValue181
 t212 := Tryz.underlying185
 a212 := Tryz.isAgg185
 z212 := Tryz.sizeOf185
 v212 := Tryz.zeroValue185
 t213 := Tryz.underlying186
 a213 := Tryz.isAgg186
 z213 := Tryz.sizeOf186
 t232 := Tryz.underlying187
 a232 := Tryz.isAgg187
 z232 := Tryz.sizeOf187
 v232 := Tryz.zeroValue187
 t233 := Tryz.underlying188
 a233 := Tryz.isAgg188
 z233 := Tryz.sizeOf188
 v233 := Tryz.zeroValue188
 g17 := by kernel_rfl
 g18 := by kernel_rfl
 g19 := by kernel_rfl
 i0 := by kernel_rfl
 i2 := by kernel_rfl
 i3 := by kernel_rfl
 i4 := by kernel_rfl
 i5 := by kernel_rfl
 i9 := by kernel_rfl
 i20 := by kernel_rfl
 i37 := by kernel_rfl
 i46 := by kernel_rfl
 i51 := by kernel_rfl
 i53 := by kernel_rfl
 i171 := by kernel_rfl
 i173 := by kernel_rfl
 i212 := by kernel_rfl
 i232 := by kernel_rfl
 i233 := by kernel_rfl
 m17 := by kernel_rfl
 m18 := by kernel_rfl
 m19 := by kernel_rfl }
open Go.RowKit Go.Sort Go.Lib in
theorem Tryz.strconv_Itoa (n : Int) (h0 : -9223372036854775808 ≤ n) (h1 : n ≤ 9223372036854775807) (w : World) (htab : Lib.TabIs Tryz.prog w "internal/strconv.uint64pow10" .u64 Lib.pow10Tab) :
    Calls Tryz.prog 93 #[.int .i64 n] w fun e w' => e = .returned (.string ⟨(Lib.itoa n).toArray⟩) ∧ ∃ k os, w' = grow (w.drewN k) os := Any.strconv_Itoa Tryz.laysM171 n h0 h1 w htab
end Go.Proofs
