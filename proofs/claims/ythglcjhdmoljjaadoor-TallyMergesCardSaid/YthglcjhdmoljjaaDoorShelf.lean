/-
  DERIVED: THE SHELF's CONTRACTS AT THIS DUMP, IN PLAIN WORDS (tools/lay-plain.mjs out of 'TrydShelf.lean', which tools/lay-shelf.mjs wrote): THE SAME DECLARATIONS UNDER THE SAME NAMES: 'import', 'namespace', 'open', 'def', 'theorem' AND NOTHING ELSE: no command of the shelf's: FOR A HAND-IN. Each laying: the table of numbers ('.._ren') and one theorem, a field a fact of the dump's own or the kernel's comparison; each contract: ONE APPLICATION.
-/
import Derived.Shelf.Strings.Builder1
import Derived.Shelf.Strings.Builder2
import Derived.Shelf.Strings.OnBuilder
import Derived.Shelf.Small.Bits
import Derived.Shelf.Strings.BuilderF
import Derived.Shelf.Strings.BuilderK
import Derived.Shelf.Strings.Builder2Cap
import Derived.Shelf.Strconv.Itoa0
import Derived.Shelf.Strconv.Itoa1
import Derived.Shelf.LaysM
import Derived.Shelf.Strconv.Itoa2
import Derived.Shelf.Strconv.Itoa3
import Derived.Shelf.Slices.Equal
import Derived.Ground.Names2Prog
import Derived.Shelf.Slices.Clone
import Derived.Shelf.Slices.SearchI
import Derived.Shelf.Slices.Empties2
import Derived.Ground.SlgnProg
import Derived.Shelf.SlicesE.Clone
import Derived.Test.YthglcjhdmoljjaaDoorProg
namespace Go.Proofs
open Go.Shelf
def Tryd.lays156_ren : Go.Shelf.Ren := ⟨fun | 156 => 99 | 165 => 134 | 166 => 135 | 169 => 136 | 240 => 153 | 241 => 154 | 276 => 162 | 277 => 163 | n => n, fun | 31 => 59 | 9 => 9 | 3 => 3 | 4 => 4 | 0 => 0 | 20 => 20 | 72 => 191 | 76 => 195 | 70 => 189 | 37 => 174 | 75 => 194 | 127 => 212 | 164 => 221 | 5 => 5 | 80 => 197 | n => n, fun | n => n⟩
theorem Tryd.lays156 : Go.Proofs.Lays.n156 Tryd.prog Tryd.lays156_ren := {
  mixed := by kernel_rfl
  f156 := Tryd.func99.trans (congrArg some (by kernel_rfl))
  f165 := Tryd.func134.trans (congrArg some (by kernel_rfl))
  f166 := Tryd.func135.trans (congrArg some (by kernel_rfl))
  f169 := Tryd.func136.trans (congrArg some (by kernel_rfl))
  f240 := Tryd.func153.trans (congrArg some (by kernel_rfl))
  f241 := Tryd.func154.trans (congrArg some (by kernel_rfl))
  f276 := Tryd.func162.trans (congrArg some (by kernel_rfl))
  f277 := Tryd.func163.trans (congrArg some (by kernel_rfl))
  t0 := Tryd.underlying0
  a0 := Tryd.isAgg0
  z0 := Tryd.sizeOf0
  v0 := Tryd.zeroValue0
  t3 := Tryd.underlying3
  a3 := Tryd.isAgg3
  z3 := Tryd.sizeOf3
  v3 := Tryd.zeroValue3
  t4 := Tryd.underlying4
  a4 := Tryd.isAgg4
  z4 := Tryd.sizeOf4
  v4 := Tryd.zeroValue4
  t9 := Tryd.underlying9
  a9 := Tryd.isAgg9
  z9 := Tryd.sizeOf9
  v9 := Tryd.zeroValue9
  t20 := Tryd.underlying20
  a20 := Tryd.isAgg20
  z20 := Tryd.sizeOf20
  v20 := Tryd.zeroValue20
  t31 := Tryd.underlying59
  a31 := Tryd.isAgg59
  z31 := Tryd.sizeOf59
  v31 := Tryd.zeroValue59
  t37 := Tryd.underlying174
  a37 := Tryd.isAgg174
  z37 := Tryd.sizeOf174
  v37 := Tryd.zeroValue174
  t70 := Tryd.underlying189
  a70 := Tryd.isAgg189
  z70 := Tryd.sizeOf189
  v70 := Tryd.zeroValue189
  t72 := Tryd.underlying191
  a72 := Tryd.isAgg191
  z72 := Tryd.sizeOf191
  v72 := Tryd.zeroValue191
  t75 := Tryd.underlying194
  a75 := Tryd.isAgg194
  z75 := Tryd.sizeOf194
  v75 := Tryd.zeroValue194
  t76 := Tryd.underlying195
  a76 := Tryd.isAgg195
  z76 := Tryd.sizeOf195
  v76 := Tryd.zeroValue195
  t127 := Tryd.underlying212
  a127 := Tryd.isAgg212
  z127 := Tryd.sizeOf212
  v127 := Tryd.zeroValue212
  t164 := Tryd.underlying221
  a164 := Tryd.isAgg221
  z164 := Tryd.sizeOf221
  v164 := Tryd.zeroValue221 }
theorem Tryd.Builder_Extra_156 : Builder.Extra Tryd.prog Tryd.lays156_ren := {
  sizeBuilder := by kernel_rfl
  liesBuilder := by kernel_rfl
  t5 := Tryd.underlying5
  a5 := Tryd.isAgg5
  z5 := Tryd.sizeOf5
  v5 := Tryd.zeroValue5
  infoByte := by kernel_rfl
  cellsByte := by kernel_rfl
  sizeByte := by kernel_rfl
  neB5 := by decide }
open Go.RowKit in
theorem Tryd.strings_Join_none (a : Option Addr) (c : Nat) (sep : ByteArray) (w : World) :
    Calls Tryd.prog 99 #[.slice a 0 c, .string sep] w fun e w' => e = .returned (.string ⟨#[]⟩) ∧ w' = w := Any.strings_Join_none Tryd.lays156 Tryd.Builder_Extra_156 a c sep w
open Go.RowKit in
theorem Tryd.strings_Join (bk o c : Nat) (xs : List ByteArray) (sep : ByteArray) (w : World) (hcells : ∀ (j : Nat) x, xs[j]? = some x → w.cell? ⟨bk, o + j, none⟩ = some (.string x)) (hbk : bk < w.heap.size) (hN : xs.length ≤ 140737488355328) (hcap : xs.length ≤ c) (hlen : (Lib.join (xs.map (·.data.toList)) sep.data.toList).length ≤ 140737488355328) :
    Calls Tryd.prog 99 #[.slice (some ⟨bk, o, none⟩) xs.length c, .string sep] w fun e w' => e = .returned (.string ⟨(Lib.join (xs.map (·.data.toList)) sep.data.toList).toArray⟩) ∧ Below w.heap.size w w' := Any.strings_Join Tryd.lays156 Tryd.Builder_Extra_156 bk o c xs sep w hcells hbk hN hcap hlen
def Tryd.laysM171_ren : Go.Shelf.Ren := ⟨fun | 171 => 66 | 243 => 86 | 246 => 112 | 283 => 143 | 284 => 144 | 285 => 145 | 286 => 146 | 129 => 111 | 317 => 156 | 318 => 157 | 319 => 158 | 320 => 159 | 337 => 164 | 338 => 165 | n => n, fun | 3 => 3 | 9 => 9 | 2 => 2 | 4 => 4 | 171 => 204 | 0 => 0 | 53 => 171 | 37 => 174 | 5 => 5 | 173 => 206 | 212 => 217 | 51 => 22 | 20 => 20 | 213 => 218 | 46 => 148 | 232 => 224 | 233 => 225 | n => n, fun | 17 => 0 | 18 => 2 | 19 => 3 | n => n⟩
theorem Tryd.laysM171 : Go.Proofs.LaysM.n171 Tryd.prog Tryd.laysM171_ren := {
  mixed := by kernel_rfl
  f129 := Tryd.func111.trans (congrArg some (by kernel_rfl))
  f171 := Tryd.func66.trans (congrArg some (by kernel_rfl))
  f243 := Tryd.func86.trans (congrArg some (by kernel_rfl))
  f246 := Tryd.func112.trans (congrArg some (by kernel_rfl))
  f283 := Tryd.func143.trans (congrArg some (by kernel_rfl))
  f284 := Tryd.func144.trans (congrArg some (by kernel_rfl))
  f285 := Tryd.func145.trans (congrArg some (by kernel_rfl))
  f286 := Tryd.func146.trans (congrArg some (by kernel_rfl))
  f317 := Tryd.func156.trans (congrArg some (by kernel_rfl))
  f318 := Tryd.func157.trans (congrArg some (by kernel_rfl))
  f319 := Tryd.func158.trans (congrArg some (by kernel_rfl))
  f320 := Tryd.func159.trans (congrArg some (by kernel_rfl))
  f337 := Tryd.func164.trans (congrArg some (by kernel_rfl))
  f338 := Tryd.func165.trans (congrArg some (by kernel_rfl))
  t0 := Tryd.underlying0
  a0 := Tryd.isAgg0
  z0 := Tryd.sizeOf0
  v0 := Tryd.zeroValue0
  t2 := Tryd.underlying2
  a2 := Tryd.isAgg2
  z2 := Tryd.sizeOf2
  v2 := Tryd.zeroValue2
  t3 := Tryd.underlying3
  a3 := Tryd.isAgg3
  z3 := Tryd.sizeOf3
  v3 := Tryd.zeroValue3
  t4 := Tryd.underlying4
  a4 := Tryd.isAgg4
  z4 := Tryd.sizeOf4
  v4 := Tryd.zeroValue4
  t5 := Tryd.underlying5
  a5 := Tryd.isAgg5
  z5 := Tryd.sizeOf5
  v5 := Tryd.zeroValue5
  t9 := Tryd.underlying9
  a9 := Tryd.isAgg9
  z9 := Tryd.sizeOf9
  v9 := Tryd.zeroValue9
  t20 := Tryd.underlying20
  a20 := Tryd.isAgg20
  z20 := Tryd.sizeOf20
  v20 := Tryd.zeroValue20
  t37 := Tryd.underlying174
  a37 := Tryd.isAgg174
  z37 := Tryd.sizeOf174
  v37 := Tryd.zeroValue174
  t46 := Tryd.underlying148
  a46 := Tryd.isAgg148
  z46 := Tryd.sizeOf148
  v46 := Tryd.zeroValue148
  t51 := Tryd.underlying22
  a51 := Tryd.isAgg22
  z51 := Tryd.sizeOf22
  v51 := Tryd.zeroValue22
  t53 := Tryd.underlying171
  a53 := Tryd.isAgg171
  z53 := Tryd.sizeOf171
  v53 := Tryd.zeroValue171
  t171 := Tryd.underlying204
  a171 := Tryd.isAgg204
  z171 := Tryd.sizeOf204
  v171 := Tryd.zeroValue204
  t173 := Tryd.underlying206
  a173 := Tryd.isAgg206
  z173 := Tryd.sizeOf206
  v173 := Tryd.zeroValue206
  t212 := Tryd.underlying217
  a212 := Tryd.isAgg217
  z212 := Tryd.sizeOf217
  v212 := Tryd.zeroValue217
  t213 := Tryd.underlying218
  a213 := Tryd.isAgg218
  z213 := Tryd.sizeOf218
  t232 := Tryd.underlying224
  a232 := Tryd.isAgg224
  z232 := Tryd.sizeOf224
  v232 := Tryd.zeroValue224
  t233 := Tryd.underlying225
  a233 := Tryd.isAgg225
  z233 := Tryd.sizeOf225
  v233 := Tryd.zeroValue225
  g17 := by kernel_rfl
  g18 := by kernel_rfl
  g19 := by kernel_rfl
  i0 := by kernel_rfl
  i2 := by kernel_rfl
  i3 := by kernel_rfl
  i4 := by kernel_rfl
  i5 := by kernel_rfl
  i9 := by kernel_rfl
  i20 := by kernel_rfl
  i37 := by kernel_rfl
  i46 := by kernel_rfl
  i51 := by kernel_rfl
  i53 := by kernel_rfl
  i171 := by kernel_rfl
  i173 := by kernel_rfl
  i212 := by kernel_rfl
  i232 := by kernel_rfl
  i233 := by kernel_rfl
  m17 := by kernel_rfl
  m18 := by kernel_rfl
  m19 := by kernel_rfl }
open Go.RowKit Go.Sort Go.Lib in
theorem Tryd.strconv_Itoa (n : Int) (h0 : -9223372036854775808 ≤ n) (h1 : n ≤ 9223372036854775807) (w : World) (htab : Lib.TabIs Tryd.prog w "internal/strconv.uint64pow10" .u64 Lib.pow10Tab) :
    Calls Tryd.prog 66 #[.int .i64 n] w fun e w' => e = .returned (.string ⟨(Lib.itoa n).toArray⟩) ∧ ∃ k os, w' = grow (w.drewN k) os := Any.strconv_Itoa Tryd.laysM171 n h0 h1 w htab
def Tryd.lays240h_ren : Go.Shelf.Ren := ⟨fun | 240 => 153 | 276 => 162 | n => n, fun | 0 => 0 | 4 => 4 | 9 => 9 | 20 => 20 | 37 => 174 | 70 => 189 | 72 => 191 | 164 => 221 | n => n, fun | n => n⟩
theorem Tryd.lays240h : Go.Proofs.Lays.n240 Tryd.prog Tryd.lays240h_ren := {
  mixed := by kernel_rfl
  f240 := Tryd.func153.trans (congrArg some (by kernel_rfl))
  f276 := Tryd.func162.trans (congrArg some (by kernel_rfl))
  t0 := Tryd.underlying0
  a0 := Tryd.isAgg0
  z0 := Tryd.sizeOf0
  v0 := Tryd.zeroValue0
  t4 := Tryd.underlying4
  a4 := Tryd.isAgg4
  z4 := Tryd.sizeOf4
  v4 := Tryd.zeroValue4
  t9 := Tryd.underlying9
  a9 := Tryd.isAgg9
  z9 := Tryd.sizeOf9
  v9 := Tryd.zeroValue9
  t20 := Tryd.underlying20
  a20 := Tryd.isAgg20
  z20 := Tryd.sizeOf20
  v20 := Tryd.zeroValue20
  t70 := Tryd.underlying189
  a70 := Tryd.isAgg189
  z70 := Tryd.sizeOf189
  v70 := Tryd.zeroValue189
  t72 := Tryd.underlying191
  a72 := Tryd.isAgg191
  z72 := Tryd.sizeOf191
  v72 := Tryd.zeroValue191
  t164 := Tryd.underlying221
  a164 := Tryd.isAgg221
  z164 := Tryd.sizeOf221
  v164 := Tryd.zeroValue221 }
theorem Tryd.X240h : Builder.X72 Tryd.prog Tryd.lays240h_ren := {
  sizeBuilder := by kernel_rfl
  liesBuilder := by kernel_rfl }
end Go.Proofs
