/-
  DERIVED: THE SHELF's CONTRACTS AT THIS DUMP, IN PLAIN WORDS (tools/lay-plain.mjs out of 'TrydMaps.lean', which tools/lay-shelf.mjs wrote): THE SAME DECLARATIONS UNDER THE SAME NAMES: 'import', 'namespace', 'open', 'def', 'theorem' AND NOTHING ELSE: no command of the shelf's: FOR A HAND-IN. Each laying: the table of numbers ('.._ren') and one theorem, a field a fact of the dump's own or the kernel's comparison; each contract: ONE APPLICATION.
-/
import Derived.Shelf.SlSortCmp.NoneTotal
import Derived.Shelf.SlicesG.Cmp
import Derived.StillTailTactics
import Derived.WalkKit
import Derived.Sort.Grow
import Derived.Sort.LotA
import Derived.Lib.Small
import Derived.Ground.SlsfProg
import Derived.Ground.SlgcProg
import Derived.Shelf.SlIterI.Nil
import Derived.Shelf.SlIterI.Sorted
import Derived.Shelf.SlMaps.Clone
import Derived.Shelf.SortM.Plain
import Derived.Shelf.SortM.SortNone
import Derived.Ground.GgzProg
import Derived.Ground.SlgmProg
import Derived.Ground.SlmcProg
import Derived.Test.YtonmgcebhhdplabDoorProg
namespace Go.Proofs
open Go.Shelf
def Tryd.clone29_ren : Go.Shelf.Ren := ⟨fun | 5 => 29 | 7 => 48 | n => n, fun | 23 => 52 | 25 => 48 | 3 => 3 | 4 => 4 | 20 => 20 | n => n, fun | n => n⟩
theorem Tryd.clone29 : Go.Proofs.SlLaysW.n5 Tryd.prog Tryd.clone29_ren := {
  mixed := by kernel_rfl
  f5 := ⟨Tryd.f29.name, by decide, Tryd.func29.trans (congrArg some (by kernel_rfl))⟩
  f7 := Tryd.func48.trans (congrArg some (by kernel_rfl))
  t4 := Tryd.underlying4
  a4 := Tryd.isAgg4
  z4 := Tryd.sizeOf4
  v4 := Tryd.zeroValue4
  t20 := Tryd.underlying20
  a20 := Tryd.isAgg20
  z20 := Tryd.sizeOf20
  v20 := Tryd.zeroValue20
  t23 := Tryd.underlying52
  a23 := Tryd.isAgg52
  z23 := Tryd.sizeOf52
  v23 := Tryd.zeroValue52 }
def Tryd.keys43_ren : Go.Shelf.Ren := ⟨fun | 7 => 43 | 10 => 65 | n => n, fun | 23 => 52 | 26 => 48 | 3 => 3 | 28 => 91 | 0 => 0 | 27 => 90 | 33 => 122 | 4 => 4 | n => n, fun | n => n⟩
theorem Tryd.keys43 : Go.Proofs.SlLaysZI.n7 Tryd.prog Tryd.keys43_ren := {
  mixed := by kernel_rfl
  f7 := ⟨Tryd.f43.name, by decide, Tryd.func43.trans (congrArg some (by kernel_rfl))⟩
  f10 := ⟨Tryd.f65.name, by decide, Tryd.func65.trans (congrArg some (by kernel_rfl))⟩
  t0 := Tryd.underlying0
  a0 := Tryd.isAgg0
  z0 := Tryd.sizeOf0
  v0 := Tryd.zeroValue0
  t4 := Tryd.underlying4
  a4 := Tryd.isAgg4
  z4 := Tryd.sizeOf4
  v4 := Tryd.zeroValue4
  t23 := Tryd.underlying52
  a23 := Tryd.isAgg52
  z23 := Tryd.sizeOf52
  v23 := Tryd.zeroValue52
  t26 := Tryd.underlying48
  a26 := Tryd.isAgg48
  z26 := Tryd.sizeOf48
  v26 := Tryd.zeroValue48
  t27 := Tryd.underlying90
  a27 := Tryd.isAgg90
  z27 := Tryd.sizeOf90
  v27 := Tryd.zeroValue90
  t28 := Tryd.underlying91
  a28 := Tryd.isAgg91
  z28 := Tryd.sizeOf91
  v28 := Tryd.zeroValue91
  t33 := Tryd.underlying122
  a33 := Tryd.isAgg122
  z33 := Tryd.sizeOf122
  v33 := Tryd.zeroValue122 }
def Tryd.sorted42_ren : Go.Shelf.Ren := ⟨fun | 6 => 42 | 8 => 63 | 9 => 64 | 11 => 80 | 13 => 74 | 12 => 81 | 23 => 93 | 24 => 94 | 14 => 106 | 15 => 107 | 16 => 108 | 17 => 109 | 18 => 110 | 19 => 111 | 20 => 112 | 21 => 113 | 22 => 114 | 25 => 124 | 26 => 117 | 27 => 118 | 28 => 125 | 29 => 126 | 30 => 127 | 31 => 134 | n => n, fun | 26 => 48 | 28 => 91 | 24 => 88 | 0 => 0 | 3 => 3 | 37 => 131 | 48 => 47 | 50 => 150 | 4 => 4 | 40 => 143 | 39 => 142 | 45 => 93 | 5 => 5 | 9 => 9 | 51 => 165 | 55 => 169 | 57 => 179 | 58 => 180 | 33 => 122 | n => n, fun | n => n⟩
theorem Tryd.sorted42 : Go.Proofs.SlLaysZI.n6 Tryd.prog Tryd.sorted42_ren := {
  mixed := by kernel_rfl
  f6 := ⟨Tryd.f42.name, by decide, Tryd.func42.trans (congrArg some (by kernel_rfl))⟩
  f8 := ⟨Tryd.f63.name, by decide, Tryd.func63.trans (congrArg some (by kernel_rfl))⟩
  f11 := ⟨Tryd.f80.name, by decide, Tryd.func80.trans (congrArg some (by kernel_rfl))⟩
  t0 := Tryd.underlying0
  a0 := Tryd.isAgg0
  z0 := Tryd.sizeOf0
  v0 := Tryd.zeroValue0
  t24 := Tryd.underlying88
  a24 := Tryd.isAgg88
  z24 := Tryd.sizeOf88
  v24 := Tryd.zeroValue88
  t26 := Tryd.underlying48
  a26 := Tryd.isAgg48
  z26 := Tryd.sizeOf48
  v26 := Tryd.zeroValue48
  t28 := Tryd.underlying91
  a28 := Tryd.isAgg91
  z28 := Tryd.sizeOf91
  v28 := Tryd.zeroValue91
  i26 := by kernel_rfl }
def Tryd.sort64_ren : Go.Shelf.Ren := ⟨fun | 5 => 64 | 8 => 74 | 7 => 81 | 19 => 93 | 20 => 94 | 10 => 106 | 11 => 107 | 12 => 108 | 13 => 109 | 14 => 110 | 15 => 111 | 16 => 112 | 17 => 113 | 18 => 114 | 30 => 124 | 31 => 117 | 32 => 118 | 33 => 125 | 34 => 126 | 35 => 127 | 40 => 134 | n => n, fun | 23 => 88 | 25 => 48 | 3 => 3 | 32 => 131 | 22 => 88 | 0 => 0 | 44 => 47 | 46 => 150 | 4 => 4 | 36 => 143 | 35 => 142 | 41 => 93 | 5 => 5 | 9 => 9 | 53 => 165 | 57 => 169 | 63 => 179 | 64 => 180 | n => n, fun | n => n⟩
theorem Tryd.sort64 : Go.Proofs.SlLaysM.n5 Tryd.prog Tryd.sort64_ren := {
  mixed := by kernel_rfl
  f5 := ⟨Tryd.f64.name, by decide, Tryd.func64.trans (congrArg some (by kernel_rfl))⟩
  f7 := ⟨Tryd.f81.name, by decide, Tryd.func81.trans (congrArg some (by kernel_rfl))⟩
  f8 := Tryd.func74.trans (congrArg some (by kernel_rfl))
  f10 := ⟨Tryd.f106.name, by decide, Tryd.func106.trans (congrArg some (by kernel_rfl))⟩
  f11 := ⟨Tryd.f107.name, by decide, Tryd.func107.trans (congrArg some (by kernel_rfl))⟩
  f12 := ⟨Tryd.f108.name, by decide, Tryd.func108.trans (congrArg some (by kernel_rfl))⟩
  f13 := ⟨Tryd.f109.name, by decide, Tryd.func109.trans (congrArg some (by kernel_rfl))⟩
  f14 := ⟨Tryd.f110.name, by decide, Tryd.func110.trans (congrArg some (by kernel_rfl))⟩
  f15 := ⟨Tryd.f111.name, by decide, Tryd.func111.trans (congrArg some (by kernel_rfl))⟩
  f16 := ⟨Tryd.f112.name, by decide, Tryd.func112.trans (congrArg some (by kernel_rfl))⟩
  f17 := ⟨Tryd.f113.name, by decide, Tryd.func113.trans (congrArg some (by kernel_rfl))⟩
  f18 := ⟨Tryd.f114.name, by decide, Tryd.func114.trans (congrArg some (by kernel_rfl))⟩
  f19 := Tryd.func93.trans (congrArg some (by kernel_rfl))
  f20 := Tryd.func94.trans (congrArg some (by kernel_rfl))
  f30 := ⟨Tryd.f124.name, by decide, Tryd.func124.trans (congrArg some (by kernel_rfl))⟩
  f31 := Tryd.func117.trans (congrArg some (by kernel_rfl))
  f32 := Tryd.func118.trans (congrArg some (by kernel_rfl))
  f33 := ⟨Tryd.f125.name, by decide, Tryd.func125.trans (congrArg some (by kernel_rfl))⟩
  f34 := ⟨Tryd.f126.name, by decide, Tryd.func126.trans (congrArg some (by kernel_rfl))⟩
  f35 := ⟨Tryd.f127.name, by decide, Tryd.func127.trans (congrArg some (by kernel_rfl))⟩
  f40 := ⟨Tryd.f134.name, by decide, Tryd.func134.trans (congrArg some (by kernel_rfl))⟩
  t0 := Tryd.underlying0
  a0 := Tryd.isAgg0
  z0 := Tryd.sizeOf0
  v0 := Tryd.zeroValue0
  t3 := Tryd.underlying3
  a3 := Tryd.isAgg3
  z3 := Tryd.sizeOf3
  v3 := Tryd.zeroValue3
  t4 := Tryd.underlying4
  a4 := Tryd.isAgg4
  z4 := Tryd.sizeOf4
  v4 := Tryd.zeroValue4
  t5 := Tryd.underlying5
  a5 := Tryd.isAgg5
  z5 := Tryd.sizeOf5
  v5 := Tryd.zeroValue5
  t9 := Tryd.underlying9
  a9 := Tryd.isAgg9
  z9 := Tryd.sizeOf9
  v9 := Tryd.zeroValue9
  t22 := Tryd.underlying88
  a22 := Tryd.isAgg88
  z22 := Tryd.sizeOf88
  v22 := Tryd.zeroValue88
  t23 := Tryd.underlying88
  a23 := Tryd.isAgg88
  z23 := Tryd.sizeOf88
  v23 := Tryd.zeroValue88
  t25 := Tryd.underlying48
  a25 := Tryd.isAgg48
  z25 := Tryd.sizeOf48
  v25 := Tryd.zeroValue48
  t32 := Tryd.underlying131
  a32 := Tryd.isAgg131
  z32 := Tryd.sizeOf131
  v32 := Tryd.zeroValue131
  t35 := Tryd.underlying142
  a35 := Tryd.isAgg142
  z35 := Tryd.sizeOf142
  v35 := Tryd.zeroValue142
  t36 := Tryd.underlying143
  a36 := Tryd.isAgg143
  z36 := Tryd.sizeOf143
  v36 := Tryd.zeroValue143
  t41 := Tryd.underlying93
  a41 := Tryd.isAgg93
  z41 := Tryd.sizeOf93
  v41 := Tryd.zeroValue93
  t44 := Tryd.underlying47
  a44 := Tryd.isAgg47
  z44 := Tryd.sizeOf47
  v44 := Tryd.zeroValue47
  t46 := Tryd.underlying150
  a46 := Tryd.isAgg150
  z46 := Tryd.sizeOf150
  v46 := Tryd.zeroValue150
  t53 := Tryd.underlying165
  a53 := Tryd.isAgg165
  z53 := Tryd.sizeOf165
  v53 := Tryd.zeroValue165
  t57 := Tryd.underlying169
  a57 := Tryd.isAgg169
  z57 := Tryd.sizeOf169
  v57 := Tryd.zeroValue169
  t63 := Tryd.underlying179
  a63 := Tryd.isAgg179
  z63 := Tryd.sizeOf179
  v63 := Tryd.zeroValue179
  t64 := Tryd.underlying180
  a64 := Tryd.isAgg180
  z64 := Tryd.sizeOf180
  v64 := Tryd.zeroValue180 }
open Go.RowKit Go.Maps Go.Sort Go.Shelf in
theorem Tryd.sorts42 (m : Nat) : AnyZI.SortsIn Tryd.prog Tryd.sorted42_ren Fence.wide m :=
  ⟨fun blk off cap ss W hH hblk hsz => callsIn_wide.2 (AnyM.slices_Sort_int Tryd.sort64 blk off cap ss W hH hblk hsz),
   fun p cap W => callsIn_wide.2 (AnyM.slices_Sort_int_none Tryd.sort64 p cap W)⟩
open Go.RowKit Go.Maps Go.Sort Go.Shelf in
theorem Tryd.enter64 : ∀ args w, (callFunc 64 args).run Tryd.prog w = .ok (.enter 64 args) w := enters_of Tryd.func64 (by kernel_rfl) rfl
open Go.RowKit Go.Maps Go.Sort Go.Shelf in
theorem Tryd.enter65 : ∀ args w, (callFunc 65 args).run Tryd.prog w = .ok (.enter 65 args) w := enters_of Tryd.func65 (by kernel_rfl) rfl
def Tryd.keys61_ren : Go.Shelf.Ren := ⟨fun | 7 => 61 | 10 => 78 | n => n, fun | 23 => 63 | 26 => 3 | 3 => 75 | 28 => 82 | 0 => 0 | 27 => 81 | 33 => 117 | 4 => 4 | n => n, fun | n => n⟩
theorem Tryd.keys61 : Go.Proofs.SlLaysZI.n7 Tryd.prog Tryd.keys61_ren := {
  mixed := by kernel_rfl
  f7 := ⟨Tryd.f61.name, by decide, Tryd.func61.trans (congrArg some (by kernel_rfl))⟩
  f10 := ⟨Tryd.f78.name, by decide, Tryd.func78.trans (congrArg some (by kernel_rfl))⟩
  t0 := Tryd.underlying0
  a0 := Tryd.isAgg0
  z0 := Tryd.sizeOf0
  v0 := Tryd.zeroValue0
  t4 := Tryd.underlying4
  a4 := Tryd.isAgg4
  z4 := Tryd.sizeOf4
  v4 := Tryd.zeroValue4
  t23 := Tryd.underlying63
  a23 := Tryd.isAgg63
  z23 := Tryd.sizeOf63
  v23 := Tryd.zeroValue63
  t26 := Tryd.underlying3
  a26 := Tryd.isAgg3
  z26 := Tryd.sizeOf3
  v26 := Tryd.zeroValue3
  t27 := Tryd.underlying81
  a27 := Tryd.isAgg81
  z27 := Tryd.sizeOf81
  v27 := Tryd.zeroValue81
  t28 := Tryd.underlying82
  a28 := Tryd.isAgg82
  z28 := Tryd.sizeOf82
  v28 := Tryd.zeroValue82
  t33 := Tryd.underlying117
  a33 := Tryd.isAgg117
  z33 := Tryd.sizeOf117
  v33 := Tryd.zeroValue117 }
def Tryd.sorted60_ren : Go.Shelf.Ren := ⟨fun | 6 => 60 | 8 => 77 | 9 => 62 | 11 => 96 | 13 => 74 | 12 => 79 | 23 => 93 | 24 => 94 | 14 => 97 | 15 => 98 | 16 => 99 | 17 => 100 | 18 => 101 | 19 => 102 | 20 => 103 | 21 => 104 | 22 => 105 | 25 => 121 | 26 => 117 | 27 => 118 | 28 => 122 | 29 => 123 | 30 => 95 | 31 => 133 | n => n, fun | 26 => 3 | 28 => 82 | 24 => 37 | 0 => 0 | 3 => 3 | 37 => 131 | 48 => 47 | 50 => 150 | 4 => 4 | 40 => 143 | 39 => 142 | 45 => 93 | 5 => 5 | 9 => 9 | 51 => 165 | 55 => 169 | 57 => 179 | 58 => 180 | 33 => 117 | n => n, fun | n => n⟩
theorem Tryd.sorted60 : Go.Proofs.SlLaysZI.n6 Tryd.prog Tryd.sorted60_ren := {
  mixed := by kernel_rfl
  f6 := ⟨Tryd.f60.name, by decide, Tryd.func60.trans (congrArg some (by kernel_rfl))⟩
  f8 := ⟨Tryd.f77.name, by decide, Tryd.func77.trans (congrArg some (by kernel_rfl))⟩
  f11 := ⟨Tryd.f96.name, by decide, Tryd.func96.trans (congrArg some (by kernel_rfl))⟩
  t0 := Tryd.underlying0
  a0 := Tryd.isAgg0
  z0 := Tryd.sizeOf0
  v0 := Tryd.zeroValue0
  t24 := Tryd.underlying37
  a24 := Tryd.isAgg37
  z24 := Tryd.sizeOf37
  v24 := Tryd.zeroValue37
  t26 := Tryd.underlying3
  a26 := Tryd.isAgg3
  z26 := Tryd.sizeOf3
  v26 := Tryd.zeroValue3
  t28 := Tryd.underlying82
  a28 := Tryd.isAgg82
  z28 := Tryd.sizeOf82
  v28 := Tryd.zeroValue82
  i26 := by kernel_rfl }
def Tryd.sort62_ren : Go.Shelf.Ren := ⟨fun | 5 => 62 | 8 => 74 | 7 => 79 | 19 => 93 | 20 => 94 | 10 => 97 | 11 => 98 | 12 => 99 | 13 => 100 | 14 => 101 | 15 => 102 | 16 => 103 | 17 => 104 | 18 => 105 | 30 => 121 | 31 => 117 | 32 => 118 | 33 => 122 | 34 => 123 | 35 => 95 | 40 => 133 | n => n, fun | 23 => 37 | 25 => 3 | 3 => 3 | 32 => 131 | 22 => 37 | 0 => 0 | 44 => 47 | 46 => 150 | 4 => 4 | 36 => 143 | 35 => 142 | 41 => 93 | 5 => 5 | 9 => 9 | 53 => 165 | 57 => 169 | 63 => 179 | 64 => 180 | n => n, fun | n => n⟩
theorem Tryd.sort62 : Go.Proofs.SlLaysM.n5 Tryd.prog Tryd.sort62_ren := {
  mixed := by kernel_rfl
  f5 := ⟨Tryd.f62.name, by decide, Tryd.func62.trans (congrArg some (by kernel_rfl))⟩
  f7 := ⟨Tryd.f79.name, by decide, Tryd.func79.trans (congrArg some (by kernel_rfl))⟩
  f8 := Tryd.func74.trans (congrArg some (by kernel_rfl))
  f10 := ⟨Tryd.f97.name, by decide, Tryd.func97.trans (congrArg some (by kernel_rfl))⟩
  f11 := ⟨Tryd.f98.name, by decide, Tryd.func98.trans (congrArg some (by kernel_rfl))⟩
  f12 := ⟨Tryd.f99.name, by decide, Tryd.func99.trans (congrArg some (by kernel_rfl))⟩
  f13 := ⟨Tryd.f100.name, by decide, Tryd.func100.trans (congrArg some (by kernel_rfl))⟩
  f14 := ⟨Tryd.f101.name, by decide, Tryd.func101.trans (congrArg some (by kernel_rfl))⟩
  f15 := ⟨Tryd.f102.name, by decide, Tryd.func102.trans (congrArg some (by kernel_rfl))⟩
  f16 := ⟨Tryd.f103.name, by decide, Tryd.func103.trans (congrArg some (by kernel_rfl))⟩
  f17 := ⟨Tryd.f104.name, by decide, Tryd.func104.trans (congrArg some (by kernel_rfl))⟩
  f18 := ⟨Tryd.f105.name, by decide, Tryd.func105.trans (congrArg some (by kernel_rfl))⟩
  f19 := Tryd.func93.trans (congrArg some (by kernel_rfl))
  f20 := Tryd.func94.trans (congrArg some (by kernel_rfl))
  f30 := ⟨Tryd.f121.name, by decide, Tryd.func121.trans (congrArg some (by kernel_rfl))⟩
  f31 := Tryd.func117.trans (congrArg some (by kernel_rfl))
  f32 := Tryd.func118.trans (congrArg some (by kernel_rfl))
  f33 := ⟨Tryd.f122.name, by decide, Tryd.func122.trans (congrArg some (by kernel_rfl))⟩
  f34 := ⟨Tryd.f123.name, by decide, Tryd.func123.trans (congrArg some (by kernel_rfl))⟩
  f35 := ⟨Tryd.f95.name, by decide, Tryd.func95.trans (congrArg some (by kernel_rfl))⟩
  f40 := ⟨Tryd.f133.name, by decide, Tryd.func133.trans (congrArg some (by kernel_rfl))⟩
  t0 := Tryd.underlying0
  a0 := Tryd.isAgg0
  z0 := Tryd.sizeOf0
  v0 := Tryd.zeroValue0
  t3 := Tryd.underlying3
  a3 := Tryd.isAgg3
  z3 := Tryd.sizeOf3
  v3 := Tryd.zeroValue3
  t4 := Tryd.underlying4
  a4 := Tryd.isAgg4
  z4 := Tryd.sizeOf4
  v4 := Tryd.zeroValue4
  t5 := Tryd.underlying5
  a5 := Tryd.isAgg5
  z5 := Tryd.sizeOf5
  v5 := Tryd.zeroValue5
  t9 := Tryd.underlying9
  a9 := Tryd.isAgg9
  z9 := Tryd.sizeOf9
  v9 := Tryd.zeroValue9
  t22 := Tryd.underlying37
  a22 := Tryd.isAgg37
  z22 := Tryd.sizeOf37
  v22 := Tryd.zeroValue37
  t23 := Tryd.underlying37
  a23 := Tryd.isAgg37
  z23 := Tryd.sizeOf37
  v23 := Tryd.zeroValue37
  t25 := Tryd.underlying3
  a25 := Tryd.isAgg3
  z25 := Tryd.sizeOf3
  v25 := Tryd.zeroValue3
  t32 := Tryd.underlying131
  a32 := Tryd.isAgg131
  z32 := Tryd.sizeOf131
  v32 := Tryd.zeroValue131
  t35 := Tryd.underlying142
  a35 := Tryd.isAgg142
  z35 := Tryd.sizeOf142
  v35 := Tryd.zeroValue142
  t36 := Tryd.underlying143
  a36 := Tryd.isAgg143
  z36 := Tryd.sizeOf143
  v36 := Tryd.zeroValue143
  t41 := Tryd.underlying93
  a41 := Tryd.isAgg93
  z41 := Tryd.sizeOf93
  v41 := Tryd.zeroValue93
  t44 := Tryd.underlying47
  a44 := Tryd.isAgg47
  z44 := Tryd.sizeOf47
  v44 := Tryd.zeroValue47
  t46 := Tryd.underlying150
  a46 := Tryd.isAgg150
  z46 := Tryd.sizeOf150
  v46 := Tryd.zeroValue150
  t53 := Tryd.underlying165
  a53 := Tryd.isAgg165
  z53 := Tryd.sizeOf165
  v53 := Tryd.zeroValue165
  t57 := Tryd.underlying169
  a57 := Tryd.isAgg169
  z57 := Tryd.sizeOf169
  v57 := Tryd.zeroValue169
  t63 := Tryd.underlying179
  a63 := Tryd.isAgg179
  z63 := Tryd.sizeOf179
  v63 := Tryd.zeroValue179
  t64 := Tryd.underlying180
  a64 := Tryd.isAgg180
  z64 := Tryd.sizeOf180
  v64 := Tryd.zeroValue180 }
open Go.RowKit Go.Maps Go.Sort Go.Shelf in
theorem Tryd.sorts60 (m : Nat) : AnyZI.SortsIn Tryd.prog Tryd.sorted60_ren Fence.wide m :=
  ⟨fun blk off cap ss W hH hblk hsz => callsIn_wide.2 (AnyM.slices_Sort_int Tryd.sort62 blk off cap ss W hH hblk hsz),
   fun p cap W => callsIn_wide.2 (AnyM.slices_Sort_int_none Tryd.sort62 p cap W)⟩
open Go.RowKit Go.Maps Go.Sort Go.Shelf in
theorem Tryd.enter62 : ∀ args w, (callFunc 62 args).run Tryd.prog w = .ok (.enter 62 args) w := enters_of Tryd.func62 (by kernel_rfl) rfl
open Go.RowKit Go.Maps Go.Sort Go.Shelf in
theorem Tryd.enter78 : ∀ args w, (callFunc 78 args).run Tryd.prog w = .ok (.enter 78 args) w := enters_of Tryd.func78 (by kernel_rfl) rfl
def Tryd.sortF56_ren : Go.Shelf.Ren := ⟨fun | 6 => 56 | 15 => 74 | 14 => 73 | 28 => 93 | 29 => 94 | 20 => 85 | 21 => 86 | 22 => 87 | 23 => 88 | 24 => 89 | 25 => 90 | 26 => 91 | 27 => 92 | 46 => 116 | 47 => 117 | 48 => 118 | 49 => 119 | 50 => 120 | 57 => 132 | n => n, fun | 22 => 69 | 24 => 72 | 25 => 113 | 3 => 3 | 39 => 131 | 0 => 0 | 53 => 47 | 55 => 150 | 4 => 4 | 46 => 143 | 45 => 142 | 50 => 93 | 5 => 5 | 9 => 9 | 66 => 165 | 70 => 169 | 76 => 179 | 77 => 180 | n => n, fun | n => n⟩
theorem Tryd.sortF56 : Go.Proofs.SlLaysF0.n6 Tryd.prog Tryd.sortF56_ren := {
  mixed := by kernel_rfl
  f6 := ⟨Tryd.f56.name, by decide, Tryd.func56.trans (congrArg some (by kernel_rfl))⟩
  f14 := ⟨Tryd.f73.name, by decide, Tryd.func73.trans (congrArg some (by kernel_rfl))⟩
  f15 := Tryd.func74.trans (congrArg some (by kernel_rfl))
  f20 := ⟨Tryd.f85.name, by decide, Tryd.func85.trans (congrArg some (by kernel_rfl))⟩
  f21 := ⟨Tryd.f86.name, by decide, Tryd.func86.trans (congrArg some (by kernel_rfl))⟩
  f22 := ⟨Tryd.f87.name, by decide, Tryd.func87.trans (congrArg some (by kernel_rfl))⟩
  f23 := ⟨Tryd.f88.name, by decide, Tryd.func88.trans (congrArg some (by kernel_rfl))⟩
  f24 := ⟨Tryd.f89.name, by decide, Tryd.func89.trans (congrArg some (by kernel_rfl))⟩
  f25 := ⟨Tryd.f90.name, by decide, Tryd.func90.trans (congrArg some (by kernel_rfl))⟩
  f26 := ⟨Tryd.f91.name, by decide, Tryd.func91.trans (congrArg some (by kernel_rfl))⟩
  f27 := ⟨Tryd.f92.name, by decide, Tryd.func92.trans (congrArg some (by kernel_rfl))⟩
  f28 := Tryd.func93.trans (congrArg some (by kernel_rfl))
  f29 := Tryd.func94.trans (congrArg some (by kernel_rfl))
  f46 := ⟨Tryd.f116.name, by decide, Tryd.func116.trans (congrArg some (by kernel_rfl))⟩
  f47 := Tryd.func117.trans (congrArg some (by kernel_rfl))
  f48 := Tryd.func118.trans (congrArg some (by kernel_rfl))
  f49 := ⟨Tryd.f119.name, by decide, Tryd.func119.trans (congrArg some (by kernel_rfl))⟩
  f50 := ⟨Tryd.f120.name, by decide, Tryd.func120.trans (congrArg some (by kernel_rfl))⟩
  f57 := ⟨Tryd.f132.name, by decide, Tryd.func132.trans (congrArg some (by kernel_rfl))⟩
  t0 := Tryd.underlying0
  a0 := Tryd.isAgg0
  z0 := Tryd.sizeOf0
  v0 := Tryd.zeroValue0
  t3 := Tryd.underlying3
  a3 := Tryd.isAgg3
  z3 := Tryd.sizeOf3
  v3 := Tryd.zeroValue3
  t4 := Tryd.underlying4
  a4 := Tryd.isAgg4
  z4 := Tryd.sizeOf4
  v4 := Tryd.zeroValue4
  t5 := Tryd.underlying5
  a5 := Tryd.isAgg5
  z5 := Tryd.sizeOf5
  v5 := Tryd.zeroValue5
  t9 := Tryd.underlying9
  a9 := Tryd.isAgg9
  z9 := Tryd.sizeOf9
  v9 := Tryd.zeroValue9
  t22 := Tryd.underlying69
  a22 := Tryd.isAgg69
  z22 := Tryd.sizeOf69
  v22 := Tryd.zeroValue69
  t25 := Tryd.underlying113
  a25 := Tryd.isAgg113
  z25 := Tryd.sizeOf113
  v25 := Tryd.zeroValue113
  t39 := Tryd.underlying131
  a39 := Tryd.isAgg131
  z39 := Tryd.sizeOf131
  v39 := Tryd.zeroValue131
  t45 := Tryd.underlying142
  a45 := Tryd.isAgg142
  z45 := Tryd.sizeOf142
  v45 := Tryd.zeroValue142
  t46 := Tryd.underlying143
  a46 := Tryd.isAgg143
  z46 := Tryd.sizeOf143
  v46 := Tryd.zeroValue143
  t50 := Tryd.underlying93
  a50 := Tryd.isAgg93
  z50 := Tryd.sizeOf93
  v50 := Tryd.zeroValue93
  t53 := Tryd.underlying47
  a53 := Tryd.isAgg47
  z53 := Tryd.sizeOf47
  v53 := Tryd.zeroValue47
  t55 := Tryd.underlying150
  a55 := Tryd.isAgg150
  z55 := Tryd.sizeOf150
  v55 := Tryd.zeroValue150
  t66 := Tryd.underlying165
  a66 := Tryd.isAgg165
  z66 := Tryd.sizeOf165
  v66 := Tryd.zeroValue165
  t70 := Tryd.underlying169
  a70 := Tryd.isAgg169
  z70 := Tryd.sizeOf169
  v70 := Tryd.zeroValue169
  t76 := Tryd.underlying179
  a76 := Tryd.isAgg179
  z76 := Tryd.sizeOf179
  v76 := Tryd.zeroValue179
  t77 := Tryd.underlying180
  a77 := Tryd.isAgg180
  z77 := Tryd.sizeOf180
  v77 := Tryd.zeroValue180 }
def Tryd.cmpI76_ren : Go.Shelf.Ren := ⟨fun | 5 => 76 | 7 => 95 | n => n, fun | 22 => 3 | 3 => 3 | 4 => 4 | n => n, fun | n => n⟩
theorem Tryd.cmpI76 : Go.Proofs.SlLaysC2.n5 Tryd.prog Tryd.cmpI76_ren := {
  mixed := by kernel_rfl
  f5 := ⟨Tryd.f76.name, by decide, Tryd.func76.trans (congrArg some (by kernel_rfl))⟩
  f7 := ⟨Tryd.f95.name, by decide, Tryd.func95.trans (congrArg some (by kernel_rfl))⟩
  t3 := Tryd.underlying3
  a3 := Tryd.isAgg3
  z3 := Tryd.sizeOf3
  v3 := Tryd.zeroValue3
  t4 := Tryd.underlying4
  a4 := Tryd.isAgg4
  z4 := Tryd.sizeOf4
  v4 := Tryd.zeroValue4
  t22 := Tryd.underlying3
  a22 := Tryd.isAgg3
  z22 := Tryd.sizeOf3
  v22 := Tryd.zeroValue3 }
open Go.RowKit Go.Maps Go.Sort Go.Shelf in set_option maxRecDepth 8000 in set_option maxHeartbeats 1000000 in
theorem Tryd.or75 (a b : Int) (blk : Nat) (W : World) (h0 : W.cell? ⟨blk, 0, none⟩ = some (.int .i64 a)) (h1 : W.cell? ⟨blk, 1, none⟩ = some (.int .i64 b)) :
    Calls Tryd.prog 75 #[.slice (some ⟨blk, 0, none⟩) 2 2] W fun e w' => e = .returned (.int .i64 (if a = 0 then b else a)) ∧ w' = W := by
  by_cases ha : a = 0
  · subst ha
    by_cases hb : b = 0
    · subst hb
      go_enter Tryd.func75, Tryd.ntmps75
      go_wp2
      refine wp_loop_rounds 3 ?_
      rw [rounds_succ]
      go_wp2
      rw [rounds_succ]
      go_wp2
      rw [rounds_succ]
      go_wp2
      go_ret
      exact ⟨rfl, rfl⟩
    · go_enter Tryd.func75, Tryd.ntmps75
      go_wp2
      refine wp_loop_rounds 3 ?_
      rw [rounds_succ]
      go_wp2
      rw [rounds_succ]
      go_wp2
      go_ret
      exact ⟨rfl, rfl⟩
  · go_enter Tryd.func75, Tryd.ntmps75
    go_wp2
    refine wp_loop_rounds 3 ?_
    rw [rounds_succ]
    go_wp2
    go_ret
    exact ⟨rfl, rfl⟩
open Go.RowKit Go.Maps Go.Sort Go.Shelf in set_option maxRecDepth 8000 in set_option maxHeartbeats 1000000 in
theorem Tryd.bef57 (hcon : ∀ x y W, Calls Tryd.prog 76 #[.int .i64 x, .int .i64 y] W fun e w' => e = .returned (.int .i64 (Lib.compareInt x y)) ∧ w' = W) (x y : Int × Int) (W : World) : Calls Tryd.prog 57 #[.agg #[.int .i64 x.1, .int .i64 x.2], .agg #[.int .i64 y.1, .int .i64 y.2]] W fun e w' =>
    e = .returned (.int .i64 (if Lib.compareInt x.1 y.1 = 0 then Lib.compareInt x.2 y.2 else Lib.compareInt x.1 y.1)) ∧ ∃ q os', w' = grow (W.drewN q) os' := by
  have hcon1 := hcon x.1 y.1
  have hcon2 := hcon x.2 y.2
  generalize Lib.compareInt x.1 y.1 = r1 at hcon1 ⊢
  generalize Lib.compareInt x.2 y.2 = r2 at hcon2 ⊢
  go_enter Tryd.func57, Tryd.ntmps57
  go_wp2
  have h0 : ((W.alloc (Obj.cells #[.int .i64 x.1, .int .i64 x.2] 72)).alloc (Obj.cells #[.int .i64 y.1, .int .i64 y.2] 72)).cell? ⟨W.heap.size, 0, none⟩ = some (.int .i64 x.1) := by simp
  have h1 : ((W.alloc (Obj.cells #[.int .i64 x.1, .int .i64 x.2] 72)).alloc (Obj.cells #[.int .i64 y.1, .int .i64 y.2] 72)).cell? ⟨W.heap.size, 1, none⟩ = some (.int .i64 x.2) := by simp
  have h2 : ((W.alloc (Obj.cells #[.int .i64 x.1, .int .i64 x.2] 72)).alloc (Obj.cells #[.int .i64 y.1, .int .i64 y.2] 72)).cell? ⟨W.heap.size + 1, 0, none⟩ = some (.int .i64 y.1) := by simp
  have h3 : ((W.alloc (Obj.cells #[.int .i64 x.1, .int .i64 x.2] 72)).alloc (Obj.cells #[.int .i64 y.1, .int .i64 y.2] 72)).cell? ⟨W.heap.size + 1, 1, none⟩ = some (.int .i64 y.2) := by simp
  generalize hW2 : (W.alloc (Obj.cells #[.int .i64 x.1, .int .i64 x.2] 72)).alloc (Obj.cells #[.int .i64 y.1, .int .i64 y.2] 72) = W2 at h0 h1 h2 h3 ⊢
  refine wp_region_still_tail 10 (by kernel_rfl) (by kernel_rfl) ?_
  simp only [List.take_succ_cons, List.take_zero, List.drop_succ_cons, List.drop_zero]
  change wpStill _ _ (World.drew W2) (fun a' => wpList _ _ _ _ a' (World.drew W2)) _ _
  replace h0 : (World.drew W2).cell? _ = _ := h0
  replace h1 : (World.drew W2).cell? _ = _ := h1
  replace h2 : (World.drew W2).cell? _ = _ := h2
  replace h3 : (World.drew W2).cell? _ = _ := h3
  generalize hW3 : World.drew W2 = W3 at h0 h1 h2 h3 ⊢
  still_step
  still_step
  still_step
  still_step
  still_call (hcon1 _)
  still_step
  still_step
  still_step
  still_step
  still_call (hcon2 _)
  refine wpStill_nil ?_
  go_wp2_with (go_at_call 75; refine (Tryd.or75 r1 r2 _ _ (by simp) (by simp)).mono ?_; rintro e w' ⟨rfl, rfl⟩)
  all_goals
    go_ret
    subst hW3 hW2
    exact ⟨rfl, 1, _, by rw [alloc_eq_grow, alloc_eq_grow, alloc_eq_grow, drew_grow, drew_grow, grow_grow, grow_grow]; rfl⟩
open Go.RowKit Go.Maps Go.Sort Go.Shelf in
theorem Tryd.lt57 (x y : Int × Int) : ltOf (fun x y : Int × Int => if Lib.compareInt x.1 y.1 = 0 then Lib.compareInt x.2 y.2 else Lib.compareInt x.1 y.1) x y = decide (x.1 < y.1 ∨ (x.1 = y.1 ∧ x.2 < y.2)) := by
  unfold ltOf Lib.compareInt
  by_cases h1 : x.1 < y.1
  · simp [h1]
  · by_cases h2 : y.1 < x.1
    · simp [h1, h2]; omega
    · have h3 : x.1 = y.1 := by omega
      by_cases h4 : x.2 < y.2
      · simp [h3, h4]
      · by_cases h5 : y.2 < x.2 <;> simp [h3, h4, h5]
open Go.RowKit Go.Maps Go.Sort Go.Shelf in
theorem Tryd.swo57 : SWO (ltOf (fun x y : Int × Int => if Lib.compareInt x.1 y.1 = 0 then Lib.compareInt x.2 y.2 else Lib.compareInt x.1 y.1)) := {
  irrefl x := by rw [Tryd.lt57]; simp
  trans x y z h1 h2 := by rw [Tryd.lt57] at *; simp at *; omega
  ntrans x y z h1 h2 := by rw [Tryd.lt57] at *; simp at *; omega }
open Go.RowKit Go.Maps Go.Sort Go.Shelf in
theorem Tryd.le57 : (fun x y : Int × Int => !(ltOf (fun x y : Int × Int => if Lib.compareInt x.1 y.1 = 0 then Lib.compareInt x.2 y.2 else Lib.compareInt x.1 y.1)) y x) = fun x y => decide (x.1 < y.1 ∨ (x.1 = y.1 ∧ x.2 ≤ y.2)) := by
  funext x y
  rw [Tryd.lt57]
  rw [← decide_not]
  congr 1
  simp only [eq_iff_iff]
  omega
open Go.RowKit Go.Maps Go.Sort Go.Shelf in
theorem Tryd.tot57 (x y : Int × Int) (h1 : ltOf (fun x y : Int × Int => if Lib.compareInt x.1 y.1 = 0 then Lib.compareInt x.2 y.2 else Lib.compareInt x.1 y.1) x y = false) (h2 : ltOf (fun x y : Int × Int => if Lib.compareInt x.1 y.1 = 0 then Lib.compareInt x.2 y.2 else Lib.compareInt x.1 y.1) y x = false) : x = y := by
  rw [Tryd.lt57] at h1 h2
  simp at h1 h2
  exact Prod.ext (by omega) (by omega)
open Go.RowKit Go.Maps Go.Sort Go.Shelf in
theorem Tryd.agg72 (w : World) : (isAgg 72).run Tryd.prog w = .ok true w := by go_simp
open Go.RowKit Go.Maps Go.Sort Go.Shelf in
theorem Tryd.siz72 (w : World) : (Go.sizeOf 72).run Tryd.prog w = .ok 2 w := by go_simp
open Go.RowKit Go.Maps Go.Sort Go.Shelf in
theorem Tryd.cmp57 : ∀ x y W, Calls Tryd.prog 76 #[.int .i64 x, .int .i64 y] W fun e w' => e = .returned (.int .i64 (Lib.compareInt x y)) ∧ w' = W := fun x y W => AnyG.cmp_Compare_int Tryd.cmpI76 x y W
open Go.RowKit Go.Maps Go.Sort Go.Shelf in
theorem Tryd.sortf56 (blk cap : Nat) (d : Array (Int × Int)) (w : World) (hH : HoldsK (fun x : Int × Int => [.int .i64 x.1, .int .i64 x.2]) 2 w blk 0 d) (hblk : blk < w.heap.size) (hsz : d.size < 4611686018427387904) :
    Calls Tryd.prog 56 #[.slice (some ⟨blk, 0, none⟩) d.size cap, .func (.func 57) #[] #[]] w fun e w' => e = .returned (.tuple #[]) ∧ ∃ n os, w' = sortWorldK (fun x : Int × Int => [.int .i64 x.1, .int .i64 x.2]) 2 w blk 0 n (d.toList.mergeSort fun x y => decide (x.1 < y.1 ∨ (x.1 = y.1 ∧ x.2 ≤ y.2))).toArray os := by
  rw [← Tryd.le57]
  exact AnyQ.slices_SortFunc_total Tryd.sortF56 2 Tryd.agg72 Tryd.siz72 (fun x : Int × Int => [.int .i64 x.1, .int .i64 x.2]) (fun _ => rfl) (fun x v hv => by simp at hv; rcases hv with rfl | rfl <;> rfl) _ Tryd.swo57 57 #[] blk 0 cap d w (enters_of Tryd.func57 (by kernel_rfl) rfl) (fun _ _ _ _ x y => Tryd.bef57 Tryd.cmp57 x y _) hH hblk hsz Tryd.tot57
open Go.RowKit Go.Maps Go.Sort Go.Shelf in
theorem Tryd.sortn56 (cap : Nat) (w : World) : Calls Tryd.prog 56 #[.slice none 0 cap, .func (.func 57) #[] #[]] w fun e w' => e = .returned (.tuple #[]) ∧ w' = w := AnyF.slices_SortFunc_none { Tryd.sortF56 with } none cap _ w
end Go.Proofs
