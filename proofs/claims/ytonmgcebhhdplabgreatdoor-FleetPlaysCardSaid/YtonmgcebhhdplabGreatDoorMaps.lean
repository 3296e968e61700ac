/-
 DERIVED: THE SHELF's CONTRACTS AT THIS DUMP, IN PLAIN WORDS (tools/lay-plain.mjs out of 'TryzMaps.lean', which tools/lay-shelf.mjs wrote): THE SAME DECLARATIONS UNDER THE SAME NAMES: 'import', 'namespace', 'open', 'def', 'theorem' AND NOTHING ELSE: no command of the shelf's: FOR A HAND-IN. Each laying: the table of numbers ('.._ren') and one theorem, a field a fact of the dump's own or the kernel's comparison; each contract: ONE APPLICATION.
-/
import Derived.Shelf.SlSortCmp.NoneTotal
import Derived.Shelf.SlicesG.Cmp
import Derived.StillTailTactics
import Derived.WalkKit
import Derived.Sort.Grow
import Derived.Sort.LotA
import Derived.Lib.Small
import Derived.Ground.SlsfProg
import Derived.Ground.SlgcProg
import Derived.WalkKit
import Derived.Deep.RegionWith
import Derived.BigRegion
import Derived.Shelf.SlIterI.Nil
import Derived.Shelf.SlIterI.Sorted
import Derived.Shelf.SlMaps.Clone
import Derived.Shelf.SortM.Plain
import Derived.Shelf.SortM.SortNone
import Derived.Ground.GgzProg
import Derived.Ground.SlgmProg
import Derived.Ground.SlmcProg
import Derived.Test.YtonmgcebhhdplabGreatDoorProg
namespace Go.Proofs
open Go.Shelf
def Tryz.clone32_ren : Go.Shelf.Ren := ⟨fun | 5 => 32 | 7 => 61 | n => n, fun | 23 => 73 | 25 => 3 | 3 => 49 | 4 => 4 | 20 => 20 | n => n, fun | n => n⟩
theorem Tryz.clone32 : Go.Proofs.SlLaysW.n5 Tryz.prog Tryz.clone32_ren := {
 mixed := by kernel_rfl
 f5 := ⟨Tryz.f32.name, by decide, Tryz.func32.trans (congrArg some (by kernel_rfl))⟩
 f7 := Tryz.func61.trans (congrArg some (by kernel_rfl))
 t4 := Tryz.underlying4
 a4 := Tryz.isAgg4
 z4 := Tryz.sizeOf4
 v4 := Tryz.zeroValue4
 t20 := Tryz.underlying20
 a20 := Tryz.isAgg20
 z20 := Tryz.sizeOf20
 v20 := Tryz.zeroValue20
 t23 := Tryz.underlying73
 a23 := Tryz.isAgg73
 z23 := Tryz.sizeOf73
 v23 := Tryz.zeroValue73 }
def Tryz.clone33_ren : Go.Shelf.Ren := ⟨fun | 5 => 33 | 7 => 61 | n => n, fun | 23 => 74 | 25 => 89 | 3 => 31 | 4 => 4 | 20 => 20 | n => n, fun | n => n⟩
theorem Tryz.clone33 : Go.Proofs.SlLaysW.n5 Tryz.prog Tryz.clone33_ren := {
 mixed := by kernel_rfl
 f5 := ⟨Tryz.f33.name, by decide, Tryz.func33.trans (congrArg some (by kernel_rfl))⟩
 f7 := Tryz.func61.trans (congrArg some (by kernel_rfl))
 t4 := Tryz.underlying4
 a4 := Tryz.isAgg4
 z4 := Tryz.sizeOf4
 v4 := Tryz.zeroValue4
 t20 := Tryz.underlying20
 a20 := Tryz.isAgg20
 z20 := Tryz.sizeOf20
 v20 := Tryz.zeroValue20
 t23 := Tryz.underlying74
 a23 := Tryz.isAgg74
 z23 := Tryz.sizeOf74
 v23 := Tryz.zeroValue74 }
def Tryz.keys47_ren : Go.Shelf.Ren := ⟨fun | 7 => 47 | 10 => 68 | n => n, fun | 23 => 73 | 26 => 3 | 3 => 49 | 28 => 66 | 0 => 0 | 27 => 65 | 33 => 101 | 4 => 4 | n => n, fun | n => n⟩
theorem Tryz.keys47 : Go.Proofs.SlLaysZI.n7 Tryz.prog Tryz.keys47_ren := {
 mixed := by kernel_rfl
 f7 := ⟨Tryz.f47.name, by decide, Tryz.func47.trans (congrArg some (by kernel_rfl))⟩
 f10 := ⟨Tryz.f68.name, by decide, Tryz.func68.trans (congrArg some (by kernel_rfl))⟩
 t0 := Tryz.underlying0
 a0 := Tryz.isAgg0
 z0 := Tryz.sizeOf0
 v0 := Tryz.zeroValue0
 t4 := Tryz.underlying4
 a4 := Tryz.isAgg4
 z4 := Tryz.sizeOf4
 v4 := Tryz.zeroValue4
 t23 := Tryz.underlying73
 a23 := Tryz.isAgg73
 z23 := Tryz.sizeOf73
 v23 := Tryz.zeroValue73
 t26 := Tryz.underlying3
 a26 := Tryz.isAgg3
 z26 := Tryz.sizeOf3
 v26 := Tryz.zeroValue3
 t27 := Tryz.underlying65
 a27 := Tryz.isAgg65
 z27 := Tryz.sizeOf65
 v27 := Tryz.zeroValue65
 t28 := Tryz.underlying66
 a28 := Tryz.isAgg66
 z28 := Tryz.sizeOf66
 v28 := Tryz.zeroValue66
 t33 := Tryz.underlying101
 a33 := Tryz.isAgg101
 z33 := Tryz.sizeOf101
 v33 := Tryz.zeroValue101 }
def Tryz.sorted46_ren : Go.Shelf.Ren := ⟨fun | 6 => 46 | 8 => 66 | 9 => 67 | 11 => 80 | 13 => 70 | 12 => 81 | 23 => 90 | 24 => 91 | 14 => 96 | 15 => 97 | 16 => 98 | 17 => 99 | 18 => 100 | 19 => 101 | 20 => 102 | 21 => 103 | 22 => 104 | 25 => 111 | 26 => 106 | 27 => 107 | 28 => 112 | 29 => 113 | 30 => 92 | 31 => 116 | n => n, fun | 26 => 3 | 28 => 66 | 24 => 31 | 0 => 0 | 3 => 3 | 37 => 134 | 48 => 154 | 50 => 156 | 4 => 4 | 40 => 148 | 39 => 147 | 45 => 142 | 5 => 5 | 9 => 9 | 51 => 166 | 55 => 170 | 57 => 174 | 58 => 175 | 33 => 101 | n => n, fun | n => n⟩
theorem Tryz.sorted46 : Go.Proofs.SlLaysZI.n6 Tryz.prog Tryz.sorted46_ren := {
 mixed := by kernel_rfl
 f6 := ⟨Tryz.f46.name, by decide, Tryz.func46.trans (congrArg some (by kernel_rfl))⟩
 f8 := ⟨Tryz.f66.name, by decide, Tryz.func66.trans (congrArg some (by kernel_rfl))⟩
 f11 := ⟨Tryz.f80.name, by decide, Tryz.func80.trans (congrArg some (by kernel_rfl))⟩
 t0 := Tryz.underlying0
 a0 := Tryz.isAgg0
 z0 := Tryz.sizeOf0
 v0 := Tryz.zeroValue0
 t24 := Tryz.underlying31
 a24 := Tryz.isAgg31
 z24 := Tryz.sizeOf31
 v24 := Tryz.zeroValue31
 t26 := Tryz.underlying3
 a26 := Tryz.isAgg3
 z26 := Tryz.sizeOf3
 v26 := Tryz.zeroValue3
 t28 := Tryz.underlying66
 a28 := Tryz.isAgg66
 z28 := Tryz.sizeOf66
 v28 := Tryz.zeroValue66
 i26 := by kernel_rfl }
def Tryz.sort67_ren : Go.Shelf.Ren := ⟨fun | 5 => 67 | 8 => 70 | 7 => 81 | 19 => 90 | 20 => 91 | 10 => 96 | 11 => 97 | 12 => 98 | 13 => 99 | 14 => 100 | 15 => 101 | 16 => 102 | 17 => 103 | 18 => 104 | 30 => 111 | 31 => 106 | 32 => 107 | 33 => 112 | 34 => 113 | 35 => 92 | 40 => 116 | n => n, fun | 23 => 31 | 25 => 3 | 3 => 3 | 32 => 134 | 22 => 31 | 0 => 0 | 44 => 154 | 46 => 156 | 4 => 4 | 36 => 148 | 35 => 147 | 41 => 142 | 5 => 5 | 9 => 9 | 53 => 166 | 57 => 170 | 63 => 174 | 64 => 175 | n => n, fun | n => n⟩
theorem Tryz.sort67 : Go.Proofs.SlLaysM.n5 Tryz.prog Tryz.sort67_ren := {
 mixed := by kernel_rfl
 f5 := ⟨Tryz.f67.name, by decide, Tryz.func67.trans (congrArg some (by kernel_rfl))⟩
 f7 := ⟨Tryz.f81.name, by decide, Tryz.func81.trans (congrArg some (by kernel_rfl))⟩
 f8 := Tryz.func70.trans (congrArg some (by kernel_rfl))
 f10 := ⟨Tryz.f96.name, by decide, Tryz.func96.trans (congrArg some (by kernel_rfl))⟩
 f11 := ⟨Tryz.f97.name, by decide, Tryz.func97.trans (congrArg some (by kernel_rfl))⟩
 f12 := ⟨Tryz.f98.name, by decide, Tryz.func98.trans (congrArg some (by kernel_rfl))⟩
 f13 := ⟨Tryz.f99.name, by decide, Tryz.func99.trans (congrArg some (by kernel_rfl))⟩
 f14 := ⟨Tryz.f100.name, by decide, Tryz.func100.trans (congrArg some (by kernel_rfl))⟩
 f15 := ⟨Tryz.f101.name, by decide, Tryz.func101.trans (congrArg some (by kernel_rfl))⟩
 f16 := ⟨Tryz.f102.name, by decide, Tryz.func102.trans (congrArg some (by kernel_rfl))⟩
 f17 := ⟨Tryz.f103.name, by decide, Tryz.func103.trans (congrArg some (by kernel_rfl))⟩
 f18 := ⟨Tryz.f104.name, by decide, Tryz.func104.trans (congrArg some (by kernel_rfl))⟩
 f19 := Tryz.func90.trans (congrArg some (by kernel_rfl))
 f20 := Tryz.func91.trans (congrArg some (by kernel_rfl))
 f30 := ⟨Tryz.f111.name, by decide, Tryz.func111.trans (congrArg some (by kernel_rfl))⟩
 f31 := Tryz.func106.trans (congrArg some (by kernel_rfl))
 f32 := Tryz.func107.trans (congrArg some (by kernel_rfl))
 f33 := ⟨Tryz.f112.name, by decide, Tryz.func112.trans (congrArg some (by kernel_rfl))⟩
 f34 := ⟨Tryz.f113.name, by decide, Tryz.func113.trans (congrArg some (by kernel_rfl))⟩
 f35 := ⟨Tryz.f92.name, by decide, Tryz.func92.trans (congrArg some (by kernel_rfl))⟩
 f40 := ⟨Tryz.f116.name, by decide, Tryz.func116.trans (congrArg some (by kernel_rfl))⟩
 t0 := Tryz.underlying0
 a0 := Tryz.isAgg0
 z0 := Tryz.sizeOf0
 v0 := Tryz.zeroValue0
 t3 := Tryz.underlying3
 a3 := Tryz.isAgg3
 z3 := Tryz.sizeOf3
 v3 := Tryz.zeroValue3
 t4 := Tryz.underlying4
 a4 := Tryz.isAgg4
 z4 := Tryz.sizeOf4
 v4 := Tryz.zeroValue4
 t5 := Tryz.underlying5
 a5 := Tryz.isAgg5
 z5 := Tryz.sizeOf5
 v5 := Tryz.zeroValue5
 t9 := Tryz.underlying9
 a9 := Tryz.isAgg9
 z9 := Tryz.sizeOf9
 v9 := Tryz.zeroValue9
 t22 := Tryz.underlying31
 a22 := Tryz.isAgg31
 z22 := Tryz.sizeOf31
 v22 := Tryz.zeroValue31
 t23 := Tryz.underlying31
 a23 := Tryz.isAgg31
 z23 := Tryz.sizeOf31
 v23 := Tryz.zeroValue31
 t25 := Tryz.underlying3
 a25 := Tryz.isAgg3
 z25 := Tryz.sizeOf3
 v25 := Tryz.zeroValue3
 t32 := Tryz.underlying134
 a32 := Tryz.isAgg134
 z32 := Tryz.sizeOf134
 v32 := Tryz.zeroValue134
 t35 := Tryz.underlying147
 a35 := Tryz.isAgg147
 z35 := Tryz.sizeOf147
 v35 := Tryz.zeroValue147
 t36 := Tryz.underlying148
 a36 := Tryz.isAgg148
 z36 := Tryz.sizeOf148
 v36 := Tryz.zeroValue148
 t41 := Tryz.underlying142
 a41 := Tryz.isAgg142
 z41 := Tryz.sizeOf142
 v41 := Tryz.zeroValue142
 t44 := Tryz.underlying154
 a44 := Tryz.isAgg154
 z44 := Tryz.sizeOf154
 v44 := Tryz.zeroValue154
 t46 := Tryz.underlying156
 a46 := Tryz.isAgg156
 z46 := Tryz.sizeOf156
 v46 := Tryz.zeroValue156
 t53 := Tryz.underlying166
 a53 := Tryz.isAgg166
 z53 := Tryz.sizeOf166
 v53 := Tryz.zeroValue166
 t57 := Tryz.underlying170
 a57 := Tryz.isAgg170
 z57 := Tryz.sizeOf170
 v57 := Tryz.zeroValue170
 t63 := Tryz.underlying174
 a63 := Tryz.isAgg174
 z63 := Tryz.sizeOf174
 v63 := Tryz.zeroValue174
 t64 := Tryz.underlying175
 a64 := Tryz.isAgg175
 z64 := Tryz.sizeOf175
 v64 := Tryz.zeroValue175 }
open Go.RowKit Go.Maps Go.Sort Go.Shelf in
theorem Tryz.sorts46 (m : Nat) : AnyZI.SortsIn Tryz.prog Tryz.sorted46_ren Fence.wide m :=
  ⟨fun blk off cap ss W hH hblk hsz => callsIn_wide.2 (AnyM.slices_Sort_int Tryz.sort67 blk off cap ss W hH hblk hsz),
   fun p cap W => callsIn_wide.2 (AnyM.slices_Sort_int_none Tryz.sort67 p cap W)⟩
open Go.RowKit Go.Maps Go.Sort Go.Shelf in
theorem Tryz.enter67 : ∀ args w, (callFunc 67 args).run Tryz.prog w = .ok (.enter 67 args) w := enters_of Tryz.func67 (by kernel_rfl) rfl
open Go.RowKit Go.Maps Go.Sort Go.Shelf in
theorem Tryz.enter68 : ∀ args w, (callFunc 68 args).run Tryz.prog w = .ok (.enter 68 args) w := enters_of Tryz.func68 (by kernel_rfl) rfl
open Go.RowKit Go.Maps Go.Shelf in set_option maxRecDepth 8000 in set_option maxHeartbeats 2000000 in
theorem Tryz.copy12 (hc1 : ∀ (b : Nat) (es : Array MapEntry) (c : Nat) (w : World), w.heap[b]? = some (.map es c) → Calls Tryz.prog 32 #[.map (some b)] w fun e w' => e = .returned (.map (some w.heap.size)) ∧ w' = w.alloc (.map es c))
    (hc2 : ∀ (b : Nat) (es : Array MapEntry) (c : Nat) (w : World), w.heap[b]? = some (.map es c) → Calls Tryz.prog 33 #[.map (some b)] w fun e w' => e = .returned (.map (some w.heap.size)) ∧ w' = w.alloc (.map es c))
    (b m1 m2 : Nat) (es1 es2 : Array MapEntry) (c1 c2 : Nat) (w : World) (h0 : w.cell? ⟨b, 0, none⟩ = some (.map (some m1))) (h1 : w.cell? ⟨b, 1, none⟩ = some (.map (some m2))) (hm1 : w.heap[m1]? = some (.map es1 c1)) (hm2 : w.heap[m2]? = some (.map es2 c2)) :
    Calls Tryz.prog 12 #[.pointer (some ⟨b, 0, none⟩)] w fun e w' => e = .returned (.pointer (some ⟨w.heap.size + 2, 0, none⟩)) ∧ w' = ((w.drew.alloc (.map es1 c1)).alloc (.map es2 c2)).alloc (.cells #[.map (some w.heap.size), .map (some (w.heap.size + 1))] 76) := by
  have hbs : b < w.heap.size := by
    rcases Nat.lt_or_ge b w.heap.size with h | h
    · exact h
    · simp [World.cell?, Array.getElem?_eq_none h] at h0
  have hms : m2 < w.heap.size := (Array.getElem?_eq_some_iff.1 hm2).1
  have g0 : w.drew.cell? ⟨b, 0, none⟩ = some (.map (some m1)) := h0
  have g1 : w.drew.cell? ⟨b, 1, none⟩ = some (.map (some m2)) := h1
  have k1 : ∀ o : Obj, (w.drew.alloc o).cell? ⟨b, 1, none⟩ = some (.map (some m2)) := by
    intro o
    have : (w.drew.alloc o).heap[b]? = w.heap[b]? := by
      show (w.heap.push o)[b]? = _
      rw [Array.getElem?_push_lt hbs, Array.getElem?_eq_getElem hbs]
    simp only [World.cell?, this]
    exact h1
  have k2 : ∀ o : Obj, (w.drew.alloc o).heap[m2]? = some (.map es2 c2) := by
    intro o
    show (w.heap.push o)[m2]? = _
    rw [Array.getElem?_push_lt hms, ← hm2, Array.getElem?_eq_getElem hms]
  go_enter Tryz.func12, Tryz.ntmps12
  go_wp2
  go_region_with (first
    | (go_at_call 32; refine (hc1 _ _ _ _ (show w.drew.heap[m1]? = _ from hm1)).mono ?_; rintro e w' ⟨rfl, rfl⟩)
    | (go_at_call 33; refine (hc2 _ _ _ _ (k2 _)).mono ?_; rintro e w' ⟨rfl, rfl⟩))
  all_goals
    go_wp2
    go_ret
    exact ⟨rfl, rfl⟩
open Go.RowKit Go.Maps Go.Shelf in
theorem Tryz.copy12c : ∀ (b m1 m2 : Nat) (es1 es2 : Array MapEntry) (c1 c2 : Nat) (w : World), w.cell? ⟨b, 0, none⟩ = some (.map (some m1)) → w.cell? ⟨b, 1, none⟩ = some (.map (some m2)) → w.heap[m1]? = some (.map es1 c1) → w.heap[m2]? = some (.map es2 c2) →
      Calls Tryz.prog 12 #[.pointer (some ⟨b, 0, none⟩)] w fun e w' => e = .returned (.pointer (some ⟨w.heap.size + 2, 0, none⟩)) ∧ w' = ((w.drew.alloc (.map es1 c1)).alloc (.map es2 c2)).alloc (.cells #[.map (some w.heap.size), .map (some (w.heap.size + 1))] 76) :=
  Tryz.copy12 (fun b es c w h => AnyW.maps_Clone Tryz.clone32 b es c w h) (fun b es c w h => AnyW.maps_Clone Tryz.clone33 b es c w h)
def Tryz.sortF48_ren : Go.Shelf.Ren := ⟨fun | 6 => 48 | 15 => 70 | 14 => 69 | 28 => 90 | 29 => 91 | 20 => 82 | 21 => 83 | 22 => 84 | 23 => 85 | 24 => 86 | 25 => 87 | 26 => 88 | 27 => 89 | 46 => 105 | 47 => 106 | 48 => 107 | 49 => 108 | 50 => 109 | 57 => 114 | n => n, fun | 22 => 68 | 24 => 62 | 25 => 106 | 3 => 3 | 39 => 134 | 0 => 0 | 53 => 154 | 55 => 156 | 4 => 4 | 46 => 148 | 45 => 147 | 50 => 142 | 5 => 5 | 9 => 9 | 66 => 166 | 70 => 170 | 76 => 174 | 77 => 175 | n => n, fun | n => n⟩
theorem Tryz.sortF48 : Go.Proofs.SlLaysF0.n6 Tryz.prog Tryz.sortF48_ren := {
 mixed := by kernel_rfl
 f6 := ⟨Tryz.f48.name, by decide, Tryz.func48.trans (congrArg some (by kernel_rfl))⟩
 f14 := ⟨Tryz.f69.name, by decide, Tryz.func69.trans (congrArg some (by kernel_rfl))⟩
 f15 := Tryz.func70.trans (congrArg some (by kernel_rfl))
 f20 := ⟨Tryz.f82.name, by decide, Tryz.func82.trans (congrArg some (by kernel_rfl))⟩
 f21 := ⟨Tryz.f83.name, by decide, Tryz.func83.trans (congrArg some (by kernel_rfl))⟩
 f22 := ⟨Tryz.f84.name, by decide, Tryz.func84.trans (congrArg some (by kernel_rfl))⟩
 f23 := ⟨Tryz.f85.name, by decide, Tryz.func85.trans (congrArg some (by kernel_rfl))⟩
 f24 := ⟨Tryz.f86.name, by decide, Tryz.func86.trans (congrArg some (by kernel_rfl))⟩
 f25 := ⟨Tryz.f87.name, by decide, Tryz.func87.trans (congrArg some (by kernel_rfl))⟩
 f26 := ⟨Tryz.f88.name, by decide, Tryz.func88.trans (congrArg some (by kernel_rfl))⟩
 f27 := ⟨Tryz.f89.name, by decide, Tryz.func89.trans (congrArg some (by kernel_rfl))⟩
 f28 := Tryz.func90.trans (congrArg some (by kernel_rfl))
 f29 := Tryz.func91.trans (congrArg some (by kernel_rfl))
 f46 := ⟨Tryz.f105.name, by decide, Tryz.func105.trans (congrArg some (by kernel_rfl))⟩
 f47 := Tryz.func106.trans (congrArg some (by kernel_rfl))
 f48 := Tryz.func107.trans (congrArg some (by kernel_rfl))
 f49 := ⟨Tryz.f108.name, by decide, Tryz.func108.trans (congrArg some (by kernel_rfl))⟩
 f50 := ⟨Tryz.f109.name, by decide, Tryz.func109.trans (congrArg some (by kernel_rfl))⟩
 f57 := ⟨Tryz.f114.name, by decide, Tryz.func114.trans (congrArg some (by kernel_rfl))⟩
 t0 := Tryz.underlying0
 a0 := Tryz.isAgg0
 z0 := Tryz.sizeOf0
 v0 := Tryz.zeroValue0
 t3 := Tryz.underlying3
 a3 := Tryz.isAgg3
 z3 := Tryz.sizeOf3
 v3 := Tryz.zeroValue3
 t4 := Tryz.underlying4
 a4 := Tryz.isAgg4
 z4 := Tryz.sizeOf4
 v4 := Tryz.zeroValue4
 t5 := Tryz.underlying5
 a5 := Tryz.isAgg5
 z5 := Tryz.sizeOf5
 v5 := Tryz.zeroValue5
 t9 := Tryz.underlying9
 a9 := Tryz.isAgg9
 z9 := Tryz.sizeOf9
 v9 := Tryz.zeroValue9
 t22 := Tryz.underlying68
 a22 := Tryz.isAgg68
 z22 := Tryz.sizeOf68
 v22 := Tryz.zeroValue68
 t25 := Tryz.underlying106
 a25 := Tryz.isAgg106
 z25 := Tryz.sizeOf106
 v25 := Tryz.zeroValue106
 t39 := Tryz.underlying134
 a39 := Tryz.isAgg134
 z39 := Tryz.sizeOf134
 v39 := Tryz.zeroValue134
 t45 := Tryz.underlying147
 a45 := Tryz.isAgg147
 z45 := Tryz.sizeOf147
 v45 := Tryz.zeroValue147
 t46 := Tryz.underlying148
 a46 := Tryz.isAgg148
 z46 := Tryz.sizeOf148
 v46 := Tryz.zeroValue148
 t50 := Tryz.underlying142
 a50 := Tryz.isAgg142
 z50 := Tryz.sizeOf142
 v50 := Tryz.zeroValue142
 t53 := Tryz.underlying154
 a53 := Tryz.isAgg154
 z53 := Tryz.sizeOf154
 v53 := Tryz.zeroValue154
 t55 := Tryz.underlying156
 a55 := Tryz.isAgg156
 z55 := Tryz.sizeOf156
 v55 := Tryz.zeroValue156
 t66 := Tryz.underlying166
 a66 := Tryz.isAgg166
 z66 := Tryz.sizeOf166
 v66 := Tryz.zeroValue166
 t70 := Tryz.underlying170
 a70 := Tryz.isAgg170
 z70 := Tryz.sizeOf170
 v70 := Tryz.zeroValue170
 t76 := Tryz.underlying174
 a76 := Tryz.isAgg174
 z76 := Tryz.sizeOf174
 v76 := Tryz.zeroValue174
 t77 := Tryz.underlying175
 a77 := Tryz.isAgg175
 z77 := Tryz.sizeOf175
 v77 := Tryz.zeroValue175 }
def Tryz.cmpI72_ren : Go.Shelf.Ren := ⟨fun | 5 => 72 | 7 => 92 | n => n, fun | 22 => 3 | 3 => 3 | 4 => 4 | n => n, fun | n => n⟩
theorem Tryz.cmpI72 : Go.Proofs.SlLaysC2.n5 Tryz.prog Tryz.cmpI72_ren := {
 mixed := by kernel_rfl
 f5 := ⟨Tryz.f72.name, by decide, Tryz.func72.trans (congrArg some (by kernel_rfl))⟩
 f7 := ⟨Tryz.f92.name, by decide, Tryz.func92.trans (congrArg some (by kernel_rfl))⟩
 t3 := Tryz.underlying3
 a3 := Tryz.isAgg3
 z3 := Tryz.sizeOf3
 v3 := Tryz.zeroValue3
 t4 := Tryz.underlying4
 a4 := Tryz.isAgg4
 z4 := Tryz.sizeOf4
 v4 := Tryz.zeroValue4
 t22 := Tryz.underlying3
 a22 := Tryz.isAgg3
 z22 := Tryz.sizeOf3
 v22 := Tryz.zeroValue3 }
open Go.RowKit Go.Maps Go.Sort Go.Shelf in set_option maxRecDepth 8000 in set_option maxHeartbeats 1000000 in
theorem Tryz.or71 (a b : Int) (blk : Nat) (W : World) (h0 : W.cell? ⟨blk, 0, none⟩ = some (.int .i64 a)) (h1 : W.cell? ⟨blk, 1, none⟩ = some (.int .i64 b)) :
    Calls Tryz.prog 71 #[.slice (some ⟨blk, 0, none⟩) 2 2] W fun e w' => e = .returned (.int .i64 (if a = 0 then b else a)) ∧ w' = W := by
  by_cases ha : a = 0
  · subst ha
    by_cases hb : b = 0
    · subst hb
      go_enter Tryz.func71, Tryz.ntmps71
      go_wp2
      refine wp_loop_rounds 3 ?_
      rw [rounds_succ]
      go_wp2
      rw [rounds_succ]
      go_wp2
      rw [rounds_succ]
      go_wp2
      go_ret
      exact ⟨rfl, rfl⟩
    · go_enter Tryz.func71, Tryz.ntmps71
      go_wp2
      refine wp_loop_rounds 3 ?_
      rw [rounds_succ]
      go_wp2
      rw [rounds_succ]
      go_wp2
      go_ret
      exact ⟨rfl, rfl⟩
  · go_enter Tryz.func71, Tryz.ntmps71
    go_wp2
    refine wp_loop_rounds 3 ?_
    rw [rounds_succ]
    go_wp2
    go_ret
    exact ⟨rfl, rfl⟩
open Go.RowKit Go.Maps Go.Sort Go.Shelf in set_option maxRecDepth 8000 in set_option maxHeartbeats 1000000 in
theorem Tryz.bef49 (hcon : ∀ x y W, Calls Tryz.prog 72 #[.int .i64 x, .int .i64 y] W fun e w' => e = .returned (.int .i64 (Lib.compareInt x y)) ∧ w' = W) (x y : Int × Int) (W : World) : Calls Tryz.prog 49 #[.agg #[.int .i64 x.1, .int .i64 x.2], .agg #[.int .i64 y.1, .int .i64 y.2]] W fun e w' =>
    e = .returned (.int .i64 (if Lib.compareInt x.1 y.1 = 0 then Lib.compareInt x.2 y.2 else Lib.compareInt x.1 y.1)) ∧ ∃ q os', w' = grow (W.drewN q) os' := by
  have hcon1 := hcon x.1 y.1
  have hcon2 := hcon x.2 y.2
  generalize Lib.compareInt x.1 y.1 = r1 at hcon1 ⊢
  generalize Lib.compareInt x.2 y.2 = r2 at hcon2 ⊢
  go_enter Tryz.func49, Tryz.ntmps49
  go_wp2
  have h0 : ((W.alloc (Obj.cells #[.int .i64 x.1, .int .i64 x.2] 62)).alloc (Obj.cells #[.int .i64 y.1, .int .i64 y.2] 62)).cell? ⟨W.heap.size, 0, none⟩ = some (.int .i64 x.1) := by simp
  have h1 : ((W.alloc (Obj.cells #[.int .i64 x.1, .int .i64 x.2] 62)).alloc (Obj.cells #[.int .i64 y.1, .int .i64 y.2] 62)).cell? ⟨W.heap.size, 1, none⟩ = some (.int .i64 x.2) := by simp
  have h2 : ((W.alloc (Obj.cells #[.int .i64 x.1, .int .i64 x.2] 62)).alloc (Obj.cells #[.int .i64 y.1, .int .i64 y.2] 62)).cell? ⟨W.heap.size + 1, 0, none⟩ = some (.int .i64 y.1) := by simp
  have h3 : ((W.alloc (Obj.cells #[.int .i64 x.1, .int .i64 x.2] 62)).alloc (Obj.cells #[.int .i64 y.1, .int .i64 y.2] 62)).cell? ⟨W.heap.size + 1, 1, none⟩ = some (.int .i64 y.2) := by simp
  generalize hW2 : (W.alloc (Obj.cells #[.int .i64 x.1, .int .i64 x.2] 62)).alloc (Obj.cells #[.int .i64 y.1, .int .i64 y.2] 62) = W2 at h0 h1 h2 h3 ⊢
  refine wp_region_still_tail 10 (by kernel_rfl) (by kernel_rfl) ?_
  simp only [List.take_succ_cons, List.take_zero, List.drop_succ_cons, List.drop_zero]
  change wpStill _ _ (World.drew W2) (fun a' => wpList _ _ _ _ a' (World.drew W2)) _ _
  replace h0 : (World.drew W2).cell? _ = _ := h0
  replace h1 : (World.drew W2).cell? _ = _ := h1
  replace h2 : (World.drew W2).cell? _ = _ := h2
  replace h3 : (World.drew W2).cell? _ = _ := h3
  generalize hW3 : World.drew W2 = W3 at h0 h1 h2 h3 ⊢
  still_step
  still_step
  still_step
  still_step
  still_call (hcon1 _)
  still_step
  still_step
  still_step
  still_step
  still_call (hcon2 _)
  refine wpStill_nil ?_
  go_wp2_with (go_at_call 71; refine (Tryz.or71 r1 r2 _ _ (by simp) (by simp)).mono ?_; rintro e w' ⟨rfl, rfl⟩)
  all_goals
    go_ret
    subst hW3 hW2
    exact ⟨rfl, 1, _, by rw [alloc_eq_grow, alloc_eq_grow, alloc_eq_grow, drew_grow, drew_grow, grow_grow, grow_grow]; rfl⟩
open Go.RowKit Go.Maps Go.Sort Go.Shelf in
theorem Tryz.lt49 (x y : Int × Int) : ltOf (fun x y : Int × Int => if Lib.compareInt x.1 y.1 = 0 then Lib.compareInt x.2 y.2 else Lib.compareInt x.1 y.1) x y = decide (x.1 < y.1 ∨ (x.1 = y.1 ∧ x.2 < y.2)) := by
 unfold ltOf Lib.compareInt
 by_cases h1 : x.1 < y.1
 ·simp [h1]
 ·by_cases h2 : y.1 < x.1
  ·simp [h1, h2]; omega
  ·have h3 : x.1 = y.1 := by omega
   by_cases h4 : x.2 < y.2
   ·simp [h3, h4]
   ·by_cases h5 : y.2 < x.2 <;> simp [h3, h4, h5]
open Go.RowKit Go.Maps Go.Sort Go.Shelf in
theorem Tryz.swo49 : SWO (ltOf (fun x y : Int × Int => if Lib.compareInt x.1 y.1 = 0 then Lib.compareInt x.2 y.2 else Lib.compareInt x.1 y.1)) := {
 irrefl x := by rw [Tryz.lt49]; simp
 trans x y z h1 h2 := by rw [Tryz.lt49] at *; simp at *; omega
 ntrans x y z h1 h2 := by rw [Tryz.lt49] at *; simp at *; omega }
open Go.RowKit Go.Maps Go.Sort Go.Shelf in
theorem Tryz.le49 : (fun x y : Int × Int => !(ltOf (fun x y : Int × Int => if Lib.compareInt x.1 y.1 = 0 then Lib.compareInt x.2 y.2 else Lib.compareInt x.1 y.1)) y x) = fun x y => decide (x.1 < y.1 ∨ (x.1 = y.1 ∧ x.2 ≤ y.2)) := by
 funext x y
 rw [Tryz.lt49]
 rw [← decide_not]
 congr 1
 simp only [eq_iff_iff]
 omega
open Go.RowKit Go.Maps Go.Sort Go.Shelf in
theorem Tryz.tot49 (x y : Int × Int) (h1 : ltOf (fun x y : Int × Int => if Lib.compareInt x.1 y.1 = 0 then Lib.compareInt x.2 y.2 else Lib.compareInt x.1 y.1) x y = false) (h2 : ltOf (fun x y : Int × Int => if Lib.compareInt x.1 y.1 = 0 then Lib.compareInt x.2 y.2 else Lib.compareInt x.1 y.1) y x = false) : x = y := by
 rw [Tryz.lt49] at h1 h2
 simp at h1 h2
 exact Prod.ext (by omega) (by omega)
open Go.RowKit Go.Maps Go.Sort Go.Shelf in
theorem Tryz.agg62 (w : World) : (isAgg 62).run Tryz.prog w = .ok true w := by go_simp
open Go.RowKit Go.Maps Go.Sort Go.Shelf in
theorem Tryz.siz62 (w : World) : (Go.sizeOf 62).run Tryz.prog w = .ok 2 w := by go_simp
open Go.RowKit Go.Maps Go.Sort Go.Shelf in
theorem Tryz.cmp49 : ∀ x y W, Calls Tryz.prog 72 #[.int .i64 x, .int .i64 y] W fun e w' => e = .returned (.int .i64 (Lib.compareInt x y)) ∧ w' = W := fun x y W => AnyG.cmp_Compare_int Tryz.cmpI72 x y W
open Go.RowKit Go.Maps Go.Sort Go.Shelf in
theorem Tryz.sortf48 (blk cap : Nat) (d : Array (Int × Int)) (w : World) (hH : HoldsK (fun x : Int × Int => [.int .i64 x.1, .int .i64 x.2]) 2 w blk 0 d) (hblk : blk < w.heap.size) (hsz : d.size < 4611686018427387904) :
    Calls Tryz.prog 48 #[.slice (some ⟨blk, 0, none⟩) d.size cap, .func (.func 49) #[] #[]] w fun e w' => e = .returned (.tuple #[]) ∧ ∃ n os, w' = sortWorldK (fun x : Int × Int => [.int .i64 x.1, .int .i64 x.2]) 2 w blk 0 n (d.toList.mergeSort fun x y => decide (x.1 < y.1 ∨ (x.1 = y.1 ∧ x.2 ≤ y.2))).toArray os := by
  rw [← Tryz.le49]
  exact AnyQ.slices_SortFunc_total Tryz.sortF48 2 Tryz.agg62 Tryz.siz62 (fun x : Int × Int => [.int .i64 x.1, .int .i64 x.2]) (fun _ => rfl) (fun x v hv => by simp at hv; rcases hv with rfl | rfl <;> rfl) _ Tryz.swo49 49 #[] blk 0 cap d w (enters_of Tryz.func49 (by kernel_rfl) rfl) (fun _ _ _ _ x y => Tryz.bef49 Tryz.cmp49 x y _) hH hblk hsz Tryz.tot49
open Go.RowKit Go.Maps Go.Sort Go.Shelf in
theorem Tryz.sortn48 (cap : Nat) (w : World) : Calls Tryz.prog 48 #[.slice none 0 cap, .func (.func 49) #[] #[]] w fun e w' => e = .returned (.tuple #[]) ∧ w' = w := AnyF.slices_SortFunc_none { Tryz.sortF48 with } none cap _ w
end Go.Proofs
