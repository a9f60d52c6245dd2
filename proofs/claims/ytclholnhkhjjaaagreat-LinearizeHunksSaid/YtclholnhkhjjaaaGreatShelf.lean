/-
 DERIVED: THE SHELF's CONTRACTS AT THIS DUMP, IN PLAIN WORDS (tools/lay-plain.mjs out of 'TryzShelf.lean', which tools/lay-shelf.mjs wrote): THE SAME DECLARATIONS UNDER THE SAME NAMES: 'import', 'namespace', 'open', 'def', 'theorem' AND NOTHING ELSE: no command of the shelf's: FOR A HAND-IN. Each laying: the table of numbers ('.._ren') and one theorem, a field a fact of the dump's own or the kernel's comparison; each contract: ONE APPLICATION.
-/
import Derived.Shelf.Small.Bits
import Derived.Shelf.Strconv.Itoa0
import Derived.Shelf.Sort.Plain
import Derived.Shelf.Slices.Equal
import Derived.Ground.Names2Prog
import Derived.Shelf.Slices.Clone
import Derived.Shelf.Slices.SearchI
import Derived.Shelf.Slices.Delete
import Derived.Shelf.Slices.Cells
import Derived.Shelf.Slices.In.SortNone
import Derived.Shelf.Slices.Empties
import Derived.Shelf.Slices.Empties2
import Derived.Ground.SlgnProg
import Derived.Shelf.SlicesE.Clone
import Derived.Ground.SlsfProg
import Derived.Shelf.SlSortCmp.Insertion
import Derived.Shelf.SlSortCmp.SiftDown1
import Derived.Shelf.SlSortCmp.HeapSort1
import Derived.Shelf.SlSortCmp.Insertion1
import Derived.Shelf.SlSortCmp.Median1
import Derived.Shelf.SlSortCmp.Pivot1
import Derived.Shelf.SlSortCmp.ReverseRange1
import Derived.Shelf.SlSortCmp.PartialInsertion1
import Derived.Shelf.SlSortCmp.PartitionEqual1
import Derived.Shelf.SlSortCmp.Partition1
import Derived.Shelf.SlSortCmp.Pdq1
import Derived.Shelf.SlSortCmp.Whole1
import Derived.Shelf.SlSortCmp.NoneTotal
import Derived.Test.YtclholnhkhjjaaaGreatProg
namespace Go.Proofs
open Go.Shelf
def Tryz.lays189_ren : Go.Shelf.Ren := ⟨fun | 189 => 148 | 125 => 91 | 257 => 153 | 128 => 117 | 129 => 118 | 294 => 154 | 295 => 155 | 296 => 156 | 297 => 157 | 298 => 158 | 299 => 159 | 216 => 160 | 300 => 161 | 301 => 162 | 328 => 163 | 329 => 138 | 330 => 139 | 331 => 164 | 332 => 165 | 215 => 143 | 343 => 166 | n => n, fun | 28 => 29 | 3 => 3 | 46 => 132 | 0 => 0 | 51 => 154 | 53 => 156 | 4 => 4 | 183 => 148 | 182 => 147 | 131 => 135 | 5 => 5 | 9 => 9 | 218 => 171 | 222 => 175 | 228 => 180 | 229 => 181 | n => n, fun | n => n⟩
theorem Tryz.lays189 : Go.Proofs.Lays.n189 Tryz.prog Tryz.lays189_ren := {
 mixed := by kernel_rfl
 f125 := Tryz.func91.trans (congrArg some (by kernel_rfl))
 f128 := Tryz.func117.trans (congrArg some (by kernel_rfl))
 f129 := Tryz.func118.trans (congrArg some (by kernel_rfl))
 f189 := Tryz.func148.trans (congrArg some (by kernel_rfl))
 f215 := Tryz.func143.trans (congrArg some (by kernel_rfl))
 f216 := Tryz.func160.trans (congrArg some (by kernel_rfl))
 f257 := Tryz.func153.trans (congrArg some (by kernel_rfl))
 f294 := Tryz.func154.trans (congrArg some (by kernel_rfl))
 f295 := Tryz.func155.trans (congrArg some (by kernel_rfl))
 f296 := Tryz.func156.trans (congrArg some (by kernel_rfl))
 f297 := Tryz.func157.trans (congrArg some (by kernel_rfl))
 f298 := Tryz.func158.trans (congrArg some (by kernel_rfl))
 f299 := Tryz.func159.trans (congrArg some (by kernel_rfl))
 f300 := Tryz.func161.trans (congrArg some (by kernel_rfl))
 f301 := Tryz.func162.trans (congrArg some (by kernel_rfl))
 f328 := Tryz.func163.trans (congrArg some (by kernel_rfl))
 f329 := Tryz.func138.trans (congrArg some (by kernel_rfl))
 f330 := Tryz.func139.trans (congrArg some (by kernel_rfl))
 f331 := Tryz.func164.trans (congrArg some (by kernel_rfl))
 f332 := Tryz.func165.trans (congrArg some (by kernel_rfl))
 f343 := Tryz.func166.trans (congrArg some (by kernel_rfl))
 t0 := Tryz.underlying0
 a0 := Tryz.isAgg0
 z0 := Tryz.sizeOf0
 v0 := Tryz.zeroValue0
 t3 := Tryz.underlying3
 a3 := Tryz.isAgg3
 z3 := Tryz.sizeOf3
 v3 := Tryz.zeroValue3
 t4 := Tryz.underlying4
 a4 := Tryz.isAgg4
 z4 := Tryz.sizeOf4
 v4 := Tryz.zeroValue4
 t5 := Tryz.underlying5
 a5 := Tryz.isAgg5
 z5 := Tryz.sizeOf5
 v5 := Tryz.zeroValue5
 t9 := Tryz.underlying9
 a9 := Tryz.isAgg9
 z9 := Tryz.sizeOf9
 v9 := Tryz.zeroValue9
 t28 := Tryz.underlying29
 a28 := Tryz.isAgg29
 z28 := Tryz.sizeOf29
 v28 := Tryz.zeroValue29
 t46 := Tryz.underlying132
 a46 := Tryz.isAgg132
 z46 := Tryz.sizeOf132
 v46 := Tryz.zeroValue132
 t51 := Tryz.underlying154
 a51 := Tryz.isAgg154
 z51 := Tryz.sizeOf154
 v51 := Tryz.zeroValue154
 t53 := Tryz.underlying156
 a53 := Tryz.isAgg156
 z53 := Tryz.sizeOf156
 v53 := Tryz.zeroValue156
 t131 := Tryz.underlying135
 a131 := Tryz.isAgg135
 z131 := Tryz.sizeOf135
 v131 := Tryz.zeroValue135
 t182 := Tryz.underlying147
 a182 := Tryz.isAgg147
 z182 := Tryz.sizeOf147
 v182 := Tryz.zeroValue147
 t183 := Tryz.underlying148
 a183 := Tryz.isAgg148
 z183 := Tryz.sizeOf148
 v183 := Tryz.zeroValue148
 t218 := Tryz.underlying171
 a218 := Tryz.isAgg171
 z218 := Tryz.sizeOf171
 v218 := Tryz.zeroValue171
 t222 := Tryz.underlying175
 a222 := Tryz.isAgg175
 z222 := Tryz.sizeOf175
 v222 := Tryz.zeroValue175
 t228 := Tryz.underlying180
 a228 := Tryz.isAgg180
 z228 := Tryz.sizeOf180
 v228 := Tryz.zeroValue180
 t229 := Tryz.underlying181
 a229 := Tryz.isAgg181
 z229 := Tryz.sizeOf181
 v229 := Tryz.zeroValue181 }
open Go.Sort Go.RowKit in
theorem Tryz.slices_Sort_int (blk off cap : Nat) (zs : List Int) (w : World) (hH : Holds (Value.int .i64) w blk off zs.toArray) (hblk : blk < w.heap.size) (hsz : zs.length < 4611686018427387904) :
   Calls Tryz.prog 148 #[.slice (some ⟨blk, off, none⟩) zs.length cap] w fun e w' =>
     e = .returned (.tuple #[]) ∧ ∃ n os, w' = grow (putRow (Value.int .i64) (Sort.ahead w n) blk off (zs.mergeSort fun x y => decide (x ≤ y)).toArray) os := Any.slices_Sort_int Tryz.lays189 blk off cap zs w hH hblk hsz
def Tryz.laysNm223_ren : Go.Shelf.Ren := ⟨fun | 23 => 136 | n => n, fun | 22 => 29 | 3 => 3 | 4 => 4 | 0 => 0 | n => n, fun | n => n⟩
theorem Tryz.laysNm223 : Go.Proofs.Lays2.n23 Tryz.prog Tryz.laysNm223_ren := {
 mixed := by kernel_rfl
 f23 := Tryz.func136.trans (congrArg some (by kernel_rfl))
 t0 := Tryz.underlying0
 a0 := Tryz.isAgg0
 z0 := Tryz.sizeOf0
 v0 := Tryz.zeroValue0
 t3 := Tryz.underlying3
 a3 := Tryz.isAgg3
 z3 := Tryz.sizeOf3
 v3 := Tryz.zeroValue3
 t4 := Tryz.underlying4
 a4 := Tryz.isAgg4
 z4 := Tryz.sizeOf4
 v4 := Tryz.zeroValue4
 t22 := Tryz.underlying29
 a22 := Tryz.isAgg29
 z22 := Tryz.sizeOf29
 v22 := Tryz.zeroValue29
 i3 := by kernel_rfl }
open Go.RowKit Go.Lib Go.Sort in
theorem Tryz.slices_Delete_int (blk off cap i j : Nat) (zs : List Int) (w : World) (hH : Holds (Value.int .i64) w blk off zs.toArray) (hcap : zs.length ≤ cap) (hm : cap ≤ 9223372036854775807) (hij : i ≤ j) (hj : j ≤ zs.length) :
   Calls Tryz.prog 136 #[.slice (some ⟨blk, off, none⟩) zs.length cap, .int .i64 i, .int .i64 j] w fun e w' => e = .returned (.slice (some ⟨blk, off, none⟩) (zs.length - (j - i)) cap) ∧ ∃ q, w' = putRow (Value.int .i64) (Sort.ahead w q) blk off (zs.take i ++ zs.drop j ++ List.replicate (j - i) 0).toArray := Any.slices_Delete_int Tryz.laysNm223 blk off cap i j zs w hH hcap hm hij hj
open Go.RowKit Go.Sort in
theorem Tryz.slices_Sort_int_none (p : Option Addr) (cap : Nat) (w : World) :
   Calls Tryz.prog 148 #[.slice p 0 cap] w fun e w' => e = .returned (.tuple #[]) ∧ w' = w := Any.slices_Sort_int_none Tryz.lays189 p cap w
def Tryz.laysSlF6_f73_ren : Go.Shelf.Ren := ⟨fun | 6 => 73 | 15 => 91 | 14 => 104 | 28 => 117 | 29 => 118 | 20 => 124 | 21 => 125 | 22 => 126 | 23 => 127 | 24 => 128 | 25 => 129 | 26 => 130 | 27 => 131 | 46 => 144 | 47 => 138 | 48 => 139 | 49 => 145 | 50 => 146 | 57 => 151 | n => n, fun | 22 => 29 | 24 => 3 | 25 => 120 | 3 => 3 | 39 => 132 | 0 => 0 | 53 => 154 | 55 => 156 | 4 => 4 | 46 => 148 | 45 => 147 | 50 => 135 | 5 => 5 | 9 => 9 | 66 => 171 | 70 => 175 | 76 => 180 | 77 => 181 | n => n, fun | n => n⟩
theorem Tryz.laysSlF6_f73 : Go.Proofs.SlLaysF.n6 Tryz.prog Tryz.laysSlF6_f73_ren := {
 mixed := by kernel_rfl
 f6 := ⟨Tryz.f73.name, by decide, Tryz.func73.trans (congrArg some (by kernel_rfl))⟩
 f14 := ⟨Tryz.f104.name, by decide, Tryz.func104.trans (congrArg some (by kernel_rfl))⟩
 f15 := Tryz.func91.trans (congrArg some (by kernel_rfl))
 f20 := ⟨Tryz.f124.name, by decide, Tryz.func124.trans (congrArg some (by kernel_rfl))⟩
 f21 := ⟨Tryz.f125.name, by decide, Tryz.func125.trans (congrArg some (by kernel_rfl))⟩
 f22 := ⟨Tryz.f126.name, by decide, Tryz.func126.trans (congrArg some (by kernel_rfl))⟩
 f23 := ⟨Tryz.f127.name, by decide, Tryz.func127.trans (congrArg some (by kernel_rfl))⟩
 f24 := ⟨Tryz.f128.name, by decide, Tryz.func128.trans (congrArg some (by kernel_rfl))⟩
 f25 := ⟨Tryz.f129.name, by decide, Tryz.func129.trans (congrArg some (by kernel_rfl))⟩
 f26 := ⟨Tryz.f130.name, by decide, Tryz.func130.trans (congrArg some (by kernel_rfl))⟩
 f27 := ⟨Tryz.f131.name, by decide, Tryz.func131.trans (congrArg some (by kernel_rfl))⟩
 f28 := Tryz.func117.trans (congrArg some (by kernel_rfl))
 f29 := Tryz.func118.trans (congrArg some (by kernel_rfl))
 f46 := ⟨Tryz.f144.name, by decide, Tryz.func144.trans (congrArg some (by kernel_rfl))⟩
 f47 := Tryz.func138.trans (congrArg some (by kernel_rfl))
 f48 := Tryz.func139.trans (congrArg some (by kernel_rfl))
 f49 := ⟨Tryz.f145.name, by decide, Tryz.func145.trans (congrArg some (by kernel_rfl))⟩
 f50 := ⟨Tryz.f146.name, by decide, Tryz.func146.trans (congrArg some (by kernel_rfl))⟩
 f57 := ⟨Tryz.f151.name, by decide, Tryz.func151.trans (congrArg some (by kernel_rfl))⟩
 t0 := Tryz.underlying0
 a0 := Tryz.isAgg0
 z0 := Tryz.sizeOf0
 v0 := Tryz.zeroValue0
 t3 := Tryz.underlying3
 a3 := Tryz.isAgg3
 z3 := Tryz.sizeOf3
 v3 := Tryz.zeroValue3
 t4 := Tryz.underlying4
 a4 := Tryz.isAgg4
 z4 := Tryz.sizeOf4
 v4 := Tryz.zeroValue4
 t5 := Tryz.underlying5
 a5 := Tryz.isAgg5
 z5 := Tryz.sizeOf5
 v5 := Tryz.zeroValue5
 t9 := Tryz.underlying9
 a9 := Tryz.isAgg9
 z9 := Tryz.sizeOf9
 v9 := Tryz.zeroValue9
 t22 := Tryz.underlying29
 a22 := Tryz.isAgg29
 z22 := Tryz.sizeOf29
 v22 := Tryz.zeroValue29
 a24 := Tryz.isAgg3
 z24 := Tryz.sizeOf3
 t25 := Tryz.underlying120
 a25 := Tryz.isAgg120
 z25 := Tryz.sizeOf120
 v25 := Tryz.zeroValue120
 t39 := Tryz.underlying132
 a39 := Tryz.isAgg132
 z39 := Tryz.sizeOf132
 v39 := Tryz.zeroValue132
 t45 := Tryz.underlying147
 a45 := Tryz.isAgg147
 z45 := Tryz.sizeOf147
 v45 := Tryz.zeroValue147
 t46 := Tryz.underlying148
 a46 := Tryz.isAgg148
 z46 := Tryz.sizeOf148
 v46 := Tryz.zeroValue148
 t50 := Tryz.underlying135
 a50 := Tryz.isAgg135
 z50 := Tryz.sizeOf135
 v50 := Tryz.zeroValue135
 t53 := Tryz.underlying154
 a53 := Tryz.isAgg154
 z53 := Tryz.sizeOf154
 v53 := Tryz.zeroValue154
 t55 := Tryz.underlying156
 a55 := Tryz.isAgg156
 z55 := Tryz.sizeOf156
 v55 := Tryz.zeroValue156
 t66 := Tryz.underlying171
 a66 := Tryz.isAgg171
 z66 := Tryz.sizeOf171
 v66 := Tryz.zeroValue171
 t70 := Tryz.underlying175
 a70 := Tryz.isAgg175
 z70 := Tryz.sizeOf175
 v70 := Tryz.zeroValue175
 t76 := Tryz.underlying180
 a76 := Tryz.isAgg180
 z76 := Tryz.sizeOf180
 v76 := Tryz.zeroValue180
 t77 := Tryz.underlying181
 a77 := Tryz.isAgg181
 z77 := Tryz.sizeOf181
 v77 := Tryz.zeroValue181 }
def Tryz.laysSlF06_f73_ren : Go.Shelf.Ren := ⟨fun | 6 => 73 | 15 => 91 | 14 => 104 | 28 => 117 | 29 => 118 | 20 => 124 | 21 => 125 | 22 => 126 | 23 => 127 | 24 => 128 | 25 => 129 | 26 => 130 | 27 => 131 | 46 => 144 | 47 => 138 | 48 => 139 | 49 => 145 | 50 => 146 | 57 => 151 | n => n, fun | 22 => 29 | 24 => 3 | 25 => 120 | 3 => 3 | 39 => 132 | 0 => 0 | 53 => 154 | 55 => 156 | 4 => 4 | 46 => 148 | 45 => 147 | 50 => 135 | 5 => 5 | 9 => 9 | 66 => 171 | 70 => 175 | 76 => 180 | 77 => 181 | n => n, fun | n => n⟩
theorem Tryz.laysSlF06_f73 : Go.Proofs.SlLaysF0.n6 Tryz.prog Tryz.laysSlF06_f73_ren := {
 mixed := by kernel_rfl
 f6 := ⟨Tryz.f73.name, by decide, Tryz.func73.trans (congrArg some (by kernel_rfl))⟩
 f14 := ⟨Tryz.f104.name, by decide, Tryz.func104.trans (congrArg some (by kernel_rfl))⟩
 f15 := Tryz.func91.trans (congrArg some (by kernel_rfl))
 f20 := ⟨Tryz.f124.name, by decide, Tryz.func124.trans (congrArg some (by kernel_rfl))⟩
 f21 := ⟨Tryz.f125.name, by decide, Tryz.func125.trans (congrArg some (by kernel_rfl))⟩
 f22 := ⟨Tryz.f126.name, by decide, Tryz.func126.trans (congrArg some (by kernel_rfl))⟩
 f23 := ⟨Tryz.f127.name, by decide, Tryz.func127.trans (congrArg some (by kernel_rfl))⟩
 f24 := ⟨Tryz.f128.name, by decide, Tryz.func128.trans (congrArg some (by kernel_rfl))⟩
 f25 := ⟨Tryz.f129.name, by decide, Tryz.func129.trans (congrArg some (by kernel_rfl))⟩
 f26 := ⟨Tryz.f130.name, by decide, Tryz.func130.trans (congrArg some (by kernel_rfl))⟩
 f27 := ⟨Tryz.f131.name, by decide, Tryz.func131.trans (congrArg some (by kernel_rfl))⟩
 f28 := Tryz.func117.trans (congrArg some (by kernel_rfl))
 f29 := Tryz.func118.trans (congrArg some (by kernel_rfl))
 f46 := ⟨Tryz.f144.name, by decide, Tryz.func144.trans (congrArg some (by kernel_rfl))⟩
 f47 := Tryz.func138.trans (congrArg some (by kernel_rfl))
 f48 := Tryz.func139.trans (congrArg some (by kernel_rfl))
 f49 := ⟨Tryz.f145.name, by decide, Tryz.func145.trans (congrArg some (by kernel_rfl))⟩
 f50 := ⟨Tryz.f146.name, by decide, Tryz.func146.trans (congrArg some (by kernel_rfl))⟩
 f57 := ⟨Tryz.f151.name, by decide, Tryz.func151.trans (congrArg some (by kernel_rfl))⟩
 t0 := Tryz.underlying0
 a0 := Tryz.isAgg0
 z0 := Tryz.sizeOf0
 v0 := Tryz.zeroValue0
 t3 := Tryz.underlying3
 a3 := Tryz.isAgg3
 z3 := Tryz.sizeOf3
 v3 := Tryz.zeroValue3
 t4 := Tryz.underlying4
 a4 := Tryz.isAgg4
 z4 := Tryz.sizeOf4
 v4 := Tryz.zeroValue4
 t5 := Tryz.underlying5
 a5 := Tryz.isAgg5
 z5 := Tryz.sizeOf5
 v5 := Tryz.zeroValue5
 t9 := Tryz.underlying9
 a9 := Tryz.isAgg9
 z9 := Tryz.sizeOf9
 v9 := Tryz.zeroValue9
 t22 := Tryz.underlying29
 a22 := Tryz.isAgg29
 z22 := Tryz.sizeOf29
 v22 := Tryz.zeroValue29
 t25 := Tryz.underlying120
 a25 := Tryz.isAgg120
 z25 := Tryz.sizeOf120
 v25 := Tryz.zeroValue120
 t39 := Tryz.underlying132
 a39 := Tryz.isAgg132
 z39 := Tryz.sizeOf132
 v39 := Tryz.zeroValue132
 t45 := Tryz.underlying147
 a45 := Tryz.isAgg147
 z45 := Tryz.sizeOf147
 v45 := Tryz.zeroValue147
 t46 := Tryz.underlying148
 a46 := Tryz.isAgg148
 z46 := Tryz.sizeOf148
 v46 := Tryz.zeroValue148
 t50 := Tryz.underlying135
 a50 := Tryz.isAgg135
 z50 := Tryz.sizeOf135
 v50 := Tryz.zeroValue135
 t53 := Tryz.underlying154
 a53 := Tryz.isAgg154
 z53 := Tryz.sizeOf154
 v53 := Tryz.zeroValue154
 t55 := Tryz.underlying156
 a55 := Tryz.isAgg156
 z55 := Tryz.sizeOf156
 v55 := Tryz.zeroValue156
 t66 := Tryz.underlying171
 a66 := Tryz.isAgg171
 z66 := Tryz.sizeOf171
 v66 := Tryz.zeroValue171
 t70 := Tryz.underlying175
 a70 := Tryz.isAgg175
 z70 := Tryz.sizeOf175
 v70 := Tryz.zeroValue175
 t76 := Tryz.underlying180
 a76 := Tryz.isAgg180
 z76 := Tryz.sizeOf180
 v76 := Tryz.zeroValue180
 t77 := Tryz.underlying181
 a77 := Tryz.isAgg181
 z77 := Tryz.sizeOf181
 v77 := Tryz.zeroValue181 }
open Go.RowKit Go.Lib Go.Sort in
theorem Tryz.slices_SortFunc_none {α : Type} [Inhabited α] (p : Option Addr) (cap : Nat) (fv : Value) (w : World) :
   Calls Tryz.prog 73 #[.slice p 0 cap, fv] w fun e w' => e = .returned (.tuple #[]) ∧ w' = w := AnyF.slices_SortFunc_none Tryz.laysSlF06_f73 p cap fv w
open Go.RowKit Go.Lib Go.Sort in
theorem Tryz.slices_SortFunc_total {α : Type} [Inhabited α] (enc : α → Value) (h1 : OneCell enc) (cf : α → α → Int) (hO : SWO (ltOf cf)) (g : Nat) (cb : Array Value) (blk off cap : Nat) (d : Array α) (w : World) (eg : ∀ args w, (callFunc g args).run Tryz.prog w = .ok (.enter g args) w) (hcmp : CmpLays1 Tryz.prog g cb enc cf blk off d.size w) (hH : Holds enc w blk off d) (hblk : blk < w.heap.size) (hsz : d.size < 4611686018427387904) (hT : ∀ x y, (ltOf cf) x y = false → (ltOf cf) y x = false → x = y) :
   Calls Tryz.prog 73 #[.slice (some ⟨blk, off, none⟩) d.size cap, .func (.func g) #[] cb] w fun e w' =>
     e = .returned (.tuple #[]) ∧ ∃ n os, w' = sortWorld enc w blk off n (d.toList.mergeSort fun x y => !(ltOf cf) y x).toArray os := Any.slices_SortFunc_total Tryz.laysSlF6_f73 enc h1 cf hO g cb blk off cap d w eg hcmp hH hblk hsz hT
end Go.Proofs
