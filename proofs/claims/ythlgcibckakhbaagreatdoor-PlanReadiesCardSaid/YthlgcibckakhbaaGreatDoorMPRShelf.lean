import Derived.Shelf.Small.Wraps
import Derived.Shelf.Sort.Plain
import Derived.Shelf.Unicode.Decode
import Derived.Shelf.Unicode.DecodeSlow
import Derived.Shelf.Unicode.DecodeAny
import Derived.Shelf.Slices.Turned
import Derived.Ground.Names2Prog
import Derived.Shelf.Slices.SearchI
import Derived.Shelf.Slices.In.SortNone
import Derived.Test.YthlgcibckakhbaaGreatDoorProg
set_option linter.unusedVariables false
set_option linter.unusedSimpArgs false
/-
 DERIVED: THE SHELF's CONTRACTS AT THIS DUMP, IN PLAIN WORDS (tools/lay-plain.mjs out of 'TryzShelf.lean', which tools/lay-shelf.mjs wrote): THE SAME DECLARATIONS UNDER THE SAME NAMES: 'import', 'namespace', 'open', 'def', 'theorem' AND NOTHING ELSE: no command of the shelf's: FOR A HAND-IN. Each laying: the table of numbers ('.._ren') and one theorem, a field a fact of the dump's own or the kernel's comparison; each contract: ONE APPLICATION.
-/
namespace Go.Proofs
open Go.Shelf
def Tryz.lays189_ren : Go.Shelf.Ren := ⟨fun | 189 => 40 | 125 => 64 | 257 => 63 | 128 => 90 | 129 => 91 | 294 => 81 | 295 => 82 | 296 => 83 | 297 => 84 | 298 => 85 | 299 => 86 | 216 => 87 | 300 => 88 | 301 => 89 | 328 => 99 | 329 => 100 | 330 => 101 | 331 => 102 | 332 => 103 | 215 => 104 | 343 => 107 | n => n, fun | 28 => 26 | 3 => 3 | 46 => 74 | 0 => 0 | 51 => 93 | 53 => 95 | 4 => 4 | 183 => 86 | 182 => 85 | 131 => 90 | 5 => 5 | 9 => 9 | 218 => 100 | 222 => 104 | 228 => 109 | 229 => 110 | n => n, fun | n => n⟩
theorem Tryz.lays189 : Go.Proofs.Lays.n189 Tryz.prog Tryz.lays189_ren := {
 mixed := by kernel_rfl
 f125 := Tryz.func64.trans (congrArg some (by kernel_rfl))
 f128 := Tryz.func90.trans (congrArg some (by kernel_rfl))
 f129 := Tryz.func91.trans (congrArg some (by kernel_rfl))
 f189 := Tryz.func40.trans (congrArg some (by kernel_rfl))
 f215 := Tryz.func104.trans (congrArg some (by kernel_rfl))
 f216 := Tryz.func87.trans (congrArg some (by kernel_rfl))
 f257 := Tryz.func63.trans (congrArg some (by kernel_rfl))
 f294 := Tryz.func81.trans (congrArg some (by kernel_rfl))
 f295 := Tryz.func82.trans (congrArg some (by kernel_rfl))
 f296 := Tryz.func83.trans (congrArg some (by kernel_rfl))
 f297 := Tryz.func84.trans (congrArg some (by kernel_rfl))
 f298 := Tryz.func85.trans (congrArg some (by kernel_rfl))
 f299 := Tryz.func86.trans (congrArg some (by kernel_rfl))
 f300 := Tryz.func88.trans (congrArg some (by kernel_rfl))
 f301 := Tryz.func89.trans (congrArg some (by kernel_rfl))
 f328 := Tryz.func99.trans (congrArg some (by kernel_rfl))
 f329 := Tryz.func100.trans (congrArg some (by kernel_rfl))
 f330 := Tryz.func101.trans (congrArg some (by kernel_rfl))
 f331 := Tryz.func102.trans (congrArg some (by kernel_rfl))
 f332 := Tryz.func103.trans (congrArg some (by kernel_rfl))
 f343 := Tryz.func107.trans (congrArg some (by kernel_rfl))
 t0 := Tryz.underlying0
 a0 := Tryz.isAgg0
 z0 := Tryz.sizeOf0
 v0 := Tryz.zeroValue0
 t3 := Tryz.underlying3
 a3 := Tryz.isAgg3
 z3 := Tryz.sizeOf3
 v3 := Tryz.zeroValue3
 t4 := Tryz.underlying4
 a4 := Tryz.isAgg4
 z4 := Tryz.sizeOf4
 v4 := Tryz.zeroValue4
 t5 := Tryz.underlying5
 a5 := Tryz.isAgg5
 z5 := Tryz.sizeOf5
 v5 := Tryz.zeroValue5
 t9 := Tryz.underlying9
 a9 := Tryz.isAgg9
 z9 := Tryz.sizeOf9
 v9 := Tryz.zeroValue9
 t28 := Tryz.underlying26
 a28 := Tryz.isAgg26
 z28 := Tryz.sizeOf26
 v28 := Tryz.zeroValue26
 t46 := Tryz.underlying74
 a46 := Tryz.isAgg74
 z46 := Tryz.sizeOf74
 v46 := Tryz.zeroValue74
 t51 := Tryz.underlying93
 a51 := Tryz.isAgg93
 z51 := Tryz.sizeOf93
 v51 := Tryz.zeroValue93
 t53 := Tryz.underlying95
 a53 := Tryz.isAgg95
 z53 := Tryz.sizeOf95
 v53 := Tryz.zeroValue95
 t131 := Tryz.underlying90
 a131 := Tryz.isAgg90
 z131 := Tryz.sizeOf90
 v131 := Tryz.zeroValue90
 t182 := Tryz.underlying85
 a182 := Tryz.isAgg85
 z182 := Tryz.sizeOf85
 v182 := Tryz.zeroValue85
 t183 := Tryz.underlying86
 a183 := Tryz.isAgg86
 z183 := Tryz.sizeOf86
 v183 := Tryz.zeroValue86
 t218 := Tryz.underlying100
 a218 := Tryz.isAgg100
 z218 := Tryz.sizeOf100
 v218 := Tryz.zeroValue100
 t222 := Tryz.underlying104
 a222 := Tryz.isAgg104
 z222 := Tryz.sizeOf104
 v222 := Tryz.zeroValue104
 t228 := Tryz.underlying109
 a228 := Tryz.isAgg109
 z228 := Tryz.sizeOf109
 v228 := Tryz.zeroValue109
 t229 := Tryz.underlying110
 a229 := Tryz.isAgg110
 z229 := Tryz.sizeOf110
 v229 := Tryz.zeroValue110 }
open Go.Sort Go.RowKit in
theorem Tryz.slices_Sort_int (blk off cap : Nat) (zs : List Int) (w : World) (hH : Holds (Value.int .i64) w blk off zs.toArray) (hblk : blk < w.heap.size) (hsz : zs.length < 4611686018427387904) :
 Calls Tryz.prog 40 #[.slice (some ⟨blk, off, none⟩) zs.length cap] w fun e w' =>
  e = .returned (.tuple #[]) ∧ ∃ n os, w' = grow (putRow (Value.int .i64) (Sort.ahead w n) blk off (zs.mergeSort fun x y => decide (x ≤ y)).toArray) os := Any.slices_Sort_int Tryz.lays189 blk off cap zs w hH hblk hsz
def Tryz.lays197_ren : Go.Shelf.Ren := ⟨fun | 197 => 105 | 260 => 108 | n => n, fun | 9 => 9 | 21 => 21 | 3 => 3 | 4 => 4 | 5 => 5 | 105 => 106 | 119 => 112 | 0 => 0 | 46 => 74 | 139 => 115 | 138 => 114 | n => n, fun | 3 => 0 | 4 => 1 | n => n⟩
theorem Tryz.lays197 : Go.Proofs.Lays.n197 Tryz.prog Tryz.lays197_ren := {
 mixed := by kernel_rfl
 f197 := Tryz.func105.trans (congrArg some (by kernel_rfl))
 f260 := Tryz.func108.trans (congrArg some (by kernel_rfl))
 t0 := Tryz.underlying0
 a0 := Tryz.isAgg0
 z0 := Tryz.sizeOf0
 v0 := Tryz.zeroValue0
 t3 := Tryz.underlying3
 a3 := Tryz.isAgg3
 z3 := Tryz.sizeOf3
 v3 := Tryz.zeroValue3
 t4 := Tryz.underlying4
 a4 := Tryz.isAgg4
 z4 := Tryz.sizeOf4
 v4 := Tryz.zeroValue4
 t5 := Tryz.underlying5
 a5 := Tryz.isAgg5
 z5 := Tryz.sizeOf5
 v5 := Tryz.zeroValue5
 t9 := Tryz.underlying9
 a9 := Tryz.isAgg9
 z9 := Tryz.sizeOf9
 v9 := Tryz.zeroValue9
 t21 := Tryz.underlying21
 a21 := Tryz.isAgg21
 z21 := Tryz.sizeOf21
 v21 := Tryz.zeroValue21
 t46 := Tryz.underlying74
 a46 := Tryz.isAgg74
 z46 := Tryz.sizeOf74
 v46 := Tryz.zeroValue74
 t105 := Tryz.underlying106
 a105 := Tryz.isAgg106
 z105 := Tryz.sizeOf106
 v105 := Tryz.zeroValue106
 t119 := Tryz.underlying112
 a119 := Tryz.isAgg112
 z119 := Tryz.sizeOf112
 t138 := Tryz.underlying114
 a138 := Tryz.isAgg114
 z138 := Tryz.sizeOf114
 v138 := Tryz.zeroValue114
 t139 := Tryz.underlying115
 a139 := Tryz.isAgg115
 z139 := Tryz.sizeOf115
 v139 := Tryz.zeroValue115
 g3 := by kernel_rfl
 g4 := by kernel_rfl }
def Tryz.lays260_ren : Go.Shelf.Ren := ⟨fun | 260 => 108 | n => n, fun | 9 => 9 | 21 => 21 | 3 => 3 | 4 => 4 | 5 => 5 | 119 => 112 | 0 => 0 | 46 => 74 | 139 => 115 | 138 => 114 | n => n, fun | 3 => 0 | 4 => 1 | n => n⟩
theorem Tryz.lays260 : Go.Proofs.Lays.n260 Tryz.prog Tryz.lays260_ren := {
 mixed := by kernel_rfl
 f260 := Tryz.func108.trans (congrArg some (by kernel_rfl))
 t0 := Tryz.underlying0
 a0 := Tryz.isAgg0
 z0 := Tryz.sizeOf0
 v0 := Tryz.zeroValue0
 t3 := Tryz.underlying3
 a3 := Tryz.isAgg3
 z3 := Tryz.sizeOf3
 v3 := Tryz.zeroValue3
 t4 := Tryz.underlying4
 a4 := Tryz.isAgg4
 z4 := Tryz.sizeOf4
 v4 := Tryz.zeroValue4
 t5 := Tryz.underlying5
 a5 := Tryz.isAgg5
 z5 := Tryz.sizeOf5
 v5 := Tryz.zeroValue5
 t9 := Tryz.underlying9
 a9 := Tryz.isAgg9
 z9 := Tryz.sizeOf9
 v9 := Tryz.zeroValue9
 t21 := Tryz.underlying21
 a21 := Tryz.isAgg21
 z21 := Tryz.sizeOf21
 v21 := Tryz.zeroValue21
 t46 := Tryz.underlying74
 a46 := Tryz.isAgg74
 z46 := Tryz.sizeOf74
 v46 := Tryz.zeroValue74
 t119 := Tryz.underlying112
 a119 := Tryz.isAgg112
 z119 := Tryz.sizeOf112
 t138 := Tryz.underlying114
 a138 := Tryz.isAgg114
 z138 := Tryz.sizeOf114
 v138 := Tryz.zeroValue114
 t139 := Tryz.underlying115
 a139 := Tryz.isAgg115
 z139 := Tryz.sizeOf115
 v139 := Tryz.zeroValue115
 g3 := by kernel_rfl
 g4 := by kernel_rfl }
open Go.RowKit Go.Lib in
theorem Tryz.utf8_decodeRuneInStringSlow (s : ByteArray) (w : World) (hT : Lib.Utf8Tabs 0 1 w) :
 Calls Tryz.prog 108 #[.string s] w fun e w' => e = .returned (.tuple #[.int .i32 (Lib.decodeGo s).1, .int .i64 (Lib.decodeGo s).2]) ∧ Below w.heap.size w w' := Any.utf8_decodeRuneInStringSlow Tryz.lays260 s w hT
open Go.RowKit Go.Lib in
/-- **unicode/utf8.DecodeRuneInString AT EVERY STRING.** (LAID: no walk: one application.) -/
theorem Tryz.utf8_DecodeRuneInString (s : ByteArray) (w : World) (hT : Lib.Utf8Tabs 0 1 w) :
 Calls Tryz.prog 105 #[.string s] w fun e w' => e = .returned (.tuple #[.int .i32 (Lib.decodeGo s).1, .int .i64 (Lib.decodeGo s).2]) ∧ Below w.heap.size w w' := Any.utf8_DecodeRuneInString Tryz.lays197 s w hT
def Tryz.lays107_ren : Go.Shelf.Ren := ⟨fun | 107 => 34 | 108 => 55 | n => n, fun | 28 => 26 | 3 => 3 | 4 => 4 | 0 => 0 | n => n, fun | n => n⟩
theorem Tryz.lays107 : Go.Proofs.Lays.n107 Tryz.prog Tryz.lays107_ren := {
 mixed := by kernel_rfl
 f107 := Tryz.func34.trans (congrArg some (by kernel_rfl))
 f108 := Tryz.func55.trans (congrArg some (by kernel_rfl))
 t0 := Tryz.underlying0
 a0 := Tryz.isAgg0
 z0 := Tryz.sizeOf0
 v0 := Tryz.zeroValue0
 t3 := Tryz.underlying3
 a3 := Tryz.isAgg3
 z3 := Tryz.sizeOf3
 v3 := Tryz.zeroValue3
 t4 := Tryz.underlying4
 a4 := Tryz.isAgg4
 z4 := Tryz.sizeOf4
 v4 := Tryz.zeroValue4
 t28 := Tryz.underlying26
 a28 := Tryz.isAgg26
 z28 := Tryz.sizeOf26
 v28 := Tryz.zeroValue26 }
open Go.Lib in
/-- slices.Contains at []int: "Contains reports whether v is present in s.": IT RETURNS 'elements.contains v'; the world is as it was. ITS CALLEE slices.Index IS MET BY ITS OWN CONTRACT OFF THE SHELF (lay that first): no loop is walked here. (LAID: no walk: one application.) -/
theorem Tryz.slices_Contains_int (b off n c : Nat) (zs : List Int) (x : Int) (w : World) (hz : n ≤ zs.length) (hbig : n ≤ 9223372036854775807) (hc : ∀ j, j < zs.length → w.cell? ⟨b, off + j, none⟩ = some (.int .i64 (zs.getD j 0))) :
 Calls Tryz.prog 34 #[.slice (some ⟨b, off, none⟩) n c, .int .i64 x] w fun e w' => e = .returned (.bool ((zs.take n).contains x)) ∧ w' = w := Any.slices_Contains_int Tryz.lays107 b off n c zs x w hz hbig hc
open Go.Lib in
/-- The same at a slice of length 0, a nil one too. (LAID: no walk: one application.) -/
theorem Tryz.slices_Contains_int_empty (a : Option Addr) (c : Nat) (x : Int) (w : World) :
 Calls Tryz.prog 34 #[.slice a 0 c, .int .i64 x] w fun e w' => e = .returned (.bool false) ∧ w' = w := Any.slices_Contains_int_empty Tryz.lays107 a c x w
open Go.RowKit Go.Sort in
/-- .. and plain. (LAID: no walk: one application.) -/
theorem Tryz.slices_Sort_int_none (p : Option Addr) (cap : Nat) (w : World) :
 Calls Tryz.prog 40 #[.slice p 0 cap] w fun e w' => e = .returned (.tuple #[]) ∧ w' = w := Any.slices_Sort_int_none Tryz.lays189 p cap w
end Go.Proofs

