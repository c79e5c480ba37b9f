import Derived.Shelf.Strings.Builder1
import Derived.Shelf.Strings.Builder2
import Derived.Shelf.Strings.OnBuilder
import Derived.Shelf.Small.Wraps
import Derived.Shelf.Sort.Plain
import Derived.Shelf.Unicode.Decode
import Derived.Shelf.Unicode.DecodeSlow
import Derived.Shelf.Unicode.DecodeAny
import Derived.Shelf.Slices.Turned
import Derived.Ground.Names2Prog
import Derived.Shelf.Slices.SearchI
import Derived.Shelf.Slices.In.SortNone
import Derived.Test.YtgjddnaidjbhlaaGreatDoorProg
set_option linter.unusedVariables false
set_option linter.unusedSimpArgs false
/-
 DERIVED: THE SHELF's CONTRACTS AT THIS DUMP, IN PLAIN WORDS (tools/lay-plain.mjs out of 'TryzShelf.lean', which tools/lay-shelf.mjs wrote): THE SAME DECLARATIONS UNDER THE SAME NAMES: 'import', 'namespace', 'open', 'def', 'theorem' AND NOTHING ELSE: no command of the shelf's: FOR A HAND-IN. Each laying: the table of numbers ('.._ren') and one theorem, a field a fact of the dump's own or the kernel's comparison; each contract: ONE APPLICATION.
-/
namespace Go.Proofs
open Go.Shelf
def Tryz.lays156_ren : Go.Shelf.Ren := ⟨fun | 156 => 234 | 165 => 235 | 166 => 236 | 169 => 237 | 240 => 238 | 241 => 239 | 276 => 240 | 277 => 241 | n => n, fun | 31 => 53 | 9 => 9 | 3 => 3 | 4 => 4 | 0 => 0 | 20 => 20 | 72 => 230 | 76 => 233 | 70 => 228 | 37 => 223 | 75 => 232 | 127 => 206 | 164 => 235 | 5 => 5 | 80 => 197 | n => n, fun | n => n⟩
theorem Tryz.lays156 : Go.Proofs.Lays.n156 Tryz.prog Tryz.lays156_ren := {
 mixed := by kernel_rfl
 f156 := Tryz.func234.trans (congrArg some (by kernel_rfl))
 f165 := Tryz.func235.trans (congrArg some (by kernel_rfl))
 f166 := Tryz.func236.trans (congrArg some (by kernel_rfl))
 f169 := Tryz.func237.trans (congrArg some (by kernel_rfl))
 f240 := Tryz.func238.trans (congrArg some (by kernel_rfl))
 f241 := Tryz.func239.trans (congrArg some (by kernel_rfl))
 f276 := Tryz.func240.trans (congrArg some (by kernel_rfl))
 f277 := Tryz.func241.trans (congrArg some (by kernel_rfl))
 t0 := Tryz.underlying0
 a0 := Tryz.isAgg0
 z0 := Tryz.sizeOf0
 v0 := Tryz.zeroValue0
 t3 := Tryz.underlying3
 a3 := Tryz.isAgg3
 z3 := Tryz.sizeOf3
 v3 := Tryz.zeroValue3
 t4 := Tryz.underlying4
 a4 := Tryz.isAgg4
 z4 := Tryz.sizeOf4
 v4 := Tryz.zeroValue4
 t9 := Tryz.underlying9
 a9 := Tryz.isAgg9
 z9 := Tryz.sizeOf9
 v9 := Tryz.zeroValue9
 t20 := Tryz.underlying20
 a20 := Tryz.isAgg20
 z20 := Tryz.sizeOf20
 v20 := Tryz.zeroValue20
 t31 := Tryz.underlying53
 a31 := Tryz.isAgg53
 z31 := Tryz.sizeOf53
 v31 := Tryz.zeroValue53
 t37 := Tryz.underlying223
 a37 := Tryz.isAgg223
 z37 := Tryz.sizeOf223
 v37 := Tryz.zeroValue223
 t70 := Tryz.underlying228
 a70 := Tryz.isAgg228
 z70 := Tryz.sizeOf228
 v70 := Tryz.zeroValue228
 t72 := Tryz.underlying230
 a72 := Tryz.isAgg230
 z72 := Tryz.sizeOf230
 v72 := Tryz.zeroValue230
 t75 := Tryz.underlying232
 a75 := Tryz.isAgg232
 z75 := Tryz.sizeOf232
 v75 := Tryz.zeroValue232
 t76 := Tryz.underlying233
 a76 := Tryz.isAgg233
 z76 := Tryz.sizeOf233
 v76 := Tryz.zeroValue233
 t127 := Tryz.underlying206
 a127 := Tryz.isAgg206
 z127 := Tryz.sizeOf206
 v127 := Tryz.zeroValue206
 t164 := Tryz.underlying235
 a164 := Tryz.isAgg235
 z164 := Tryz.sizeOf235
 v164 := Tryz.zeroValue235 }
theorem Tryz.Builder_Extra_156 : Builder.Extra Tryz.prog Tryz.lays156_ren := {
 sizeBuilder := by kernel_rfl
 liesBuilder := by kernel_rfl
 t5 := Tryz.underlying5
 a5 := Tryz.isAgg5
 z5 := Tryz.sizeOf5
 v5 := Tryz.zeroValue5
 infoByte := by kernel_rfl
 cellsByte := by kernel_rfl
 sizeByte := by kernel_rfl
 neB5 := by decide }
open Go.RowKit in
/-- No element: the empty string; the world is as it was. (Whatever the slice's address and capacity: a nil slice too.) (LAID: no walk: one application.) -/
theorem Tryz.strings_Join_none (a : Option Addr) (c : Nat) (sep : ByteArray) (w : World) :
 Calls Tryz.prog 234 #[.slice a 0 c, .string sep] w fun e w' => e = .returned (.string ⟨#[]⟩) ∧ w' = w := Any.strings_Join_none Tryz.lays156 Tryz.Builder_Extra_156 a c sep w
open Go.RowKit in
/-- strings.Join: "Join concatenates the elements of its first argument to create a single string. The separator string sep is placed between elements in the resulting string.": HOWEVER MANY ELEMENTS. Below the heap's end the world is as it was. (LAID: no walk: one application.) -/
theorem Tryz.strings_Join (bk o c : Nat) (xs : List ByteArray) (sep : ByteArray) (w : World) (hcells : ∀ (j : Nat) x, xs[j]? = some x → w.cell? ⟨bk, o + j, none⟩ = some (.string x)) (hbk : bk < w.heap.size) (hN : xs.length ≤ 140737488355328) (hcap : xs.length ≤ c) (hlen : (Lib.join (xs.map (·.data.toList)) sep.data.toList).length ≤ 140737488355328) :
 Calls Tryz.prog 234 #[.slice (some ⟨bk, o, none⟩) xs.length c, .string sep] w fun e w' => e = .returned (.string ⟨(Lib.join (xs.map (·.data.toList)) sep.data.toList).toArray⟩) ∧ Below w.heap.size w w' := Any.strings_Join Tryz.lays156 Tryz.Builder_Extra_156 bk o c xs sep w hcells hbk hN hcap hlen
def Tryz.lays189_ren : Go.Shelf.Ren := ⟨fun | 189 => 172 | 125 => 184 | 257 => 183 | 128 => 195 | 129 => 196 | 294 => 186 | 295 => 187 | 296 => 188 | 297 => 189 | 298 => 190 | 299 => 191 | 216 => 192 | 300 => 193 | 301 => 194 | 328 => 198 | 329 => 199 | 330 => 200 | 331 => 201 | 332 => 202 | 215 => 203 | 343 => 204 | n => n, fun | 28 => 25 | 3 => 3 | 46 => 170 | 0 => 0 | 51 => 181 | 53 => 183 | 4 => 4 | 183 => 175 | 182 => 174 | 131 => 178 | 5 => 5 | 9 => 9 | 218 => 184 | 222 => 188 | 228 => 194 | 229 => 195 | n => n, fun | n => n⟩
theorem Tryz.lays189 : Go.Proofs.Lays.n189 Tryz.prog Tryz.lays189_ren := {
 mixed := by kernel_rfl
 f125 := Tryz.func184.trans (congrArg some (by kernel_rfl))
 f128 := Tryz.func195.trans (congrArg some (by kernel_rfl))
 f129 := Tryz.func196.trans (congrArg some (by kernel_rfl))
 f189 := Tryz.func172.trans (congrArg some (by kernel_rfl))
 f215 := Tryz.func203.trans (congrArg some (by kernel_rfl))
 f216 := Tryz.func192.trans (congrArg some (by kernel_rfl))
 f257 := Tryz.func183.trans (congrArg some (by kernel_rfl))
 f294 := Tryz.func186.trans (congrArg some (by kernel_rfl))
 f295 := Tryz.func187.trans (congrArg some (by kernel_rfl))
 f296 := Tryz.func188.trans (congrArg some (by kernel_rfl))
 f297 := Tryz.func189.trans (congrArg some (by kernel_rfl))
 f298 := Tryz.func190.trans (congrArg some (by kernel_rfl))
 f299 := Tryz.func191.trans (congrArg some (by kernel_rfl))
 f300 := Tryz.func193.trans (congrArg some (by kernel_rfl))
 f301 := Tryz.func194.trans (congrArg some (by kernel_rfl))
 f328 := Tryz.func198.trans (congrArg some (by kernel_rfl))
 f329 := Tryz.func199.trans (congrArg some (by kernel_rfl))
 f330 := Tryz.func200.trans (congrArg some (by kernel_rfl))
 f331 := Tryz.func201.trans (congrArg some (by kernel_rfl))
 f332 := Tryz.func202.trans (congrArg some (by kernel_rfl))
 f343 := Tryz.func204.trans (congrArg some (by kernel_rfl))
 t0 := Tryz.underlying0
 a0 := Tryz.isAgg0
 z0 := Tryz.sizeOf0
 v0 := Tryz.zeroValue0
 t3 := Tryz.underlying3
 a3 := Tryz.isAgg3
 z3 := Tryz.sizeOf3
 v3 := Tryz.zeroValue3
 t4 := Tryz.underlying4
 a4 := Tryz.isAgg4
 z4 := Tryz.sizeOf4
 v4 := Tryz.zeroValue4
 t5 := Tryz.underlying5
 a5 := Tryz.isAgg5
 z5 := Tryz.sizeOf5
 v5 := Tryz.zeroValue5
 t9 := Tryz.underlying9
 a9 := Tryz.isAgg9
 z9 := Tryz.sizeOf9
 v9 := Tryz.zeroValue9
 t28 := Tryz.underlying25
 a28 := Tryz.isAgg25
 z28 := Tryz.sizeOf25
 v28 := Tryz.zeroValue25
 t46 := Tryz.underlying170
 a46 := Tryz.isAgg170
 z46 := Tryz.sizeOf170
 v46 := Tryz.zeroValue170
 t51 := Tryz.underlying181
 a51 := Tryz.isAgg181
 z51 := Tryz.sizeOf181
 v51 := Tryz.zeroValue181
 t53 := Tryz.underlying183
 a53 := Tryz.isAgg183
 z53 := Tryz.sizeOf183
 v53 := Tryz.zeroValue183
 t131 := Tryz.underlying178
 a131 := Tryz.isAgg178
 z131 := Tryz.sizeOf178
 v131 := Tryz.zeroValue178
 t182 := Tryz.underlying174
 a182 := Tryz.isAgg174
 z182 := Tryz.sizeOf174
 v182 := Tryz.zeroValue174
 t183 := Tryz.underlying175
 a183 := Tryz.isAgg175
 z183 := Tryz.sizeOf175
 v183 := Tryz.zeroValue175
 t218 := Tryz.underlying184
 a218 := Tryz.isAgg184
 z218 := Tryz.sizeOf184
 v218 := Tryz.zeroValue184
 t222 := Tryz.underlying188
 a222 := Tryz.isAgg188
 z222 := Tryz.sizeOf188
 v222 := Tryz.zeroValue188
 t228 := Tryz.underlying194
 a228 := Tryz.isAgg194
 z228 := Tryz.sizeOf194
 v228 := Tryz.zeroValue194
 t229 := Tryz.underlying195
 a229 := Tryz.isAgg195
 z229 := Tryz.sizeOf195
 v229 := Tryz.zeroValue195 }
open Go.Sort Go.RowKit in
theorem Tryz.slices_Sort_int (blk off cap : Nat) (zs : List Int) (w : World) (hH : Holds (Value.int .i64) w blk off zs.toArray) (hblk : blk < w.heap.size) (hsz : zs.length < 4611686018427387904) :
 Calls Tryz.prog 172 #[.slice (some ⟨blk, off, none⟩) zs.length cap] w fun e w' =>
  e = .returned (.tuple #[]) ∧ ∃ n os, w' = grow (putRow (Value.int .i64) (Sort.ahead w n) blk off (zs.mergeSort fun x y => decide (x ≤ y)).toArray) os := Any.slices_Sort_int Tryz.lays189 blk off cap zs w hH hblk hsz
def Tryz.lays197_ren : Go.Shelf.Ren := ⟨fun | 197 => 185 | 260 => 197 | n => n, fun | 9 => 9 | 21 => 21 | 3 => 3 | 4 => 4 | 5 => 5 | 105 => 171 | 119 => 190 | 0 => 0 | 46 => 170 | 139 => 193 | 138 => 192 | n => n, fun | 3 => 0 | 4 => 1 | n => n⟩
theorem Tryz.lays197 : Go.Proofs.Lays.n197 Tryz.prog Tryz.lays197_ren := {
 mixed := by kernel_rfl
 f197 := Tryz.func185.trans (congrArg some (by kernel_rfl))
 f260 := Tryz.func197.trans (congrArg some (by kernel_rfl))
 t0 := Tryz.underlying0
 a0 := Tryz.isAgg0
 z0 := Tryz.sizeOf0
 v0 := Tryz.zeroValue0
 t3 := Tryz.underlying3
 a3 := Tryz.isAgg3
 z3 := Tryz.sizeOf3
 v3 := Tryz.zeroValue3
 t4 := Tryz.underlying4
 a4 := Tryz.isAgg4
 z4 := Tryz.sizeOf4
 v4 := Tryz.zeroValue4
 t5 := Tryz.underlying5
 a5 := Tryz.isAgg5
 z5 := Tryz.sizeOf5
 v5 := Tryz.zeroValue5
 t9 := Tryz.underlying9
 a9 := Tryz.isAgg9
 z9 := Tryz.sizeOf9
 v9 := Tryz.zeroValue9
 t21 := Tryz.underlying21
 a21 := Tryz.isAgg21
 z21 := Tryz.sizeOf21
 v21 := Tryz.zeroValue21
 t46 := Tryz.underlying170
 a46 := Tryz.isAgg170
 z46 := Tryz.sizeOf170
 v46 := Tryz.zeroValue170
 t105 := Tryz.underlying171
 a105 := Tryz.isAgg171
 z105 := Tryz.sizeOf171
 v105 := Tryz.zeroValue171
 t119 := Tryz.underlying190
 a119 := Tryz.isAgg190
 z119 := Tryz.sizeOf190
 t138 := Tryz.underlying192
 a138 := Tryz.isAgg192
 z138 := Tryz.sizeOf192
 v138 := Tryz.zeroValue192
 t139 := Tryz.underlying193
 a139 := Tryz.isAgg193
 z139 := Tryz.sizeOf193
 v139 := Tryz.zeroValue193
 g3 := by kernel_rfl
 g4 := by kernel_rfl }
def Tryz.lays260_ren : Go.Shelf.Ren := ⟨fun | 260 => 197 | n => n, fun | 9 => 9 | 21 => 21 | 3 => 3 | 4 => 4 | 5 => 5 | 119 => 190 | 0 => 0 | 46 => 170 | 139 => 193 | 138 => 192 | n => n, fun | 3 => 0 | 4 => 1 | n => n⟩
theorem Tryz.lays260 : Go.Proofs.Lays.n260 Tryz.prog Tryz.lays260_ren := {
 mixed := by kernel_rfl
 f260 := Tryz.func197.trans (congrArg some (by kernel_rfl))
 t0 := Tryz.underlying0
 a0 := Tryz.isAgg0
 z0 := Tryz.sizeOf0
 v0 := Tryz.zeroValue0
 t3 := Tryz.underlying3
 a3 := Tryz.isAgg3
 z3 := Tryz.sizeOf3
 v3 := Tryz.zeroValue3
 t4 := Tryz.underlying4
 a4 := Tryz.isAgg4
 z4 := Tryz.sizeOf4
 v4 := Tryz.zeroValue4
 t5 := Tryz.underlying5
 a5 := Tryz.isAgg5
 z5 := Tryz.sizeOf5
 v5 := Tryz.zeroValue5
 t9 := Tryz.underlying9
 a9 := Tryz.isAgg9
 z9 := Tryz.sizeOf9
 v9 := Tryz.zeroValue9
 t21 := Tryz.underlying21
 a21 := Tryz.isAgg21
 z21 := Tryz.sizeOf21
 v21 := Tryz.zeroValue21
 t46 := Tryz.underlying170
 a46 := Tryz.isAgg170
 z46 := Tryz.sizeOf170
 v46 := Tryz.zeroValue170
 t119 := Tryz.underlying190
 a119 := Tryz.isAgg190
 z119 := Tryz.sizeOf190
 t138 := Tryz.underlying192
 a138 := Tryz.isAgg192
 z138 := Tryz.sizeOf192
 v138 := Tryz.zeroValue192
 t139 := Tryz.underlying193
 a139 := Tryz.isAgg193
 z139 := Tryz.sizeOf193
 v139 := Tryz.zeroValue193
 g3 := by kernel_rfl
 g4 := by kernel_rfl }
open Go.RowKit Go.Lib in
theorem Tryz.utf8_decodeRuneInStringSlow (s : ByteArray) (w : World) (hT : Lib.Utf8Tabs 0 1 w) :
 Calls Tryz.prog 197 #[.string s] w fun e w' => e = .returned (.tuple #[.int .i32 (Lib.decodeGo s).1, .int .i64 (Lib.decodeGo s).2]) ∧ Below w.heap.size w w' := Any.utf8_decodeRuneInStringSlow Tryz.lays260 s w hT
open Go.RowKit Go.Lib in
/-- **unicode/utf8.DecodeRuneInString AT EVERY STRING.** (LAID: no walk: one application.) -/
theorem Tryz.utf8_DecodeRuneInString (s : ByteArray) (w : World) (hT : Lib.Utf8Tabs 0 1 w) :
 Calls Tryz.prog 185 #[.string s] w fun e w' => e = .returned (.tuple #[.int .i32 (Lib.decodeGo s).1, .int .i64 (Lib.decodeGo s).2]) ∧ Below w.heap.size w w' := Any.utf8_DecodeRuneInString Tryz.lays197 s w hT
def Tryz.lays107_ren : Go.Shelf.Ren := ⟨fun | 107 => 118 | 108 => 124 | n => n, fun | 28 => 25 | 3 => 3 | 4 => 4 | 0 => 0 | n => n, fun | n => n⟩
theorem Tryz.lays107 : Go.Proofs.Lays.n107 Tryz.prog Tryz.lays107_ren := {
 mixed := by kernel_rfl
 f107 := Tryz.func118.trans (congrArg some (by kernel_rfl))
 f108 := Tryz.func124.trans (congrArg some (by kernel_rfl))
 t0 := Tryz.underlying0
 a0 := Tryz.isAgg0
 z0 := Tryz.sizeOf0
 v0 := Tryz.zeroValue0
 t3 := Tryz.underlying3
 a3 := Tryz.isAgg3
 z3 := Tryz.sizeOf3
 v3 := Tryz.zeroValue3
 t4 := Tryz.underlying4
 a4 := Tryz.isAgg4
 z4 := Tryz.sizeOf4
 v4 := Tryz.zeroValue4
 t28 := Tryz.underlying25
 a28 := Tryz.isAgg25
 z28 := Tryz.sizeOf25
 v28 := Tryz.zeroValue25 }
open Go.Lib in
/-- slices.Contains at []int: "Contains reports whether v is present in s.": IT RETURNS 'elements.contains v'; the world is as it was. ITS CALLEE slices.Index IS MET BY ITS OWN CONTRACT OFF THE SHELF (lay that first): no loop is walked here. (LAID: no walk: one application.) -/
theorem Tryz.slices_Contains_int (b off n c : Nat) (zs : List Int) (x : Int) (w : World) (hz : n ≤ zs.length) (hbig : n ≤ 9223372036854775807) (hc : ∀ j, j < zs.length → w.cell? ⟨b, off + j, none⟩ = some (.int .i64 (zs.getD j 0))) :
 Calls Tryz.prog 118 #[.slice (some ⟨b, off, none⟩) n c, .int .i64 x] w fun e w' => e = .returned (.bool ((zs.take n).contains x)) ∧ w' = w := Any.slices_Contains_int Tryz.lays107 b off n c zs x w hz hbig hc
open Go.Lib in
/-- The same at a slice of length 0, a nil one too. (LAID: no walk: one application.) -/
theorem Tryz.slices_Contains_int_empty (a : Option Addr) (c : Nat) (x : Int) (w : World) :
 Calls Tryz.prog 118 #[.slice a 0 c, .int .i64 x] w fun e w' => e = .returned (.bool false) ∧ w' = w := Any.slices_Contains_int_empty Tryz.lays107 a c x w
open Go.RowKit Go.Sort in
/-- .. and plain. (LAID: no walk: one application.) -/
theorem Tryz.slices_Sort_int_none (p : Option Addr) (cap : Nat) (w : World) :
 Calls Tryz.prog 172 #[.slice p 0 cap] w fun e w' => e = .returned (.tuple #[]) ∧ w' = w := Any.slices_Sort_int_none Tryz.lays189 p cap w
end Go.Proofs

