/-
 DERIVED: THE SHELF's CONTRACTS AT THIS DUMP, IN PLAIN WORDS (tools/lay-plain.mjs out of 'TryzShelf.lean', which tools/lay-shelf.mjs wrote): THE SAME DECLARATIONS UNDER THE SAME NAMES: 'import', 'namespace', 'open', 'def', 'theorem' AND NOTHING ELSE: no command of the shelf's: FOR A HAND-IN. Each laying: the table of numbers ('.._ren') and one theorem, a field a fact of the dump's own or the kernel's comparison; each contract: ONE APPLICATION.
-/
import Derived.Shelf.Strings.Builder1
import Derived.Shelf.Strings.Builder2
import Derived.Shelf.Strings.OnBuilder
import Derived.Shelf.Strings.BuilderF
import Derived.Shelf.Strings.BuilderK
import Derived.Shelf.Strings.Builder2Cap
import Derived.Shelf.GgClosure.StringsIndexFunc
import Derived.Ground.GgwProg
import Derived.Shelf.GgClosure.StringsIndexFuncTop
import Derived.Shelf.GgClosure.StringsRunes
import Derived.Shelf.Strings.Fields
import Derived.Shelf.LaysM
import Derived.Shelf.Strings.SplitShaped
import Derived.Shelf.Unicode.Latin
import Derived.Shelf.Unicode.Is16White
import Derived.Shelf.Unicode.IsSpaceAny
import Derived.Shelf.Unicode.Is16Any
import Derived.Shelf.Unicode.Is32Any
import Derived.Shelf.Unicode.ExclAny
import Derived.Shelf.Strings.FuncGrows
import Derived.Shelf.Strings.BuilderCap
import Derived.Shelf.Slices.Turned
import Derived.Shelf.Slices.Equal
import Derived.Shelf.Slices.Empties2
import Derived.Test.YtchpbaaabnkkkaaGreatDoorProg
namespace Go.Proofs
open Go.Shelf
def Tryz.lays156_ren : Go.Shelf.Ren := ⟨fun | 156 => 67 | 165 => 120 | 166 => 121 | 169 => 122 | 240 => 171 | 241 => 172 | 276 => 220 | 277 => 221 | n => n, fun | 31 => 22 | 9 => 9 | 3 => 3 | 4 => 4 | 0 => 0 | 20 => 20 | 72 => 124 | 76 => 128 | 70 => 121 | 37 => 122 | 75 => 127 | 127 => 175 | 164 => 192 | 5 => 5 | 80 => 130 | n => n, fun | n => n⟩
theorem Tryz.lays156 : Go.Proofs.Lays.n156 Tryz.prog Tryz.lays156_ren := {
 mixed := by kernel_rfl
 f156 := Tryz.func67.trans (congrArg some (by kernel_rfl))
 f165 := Tryz.func120.trans (congrArg some (by kernel_rfl))
 f166 := Tryz.func121.trans (congrArg some (by kernel_rfl))
 f169 := Tryz.func122.trans (congrArg some (by kernel_rfl))
 f240 := Tryz.func171.trans (congrArg some (by kernel_rfl))
 f241 := Tryz.func172.trans (congrArg some (by kernel_rfl))
 f276 := Tryz.func220.trans (congrArg some (by kernel_rfl))
 f277 := Tryz.func221.trans (congrArg some (by kernel_rfl))
 t0 := Tryz.underlying0
 a0 := Tryz.isAgg0
 z0 := Tryz.sizeOf0
 v0 := Tryz.zeroValue0
 t3 := Tryz.underlying3
 a3 := Tryz.isAgg3
 z3 := Tryz.sizeOf3
 v3 := Tryz.zeroValue3
 t4 := Tryz.underlying4
 a4 := Tryz.isAgg4
 z4 := Tryz.sizeOf4
 v4 := Tryz.zeroValue4
 t9 := Tryz.underlying9
 a9 := Tryz.isAgg9
 z9 := Tryz.sizeOf9
 v9 := Tryz.zeroValue9
 t20 := Tryz.underlying20
 a20 := Tryz.isAgg20
 z20 := Tryz.sizeOf20
 v20 := Tryz.zeroValue20
 t31 := Tryz.underlying22
 a31 := Tryz.isAgg22
 z31 := Tryz.sizeOf22
 v31 := Tryz.zeroValue22
 t37 := Tryz.underlying122
 a37 := Tryz.isAgg122
 z37 := Tryz.sizeOf122
 v37 := Tryz.zeroValue122
 t70 := Tryz.underlying121
 a70 := Tryz.isAgg121
 z70 := Tryz.sizeOf121
 v70 := Tryz.zeroValue121
 t72 := Tryz.underlying124
 a72 := Tryz.isAgg124
 z72 := Tryz.sizeOf124
 v72 := Tryz.zeroValue124
 t75 := Tryz.underlying127
 a75 := Tryz.isAgg127
 z75 := Tryz.sizeOf127
 v75 := Tryz.zeroValue127
 t76 := Tryz.underlying128
 a76 := Tryz.isAgg128
 z76 := Tryz.sizeOf128
 v76 := Tryz.zeroValue128
 t127 := Tryz.underlying175
 a127 := Tryz.isAgg175
 z127 := Tryz.sizeOf175
 v127 := Tryz.zeroValue175
 t164 := Tryz.underlying192
 a164 := Tryz.isAgg192
 z164 := Tryz.sizeOf192
 v164 := Tryz.zeroValue192 }
theorem Tryz.Builder_Extra_156 : Builder.Extra Tryz.prog Tryz.lays156_ren := {
 sizeBuilder := by kernel_rfl
 liesBuilder := by kernel_rfl
 t5 := Tryz.underlying5
 a5 := Tryz.isAgg5
 z5 := Tryz.sizeOf5
 v5 := Tryz.zeroValue5
 infoByte := by kernel_rfl
 cellsByte := by kernel_rfl
 sizeByte := by kernel_rfl
 neB5 := by decide }
open Go.RowKit in
theorem Tryz.strings_Join (bk o c : Nat) (xs : List ByteArray) (sep : ByteArray) (w : World) (hcells : ∀ (j : Nat) x, xs[j]? = some x → w.cell? ⟨bk, o + j, none⟩ = some (.string x)) (hbk : bk < w.heap.size) (hN : xs.length ≤ 140737488355328) (hcap : xs.length ≤ c) (hlen : (Lib.join (xs.map (·.data.toList)) sep.data.toList).length ≤ 140737488355328) :
  Calls Tryz.prog 67 #[.slice (some ⟨bk, o, none⟩) xs.length c, .string sep] w fun e w' => e = .returned (.string ⟨(Lib.join (xs.map (·.data.toList)) sep.data.toList).toArray⟩) ∧ Below w.heap.size w w' := Any.strings_Join Tryz.lays156 Tryz.Builder_Extra_156 bk o c xs sep w hcells hbk hN hcap hlen
def Tryz.laysGw17_ren : Go.Shelf.Ren := ⟨fun | 17 => 156 | 15 => 200 | 20 => 227 | n => n, fun | 9 => 9 | 23 => 160 | 4 => 4 | 3 => 3 | 0 => 0 | 21 => 21 | n => n, fun | n => n⟩
theorem Tryz.laysGw17 : Go.Proofs.LaysGw.n17 Tryz.prog Tryz.laysGw17_ren := {
 mixed := by kernel_rfl
 f15 := Tryz.func200.trans (congrArg some (by kernel_rfl))
 f17 := Tryz.func156.trans (congrArg some (by kernel_rfl))
 f20 := Tryz.func227.trans (congrArg some (by kernel_rfl))
 t0 := Tryz.underlying0
 a0 := Tryz.isAgg0
 z0 := Tryz.sizeOf0
 v0 := Tryz.zeroValue0
 i0 := by kernel_rfl
 t3 := Tryz.underlying3
 a3 := Tryz.isAgg3
 z3 := Tryz.sizeOf3
 v3 := Tryz.zeroValue3
 i3 := by kernel_rfl
 t4 := Tryz.underlying4
 a4 := Tryz.isAgg4
 z4 := Tryz.sizeOf4
 v4 := Tryz.zeroValue4
 i4 := by kernel_rfl
 t9 := Tryz.underlying9
 a9 := Tryz.isAgg9
 z9 := Tryz.sizeOf9
 v9 := Tryz.zeroValue9
 i9 := by kernel_rfl
 t21 := Tryz.underlying21
 a21 := Tryz.isAgg21
 z21 := Tryz.sizeOf21
 v21 := Tryz.zeroValue21
 i21 := by kernel_rfl
 t23 := Tryz.underlying160
 a23 := Tryz.isAgg160
 z23 := Tryz.sizeOf160
 v23 := Tryz.zeroValue160
 i23 := by kernel_rfl }
def Tryz.lays157_ren : Go.Shelf.Ren := ⟨fun | 157 => 202 | 229 => 228 | 199 => 229 | 261 => 230 | 311 => 231 | 312 => 232 | n => n, fun | 9 => 9 | 31 => 22 | 3 => 3 | 5 => 5 | 4 => 4 | 119 => 197 | 0 => 0 | 40 => 160 | 152 => 199 | 21 => 21 | 154 => 201 | 51 => 202 | 141 => 204 | 196 => 208 | 193 => 205 | 198 => 211 | 49 => 209 | 194 => 206 | 201 => 214 | 226 => 216 | 46 => 217 | 227 => 218 | n => n, fun | 0 => 0 | 6 => 2 | n => n⟩
theorem Tryz.lays157 : Go.Proofs.Lays.n157 Tryz.prog Tryz.lays157_ren := {
 mixed := by kernel_rfl
 f157 := Tryz.func202.trans (congrArg some (by kernel_rfl))
 f199 := Tryz.func229.trans (congrArg some (by kernel_rfl))
 f229 := Tryz.func228.trans (congrArg some (by kernel_rfl))
 f261 := Tryz.func230.trans (congrArg some (by kernel_rfl))
 f311 := Tryz.func231.trans (congrArg some (by kernel_rfl))
 f312 := Tryz.func232.trans (congrArg some (by kernel_rfl))
 t0 := Tryz.underlying0
 a0 := Tryz.isAgg0
 z0 := Tryz.sizeOf0
 v0 := Tryz.zeroValue0
 t3 := Tryz.underlying3
 a3 := Tryz.isAgg3
 z3 := Tryz.sizeOf3
 v3 := Tryz.zeroValue3
 t4 := Tryz.underlying4
 a4 := Tryz.isAgg4
 z4 := Tryz.sizeOf4
 v4 := Tryz.zeroValue4
 t5 := Tryz.underlying5
 a5 := Tryz.isAgg5
 z5 := Tryz.sizeOf5
 v5 := Tryz.zeroValue5
 t9 := Tryz.underlying9
 a9 := Tryz.isAgg9
 z9 := Tryz.sizeOf9
 v9 := Tryz.zeroValue9
 t21 := Tryz.underlying21
 a21 := Tryz.isAgg21
 z21 := Tryz.sizeOf21
 v21 := Tryz.zeroValue21
 t31 := Tryz.underlying22
 a31 := Tryz.isAgg22
 z31 := Tryz.sizeOf22
 v31 := Tryz.zeroValue22
 t40 := Tryz.underlying160
 a40 := Tryz.isAgg160
 z40 := Tryz.sizeOf160
 v40 := Tryz.zeroValue160
 t46 := Tryz.underlying217
 a46 := Tryz.isAgg217
 z46 := Tryz.sizeOf217
 v46 := Tryz.zeroValue217
 t49 := Tryz.underlying209
 a49 := Tryz.isAgg209
 z49 := Tryz.sizeOf209
 v49 := Tryz.zeroValue209
 t51 := Tryz.underlying202
 a51 := Tryz.isAgg202
 z51 := Tryz.sizeOf202
 v51 := Tryz.zeroValue202
 t119 := Tryz.underlying197
 a119 := Tryz.isAgg197
 z119 := Tryz.sizeOf197
 t141 := Tryz.underlying204
 a141 := Tryz.isAgg204
 z141 := Tryz.sizeOf204
 v141 := Tryz.zeroValue204
 t152 := Tryz.underlying199
 a152 := Tryz.isAgg199
 z152 := Tryz.sizeOf199
 v152 := Tryz.zeroValue199
 t154 := Tryz.underlying201
 a154 := Tryz.isAgg201
 z154 := Tryz.sizeOf201
 v154 := Tryz.zeroValue201
 t193 := Tryz.underlying205
 a193 := Tryz.isAgg205
 z193 := Tryz.sizeOf205
 v193 := Tryz.zeroValue205
 t194 := Tryz.underlying206
 a194 := Tryz.isAgg206
 z194 := Tryz.sizeOf206
 v194 := Tryz.zeroValue206
 t196 := Tryz.underlying208
 a196 := Tryz.isAgg208
 z196 := Tryz.sizeOf208
 v196 := Tryz.zeroValue208
 t198 := Tryz.underlying211
 a198 := Tryz.isAgg211
 z198 := Tryz.sizeOf211
 v198 := Tryz.zeroValue211
 t201 := Tryz.underlying214
 a201 := Tryz.isAgg214
 z201 := Tryz.sizeOf214
 v201 := Tryz.zeroValue214
 t226 := Tryz.underlying216
 a226 := Tryz.isAgg216
 z226 := Tryz.sizeOf216
 v226 := Tryz.zeroValue216
 t227 := Tryz.underlying218
 a227 := Tryz.isAgg218
 z227 := Tryz.sizeOf218
 v227 := Tryz.zeroValue218
 g0 := by kernel_rfl
 g6 := by kernel_rfl }
open Go.RowKit Go.Lib in
theorem Tryz.strings_Fields (s : ByteArray) (w : World) (hs : s.size < 4294967281) (hascii : ∀ (j : Nat) b, s.data.toList[j]? = some b → b.toNat < 128) (htab : Lib.TabIs Tryz.prog w "strings.asciiSpace" .u8 Lib.asciiSpaceTab) :
  Calls Tryz.prog 202 #[.string s] w fun e w' =>
   e = .returned (.slice (some ⟨w.heap.size, 0, none⟩) (Lib.fields s.data.toList).length (Lib.fields s.data.toList).length) ∧ w' = w.alloc (.cells ((Lib.fields s.data.toList).map fun l => Value.string ⟨l.toArray⟩).toArray 9) := Any.strings_Fields Tryz.lays157 (by kernel_rfl) (by kernel_rfl) s w hs hascii htab
open Go.RowKit Go.Lib in
theorem Tryz.strings_ContainsFunc_grows (g : Nat) (lb : Array Value) (eg : ∀ args w, (callFunc g args).run Tryz.prog w = .ok (.enter g args) w) (p : Nat → Bool) (s : ByteArray) (w : World) (hp : PredGrows Tryz.prog g lb p w) :
  Calls Tryz.prog 156 #[.string s, .func (.func g) #[] lb] w fun e w' => e = .returned (.bool (decide (0 ≤ Lib.idxFunc p true s))) ∧ Below w.heap.size w w' := Any.strings_ContainsFunc_grows Tryz.laysGw17 g lb eg p s w hp
def Tryz.lays107_ren : Go.Shelf.Ren := ⟨fun | 107 => 161 | 108 => 203 | n => n, fun | 28 => 49 | 3 => 3 | 4 => 4 | 0 => 0 | n => n, fun | n => n⟩
theorem Tryz.lays107 : Go.Proofs.Lays.n107 Tryz.prog Tryz.lays107_ren := {
 mixed := by kernel_rfl
 f107 := Tryz.func161.trans (congrArg some (by kernel_rfl))
 f108 := Tryz.func203.trans (congrArg some (by kernel_rfl))
 t0 := Tryz.underlying0
 a0 := Tryz.isAgg0
 z0 := Tryz.sizeOf0
 v0 := Tryz.zeroValue0
 t3 := Tryz.underlying3
 a3 := Tryz.isAgg3
 z3 := Tryz.sizeOf3
 v3 := Tryz.zeroValue3
 t4 := Tryz.underlying4
 a4 := Tryz.isAgg4
 z4 := Tryz.sizeOf4
 v4 := Tryz.zeroValue4
 t28 := Tryz.underlying49
 a28 := Tryz.isAgg49
 z28 := Tryz.sizeOf49
 v28 := Tryz.zeroValue49 }
open Go.Lib in
theorem Tryz.slices_Contains_int (b off n c : Nat) (zs : List Int) (x : Int) (w : World) (hz : n ≤ zs.length) (hbig : n ≤ 9223372036854775807) (hc : ∀ j, j < zs.length → w.cell? ⟨b, off + j, none⟩ = some (.int .i64 (zs.getD j 0))) :
  Calls Tryz.prog 161 #[.slice (some ⟨b, off, none⟩) n c, .int .i64 x] w fun e w' => e = .returned (.bool ((zs.take n).contains x)) ∧ w' = w := Any.slices_Contains_int Tryz.lays107 b off n c zs x w hz hbig hc
def Tryz.lays110_ren : Go.Shelf.Ren := ⟨fun | 110 => 157 | 109 => 201 | n => n, fun | 31 => 22 | 9 => 9 | 4 => 4 | 3 => 3 | 0 => 0 | n => n, fun | n => n⟩
theorem Tryz.lays110 : Go.Proofs.Lays.n110 Tryz.prog Tryz.lays110_ren := {
 mixed := by kernel_rfl
 f109 := Tryz.func201.trans (congrArg some (by kernel_rfl))
 f110 := Tryz.func157.trans (congrArg some (by kernel_rfl))
 t0 := Tryz.underlying0
 a0 := Tryz.isAgg0
 z0 := Tryz.sizeOf0
 v0 := Tryz.zeroValue0
 t3 := Tryz.underlying3
 a3 := Tryz.isAgg3
 z3 := Tryz.sizeOf3
 v3 := Tryz.zeroValue3
 t4 := Tryz.underlying4
 a4 := Tryz.isAgg4
 z4 := Tryz.sizeOf4
 v4 := Tryz.zeroValue4
 t9 := Tryz.underlying9
 a9 := Tryz.isAgg9
 z9 := Tryz.sizeOf9
 v9 := Tryz.zeroValue9
 t31 := Tryz.underlying22
 a31 := Tryz.isAgg22
 z31 := Tryz.sizeOf22
 v31 := Tryz.zeroValue22 }
open Go.Lib in
theorem Tryz.slices_Contains_string (b off n c : Nat) (zs : List ByteArray) (x : ByteArray) (w : World) (hz : n ≤ zs.length) (hbig : n ≤ 9223372036854775807) (hc : ∀ j, j < zs.length → w.cell? ⟨b, off + j, none⟩ = some (.string (zs.getD j ByteArray.empty))) :
  Calls Tryz.prog 157 #[.slice (some ⟨b, off, none⟩) n c, .string x] w fun e w' => e = .returned (.bool (Lib.containsS (zs.take n) x)) ∧ w' = w := Any.slices_Contains_string Tryz.lays110 b off n c zs x w hz hbig hc
def Tryz.lays111_ren : Go.Shelf.Ren := ⟨fun | 111 => 219 | n => n, fun | 28 => 49 | 3 => 3 | 4 => 4 | 0 => 0 | n => n, fun | n => n⟩
theorem Tryz.lays111 : Go.Proofs.Lays.n111 Tryz.prog Tryz.lays111_ren := {
 mixed := by kernel_rfl
 f111 := Tryz.func219.trans (congrArg some (by kernel_rfl))
 t0 := Tryz.underlying0
 a0 := Tryz.isAgg0
 z0 := Tryz.sizeOf0
 v0 := Tryz.zeroValue0
 t3 := Tryz.underlying3
 a3 := Tryz.isAgg3
 z3 := Tryz.sizeOf3
 v3 := Tryz.zeroValue3
 t4 := Tryz.underlying4
 a4 := Tryz.isAgg4
 z4 := Tryz.sizeOf4
 v4 := Tryz.zeroValue4
 t28 := Tryz.underlying49
 a28 := Tryz.isAgg49
 z28 := Tryz.sizeOf49
 v28 := Tryz.zeroValue49 }
open Go.RowKit Go.Lib in
theorem Tryz.slices_Equal_int (b1 o1 n c b2 o2 m d : Nat) (xs ys : List Int) (w : World) (hx : n ≤ xs.length) (hy : m ≤ ys.length) (hbig : n ≤ 9223372036854775807) (hbig2 : m ≤ 9223372036854775807) (hc1 : ∀ j, j < xs.length → w.cell? ⟨b1, o1 + j, none⟩ = some (.int .i64 (xs.getD j 0))) (hc2 : ∀ j, j < ys.length → w.cell? ⟨b2, o2 + j, none⟩ = some (.int .i64 (ys.getD j 0))) :
  Calls Tryz.prog 219 #[.slice (some ⟨b1, o1, none⟩) n c, .slice (some ⟨b2, o2, none⟩) m d] w fun e w' => e = .returned (.bool (xs.take n == ys.take m)) ∧ ∃ q, w' = w.drewN q := Any.slices_Equal_int Tryz.lays111 b1 o1 n c b2 o2 m d xs ys w hx hy hbig hbig2 hc1 hc2
open Go.RowKit Go.Lib in
theorem Tryz.slices_Equal_int_empty (a1 a2 : Option Addr) (c m d : Nat) (w : World) (hbig2 : m ≤ 9223372036854775807) :
  Calls Tryz.prog 219 #[.slice a1 0 c, .slice a2 m d] w fun e w' => e = .returned (.bool (decide (m = 0))) ∧ w' = w := Any.slices_Equal_int_empty Tryz.lays111 a1 a2 c m d w hbig2
open Go.RowKit Go.Lib in
theorem Tryz.slices_Equal_int_lens (a1 a2 : Option Addr) (n c m d : Nat) (w : World) (hnm : n ≠ m) :
  Calls Tryz.prog 219 #[.slice a1 n c, .slice a2 m d] w fun e w' => e = .returned (.bool false) ∧ w' = w := Any.slices_Equal_int_lens Tryz.lays111 a1 a2 n c m d w hnm
end Go.Proofs
