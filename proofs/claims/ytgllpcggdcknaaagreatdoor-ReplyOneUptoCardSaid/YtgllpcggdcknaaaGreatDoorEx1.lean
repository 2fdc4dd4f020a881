import Derived.Shelf.SlSortCmp.Whole1
import Derived.Shelf.SlGeneric
import Derived.Ground.SlsfProg
import Derived.Shelf.Strings.Builder1
import Derived.Shelf.Strings.Builder2
import Derived.Shelf.Strings.OnBuilder
import Derived.Shelf.Small.Bits
import Derived.Shelf.Small.Strs
import Derived.Shelf.Strings.BuilderF
import Derived.Shelf.Strings.BuilderK
import Derived.Shelf.Utf8.RuneCount
import Derived.Shelf.Strings.Builder2Cap
import Derived.Shelf.Strconv.Itoa0
import Derived.Shelf.Strconv.Itoa1
import Derived.Shelf.LaysM
import Derived.Shelf.Strconv.Itoa2
import Derived.Shelf.Strconv.Itoa3
import Derived.Shelf.Strconv.Clone
import Derived.Shelf.Strconv.SyntaxError
import Derived.Shelf.LaysC
import Derived.Shelf.Strconv.ToError
import Derived.Shelf.Strconv.Lower
import Derived.Shelf.Strconv.ParseUint10
import Derived.Shelf.Strconv.ParseUint10Empty
import Derived.Shelf.Strconv.ParseUint10Any
import Derived.Shelf.Strconv.RangeError
import Derived.Shelf.Strconv.ToErrorRange
import Derived.Shelf.Strconv.ParseUintEmpty
import Derived.Shelf.Strconv.ParseUint10b64
import Derived.Shelf.Strconv.ParseUint10b32
import Derived.Shelf.Strconv.ParseUint10b16
import Derived.Shelf.Strconv.ParseUint10b8
import Derived.Shelf.Strconv.ParseUint10At
import Derived.Shelf.Strings.Search1
import Derived.Shelf.Strings.Search2
import Derived.Shelf.Strings.Search3
import Derived.Shelf.Strings.Count
import Derived.Shelf.Strings.Shaped
import Derived.Shelf.Strings.Prefix
import Derived.Shelf.Strings.Split
import Derived.Shelf.Strings.SplitShaped
import Derived.Shelf.Unicode.Decode
import Derived.Shelf.Strings.RuneCount
import Derived.Shelf.Strings.Explode
import Derived.Shelf.Unicode.DecodeSlow
import Derived.Shelf.Unicode.DecodeAny
import Derived.Shelf.Strings.BuilderCap
import Derived.Shelf.Slices.Turned
import Derived.Shelf.Slices.Equal
import Derived.Ground.Names2Prog
import Derived.Shelf.Slices.Clone
import Derived.Shelf.Slices.CompactS
import Derived.Shelf.Slices.Cells
import Derived.Shelf.Slices.Empties2
import Derived.Ground.SlgnProg
import Derived.Shelf.SlicesE.Clone
import Derived.Test.YtgllpcggdcknaaaGreatDoorProg
set_option linter.unusedVariables false
set_option linter.unusedSimpArgs false
namespace Go.Proofs
open Go.Shelf
def Tryz.lays169_ren : Go.Shelf.Ren := ⟨fun | 169 => 73 | n => n, fun | 70 => 88 | 9 => 9 | 0 => 0 | 72 => 91 | 37 => 89 | 127 => 110 | 3 => 3 | 5 => 5 | n => n, fun | n => n⟩
theorem Tryz.lays169 : Go.Proofs.Lays.n169 Tryz.prog Tryz.lays169_ren := {
 mixed := by kernel_rfl
 f169 := Tryz.func73.trans (congrArg some (by kernel_rfl))
 t0 := Tryz.underlying0
 a0 := Tryz.isAgg0
 z0 := Tryz.sizeOf0
 v0 := Tryz.zeroValue0
 t3 := Tryz.underlying3
 a3 := Tryz.isAgg3
 z3 := Tryz.sizeOf3
 v3 := Tryz.zeroValue3
 t9 := Tryz.underlying9
 a9 := Tryz.isAgg9
 z9 := Tryz.sizeOf9
 v9 := Tryz.zeroValue9
 t37 := Tryz.underlying89
 a37 := Tryz.isAgg89
 z37 := Tryz.sizeOf89
 v37 := Tryz.zeroValue89
 t70 := Tryz.underlying88
 a70 := Tryz.isAgg88
 z70 := Tryz.sizeOf88
 v70 := Tryz.zeroValue88
 t72 := Tryz.underlying91
 a72 := Tryz.isAgg91
 z72 := Tryz.sizeOf91
 v72 := Tryz.zeroValue91
 t127 := Tryz.underlying110
 a127 := Tryz.isAgg110
 z127 := Tryz.sizeOf110
 v127 := Tryz.zeroValue110 }
theorem Tryz.Builder_Extra_169 : Builder.Extra Tryz.prog Tryz.lays169_ren := {
 sizeBuilder := by kernel_rfl
 liesBuilder := by kernel_rfl
 t5 := Tryz.underlying5
 a5 := Tryz.isAgg5
 z5 := Tryz.sizeOf5
 v5 := Tryz.zeroValue5
 infoByte := by kernel_rfl
 cellsByte := by kernel_rfl
 sizeByte := by kernel_rfl
 neB5 := by decide }
open Go.RowKit in
theorem Tryz.Builder_String (B b : Nat) (l : List UInt8) (w : World) (h : Lib.IsBuilder 91 5 B b (Lib.byteCells l) w) (h0 : l ≠ []) :
  Calls Tryz.prog 73 #[.pointer (some ⟨b, 0, none⟩)] w fun e w' => e = .returned (.string ⟨l.toArray⟩) ∧ Below B w w' := Any.Builder_String Tryz.lays169 Tryz.Builder_Extra_169 B b l w h h0
open Go.RowKit in
theorem Tryz.Builder_String_empty (B b : Nat) (w : World) (h : Lib.IsBuilder 91 5 B b [] w) (hBw : B ≤ w.heap.size) :
  Calls Tryz.prog 73 #[.pointer (some ⟨b, 0, none⟩)] w fun e w' => e = .returned (.string ⟨#[]⟩) ∧ Below B w w' := Any.Builder_String_empty Tryz.lays169 Tryz.Builder_Extra_169 B b w h hBw
open Go.RowKit in
theorem Tryz.Builder_String_any (B b : Nat) (l : List UInt8) (w : World) (h : Lib.IsBuilder 91 5 B b (Lib.byteCells l) w) (hBw : B ≤ w.heap.size) :
  Calls Tryz.prog 73 #[.pointer (some ⟨b, 0, none⟩)] w fun e w' => e = .returned (.string ⟨l.toArray⟩) ∧ Below B w w' := Any.Builder_String_any Tryz.lays169 Tryz.Builder_Extra_169 B b l w h hBw
def Tryz.lays241_ren : Go.Shelf.Ren := ⟨fun | 241 => 102 | 277 => 118 | n => n, fun | 70 => 88 | 3 => 3 | 0 => 0 | 72 => 91 | 37 => 89 | 5 => 5 | n => n, fun | n => n⟩
theorem Tryz.lays241 : Go.Proofs.Lays.n241 Tryz.prog Tryz.lays241_ren := {
 mixed := by kernel_rfl
 f241 := Tryz.func102.trans (congrArg some (by kernel_rfl))
 f277 := Tryz.func118.trans (congrArg some (by kernel_rfl))
 t0 := Tryz.underlying0
 a0 := Tryz.isAgg0
 z0 := Tryz.sizeOf0
 v0 := Tryz.zeroValue0
 t3 := Tryz.underlying3
 a3 := Tryz.isAgg3
 z3 := Tryz.sizeOf3
 v3 := Tryz.zeroValue3
 t37 := Tryz.underlying89
 a37 := Tryz.isAgg89
 z37 := Tryz.sizeOf89
 v37 := Tryz.zeroValue89
 t70 := Tryz.underlying88
 a70 := Tryz.isAgg88
 z70 := Tryz.sizeOf88
 v70 := Tryz.zeroValue88
 t72 := Tryz.underlying91
 a72 := Tryz.isAgg91
 z72 := Tryz.sizeOf91
 v72 := Tryz.zeroValue91 }
theorem Tryz.Builder_Extra_241 : Builder.Extra Tryz.prog Tryz.lays241_ren := {
 sizeBuilder := by kernel_rfl
 liesBuilder := by kernel_rfl
 t5 := Tryz.underlying5
 a5 := Tryz.isAgg5
 z5 := Tryz.sizeOf5
 v5 := Tryz.zeroValue5
 infoByte := by kernel_rfl
 cellsByte := by kernel_rfl
 sizeByte := by kernel_rfl
 neB5 := by decide }
open Go.RowKit in
theorem Tryz.Builder_grow_fresh (B b n : Nat) (w : World) (hB : B ≤ b) (hbk : w.heap[b]? = some (.cells #[.pointer (some ⟨b, 0, none⟩), .slice none 0 0] 91 (0, 0))) (hBw : B ≤ w.heap.size) (hn : n ≤ 281474976710656) :
  Calls Tryz.prog 102 #[.pointer (some ⟨b, 0, none⟩), .int .i64 n] w fun e w' => e = .returned (.tuple #[]) ∧ (Lib.BuilderAt 91 5 B b (.pointer (some ⟨b, 0, none⟩)) [] w' ∧ Below B w w') := Any.Builder_grow_fresh Tryz.lays241 Tryz.Builder_Extra_241 B b n w hB hbk hBw hn
def Tryz.lays165_ren : Go.Shelf.Ren := ⟨fun | 165 => 71 | 240 => 101 | 241 => 102 | 276 => 117 | 277 => 118 | n => n, fun | 70 => 88 | 3 => 3 | 0 => 0 | 4 => 4 | 9 => 9 | 20 => 20 | 72 => 91 | 37 => 89 | 164 => 123 | 5 => 5 | n => n, fun | n => n⟩
theorem Tryz.lays165 : Go.Proofs.Lays.n165 Tryz.prog Tryz.lays165_ren := {
 mixed := by kernel_rfl
 f165 := Tryz.func71.trans (congrArg some (by kernel_rfl))
 f240 := Tryz.func101.trans (congrArg some (by kernel_rfl))
 f241 := Tryz.func102.trans (congrArg some (by kernel_rfl))
 f276 := Tryz.func117.trans (congrArg some (by kernel_rfl))
 f277 := Tryz.func118.trans (congrArg some (by kernel_rfl))
 t0 := Tryz.underlying0
 a0 := Tryz.isAgg0
 z0 := Tryz.sizeOf0
 v0 := Tryz.zeroValue0
 t3 := Tryz.underlying3
 a3 := Tryz.isAgg3
 z3 := Tryz.sizeOf3
 v3 := Tryz.zeroValue3
 t4 := Tryz.underlying4
 a4 := Tryz.isAgg4
 z4 := Tryz.sizeOf4
 v4 := Tryz.zeroValue4
 t9 := Tryz.underlying9
 a9 := Tryz.isAgg9
 z9 := Tryz.sizeOf9
 v9 := Tryz.zeroValue9
 t20 := Tryz.underlying20
 a20 := Tryz.isAgg20
 z20 := Tryz.sizeOf20
 v20 := Tryz.zeroValue20
 t37 := Tryz.underlying89
 a37 := Tryz.isAgg89
 z37 := Tryz.sizeOf89
 v37 := Tryz.zeroValue89
 t70 := Tryz.underlying88
 a70 := Tryz.isAgg88
 z70 := Tryz.sizeOf88
 v70 := Tryz.zeroValue88
 t72 := Tryz.underlying91
 a72 := Tryz.isAgg91
 z72 := Tryz.sizeOf91
 v72 := Tryz.zeroValue91
 t164 := Tryz.underlying123
 a164 := Tryz.isAgg123
 z164 := Tryz.sizeOf123
 v164 := Tryz.zeroValue123 }
theorem Tryz.Builder_Extra_165 : Builder.Extra Tryz.prog Tryz.lays165_ren := {
 sizeBuilder := by kernel_rfl
 liesBuilder := by kernel_rfl
 t5 := Tryz.underlying5
 a5 := Tryz.isAgg5
 z5 := Tryz.sizeOf5
 v5 := Tryz.zeroValue5
 infoByte := by kernel_rfl
 cellsByte := by kernel_rfl
 sizeByte := by kernel_rfl
 neB5 := by decide }
open Go.RowKit in
theorem Tryz.Builder_Grow_fresh (B b n : Nat) (w : World) (hB : B ≤ b) (hbk : w.heap[b]? = some (.cells #[.pointer none, .slice none 0 0] 91 (0, 0))) (hBw : B ≤ w.heap.size) (hn : n ≤ 281474976710656) :
  Calls Tryz.prog 71 #[.pointer (some ⟨b, 0, none⟩), .int .i64 n] w fun e w' => e = .returned (.tuple #[]) ∧ (Lib.BuilderAt 91 5 B b (.pointer (some ⟨b, 0, none⟩)) [] w' ∧ Below B w w') := Any.Builder_Grow_fresh Tryz.lays165 Tryz.Builder_Extra_165 B b n w hB hbk hBw hn
def Tryz.lays156_ren : Go.Shelf.Ren := ⟨fun | 156 => 35 | 165 => 71 | 166 => 72 | 169 => 73 | 240 => 101 | 241 => 102 | 276 => 117 | 277 => 118 | n => n, fun | 31 => 24 | 9 => 9 | 3 => 3 | 4 => 4 | 0 => 0 | 20 => 20 | 72 => 91 | 76 => 95 | 70 => 88 | 37 => 89 | 75 => 94 | 127 => 110 | 164 => 123 | 5 => 5 | 80 => 70 | n => n, fun | n => n⟩
theorem Tryz.lays156 : Go.Proofs.Lays.n156 Tryz.prog Tryz.lays156_ren := {
 mixed := by kernel_rfl
 f156 := Tryz.func35.trans (congrArg some (by kernel_rfl))
 f165 := Tryz.func71.trans (congrArg some (by kernel_rfl))
 f166 := Tryz.func72.trans (congrArg some (by kernel_rfl))
 f169 := Tryz.func73.trans (congrArg some (by kernel_rfl))
 f240 := Tryz.func101.trans (congrArg some (by kernel_rfl))
 f241 := Tryz.func102.trans (congrArg some (by kernel_rfl))
 f276 := Tryz.func117.trans (congrArg some (by kernel_rfl))
 f277 := Tryz.func118.trans (congrArg some (by kernel_rfl))
 t0 := Tryz.underlying0
 a0 := Tryz.isAgg0
 z0 := Tryz.sizeOf0
 v0 := Tryz.zeroValue0
 t3 := Tryz.underlying3
 a3 := Tryz.isAgg3
 z3 := Tryz.sizeOf3
 v3 := Tryz.zeroValue3
 t4 := Tryz.underlying4
 a4 := Tryz.isAgg4
 z4 := Tryz.sizeOf4
 v4 := Tryz.zeroValue4
 t9 := Tryz.underlying9
 a9 := Tryz.isAgg9
 z9 := Tryz.sizeOf9
 v9 := Tryz.zeroValue9
 t20 := Tryz.underlying20
 a20 := Tryz.isAgg20
 z20 := Tryz.sizeOf20
 v20 := Tryz.zeroValue20
 t31 := Tryz.underlying24
 a31 := Tryz.isAgg24
 z31 := Tryz.sizeOf24
 v31 := Tryz.zeroValue24
 t37 := Tryz.underlying89
 a37 := Tryz.isAgg89
 z37 := Tryz.sizeOf89
 v37 := Tryz.zeroValue89
 t70 := Tryz.underlying88
 a70 := Tryz.isAgg88
 z70 := Tryz.sizeOf88
 v70 := Tryz.zeroValue88
 t72 := Tryz.underlying91
 a72 := Tryz.isAgg91
 z72 := Tryz.sizeOf91
 v72 := Tryz.zeroValue91
 t75 := Tryz.underlying94
 a75 := Tryz.isAgg94
 z75 := Tryz.sizeOf94
 v75 := Tryz.zeroValue94
 t76 := Tryz.underlying95
 a76 := Tryz.isAgg95
 z76 := Tryz.sizeOf95
 v76 := Tryz.zeroValue95
 t127 := Tryz.underlying110
 a127 := Tryz.isAgg110
 z127 := Tryz.sizeOf110
 v127 := Tryz.zeroValue110
 t164 := Tryz.underlying123
 a164 := Tryz.isAgg123
 z164 := Tryz.sizeOf123
 v164 := Tryz.zeroValue123 }
theorem Tryz.Builder_Extra_156 : Builder.Extra Tryz.prog Tryz.lays156_ren := {
 sizeBuilder := by kernel_rfl
 liesBuilder := by kernel_rfl
 t5 := Tryz.underlying5
 a5 := Tryz.isAgg5
 z5 := Tryz.sizeOf5
 v5 := Tryz.zeroValue5
 infoByte := by kernel_rfl
 cellsByte := by kernel_rfl
 sizeByte := by kernel_rfl
 neB5 := by decide }
open Go.RowKit in
theorem Tryz.strings_Join_none (a : Option Addr) (c : Nat) (sep : ByteArray) (w : World) :
  Calls Tryz.prog 35 #[.slice a 0 c, .string sep] w fun e w' => e = .returned (.string ⟨#[]⟩) ∧ w' = w := Any.strings_Join_none Tryz.lays156 Tryz.Builder_Extra_156 a c sep w
open Go.RowKit in
theorem Tryz.strings_Join (bk o c : Nat) (xs : List ByteArray) (sep : ByteArray) (w : World) (hcells : ∀ (j : Nat) x, xs[j]? = some x → w.cell? ⟨bk, o + j, none⟩ = some (.string x)) (hbk : bk < w.heap.size) (hN : xs.length ≤ 140737488355328) (hcap : xs.length ≤ c) (hlen : (Lib.join (xs.map (·.data.toList)) sep.data.toList).length ≤ 140737488355328) :
  Calls Tryz.prog 35 #[.slice (some ⟨bk, o, none⟩) xs.length c, .string sep] w fun e w' => e = .returned (.string ⟨(Lib.join (xs.map (·.data.toList)) sep.data.toList).toArray⟩) ∧ Below w.heap.size w w' := Any.strings_Join Tryz.lays156 Tryz.Builder_Extra_156 bk o c xs sep w hcells hbk hN hcap hlen
def Tryz.lays125_ren : Go.Shelf.Ren := ⟨fun | 125 => 153 | 128 => 170 | 129 => 126 | n => n, fun | 46 => 136 | 3 => 3 | 51 => 133 | 53 => 22 | 4 => 4 | 5 => 5 | 9 => 9 | n => n, fun | n => n⟩
theorem Tryz.lays125 : Go.Proofs.Lays.n125 Tryz.prog Tryz.lays125_ren := {
 mixed := by kernel_rfl
 f125 := Tryz.func153.trans (congrArg some (by kernel_rfl))
 f128 := Tryz.func170.trans (congrArg some (by kernel_rfl))
 f129 := Tryz.func126.trans (congrArg some (by kernel_rfl))
 t3 := Tryz.underlying3
 a3 := Tryz.isAgg3
 z3 := Tryz.sizeOf3
 v3 := Tryz.zeroValue3
 t4 := Tryz.underlying4
 a4 := Tryz.isAgg4
 z4 := Tryz.sizeOf4
 v4 := Tryz.zeroValue4
 t5 := Tryz.underlying5
 a5 := Tryz.isAgg5
 z5 := Tryz.sizeOf5
 v5 := Tryz.zeroValue5
 t9 := Tryz.underlying9
 a9 := Tryz.isAgg9
 z9 := Tryz.sizeOf9
 v9 := Tryz.zeroValue9
 t46 := Tryz.underlying136
 a46 := Tryz.isAgg136
 z46 := Tryz.sizeOf136
 v46 := Tryz.zeroValue136
 t51 := Tryz.underlying133
 a51 := Tryz.isAgg133
 z51 := Tryz.sizeOf133
 v51 := Tryz.zeroValue133
 t53 := Tryz.underlying22
 a53 := Tryz.isAgg22
 z53 := Tryz.sizeOf22
 v53 := Tryz.zeroValue22 }
theorem Tryz.bits_Len (x : Int) (w : World) (h0 : 0 ≤ x) (h1 : x ≤ 18446744073709551615) :
  Calls Tryz.prog 153 #[.int .u64 x] w fun e w' => e = .returned (.int .i64 (Lib.bitLen x.toNat)) ∧ w' = w := Any.bits_Len Tryz.lays125 x w h0 h1
def Tryz.lays213_ren : Go.Shelf.Ren := ⟨fun | 213 => 172 | 265 => 179 | n => n, fun | 9 => 9 | 3 => 3 | n => n, fun | n => n⟩
theorem Tryz.lays213 : Go.Proofs.Lays.n213 Tryz.prog Tryz.lays213_ren := {
 mixed := by kernel_rfl
 f213 := Tryz.func172.trans (congrArg some (by kernel_rfl))
 f265 := Tryz.func179.trans (congrArg some (by kernel_rfl))
 t3 := Tryz.underlying3
 a3 := Tryz.isAgg3
 z3 := Tryz.sizeOf3
 v3 := Tryz.zeroValue3
 t9 := Tryz.underlying9
 a9 := Tryz.isAgg9
 z9 := Tryz.sizeOf9
 v9 := Tryz.zeroValue9 }
open Go.RowKit in
theorem Tryz.bytealg_CompareString (a b : ByteArray) (w : World) :
  Calls Tryz.prog 172 #[.string a, .string b] w fun e w' => e = .returned (.int .i64 (Lib.compareBytes a.data.toList b.data.toList)) ∧ w' = w := Any.bytealg_CompareString Tryz.lays213 a b w
def Tryz.lays106_ren : Go.Shelf.Ren := ⟨fun | 106 => 155 | 213 => 172 | 265 => 179 | n => n, fun | 9 => 9 | 3 => 3 | n => n, fun | n => n⟩
theorem Tryz.lays106 : Go.Proofs.Lays.n106 Tryz.prog Tryz.lays106_ren := {
 mixed := by kernel_rfl
 f106 := Tryz.func155.trans (congrArg some (by kernel_rfl))
 f213 := Tryz.func172.trans (congrArg some (by kernel_rfl))
 f265 := Tryz.func179.trans (congrArg some (by kernel_rfl))
 t3 := Tryz.underlying3
 a3 := Tryz.isAgg3
 z3 := Tryz.sizeOf3
 v3 := Tryz.zeroValue3
 t9 := Tryz.underlying9
 a9 := Tryz.isAgg9
 z9 := Tryz.sizeOf9
 v9 := Tryz.zeroValue9 }
open Go.RowKit in
theorem Tryz.strings_Compare (a b : ByteArray) (w : World) :
  Calls Tryz.prog 155 #[.string a, .string b] w fun e w' => e = .returned (.int .i64 (Lib.compareBytes a.data.toList b.data.toList)) ∧ w' = w := Any.strings_Compare Tryz.lays106 a b w
def Tryz.lays137_ren : Go.Shelf.Ren := ⟨fun | 137 => 25 | 217 => 59 | 266 => 93 | n => n, fun | 9 => 9 | 5 => 5 | 3 => 3 | n => n, fun | n => n⟩
theorem Tryz.lays137 : Go.Proofs.Lays.n137 Tryz.prog Tryz.lays137_ren := {
 mixed := by kernel_rfl
 f137 := Tryz.func25.trans (congrArg some (by kernel_rfl))
 f217 := Tryz.func59.trans (congrArg some (by kernel_rfl))
 f266 := Tryz.func93.trans (congrArg some (by kernel_rfl))
 t3 := Tryz.underlying3
 a3 := Tryz.isAgg3
 z3 := Tryz.sizeOf3
 v3 := Tryz.zeroValue3
 t5 := Tryz.underlying5
 a5 := Tryz.isAgg5
 z5 := Tryz.sizeOf5
 v5 := Tryz.zeroValue5
 t9 := Tryz.underlying9
 a9 := Tryz.isAgg9
 z9 := Tryz.sizeOf9
 v9 := Tryz.zeroValue9 }
open Go.RowKit in
theorem Tryz.strings_IndexByte (s : ByteArray) (c : Int) (w : World) :
  Calls Tryz.prog 25 #[.string s, .int .u8 c] w fun e w' => e = .returned (.int .i64 (Lib.indexByte s.data.toList c.toNat.toUInt8)) ∧ w' = w := Any.strings_IndexByte Tryz.lays137 s c w
open Go.RowKit in
theorem Tryz.Builder_String_f (B b : Nat) (l : List UInt8) (w : World) (h : Lib.IsBuilderF 91 5 B b (Lib.byteCells l) w) (h0 : l ≠ []) :
  Calls Tryz.prog 73 #[.pointer (some ⟨b, 0, none⟩)] w fun e w' => e = .returned (.string ⟨l.toArray⟩) ∧ (Lib.IsBuilderF 91 5 B b (Lib.byteCells l) w' ∧ Below B w w') := Any.Builder_String_f Tryz.lays169 Tryz.Builder_Extra_169 B b l w h h0
open Go.RowKit in
theorem Tryz.Builder_String_empty_f (B b : Nat) (w : World) (h : Lib.IsBuilderF 91 5 B b [] w) (hBw : B ≤ w.heap.size) :
  Calls Tryz.prog 73 #[.pointer (some ⟨b, 0, none⟩)] w fun e w' => e = .returned (.string ⟨#[]⟩) ∧ (Lib.IsBuilderF 91 5 B b [] w' ∧ Below B w w') := Any.Builder_String_empty_f Tryz.lays169 Tryz.Builder_Extra_169 B b w h hBw
open Go.RowKit in
theorem Tryz.Builder_String_any_f (B b : Nat) (l : List UInt8) (w : World) (h : Lib.IsBuilderF 91 5 B b (Lib.byteCells l) w) (hBw : B ≤ w.heap.size) :
  Calls Tryz.prog 73 #[.pointer (some ⟨b, 0, none⟩)] w fun e w' => e = .returned (.string ⟨l.toArray⟩) ∧ (Lib.IsBuilderF 91 5 B b (Lib.byteCells l) w' ∧ Below B w w') := Any.Builder_String_any_f Tryz.lays169 Tryz.Builder_Extra_169 B b l w h hBw
open Go.RowKit in
theorem Tryz.Builder_String_k (B b : Nat) (l : List UInt8) (w : World) (h : Lib.IsBuilderF 91 5 B b (Lib.byteCells l) w) (h0 : l ≠ []) :
  Calls Tryz.prog 73 #[.pointer (some ⟨b, 0, none⟩)] w fun e w' => e = .returned (.string ⟨l.toArray⟩) ∧ (Lib.IsBuilderF 91 5 B b (Lib.byteCells l) w' ∧ Below B w w' ∧ Lib.OthersKept 5 (some b) w w') := Any.Builder_String_k Tryz.lays169 Tryz.Builder_Extra_169 B b l w h h0
open Go.RowKit in
theorem Tryz.Builder_String_empty_k (B b : Nat) (w : World) (h : Lib.IsBuilderF 91 5 B b [] w) (hBw : B ≤ w.heap.size) :
  Calls Tryz.prog 73 #[.pointer (some ⟨b, 0, none⟩)] w fun e w' => e = .returned (.string ⟨#[]⟩) ∧ (Lib.IsBuilderF 91 5 B b [] w' ∧ Below B w w' ∧ Lib.OthersKept 5 (some b) w w') := Any.Builder_String_empty_k Tryz.lays169 Tryz.Builder_Extra_169 B b w h hBw
open Go.RowKit in
theorem Tryz.Builder_String_any_k (B b : Nat) (l : List UInt8) (w : World) (h : Lib.IsBuilderF 91 5 B b (Lib.byteCells l) w) (hBw : B ≤ w.heap.size) :
  Calls Tryz.prog 73 #[.pointer (some ⟨b, 0, none⟩)] w fun e w' => e = .returned (.string ⟨l.toArray⟩) ∧ (Lib.IsBuilderF 91 5 B b (Lib.byteCells l) w' ∧ Below B w w' ∧ Lib.OthersKept 5 (some b) w w') := Any.Builder_String_any_k Tryz.lays169 Tryz.Builder_Extra_169 B b l w h hBw
def Tryz.lays195_ren : Go.Shelf.Ren := ⟨fun | 195 => 148 | n => n, fun | 9 => 9 | 3 => 3 | 0 => 0 | 4 => 4 | n => n, fun | n => n⟩
theorem Tryz.lays195 : Go.Proofs.Lays.n195 Tryz.prog Tryz.lays195_ren := {
 mixed := by kernel_rfl
 f195 := Tryz.func148.trans (congrArg some (by kernel_rfl))
 t0 := Tryz.underlying0
 a0 := Tryz.isAgg0
 z0 := Tryz.sizeOf0
 v0 := Tryz.zeroValue0
 t3 := Tryz.underlying3
 a3 := Tryz.isAgg3
 z3 := Tryz.sizeOf3
 v3 := Tryz.zeroValue3
 t4 := Tryz.underlying4
 a4 := Tryz.isAgg4
 z4 := Tryz.sizeOf4
 v4 := Tryz.zeroValue4
 t9 := Tryz.underlying9
 a9 := Tryz.isAgg9
 z9 := Tryz.sizeOf9
 v9 := Tryz.zeroValue9 }
open Go.RowKit in
theorem Tryz.utf8_RuneCountInString (s : ByteArray) (w : World) (hs : s.size < 9223372036854775807) :
  Calls Tryz.prog 148 #[.string s] w fun e w' => e = .returned (.int .i64 (Lib.runeCount s)) ∧ ∃ pos, w' = w.iter s pos := Any.utf8_RuneCountInString Tryz.lays195 s w hs
open Go.RowKit in
theorem Tryz.Builder_grow_fresh_cap (B b n : Nat) (w : World) (hB : B ≤ b) (hbk : w.heap[b]? = some (.cells #[.pointer (some ⟨b, 0, none⟩), .slice none 0 0] 91 (0, 0))) (hBw : B ≤ w.heap.size) (hn : n ≤ 281474976710656) :
  Calls Tryz.prog 102 #[.pointer (some ⟨b, 0, none⟩), .int .i64 n] w fun e w' => e = .returned (.tuple #[]) ∧ (Lib.BuilderAt 91 5 B b (.pointer (some ⟨b, 0, none⟩)) [] w' ∧ Below B w w') ∧ ∃ p cap, w'.cell? ⟨b, 1, none⟩ = some (.slice p 0 cap) ∧ n ≤ cap := Any.Builder_grow_fresh_cap Tryz.lays241 Tryz.Builder_Extra_241 B b n w hB hbk hBw hn
open Go.RowKit in
theorem Tryz.Builder_Grow_fresh_cap (B b n : Nat) (w : World) (hB : B ≤ b) (hbk : w.heap[b]? = some (.cells #[.pointer none, .slice none 0 0] 91 (0, 0))) (hBw : B ≤ w.heap.size) (hn : n ≤ 281474976710656) :
  Calls Tryz.prog 71 #[.pointer (some ⟨b, 0, none⟩), .int .i64 n] w fun e w' => e = .returned (.tuple #[]) ∧ (Lib.BuilderAt 91 5 B b (.pointer (some ⟨b, 0, none⟩)) [] w' ∧ Below B w w') ∧ ∃ p cap, w'.cell? ⟨b, 1, none⟩ = some (.slice p 0 cap) ∧ n ≤ cap := Any.Builder_Grow_fresh_cap Tryz.lays165 Tryz.Builder_Extra_165 B b n w hB hbk hBw hn
def Tryz.lays317_ren : Go.Shelf.Ren := ⟨fun | 317 => 125 | n => n, fun | 3 => 3 | 46 => 136 | n => n, fun | n => n⟩
theorem Tryz.lays317 : Go.Proofs.Lays.n317 Tryz.prog Tryz.lays317_ren := {
 mixed := by kernel_rfl
 f317 := Tryz.func125.trans (congrArg some (by kernel_rfl))
 t3 := Tryz.underlying3
 a3 := Tryz.isAgg3
 z3 := Tryz.sizeOf3
 v3 := Tryz.zeroValue3
 t46 := Tryz.underlying136
 a46 := Tryz.isAgg136
 z46 := Tryz.sizeOf136
 v46 := Tryz.zeroValue136 }
open Go.Lib in
theorem Tryz.internal_strconv_log10Pow2 (x : Nat) (h : x ≤ 64) (w : World) :
  Calls Tryz.prog 125 #[.int .i64 x] w fun e w' => e = .returned (.int .i64 (Lib.l10 x)) ∧ w' = w := Any.internal_strconv_log10Pow2 Tryz.lays317 x h w
def Tryz.lays318_ren : Go.Shelf.Ren := ⟨fun | 318 => 127 | n => n, fun | 3 => 3 | 4 => 4 | n => n, fun | n => n⟩
theorem Tryz.lays318 : Go.Proofs.Lays.n318 Tryz.prog Tryz.lays318_ren := {
 mixed := by kernel_rfl
 f318 := Tryz.func127.trans (congrArg some (by kernel_rfl))
 t3 := Tryz.underlying3
 a3 := Tryz.isAgg3
 z3 := Tryz.sizeOf3
 v3 := Tryz.zeroValue3
 t4 := Tryz.underlying4
 a4 := Tryz.isAgg4
 z4 := Tryz.sizeOf4
 v4 := Tryz.zeroValue4 }
open Go.Lib in
theorem Tryz.internal_strconv_bool2_int (b : Bool) (w : World) :
  Calls Tryz.prog 127 #[.bool b] w fun e w' => e = .returned (.int .i64 (if b then 1 else 0)) ∧ w' = w := Any.internal_strconv_bool2_int Tryz.lays318 b w
def Tryz.lays283_ren : Go.Shelf.Ren := ⟨fun | 283 => 112 | n => n, fun | 3 => 3 | 9 => 9 | 4 => 4 | n => n, fun | n => n⟩
theorem Tryz.lays283 : Go.Proofs.Lays.n283 Tryz.prog Tryz.lays283_ren := {
 mixed := by kernel_rfl
 f283 := Tryz.func112.trans (congrArg some (by kernel_rfl))
 t3 := Tryz.underlying3
 a3 := Tryz.isAgg3
 z3 := Tryz.sizeOf3
 v3 := Tryz.zeroValue3
 t4 := Tryz.underlying4
 a4 := Tryz.isAgg4
 z4 := Tryz.sizeOf4
 v4 := Tryz.zeroValue4
 t9 := Tryz.underlying9
 a9 := Tryz.isAgg9
 z9 := Tryz.sizeOf9
 v9 := Tryz.zeroValue9 }
open Go.Lib in
theorem Tryz.internal_strconv_small (i : Nat) (h : i < 100) (w : World) :
  Calls Tryz.prog 112 #[.int .i64 i] w fun e w' => e = .returned (.string ⟨(Lib.decDigits i).toArray⟩) ∧ w' = w := Any.internal_strconv_small Tryz.lays283 i h w
def Tryz.laysM284_ren : Go.Shelf.Ren := ⟨fun | 284 => 113 | 129 => 126 | 317 => 125 | 318 => 127 | n => n, fun | 53 => 22 | 3 => 3 | 212 => 132 | 0 => 0 | 4 => 4 | 46 => 136 | 5 => 5 | 9 => 9 | n => n, fun | 17 => 1 | n => n⟩
theorem Tryz.laysM284 : Go.Proofs.LaysM.n284 Tryz.prog Tryz.laysM284_ren := {
 mixed := by kernel_rfl
 f129 := Tryz.func126.trans (congrArg some (by kernel_rfl))
 f284 := Tryz.func113.trans (congrArg some (by kernel_rfl))
 f317 := Tryz.func125.trans (congrArg some (by kernel_rfl))
 f318 := Tryz.func127.trans (congrArg some (by kernel_rfl))
 t0 := Tryz.underlying0
 a0 := Tryz.isAgg0
 z0 := Tryz.sizeOf0
 v0 := Tryz.zeroValue0
 t3 := Tryz.underlying3
 a3 := Tryz.isAgg3
 z3 := Tryz.sizeOf3
 v3 := Tryz.zeroValue3
 t4 := Tryz.underlying4
 a4 := Tryz.isAgg4
 z4 := Tryz.sizeOf4
 v4 := Tryz.zeroValue4
 t5 := Tryz.underlying5
 a5 := Tryz.isAgg5
 z5 := Tryz.sizeOf5
 v5 := Tryz.zeroValue5
 t9 := Tryz.underlying9
 a9 := Tryz.isAgg9
 z9 := Tryz.sizeOf9
 v9 := Tryz.zeroValue9
 t46 := Tryz.underlying136
 a46 := Tryz.isAgg136
 z46 := Tryz.sizeOf136
 v46 := Tryz.zeroValue136
 t53 := Tryz.underlying22
 a53 := Tryz.isAgg22
 z53 := Tryz.sizeOf22
 v53 := Tryz.zeroValue22
 t212 := Tryz.underlying132
 a212 := Tryz.isAgg132
 z212 := Tryz.sizeOf132
 v212 := Tryz.zeroValue132
 g17 := by kernel_rfl
 i0 := by kernel_rfl
 i3 := by kernel_rfl
 i4 := by kernel_rfl
 i5 := by kernel_rfl
 i9 := by kernel_rfl
 i46 := by kernel_rfl
 i53 := by kernel_rfl
 i212 := by kernel_rfl
 m17 := by kernel_rfl }
open Go.Lib in
theorem Tryz.internal_strconv_numDigits (u : Nat) (h1 : 1 ≤ u) (h2 : u < 18446744073709551616) (w : World) (htab : Lib.TabIs Tryz.prog w "internal/strconv.uint64pow10" .u64 Lib.pow10Tab) :
  Calls Tryz.prog 113 #[.int .u64 u] w fun e w' => e = .returned (.int .i64 (Lib.nDigits u)) ∧ w' = w := Any.internal_strconv_numDigits Tryz.laysM284 u h1 h2 w htab
def Tryz.lays285_ren : Go.Shelf.Ren := ⟨fun | 285 => 114 | n => n, fun | 37 => 89 | 53 => 22 | 3 => 3 | 4 => 4 | 51 => 133 | 9 => 9 | 5 => 5 | 0 => 0 | n => n, fun | n => n⟩
theorem Tryz.lays285 : Go.Proofs.Lays.n285 Tryz.prog Tryz.lays285_ren := {
 mixed := by kernel_rfl
 f285 := Tryz.func114.trans (congrArg some (by kernel_rfl))
 t0 := Tryz.underlying0
 a0 := Tryz.isAgg0
 z0 := Tryz.sizeOf0
 v0 := Tryz.zeroValue0
 t3 := Tryz.underlying3
 a3 := Tryz.isAgg3
 z3 := Tryz.sizeOf3
 v3 := Tryz.zeroValue3
 t4 := Tryz.underlying4
 a4 := Tryz.isAgg4
 z4 := Tryz.sizeOf4
 v4 := Tryz.zeroValue4
 t5 := Tryz.underlying5
 a5 := Tryz.isAgg5
 z5 := Tryz.sizeOf5
 v5 := Tryz.zeroValue5
 t9 := Tryz.underlying9
 a9 := Tryz.isAgg9
 z9 := Tryz.sizeOf9
 v9 := Tryz.zeroValue9
 t37 := Tryz.underlying89
 a37 := Tryz.isAgg89
 z37 := Tryz.sizeOf89
 v37 := Tryz.zeroValue89
 t51 := Tryz.underlying133
 a51 := Tryz.isAgg133
 z51 := Tryz.sizeOf133
 v51 := Tryz.zeroValue133
 t53 := Tryz.underlying22
 a53 := Tryz.isAgg22
 z53 := Tryz.sizeOf22
 v53 := Tryz.zeroValue22 }
open Go.RowKit Go.Sort Go.Lib in
theorem Tryz.internal_strconv_formatBase10 (blk off cap : Nat) (u : Nat) (d : Array UInt8) (w : World) (hH : Holds (fun (b : UInt8) => Value.int .u8 (b.toNat : Int)) w blk off d) (hu : u < 10 ^ d.size) (hu64 : u < 18446744073709551616) (hsz : d.size < 4611686018427387904) :
  Calls Tryz.prog 114 #[.slice (some ⟨blk, off, none⟩) d.size cap, .int .u64 u] w fun e w' =>
   e = .returned (.tuple #[]) ∧ ∃ (n v' : Nat) (dk : Array UInt8), w' = (putRow (fun (b : UInt8) => Value.int .u8 (b.toNat : Int)) w blk off dk).drewN n ∧ FmtInv d.size u 0 v' dk := Any.internal_strconv_formatBase10 Tryz.lays285 blk off cap u d w hH hu hu64 hsz
def Tryz.laysM246_ren : Go.Shelf.Ren := ⟨fun | 246 => 130 | 283 => 112 | 284 => 113 | 285 => 114 | 286 => 115 | 129 => 126 | 317 => 125 | 318 => 127 | 319 => 128 | 320 => 129 | 337 => 146 | 338 => 147 | n => n, fun | 2 => 2 | 3 => 3 | 9 => 9 | 4 => 4 | 171 => 118 | 0 => 0 | 53 => 22 | 37 => 89 | 5 => 5 | 173 => 121 | 212 => 132 | 51 => 133 | 20 => 20 | 213 => 134 | 46 => 136 | 232 => 156 | 233 => 157 | n => n, fun | 17 => 1 | 18 => 4 | 19 => 5 | n => n⟩
theorem Tryz.laysM246 : Go.Proofs.LaysM.n246 Tryz.prog Tryz.laysM246_ren := {
 mixed := by kernel_rfl
 f129 := Tryz.func126.trans (congrArg some (by kernel_rfl))
 f246 := Tryz.func130.trans (congrArg some (by kernel_rfl))
 f283 := Tryz.func112.trans (congrArg some (by kernel_rfl))
 f284 := Tryz.func113.trans (congrArg some (by kernel_rfl))
 f285 := Tryz.func114.trans (congrArg some (by kernel_rfl))
 f286 := Tryz.func115.trans (congrArg some (by kernel_rfl))
 f317 := Tryz.func125.trans (congrArg some (by kernel_rfl))
 f318 := Tryz.func127.trans (congrArg some (by kernel_rfl))
 f319 := Tryz.func128.trans (congrArg some (by kernel_rfl))
 f320 := Tryz.func129.trans (congrArg some (by kernel_rfl))
 f337 := Tryz.func146.trans (congrArg some (by kernel_rfl))
 f338 := Tryz.func147.trans (congrArg some (by kernel_rfl))
 t0 := Tryz.underlying0
 a0 := Tryz.isAgg0
 z0 := Tryz.sizeOf0
 v0 := Tryz.zeroValue0
 t2 := Tryz.underlying2
 a2 := Tryz.isAgg2
 z2 := Tryz.sizeOf2
 v2 := Tryz.zeroValue2
 t3 := Tryz.underlying3
 a3 := Tryz.isAgg3
 z3 := Tryz.sizeOf3
 v3 := Tryz.zeroValue3
 t4 := Tryz.underlying4
 a4 := Tryz.isAgg4
 z4 := Tryz.sizeOf4
 v4 := Tryz.zeroValue4
 t5 := Tryz.underlying5
 a5 := Tryz.isAgg5
 z5 := Tryz.sizeOf5
 v5 := Tryz.zeroValue5
 t9 := Tryz.underlying9
 a9 := Tryz.isAgg9
 z9 := Tryz.sizeOf9
 v9 := Tryz.zeroValue9
 t20 := Tryz.underlying20
 a20 := Tryz.isAgg20
 z20 := Tryz.sizeOf20
 v20 := Tryz.zeroValue20
 t37 := Tryz.underlying89
 a37 := Tryz.isAgg89
 z37 := Tryz.sizeOf89
 v37 := Tryz.zeroValue89
 t46 := Tryz.underlying136
 a46 := Tryz.isAgg136
 z46 := Tryz.sizeOf136
 v46 := Tryz.zeroValue136
 t51 := Tryz.underlying133
 a51 := Tryz.isAgg133
 z51 := Tryz.sizeOf133
 v51 := Tryz.zeroValue133
 t53 := Tryz.underlying22
 a53 := Tryz.isAgg22
 z53 := Tryz.sizeOf22
 v53 := Tryz.zeroValue22
 t171 := Tryz.underlying118
 a171 := Tryz.isAgg118
 z171 := Tryz.sizeOf118
 v171 := Tryz.zeroValue118
 t173 := Tryz.underlying121
 a173 := Tryz.isAgg121
 z173 := Tryz.sizeOf121
 v173 := Tryz.zeroValue121
 t212 := Tryz.underlying132
 a212 := Tryz.isAgg132
 z212 := Tryz.sizeOf132
 v212 := Tryz.zeroValue132
 t213 := Tryz.underlying134
 a213 := Tryz.isAgg134
 z213 := Tryz.sizeOf134
 t232 := Tryz.underlying156
 a232 := Tryz.isAgg156
 z232 := Tryz.sizeOf156
 v232 := Tryz.zeroValue156
 t233 := Tryz.underlying157
 a233 := Tryz.isAgg157
 z233 := Tryz.sizeOf157
 v233 := Tryz.zeroValue157
 g17 := by kernel_rfl
 g18 := by kernel_rfl
 g19 := by kernel_rfl
 i0 := by kernel_rfl
 i2 := by kernel_rfl
 i3 := by kernel_rfl
 i4 := by kernel_rfl
 i5 := by kernel_rfl
 i9 := by kernel_rfl
 i20 := by kernel_rfl
 i37 := by kernel_rfl
 i46 := by kernel_rfl
 i51 := by kernel_rfl
 i53 := by kernel_rfl
 i171 := by kernel_rfl
 i173 := by kernel_rfl
 i212 := by kernel_rfl
 i232 := by kernel_rfl
 i233 := by kernel_rfl
 m17 := by kernel_rfl
 m18 := by kernel_rfl
 m19 := by kernel_rfl }
open Go.RowKit Go.Sort Go.Lib in
theorem Tryz.internal_strconv_FormatInt_10 (n : Int) (h0 : -9223372036854775808 ≤ n) (h1 : n ≤ 9223372036854775807) (w : World) (htab : Lib.TabIs Tryz.prog w "internal/strconv.uint64pow10" .u64 Lib.pow10Tab) :
  Calls Tryz.prog 130 #[.int .i64 n, .int .i64 10] w fun e w' => e = .returned (.string ⟨(Lib.itoa n).toArray⟩) ∧ ∃ k os, w' = grow (w.drewN k) os := Any.internal_strconv_FormatInt_10 Tryz.laysM246 n h0 h1 w htab
def Tryz.lays246_ren : Go.Shelf.Ren := ⟨fun | 246 => 130 | 283 => 112 | 284 => 113 | 285 => 114 | 286 => 115 | 129 => 126 | 317 => 125 | 318 => 127 | 319 => 128 | 320 => 129 | 337 => 146 | 338 => 147 | n => n, fun | 2 => 2 | 3 => 3 | 9 => 9 | 4 => 4 | 171 => 118 | 0 => 0 | 53 => 22 | 37 => 89 | 5 => 5 | 173 => 121 | 212 => 132 | 51 => 133 | 20 => 20 | 213 => 134 | 46 => 136 | 232 => 156 | 233 => 157 | n => n, fun | 17 => 1 | 18 => 4 | 19 => 5 | n => n⟩
theorem Tryz.lays246 : Go.Proofs.Lays.n246 Tryz.prog Tryz.lays246_ren := {
 mixed := by kernel_rfl
 f129 := Tryz.func126.trans (congrArg some (by kernel_rfl))
 f246 := Tryz.func130.trans (congrArg some (by kernel_rfl))
 f283 := Tryz.func112.trans (congrArg some (by kernel_rfl))
 f284 := Tryz.func113.trans (congrArg some (by kernel_rfl))
 f285 := Tryz.func114.trans (congrArg some (by kernel_rfl))
 f286 := Tryz.func115.trans (congrArg some (by kernel_rfl))
 f317 := Tryz.func125.trans (congrArg some (by kernel_rfl))
 f318 := Tryz.func127.trans (congrArg some (by kernel_rfl))
 f319 := Tryz.func128.trans (congrArg some (by kernel_rfl))
 f320 := Tryz.func129.trans (congrArg some (by kernel_rfl))
 f337 := Tryz.func146.trans (congrArg some (by kernel_rfl))
 f338 := Tryz.func147.trans (congrArg some (by kernel_rfl))
 t0 := Tryz.underlying0
 a0 := Tryz.isAgg0
 z0 := Tryz.sizeOf0
 v0 := Tryz.zeroValue0
 t2 := Tryz.underlying2
 a2 := Tryz.isAgg2
 z2 := Tryz.sizeOf2
 v2 := Tryz.zeroValue2
 t3 := Tryz.underlying3
 a3 := Tryz.isAgg3
 z3 := Tryz.sizeOf3
 v3 := Tryz.zeroValue3
 t4 := Tryz.underlying4
 a4 := Tryz.isAgg4
 z4 := Tryz.sizeOf4
 v4 := Tryz.zeroValue4
 t5 := Tryz.underlying5
 a5 := Tryz.isAgg5
 z5 := Tryz.sizeOf5
 v5 := Tryz.zeroValue5
 t9 := Tryz.underlying9
 a9 := Tryz.isAgg9
 z9 := Tryz.sizeOf9
 v9 := Tryz.zeroValue9
 t20 := Tryz.underlying20
 a20 := Tryz.isAgg20
 z20 := Tryz.sizeOf20
 v20 := Tryz.zeroValue20
 t37 := Tryz.underlying89
 a37 := Tryz.isAgg89
 z37 := Tryz.sizeOf89
 v37 := Tryz.zeroValue89
 t46 := Tryz.underlying136
 a46 := Tryz.isAgg136
 z46 := Tryz.sizeOf136
 v46 := Tryz.zeroValue136
 t51 := Tryz.underlying133
 a51 := Tryz.isAgg133
 z51 := Tryz.sizeOf133
 v51 := Tryz.zeroValue133
 t53 := Tryz.underlying22
 a53 := Tryz.isAgg22
 z53 := Tryz.sizeOf22
 v53 := Tryz.zeroValue22
 t171 := Tryz.underlying118
 a171 := Tryz.isAgg118
 z171 := Tryz.sizeOf118
 v171 := Tryz.zeroValue118
 t173 := Tryz.underlying121
 a173 := Tryz.isAgg121
 z173 := Tryz.sizeOf121
 v173 := Tryz.zeroValue121
 t212 := Tryz.underlying132
 a212 := Tryz.isAgg132
 z212 := Tryz.sizeOf132
 v212 := Tryz.zeroValue132
 t213 := Tryz.underlying134
 a213 := Tryz.isAgg134
 z213 := Tryz.sizeOf134
 t232 := Tryz.underlying156
 a232 := Tryz.isAgg156
 z232 := Tryz.sizeOf156
 v232 := Tryz.zeroValue156
 t233 := Tryz.underlying157
 a233 := Tryz.isAgg157
 z233 := Tryz.sizeOf157
 v233 := Tryz.zeroValue157
 g17 := by kernel_rfl
 g18 := by kernel_rfl
 g19 := by kernel_rfl }
open Go.RowKit Go.Sort Go.Lib in
theorem Tryz.internal_strconv_FormatInt_10_small (i : Nat) (hi : i < 100) (w : World) :
  Calls Tryz.prog 130 #[.int .i64 i, .int .i64 10] w fun e w' => e = .returned (.string ⟨(Lib.decDigits i).toArray⟩) ∧ w' = w := Any.internal_strconv_FormatInt_10_small Tryz.lays246 i hi w
def Tryz.laysM243_ren : Go.Shelf.Ren := ⟨fun | 243 => 116 | 246 => 130 | 283 => 112 | 284 => 113 | 285 => 114 | 286 => 115 | 129 => 126 | 317 => 125 | 318 => 127 | 319 => 128 | 320 => 129 | 337 => 146 | 338 => 147 | n => n, fun | 3 => 3 | 9 => 9 | 2 => 2 | 4 => 4 | 171 => 118 | 0 => 0 | 53 => 22 | 37 => 89 | 5 => 5 | 173 => 121 | 212 => 132 | 51 => 133 | 20 => 20 | 213 => 134 | 46 => 136 | 232 => 156 | 233 => 157 | n => n, fun | 17 => 1 | 18 => 4 | 19 => 5 | n => n⟩
theorem Tryz.laysM243 : Go.Proofs.LaysM.n243 Tryz.prog Tryz.laysM243_ren := {
 mixed := by kernel_rfl
 f129 := Tryz.func126.trans (congrArg some (by kernel_rfl))
 f243 := Tryz.func116.trans (congrArg some (by kernel_rfl))
 f246 := Tryz.func130.trans (congrArg some (by kernel_rfl))
 f283 := Tryz.func112.trans (congrArg some (by kernel_rfl))
 f284 := Tryz.func113.trans (congrArg some (by kernel_rfl))
 f285 := Tryz.func114.trans (congrArg some (by kernel_rfl))
 f286 := Tryz.func115.trans (congrArg some (by kernel_rfl))
 f317 := Tryz.func125.trans (congrArg some (by kernel_rfl))
 f318 := Tryz.func127.trans (congrArg some (by kernel_rfl))
 f319 := Tryz.func128.trans (congrArg some (by kernel_rfl))
 f320 := Tryz.func129.trans (congrArg some (by kernel_rfl))
 f337 := Tryz.func146.trans (congrArg some (by kernel_rfl))
 f338 := Tryz.func147.trans (congrArg some (by kernel_rfl))
 t0 := Tryz.underlying0
 a0 := Tryz.isAgg0
 z0 := Tryz.sizeOf0
 v0 := Tryz.zeroValue0
 t2 := Tryz.underlying2
 a2 := Tryz.isAgg2
 z2 := Tryz.sizeOf2
 v2 := Tryz.zeroValue2
 t3 := Tryz.underlying3
 a3 := Tryz.isAgg3
 z3 := Tryz.sizeOf3
 v3 := Tryz.zeroValue3
 t4 := Tryz.underlying4
 a4 := Tryz.isAgg4
 z4 := Tryz.sizeOf4
 v4 := Tryz.zeroValue4
 t5 := Tryz.underlying5
 a5 := Tryz.isAgg5
 z5 := Tryz.sizeOf5
 v5 := Tryz.zeroValue5
 t9 := Tryz.underlying9
 a9 := Tryz.isAgg9
 z9 := Tryz.sizeOf9
 v9 := Tryz.zeroValue9
 t20 := Tryz.underlying20
 a20 := Tryz.isAgg20
 z20 := Tryz.sizeOf20
 v20 := Tryz.zeroValue20
 t37 := Tryz.underlying89
 a37 := Tryz.isAgg89
 z37 := Tryz.sizeOf89
 v37 := Tryz.zeroValue89
 t46 := Tryz.underlying136
 a46 := Tryz.isAgg136
 z46 := Tryz.sizeOf136
 v46 := Tryz.zeroValue136
 t51 := Tryz.underlying133
 a51 := Tryz.isAgg133
 z51 := Tryz.sizeOf133
 v51 := Tryz.zeroValue133
 t53 := Tryz.underlying22
 a53 := Tryz.isAgg22
 z53 := Tryz.sizeOf22
 v53 := Tryz.zeroValue22
 t171 := Tryz.underlying118
 a171 := Tryz.isAgg118
 z171 := Tryz.sizeOf118
 v171 := Tryz.zeroValue118
 t173 := Tryz.underlying121
 a173 := Tryz.isAgg121
 z173 := Tryz.sizeOf121
 v173 := Tryz.zeroValue121
 t212 := Tryz.underlying132
 a212 := Tryz.isAgg132
 z212 := Tryz.sizeOf132
 v212 := Tryz.zeroValue132
 t213 := Tryz.underlying134
 a213 := Tryz.isAgg134
 z213 := Tryz.sizeOf134
 t232 := Tryz.underlying156
 a232 := Tryz.isAgg156
 z232 := Tryz.sizeOf156
 v232 := Tryz.zeroValue156
 t233 := Tryz.underlying157
 a233 := Tryz.isAgg157
 z233 := Tryz.sizeOf157
 v233 := Tryz.zeroValue157
 g17 := by kernel_rfl
 g18 := by kernel_rfl
 g19 := by kernel_rfl
 i0 := by kernel_rfl
 i2 := by kernel_rfl
 i3 := by kernel_rfl
 i4 := by kernel_rfl
 i5 := by kernel_rfl
 i9 := by kernel_rfl
 i20 := by kernel_rfl
 i37 := by kernel_rfl
 i46 := by kernel_rfl
 i51 := by kernel_rfl
 i53 := by kernel_rfl
 i171 := by kernel_rfl
 i173 := by kernel_rfl
 i212 := by kernel_rfl
 i232 := by kernel_rfl
 i233 := by kernel_rfl
 m17 := by kernel_rfl
 m18 := by kernel_rfl
 m19 := by kernel_rfl }
open Go.RowKit Go.Sort Go.Lib in
theorem Tryz.internal_strconv_Itoa (n : Int) (h0 : -9223372036854775808 ≤ n) (h1 : n ≤ 9223372036854775807) (w : World) (htab : Lib.TabIs Tryz.prog w "internal/strconv.uint64pow10" .u64 Lib.pow10Tab) :
  Calls Tryz.prog 116 #[.int .i64 n] w fun e w' => e = .returned (.string ⟨(Lib.itoa n).toArray⟩) ∧ ∃ k os, w' = grow (w.drewN k) os := Any.internal_strconv_Itoa Tryz.laysM243 n h0 h1 w htab
def Tryz.lays243_ren : Go.Shelf.Ren := ⟨fun | 243 => 116 | 246 => 130 | 283 => 112 | 284 => 113 | 285 => 114 | 286 => 115 | 129 => 126 | 317 => 125 | 318 => 127 | 319 => 128 | 320 => 129 | 337 => 146 | 338 => 147 | n => n, fun | 3 => 3 | 9 => 9 | 2 => 2 | 4 => 4 | 171 => 118 | 0 => 0 | 53 => 22 | 37 => 89 | 5 => 5 | 173 => 121 | 212 => 132 | 51 => 133 | 20 => 20 | 213 => 134 | 46 => 136 | 232 => 156 | 233 => 157 | n => n, fun | 17 => 1 | 18 => 4 | 19 => 5 | n => n⟩
theorem Tryz.lays243 : Go.Proofs.Lays.n243 Tryz.prog Tryz.lays243_ren := {
 mixed := by kernel_rfl
 f129 := Tryz.func126.trans (congrArg some (by kernel_rfl))
 f243 := Tryz.func116.trans (congrArg some (by kernel_rfl))
 f246 := Tryz.func130.trans (congrArg some (by kernel_rfl))
 f283 := Tryz.func112.trans (congrArg some (by kernel_rfl))
 f284 := Tryz.func113.trans (congrArg some (by kernel_rfl))
 f285 := Tryz.func114.trans (congrArg some (by kernel_rfl))
 f286 := Tryz.func115.trans (congrArg some (by kernel_rfl))
 f317 := Tryz.func125.trans (congrArg some (by kernel_rfl))
 f318 := Tryz.func127.trans (congrArg some (by kernel_rfl))
 f319 := Tryz.func128.trans (congrArg some (by kernel_rfl))
 f320 := Tryz.func129.trans (congrArg some (by kernel_rfl))
 f337 := Tryz.func146.trans (congrArg some (by kernel_rfl))
 f338 := Tryz.func147.trans (congrArg some (by kernel_rfl))
 t0 := Tryz.underlying0
 a0 := Tryz.isAgg0
 z0 := Tryz.sizeOf0
 v0 := Tryz.zeroValue0
 t2 := Tryz.underlying2
 a2 := Tryz.isAgg2
 z2 := Tryz.sizeOf2
 v2 := Tryz.zeroValue2
 t3 := Tryz.underlying3
 a3 := Tryz.isAgg3
 z3 := Tryz.sizeOf3
 v3 := Tryz.zeroValue3
 t4 := Tryz.underlying4
 a4 := Tryz.isAgg4
 z4 := Tryz.sizeOf4
 v4 := Tryz.zeroValue4
 t5 := Tryz.underlying5
 a5 := Tryz.isAgg5
 z5 := Tryz.sizeOf5
 v5 := Tryz.zeroValue5
 t9 := Tryz.underlying9
 a9 := Tryz.isAgg9
 z9 := Tryz.sizeOf9
 v9 := Tryz.zeroValue9
 t20 := Tryz.underlying20
 a20 := Tryz.isAgg20
 z20 := Tryz.sizeOf20
 v20 := Tryz.zeroValue20
 t37 := Tryz.underlying89
 a37 := Tryz.isAgg89
 z37 := Tryz.sizeOf89
 v37 := Tryz.zeroValue89
 t46 := Tryz.underlying136
 a46 := Tryz.isAgg136
 z46 := Tryz.sizeOf136
 v46 := Tryz.zeroValue136
 t51 := Tryz.underlying133
 a51 := Tryz.isAgg133
 z51 := Tryz.sizeOf133
 v51 := Tryz.zeroValue133
 t53 := Tryz.underlying22
 a53 := Tryz.isAgg22
 z53 := Tryz.sizeOf22
 v53 := Tryz.zeroValue22
 t171 := Tryz.underlying118
 a171 := Tryz.isAgg118
 z171 := Tryz.sizeOf118
 v171 := Tryz.zeroValue118
 t173 := Tryz.underlying121
 a173 := Tryz.isAgg121
 z173 := Tryz.sizeOf121
 v173 := Tryz.zeroValue121
 t212 := Tryz.underlying132
 a212 := Tryz.isAgg132
 z212 := Tryz.sizeOf132
 v212 := Tryz.zeroValue132
 t213 := Tryz.underlying134
 a213 := Tryz.isAgg134
 z213 := Tryz.sizeOf134
 t232 := Tryz.underlying156
 a232 := Tryz.isAgg156
 z232 := Tryz.sizeOf156
 v232 := Tryz.zeroValue156
 t233 := Tryz.underlying157
 a233 := Tryz.isAgg157
 z233 := Tryz.sizeOf157
 v233 := Tryz.zeroValue157
 g17 := by kernel_rfl
 g18 := by kernel_rfl
 g19 := by kernel_rfl }
open Go.RowKit Go.Sort Go.Lib in
theorem Tryz.internal_strconv_Itoa_small (i : Nat) (hi : i < 100) (w : World) :
  Calls Tryz.prog 116 #[.int .i64 i] w fun e w' => e = .returned (.string ⟨(Lib.decDigits i).toArray⟩) ∧ w' = w := Any.internal_strconv_Itoa_small Tryz.lays243 i hi w
def Tryz.laysM171_ren : Go.Shelf.Ren := ⟨fun | 171 => 100 | 243 => 116 | 246 => 130 | 283 => 112 | 284 => 113 | 285 => 114 | 286 => 115 | 129 => 126 | 317 => 125 | 318 => 127 | 319 => 128 | 320 => 129 | 337 => 146 | 338 => 147 | n => n, fun | 3 => 3 | 9 => 9 | 2 => 2 | 4 => 4 | 171 => 118 | 0 => 0 | 53 => 22 | 37 => 89 | 5 => 5 | 173 => 121 | 212 => 132 | 51 => 133 | 20 => 20 | 213 => 134 | 46 => 136 | 232 => 156 | 233 => 157 | n => n, fun | 17 => 1 | 18 => 4 | 19 => 5 | n => n⟩
theorem Tryz.laysM171 : Go.Proofs.LaysM.n171 Tryz.prog Tryz.laysM171_ren := {
 mixed := by kernel_rfl
 f129 := Tryz.func126.trans (congrArg some (by kernel_rfl))
 f171 := Tryz.func100.trans (congrArg some (by kernel_rfl))
 f243 := Tryz.func116.trans (congrArg some (by kernel_rfl))
 f246 := Tryz.func130.trans (congrArg some (by kernel_rfl))
 f283 := Tryz.func112.trans (congrArg some (by kernel_rfl))
 f284 := Tryz.func113.trans (congrArg some (by kernel_rfl))
 f285 := Tryz.func114.trans (congrArg some (by kernel_rfl))
 f286 := Tryz.func115.trans (congrArg some (by kernel_rfl))
 f317 := Tryz.func125.trans (congrArg some (by kernel_rfl))
 f318 := Tryz.func127.trans (congrArg some (by kernel_rfl))
 f319 := Tryz.func128.trans (congrArg some (by kernel_rfl))
 f320 := Tryz.func129.trans (congrArg some (by kernel_rfl))
 f337 := Tryz.func146.trans (congrArg some (by kernel_rfl))
 f338 := Tryz.func147.trans (congrArg some (by kernel_rfl))
 t0 := Tryz.underlying0
 a0 := Tryz.isAgg0
 z0 := Tryz.sizeOf0
 v0 := Tryz.zeroValue0
 t2 := Tryz.underlying2
 a2 := Tryz.isAgg2
 z2 := Tryz.sizeOf2
 v2 := Tryz.zeroValue2
 t3 := Tryz.underlying3
 a3 := Tryz.isAgg3
 z3 := Tryz.sizeOf3
 v3 := Tryz.zeroValue3
 t4 := Tryz.underlying4
 a4 := Tryz.isAgg4
 z4 := Tryz.sizeOf4
 v4 := Tryz.zeroValue4
 t5 := Tryz.underlying5
 a5 := Tryz.isAgg5
 z5 := Tryz.sizeOf5
 v5 := Tryz.zeroValue5
 t9 := Tryz.underlying9
 a9 := Tryz.isAgg9
 z9 := Tryz.sizeOf9
 v9 := Tryz.zeroValue9
 t20 := Tryz.underlying20
 a20 := Tryz.isAgg20
 z20 := Tryz.sizeOf20
 v20 := Tryz.zeroValue20
 t37 := Tryz.underlying89
 a37 := Tryz.isAgg89
 z37 := Tryz.sizeOf89
 v37 := Tryz.zeroValue89
 t46 := Tryz.underlying136
 a46 := Tryz.isAgg136
 z46 := Tryz.sizeOf136
 v46 := Tryz.zeroValue136
 t51 := Tryz.underlying133
 a51 := Tryz.isAgg133
 z51 := Tryz.sizeOf133
 v51 := Tryz.zeroValue133
 t53 := Tryz.underlying22
 a53 := Tryz.isAgg22
 z53 := Tryz.sizeOf22
 v53 := Tryz.zeroValue22
 t171 := Tryz.underlying118
 a171 := Tryz.isAgg118
 z171 := Tryz.sizeOf118
 v171 := Tryz.zeroValue118
 t173 := Tryz.underlying121
 a173 := Tryz.isAgg121
 z173 := Tryz.sizeOf121
 v173 := Tryz.zeroValue121
 t212 := Tryz.underlying132
 a212 := Tryz.isAgg132
 z212 := Tryz.sizeOf132
 v212 := Tryz.zeroValue132
 t213 := Tryz.underlying134
 a213 := Tryz.isAgg134
 z213 := Tryz.sizeOf134
 t232 := Tryz.underlying156
 a232 := Tryz.isAgg156
 z232 := Tryz.sizeOf156
 v232 := Tryz.zeroValue156
 t233 := Tryz.underlying157
 a233 := Tryz.isAgg157
 z233 := Tryz.sizeOf157
 v233 := Tryz.zeroValue157
 g17 := by kernel_rfl
 g18 := by kernel_rfl
 g19 := by kernel_rfl
 i0 := by kernel_rfl
 i2 := by kernel_rfl
 i3 := by kernel_rfl
 i4 := by kernel_rfl
 i5 := by kernel_rfl
 i9 := by kernel_rfl
 i20 := by kernel_rfl
 i37 := by kernel_rfl
 i46 := by kernel_rfl
 i51 := by kernel_rfl
 i53 := by kernel_rfl
 i171 := by kernel_rfl
 i173 := by kernel_rfl
 i212 := by kernel_rfl
 i232 := by kernel_rfl
 i233 := by kernel_rfl
 m17 := by kernel_rfl
 m18 := by kernel_rfl
 m19 := by kernel_rfl }
open Go.RowKit Go.Sort Go.Lib in
theorem Tryz.strconv_Itoa (n : Int) (h0 : -9223372036854775808 ≤ n) (h1 : n ≤ 9223372036854775807) (w : World) (htab : Lib.TabIs Tryz.prog w "internal/strconv.uint64pow10" .u64 Lib.pow10Tab) :
  Calls Tryz.prog 100 #[.int .i64 n] w fun e w' => e = .returned (.string ⟨(Lib.itoa n).toArray⟩) ∧ ∃ k os, w' = grow (w.drewN k) os := Any.strconv_Itoa Tryz.laysM171 n h0 h1 w htab
def Tryz.lays171_ren : Go.Shelf.Ren := ⟨fun | 171 => 100 | 243 => 116 | 246 => 130 | 283 => 112 | 284 => 113 | 285 => 114 | 286 => 115 | 129 => 126 | 317 => 125 | 318 => 127 | 319 => 128 | 320 => 129 | 337 => 146 | 338 => 147 | n => n, fun | 3 => 3 | 9 => 9 | 2 => 2 | 4 => 4 | 171 => 118 | 0 => 0 | 53 => 22 | 37 => 89 | 5 => 5 | 173 => 121 | 212 => 132 | 51 => 133 | 20 => 20 | 213 => 134 | 46 => 136 | 232 => 156 | 233 => 157 | n => n, fun | 17 => 1 | 18 => 4 | 19 => 5 | n => n⟩
theorem Tryz.lays171 : Go.Proofs.Lays.n171 Tryz.prog Tryz.lays171_ren := {
 mixed := by kernel_rfl
 f129 := Tryz.func126.trans (congrArg some (by kernel_rfl))
 f171 := Tryz.func100.trans (congrArg some (by kernel_rfl))
 f243 := Tryz.func116.trans (congrArg some (by kernel_rfl))
 f246 := Tryz.func130.trans (congrArg some (by kernel_rfl))
 f283 := Tryz.func112.trans (congrArg some (by kernel_rfl))
 f284 := Tryz.func113.trans (congrArg some (by kernel_rfl))
 f285 := Tryz.func114.trans (congrArg some (by kernel_rfl))
 f286 := Tryz.func115.trans (congrArg some (by kernel_rfl))
 f317 := Tryz.func125.trans (congrArg some (by kernel_rfl))
 f318 := Tryz.func127.trans (congrArg some (by kernel_rfl))
 f319 := Tryz.func128.trans (congrArg some (by kernel_rfl))
 f320 := Tryz.func129.trans (congrArg some (by kernel_rfl))
 f337 := Tryz.func146.trans (congrArg some (by kernel_rfl))
 f338 := Tryz.func147.trans (congrArg some (by kernel_rfl))
 t0 := Tryz.underlying0
 a0 := Tryz.isAgg0
 z0 := Tryz.sizeOf0
 v0 := Tryz.zeroValue0
 t2 := Tryz.underlying2
 a2 := Tryz.isAgg2
 z2 := Tryz.sizeOf2
 v2 := Tryz.zeroValue2
 t3 := Tryz.underlying3
 a3 := Tryz.isAgg3
 z3 := Tryz.sizeOf3
 v3 := Tryz.zeroValue3
 t4 := Tryz.underlying4
 a4 := Tryz.isAgg4
 z4 := Tryz.sizeOf4
 v4 := Tryz.zeroValue4
 t5 := Tryz.underlying5
 a5 := Tryz.isAgg5
 z5 := Tryz.sizeOf5
 v5 := Tryz.zeroValue5
 t9 := Tryz.underlying9
 a9 := Tryz.isAgg9
 z9 := Tryz.sizeOf9
 v9 := Tryz.zeroValue9
 t20 := Tryz.underlying20
 a20 := Tryz.isAgg20
 z20 := Tryz.sizeOf20
 v20 := Tryz.zeroValue20
 t37 := Tryz.underlying89
 a37 := Tryz.isAgg89
 z37 := Tryz.sizeOf89
 v37 := Tryz.zeroValue89
 t46 := Tryz.underlying136
 a46 := Tryz.isAgg136
 z46 := Tryz.sizeOf136
 v46 := Tryz.zeroValue136
 t51 := Tryz.underlying133
 a51 := Tryz.isAgg133
 z51 := Tryz.sizeOf133
 v51 := Tryz.zeroValue133
 t53 := Tryz.underlying22
 a53 := Tryz.isAgg22
 z53 := Tryz.sizeOf22
 v53 := Tryz.zeroValue22
 t171 := Tryz.underlying118
 a171 := Tryz.isAgg118
 z171 := Tryz.sizeOf118
 v171 := Tryz.zeroValue118
 t173 := Tryz.underlying121
 a173 := Tryz.isAgg121
 z173 := Tryz.sizeOf121
 v173 := Tryz.zeroValue121
 t212 := Tryz.underlying132
 a212 := Tryz.isAgg132
 z212 := Tryz.sizeOf132
 v212 := Tryz.zeroValue132
 t213 := Tryz.underlying134
 a213 := Tryz.isAgg134
 z213 := Tryz.sizeOf134
 t232 := Tryz.underlying156
 a232 := Tryz.isAgg156
 z232 := Tryz.sizeOf156
 v232 := Tryz.zeroValue156
 t233 := Tryz.underlying157
 a233 := Tryz.isAgg157
 z233 := Tryz.sizeOf157
 v233 := Tryz.zeroValue157
 g17 := by kernel_rfl
 g18 := by kernel_rfl
 g19 := by kernel_rfl }
open Go.RowKit Go.Sort Go.Lib in
theorem Tryz.strconv_Itoa_small (i : Nat) (hi : i < 100) (w : World) :
  Calls Tryz.prog 100 #[.int .i64 i] w fun e w' => e = .returned (.string ⟨(Lib.decDigits i).toArray⟩) ∧ w' = w := Any.strconv_Itoa_small Tryz.lays171 i hi w
def Tryz.laysM316_ren : Go.Shelf.Ren := ⟨fun | 316 => 156 | n => n, fun | 9 => 9 | 3 => 3 | 4 => 4 | 37 => 89 | 0 => 0 | 127 => 110 | 5 => 5 | n => n, fun | n => n⟩
theorem Tryz.laysM316 : Go.Proofs.LaysM.n316 Tryz.prog Tryz.laysM316_ren := {
 mixed := by kernel_rfl
 f316 := Tryz.func156.trans (congrArg some (by kernel_rfl))
 t0 := Tryz.underlying0
 a0 := Tryz.isAgg0
 z0 := Tryz.sizeOf0
 v0 := Tryz.zeroValue0
 t3 := Tryz.underlying3
 a3 := Tryz.isAgg3
 z3 := Tryz.sizeOf3
 v3 := Tryz.zeroValue3
 t4 := Tryz.underlying4
 a4 := Tryz.isAgg4
 z4 := Tryz.sizeOf4
 v4 := Tryz.zeroValue4
 t9 := Tryz.underlying9
 a9 := Tryz.isAgg9
 z9 := Tryz.sizeOf9
 v9 := Tryz.zeroValue9
 t37 := Tryz.underlying89
 a37 := Tryz.isAgg89
 z37 := Tryz.sizeOf89
 v37 := Tryz.zeroValue89
 t127 := Tryz.underlying110
 a127 := Tryz.isAgg110
 z127 := Tryz.sizeOf110
 v127 := Tryz.zeroValue110
 t5 := Tryz.underlying5
 a5 := Tryz.isAgg5
 z5 := Tryz.sizeOf5
 v5 := Tryz.zeroValue5
 i0 := by kernel_rfl
 i3 := by kernel_rfl
 i4 := by kernel_rfl
 i5 := by kernel_rfl
 i9 := by kernel_rfl
 i37 := by kernel_rfl
 i127 := by kernel_rfl }
open Go.RowKit in
theorem Tryz.stringslite_Clone (s : ByteArray) (w : World) (hlim : s.size ≤ 281474976710656) :
  Calls Tryz.prog 156 #[.string s] w fun e w' => e = .returned (.string s) ∧ Below w.heap.size w w' := Any.stringslite_Clone Tryz.laysM316 s w hlim
def Tryz.laysM279_ren : Go.Shelf.Ren := ⟨fun | 279 => 142 | 316 => 156 | n => n, fun | 9 => 9 | 168 => 146 | 75 => 94 | 210 => 154 | 3 => 3 | 4 => 4 | 37 => 89 | 0 => 0 | 127 => 110 | 80 => 70 | 5 => 5 | n => n, fun | 15 => 2 | n => n⟩
theorem Tryz.laysM279 : Go.Proofs.LaysM.n279 Tryz.prog Tryz.laysM279_ren := {
 mixed := by kernel_rfl
 f279 := Tryz.func142.trans (congrArg some (by kernel_rfl))
 f316 := Tryz.func156.trans (congrArg some (by kernel_rfl))
 t0 := Tryz.underlying0
 a0 := Tryz.isAgg0
 z0 := Tryz.sizeOf0
 v0 := Tryz.zeroValue0
 t3 := Tryz.underlying3
 a3 := Tryz.isAgg3
 z3 := Tryz.sizeOf3
 v3 := Tryz.zeroValue3
 t4 := Tryz.underlying4
 a4 := Tryz.isAgg4
 z4 := Tryz.sizeOf4
 v4 := Tryz.zeroValue4
 t9 := Tryz.underlying9
 a9 := Tryz.isAgg9
 z9 := Tryz.sizeOf9
 v9 := Tryz.zeroValue9
 t37 := Tryz.underlying89
 a37 := Tryz.isAgg89
 z37 := Tryz.sizeOf89
 v37 := Tryz.zeroValue89
 t75 := Tryz.underlying94
 a75 := Tryz.isAgg94
 z75 := Tryz.sizeOf94
 v75 := Tryz.zeroValue94
 t127 := Tryz.underlying110
 a127 := Tryz.isAgg110
 z127 := Tryz.sizeOf110
 v127 := Tryz.zeroValue110
 t168 := Tryz.underlying146
 a168 := Tryz.isAgg146
 z168 := Tryz.sizeOf146
 v168 := Tryz.zeroValue146
 t210 := Tryz.underlying154
 a210 := Tryz.isAgg154
 z210 := Tryz.sizeOf154
 v210 := Tryz.zeroValue154
 g15 := by kernel_rfl
 t5 := Tryz.underlying5
 a5 := Tryz.isAgg5
 z5 := Tryz.sizeOf5
 v5 := Tryz.zeroValue5
 t80 := Tryz.underlying70
 a80 := Tryz.isAgg70
 z80 := Tryz.sizeOf70
 v80 := Tryz.zeroValue70
 i0 := by kernel_rfl
 i3 := by kernel_rfl
 i4 := by kernel_rfl
 i5 := by kernel_rfl
 i9 := by kernel_rfl
 i37 := by kernel_rfl
 i75 := by kernel_rfl
 i80 := by kernel_rfl
 i127 := by kernel_rfl
 i168 := by kernel_rfl
 i210 := by kernel_rfl
 m15 := by kernel_rfl }
open Go.RowKit in
theorem Tryz.strconv_syntaxError (fn s : ByteArray) (ev : Value) (w : World) (hlim : s.size ≤ 281474976710656) (hv : w.cell? ⟨2, 0, none⟩ = some ev) (hev : ev = .nilIface ∨ ∃ te pe, ev = .iface te pe) :
  Calls Tryz.prog 142 #[.string fn, .string s] w fun e w' => ∃ N, e = .returned (.pointer (some ⟨N, 0, none⟩)) ∧ w.heap.size ≤ N ∧ w'.heap[N]? = some (.cells #[.string fn, .string s, ev] 154 (0, 0)) ∧ Below w.heap.size w w' := Any.strconv_syntaxError Tryz.laysM279 fn s ev w hlim hv hev
def Tryz.laysC245_ren : Go.Shelf.Ren := ⟨fun | 245 => 123 | 279 => 142 | 280 => 143 | 281 => 144 | 282 => 145 | 316 => 156 | 171 => 100 | 205 => 157 | 243 => 116 | 246 => 130 | 283 => 112 | 284 => 113 | 285 => 114 | 286 => 115 | 129 => 126 | 317 => 125 | 318 => 127 | 319 => 128 | 320 => 129 | 337 => 146 | 338 => 147 | n => n, fun | 9 => 9 | 3 => 3 | 75 => 94 | 167 => 144 | 4 => 4 | 168 => 146 | 210 => 154 | 37 => 89 | 0 => 0 | 127 => 110 | 145 => 169 | 143 => 167 | 2 => 2 | 171 => 118 | 53 => 22 | 5 => 5 | 173 => 121 | 212 => 132 | 51 => 133 | 20 => 20 | 213 => 134 | 46 => 136 | 232 => 156 | 233 => 157 | 80 => 70 | n => n, fun | 15 => 2 | 16 => 3 | 17 => 1 | 18 => 4 | 19 => 5 | n => n⟩
theorem Tryz.laysC245 : Go.Proofs.LaysC.n245 Tryz.prog Tryz.laysC245_ren := {
 mixed := by kernel_rfl
 f129 := Tryz.func126.trans (congrArg some (by kernel_rfl))
 f171 := Tryz.func100.trans (congrArg some (by kernel_rfl))
 f205 := Tryz.func157.trans (congrArg some (by kernel_rfl))
 f243 := Tryz.func116.trans (congrArg some (by kernel_rfl))
 f245 := Tryz.func123.trans (congrArg some (by kernel_rfl))
 f246 := Tryz.func130.trans (congrArg some (by kernel_rfl))
 f279 := Tryz.func142.trans (congrArg some (by kernel_rfl))
 f280 := Tryz.func143.trans (congrArg some (by kernel_rfl))
 f281 := Tryz.func144.trans (congrArg some (by kernel_rfl))
 f282 := Tryz.func145.trans (congrArg some (by kernel_rfl))
 f283 := Tryz.func112.trans (congrArg some (by kernel_rfl))
 f284 := Tryz.func113.trans (congrArg some (by kernel_rfl))
 f285 := Tryz.func114.trans (congrArg some (by kernel_rfl))
 f286 := Tryz.func115.trans (congrArg some (by kernel_rfl))
 f316 := Tryz.func156.trans (congrArg some (by kernel_rfl))
 f317 := Tryz.func125.trans (congrArg some (by kernel_rfl))
 f318 := Tryz.func127.trans (congrArg some (by kernel_rfl))
 f319 := Tryz.func128.trans (congrArg some (by kernel_rfl))
 f320 := Tryz.func129.trans (congrArg some (by kernel_rfl))
 f337 := Tryz.func146.trans (congrArg some (by kernel_rfl))
 f338 := Tryz.func147.trans (congrArg some (by kernel_rfl))
 t0 := Tryz.underlying0
 a0 := Tryz.isAgg0
 z0 := Tryz.sizeOf0
 v0 := Tryz.zeroValue0
 t2 := Tryz.underlying2
 a2 := Tryz.isAgg2
 z2 := Tryz.sizeOf2
 v2 := Tryz.zeroValue2
 t3 := Tryz.underlying3
 a3 := Tryz.isAgg3
 z3 := Tryz.sizeOf3
 v3 := Tryz.zeroValue3
 t4 := Tryz.underlying4
 a4 := Tryz.isAgg4
 z4 := Tryz.sizeOf4
 v4 := Tryz.zeroValue4
 t5 := Tryz.underlying5
 a5 := Tryz.isAgg5
 z5 := Tryz.sizeOf5
 v5 := Tryz.zeroValue5
 t9 := Tryz.underlying9
 a9 := Tryz.isAgg9
 z9 := Tryz.sizeOf9
 v9 := Tryz.zeroValue9
 t20 := Tryz.underlying20
 a20 := Tryz.isAgg20
 z20 := Tryz.sizeOf20
 v20 := Tryz.zeroValue20
 t37 := Tryz.underlying89
 a37 := Tryz.isAgg89
 z37 := Tryz.sizeOf89
 v37 := Tryz.zeroValue89
 t46 := Tryz.underlying136
 a46 := Tryz.isAgg136
 z46 := Tryz.sizeOf136
 v46 := Tryz.zeroValue136
 t51 := Tryz.underlying133
 a51 := Tryz.isAgg133
 z51 := Tryz.sizeOf133
 v51 := Tryz.zeroValue133
 t53 := Tryz.underlying22
 a53 := Tryz.isAgg22
 z53 := Tryz.sizeOf22
 v53 := Tryz.zeroValue22
 t75 := Tryz.underlying94
 a75 := Tryz.isAgg94
 z75 := Tryz.sizeOf94
 v75 := Tryz.zeroValue94
 t127 := Tryz.underlying110
 a127 := Tryz.isAgg110
 z127 := Tryz.sizeOf110
 v127 := Tryz.zeroValue110
 t143 := Tryz.underlying167
 a143 := Tryz.isAgg167
 z143 := Tryz.sizeOf167
 v143 := Tryz.zeroValue167
 t145 := Tryz.underlying169
 a145 := Tryz.isAgg169
 z145 := Tryz.sizeOf169
 v145 := Tryz.zeroValue169
 t167 := Tryz.underlying144
 a167 := Tryz.isAgg144
 z167 := Tryz.sizeOf144
 v167 := Tryz.zeroValue144
 t168 := Tryz.underlying146
 a168 := Tryz.isAgg146
 z168 := Tryz.sizeOf146
 v168 := Tryz.zeroValue146
 t171 := Tryz.underlying118
 a171 := Tryz.isAgg118
 z171 := Tryz.sizeOf118
 v171 := Tryz.zeroValue118
 t173 := Tryz.underlying121
 a173 := Tryz.isAgg121
 z173 := Tryz.sizeOf121
 v173 := Tryz.zeroValue121
 t210 := Tryz.underlying154
 a210 := Tryz.isAgg154
 z210 := Tryz.sizeOf154
 v210 := Tryz.zeroValue154
 t212 := Tryz.underlying132
 a212 := Tryz.isAgg132
 z212 := Tryz.sizeOf132
 v212 := Tryz.zeroValue132
 t213 := Tryz.underlying134
 a213 := Tryz.isAgg134
 z213 := Tryz.sizeOf134
 t232 := Tryz.underlying156
 a232 := Tryz.isAgg156
 z232 := Tryz.sizeOf156
 v232 := Tryz.zeroValue156
 t233 := Tryz.underlying157
 a233 := Tryz.isAgg157
 z233 := Tryz.sizeOf157
 v233 := Tryz.zeroValue157
 g15 := by kernel_rfl
 g16 := by kernel_rfl
 g17 := by kernel_rfl
 g18 := by kernel_rfl
 g19 := by kernel_rfl
 t80 := Tryz.underlying70
 a80 := Tryz.isAgg70
 z80 := Tryz.sizeOf70
 v80 := Tryz.zeroValue70
 i0 := by kernel_rfl
 i2 := by kernel_rfl
 i3 := by kernel_rfl
 i4 := by kernel_rfl
 i5 := by kernel_rfl
 i9 := by kernel_rfl
 i20 := by kernel_rfl
 i37 := by kernel_rfl
 i46 := by kernel_rfl
 i51 := by kernel_rfl
 i53 := by kernel_rfl
 i75 := by kernel_rfl
 i80 := by kernel_rfl
 i127 := by kernel_rfl
 i143 := by kernel_rfl
 i145 := by kernel_rfl
 i167 := by kernel_rfl
 i168 := by kernel_rfl
 i171 := by kernel_rfl
 i173 := by kernel_rfl
 i210 := by kernel_rfl
 i212 := by kernel_rfl
 i232 := by kernel_rfl
 i233 := by kernel_rfl
 m15 := by kernel_rfl
 m16 := by kernel_rfl
 m17 := by kernel_rfl
 m18 := by kernel_rfl
 m19 := by kernel_rfl
 c0 := by kernel_rfl
 c2 := by kernel_rfl
 c3 := by kernel_rfl
 c4 := by kernel_rfl
 c5 := by kernel_rfl
 c9 := by kernel_rfl
 c20 := by kernel_rfl
 c37 := by kernel_rfl
 c46 := by kernel_rfl
 c51 := by kernel_rfl
 c53 := by kernel_rfl
 c75 := by kernel_rfl
 c80 := by kernel_rfl
 c127 := by kernel_rfl
 c143 := by kernel_rfl
 c145 := by kernel_rfl
 c167 := by kernel_rfl
 c168 := by kernel_rfl
 c171 := by kernel_rfl
 c173 := by kernel_rfl
 c210 := by kernel_rfl
 c212 := by kernel_rfl
 c213 := by kernel_rfl
 c232 := by kernel_rfl
 c233 := by kernel_rfl }
open Go.RowKit in
theorem Tryz.strconv_toError_syntax (fn s : ByteArray) (base bits : Int) (ev : Value) (w : World) (hlim : s.size ≤ 281474976710656) (hv : w.cell? ⟨2, 0, none⟩ = some ev) (hev : ev = .nilIface ∨ ∃ te pe, ev = .iface te pe) :
  Calls Tryz.prog 123 #[.string fn, .string s, .int .i64 base, .int .i64 bits, .iface 144 (.int .i64 2)] w fun e w' => ∃ N, e = .returned (.iface 146 (.pointer (some ⟨N, 0, none⟩))) ∧ w.heap.size ≤ N ∧ w'.heap[N]? = some (.cells #[.string fn, .string s, ev] 154 (0, 0)) ∧ Below w.heap.size w w' := Any.strconv_toError_syntax Tryz.laysC245 fn s base bits ev w hlim hv hev
def Tryz.lays321_ren : Go.Shelf.Ren := ⟨fun | 321 => 140 | n => n, fun | 5 => 5 | n => n, fun | n => n⟩
theorem Tryz.lays321 : Go.Proofs.Lays.n321 Tryz.prog Tryz.lays321_ren := {
 mixed := by kernel_rfl
 f321 := Tryz.func140.trans (congrArg some (by kernel_rfl))
 t5 := Tryz.underlying5
 a5 := Tryz.isAgg5
 z5 := Tryz.sizeOf5
 v5 := Tryz.zeroValue5 }
open Go.RowKit in
theorem Tryz.internal_strconv_lower (c : Int) (w : World) :
  Calls Tryz.prog 140 #[.int .u8 c] w fun e w' => e = .returned (.int .u8 (bits .or .u8 c 32)) ∧ w' = w := Any.internal_strconv_lower Tryz.lays321 c w
def Tryz.lays287_ren : Go.Shelf.Ren := ⟨fun | 287 => 122 | 321 => 140 | 322 => 141 | n => n, fun | 9 => 9 | 3 => 3 | 53 => 22 | 75 => 94 | 4 => 4 | 167 => 144 | 5 => 5 | 46 => 136 | 37 => 89 | 0 => 0 | 21 => 21 | 80 => 70 | n => n, fun | n => n⟩
theorem Tryz.lays287 : Go.Proofs.Lays.n287 Tryz.prog Tryz.lays287_ren := {
 mixed := by kernel_rfl
 f287 := Tryz.func122.trans (congrArg some (by kernel_rfl))
 f321 := Tryz.func140.trans (congrArg some (by kernel_rfl))
 f322 := Tryz.func141.trans (congrArg some (by kernel_rfl))
 t0 := Tryz.underlying0
 a0 := Tryz.isAgg0
 z0 := Tryz.sizeOf0
 v0 := Tryz.zeroValue0
 t3 := Tryz.underlying3
 a3 := Tryz.isAgg3
 z3 := Tryz.sizeOf3
 v3 := Tryz.zeroValue3
 t4 := Tryz.underlying4
 a4 := Tryz.isAgg4
 z4 := Tryz.sizeOf4
 v4 := Tryz.zeroValue4
 t5 := Tryz.underlying5
 a5 := Tryz.isAgg5
 z5 := Tryz.sizeOf5
 v5 := Tryz.zeroValue5
 t9 := Tryz.underlying9
 a9 := Tryz.isAgg9
 z9 := Tryz.sizeOf9
 v9 := Tryz.zeroValue9
 t21 := Tryz.underlying21
 a21 := Tryz.isAgg21
 z21 := Tryz.sizeOf21
 v21 := Tryz.zeroValue21
 t37 := Tryz.underlying89
 a37 := Tryz.isAgg89
 z37 := Tryz.sizeOf89
 v37 := Tryz.zeroValue89
 t46 := Tryz.underlying136
 a46 := Tryz.isAgg136
 z46 := Tryz.sizeOf136
 v46 := Tryz.zeroValue136
 t53 := Tryz.underlying22
 a53 := Tryz.isAgg22
 z53 := Tryz.sizeOf22
 v53 := Tryz.zeroValue22
 t75 := Tryz.underlying94
 a75 := Tryz.isAgg94
 z75 := Tryz.sizeOf94
 v75 := Tryz.zeroValue94
 t167 := Tryz.underlying144
 a167 := Tryz.isAgg144
 z167 := Tryz.sizeOf144
 v167 := Tryz.zeroValue144 }
open Go.RowKit in
theorem Tryz.internal_strconv_ParseUint_10 (t : ByteArray) (hne : t.size ≠ 0) (hmax : t.size ≤ 9223372036854775806) (w : World) :
  Calls Tryz.prog 122 #[.string t, .int .i64 10, .int .i64 0] w fun e w' => e = .returned (Lib.uintTuple 144 (Lib.parseUint10 0 t.data.toList)) ∧ w' = Lib.bytesWorld w 5 t := Any.internal_strconv_ParseUint_10 Tryz.lays287 t hne hmax w
open Go.RowKit in
theorem Tryz.internal_strconv_ParseUint_10_any (t : ByteArray) (hmax : t.size ≤ 9223372036854775806) (w : World) :
  Calls Tryz.prog 122 #[.string t, .int .i64 10, .int .i64 0] w fun e w' => e = .returned (Lib.uintTuple 144 (Lib.parseMag t.data.toList)) ∧ (w' = w ∨ w' = Lib.bytesWorld w 5 t) := Any.internal_strconv_ParseUint_10_any Tryz.lays287 t hmax w
def Tryz.laysM280_ren : Go.Shelf.Ren := ⟨fun | 280 => 143 | 316 => 156 | n => n, fun | 9 => 9 | 168 => 146 | 75 => 94 | 210 => 154 | 3 => 3 | 4 => 4 | 37 => 89 | 0 => 0 | 127 => 110 | 80 => 70 | 5 => 5 | n => n, fun | 16 => 3 | n => n⟩
theorem Tryz.laysM280 : Go.Proofs.LaysM.n280 Tryz.prog Tryz.laysM280_ren := {
 mixed := by kernel_rfl
 f280 := Tryz.func143.trans (congrArg some (by kernel_rfl))
 f316 := Tryz.func156.trans (congrArg some (by kernel_rfl))
 t0 := Tryz.underlying0
 a0 := Tryz.isAgg0
 z0 := Tryz.sizeOf0
 v0 := Tryz.zeroValue0
 t3 := Tryz.underlying3
 a3 := Tryz.isAgg3
 z3 := Tryz.sizeOf3
 v3 := Tryz.zeroValue3
 t4 := Tryz.underlying4
 a4 := Tryz.isAgg4
 z4 := Tryz.sizeOf4
 v4 := Tryz.zeroValue4
 t9 := Tryz.underlying9
 a9 := Tryz.isAgg9
 z9 := Tryz.sizeOf9
 v9 := Tryz.zeroValue9
 t37 := Tryz.underlying89
 a37 := Tryz.isAgg89
 z37 := Tryz.sizeOf89
 v37 := Tryz.zeroValue89
 t75 := Tryz.underlying94
 a75 := Tryz.isAgg94
 z75 := Tryz.sizeOf94
 v75 := Tryz.zeroValue94
 t127 := Tryz.underlying110
 a127 := Tryz.isAgg110
 z127 := Tryz.sizeOf110
 v127 := Tryz.zeroValue110
 t168 := Tryz.underlying146
 a168 := Tryz.isAgg146
 z168 := Tryz.sizeOf146
 v168 := Tryz.zeroValue146
 t210 := Tryz.underlying154
 a210 := Tryz.isAgg154
 z210 := Tryz.sizeOf154
 v210 := Tryz.zeroValue154
 g16 := by kernel_rfl
 t5 := Tryz.underlying5
 a5 := Tryz.isAgg5
 z5 := Tryz.sizeOf5
 v5 := Tryz.zeroValue5
 t80 := Tryz.underlying70
 a80 := Tryz.isAgg70
 z80 := Tryz.sizeOf70
 v80 := Tryz.zeroValue70
 i0 := by kernel_rfl
 i3 := by kernel_rfl
 i4 := by kernel_rfl
 i5 := by kernel_rfl
 i9 := by kernel_rfl
 i37 := by kernel_rfl
 i75 := by kernel_rfl
 i80 := by kernel_rfl
 i127 := by kernel_rfl
 i168 := by kernel_rfl
 i210 := by kernel_rfl
 m16 := by kernel_rfl }
open Go.RowKit in
theorem Tryz.strconv_rangeError (fn s : ByteArray) (ev : Value) (w : World) (hlim : s.size ≤ 281474976710656) (hv : w.cell? ⟨3, 0, none⟩ = some ev) (hev : ev = .nilIface ∨ ∃ te pe, ev = .iface te pe) :
  Calls Tryz.prog 143 #[.string fn, .string s] w fun e w' => ∃ N, e = .returned (.pointer (some ⟨N, 0, none⟩)) ∧ w.heap.size ≤ N ∧ w'.heap[N]? = some (.cells #[.string fn, .string s, ev] 154 (0, 0)) ∧ Below w.heap.size w w' := Any.strconv_rangeError Tryz.laysM280 fn s ev w hlim hv hev
open Go.RowKit in
theorem Tryz.strconv_toError_range (fn s : ByteArray) (base bits : Int) (ev : Value) (w : World) (hlim : s.size ≤ 281474976710656) (hv : w.cell? ⟨3, 0, none⟩ = some ev) (hev : ev = .nilIface ∨ ∃ te pe, ev = .iface te pe) :
  Calls Tryz.prog 123 #[.string fn, .string s, .int .i64 base, .int .i64 bits, .iface 144 (.int .i64 1)] w fun e w' => ∃ N, e = .returned (.iface 146 (.pointer (some ⟨N, 0, none⟩))) ∧ w.heap.size ≤ N ∧ w'.heap[N]? = some (.cells #[.string fn, .string s, ev] 154 (0, 0)) ∧ Below w.heap.size w w' := Any.strconv_toError_range Tryz.laysC245 fn s base bits ev w hlim hv hev
open Go.RowKit in
theorem Tryz.internal_strconv_ParseUint_empty (base bits : Int) (w : World) :
  Calls Tryz.prog 122 #[.string ⟨#[]⟩, .int .i64 base, .int .i64 bits] w fun e w' => e = .returned (.tuple #[.int .u64 0, .iface 144 (.int .i64 2)]) ∧ w' = w := Any.internal_strconv_ParseUint_empty Tryz.lays287 base bits w
open Go.RowKit in
theorem Tryz.internal_strconv_ParseUint_10_b64 (t : ByteArray) (hne : t.size ≠ 0) (hmax : t.size ≤ 9223372036854775806) (w : World) :
  Calls Tryz.prog 122 #[.string t, .int .i64 10, .int .i64 64] w fun e w' => e = .returned (Lib.uintTuple 144 (Lib.parseUint10 0 t.data.toList)) ∧ w' = Lib.bytesWorld w 5 t := Any.internal_strconv_ParseUint_10_b64 Tryz.lays287 t hne hmax w
open Go.RowKit in
theorem Tryz.internal_strconv_ParseUint_10_b32 (t : ByteArray) (hne : t.size ≠ 0) (hmax : t.size ≤ 9223372036854775806) (w : World) :
  Calls Tryz.prog 122 #[.string t, .int .i64 10, .int .i64 32] w fun e w' => e = .returned (Lib.uintTupleM 144 4294967295 (Lib.parseUintM 4294967295 0 t.data.toList)) ∧ w' = Lib.bytesWorld w 5 t := Any.internal_strconv_ParseUint_10_b32 Tryz.lays287 t hne hmax w
open Go.RowKit in
theorem Tryz.internal_strconv_ParseUint_10_b16 (t : ByteArray) (hne : t.size ≠ 0) (hmax : t.size ≤ 9223372036854775806) (w : World) :
  Calls Tryz.prog 122 #[.string t, .int .i64 10, .int .i64 16] w fun e w' => e = .returned (Lib.uintTupleM 144 65535 (Lib.parseUintM 65535 0 t.data.toList)) ∧ w' = Lib.bytesWorld w 5 t := Any.internal_strconv_ParseUint_10_b16 Tryz.lays287 t hne hmax w
open Go.RowKit in
theorem Tryz.internal_strconv_ParseUint_10_b8 (t : ByteArray) (hne : t.size ≠ 0) (hmax : t.size ≤ 9223372036854775806) (w : World) :
  Calls Tryz.prog 122 #[.string t, .int .i64 10, .int .i64 8] w fun e w' => e = .returned (Lib.uintTupleM 144 255 (Lib.parseUintM 255 0 t.data.toList)) ∧ w' = Lib.bytesWorld w 5 t := Any.internal_strconv_ParseUint_10_b8 Tryz.lays287 t hne hmax w
open Go.RowKit in
theorem Tryz.internal_strconv_ParseUint_10_at0 (t : ByteArray) (hmax : t.size ≤ 9223372036854775806) (w : World) :
  Calls Tryz.prog 122 #[.string t, .int .i64 10, .int .i64 0] w fun e w' => e = .returned (Lib.uintTupleM 144 18446744073709551615 (Lib.parseUintB 64 t.data.toList)) ∧ (w' = w ∨ w' = Lib.bytesWorld w 5 t) := Any.internal_strconv_ParseUint_10_at0 Tryz.lays287 t hmax w
open Go.RowKit in
theorem Tryz.internal_strconv_ParseUint_10_at64 (t : ByteArray) (hmax : t.size ≤ 9223372036854775806) (w : World) :
  Calls Tryz.prog 122 #[.string t, .int .i64 10, .int .i64 64] w fun e w' => e = .returned (Lib.uintTupleM 144 18446744073709551615 (Lib.parseUintB 64 t.data.toList)) ∧ (w' = w ∨ w' = Lib.bytesWorld w 5 t) := Any.internal_strconv_ParseUint_10_at64 Tryz.lays287 t hmax w
open Go.RowKit in
theorem Tryz.internal_strconv_ParseUint_10_at32 (t : ByteArray) (hmax : t.size ≤ 9223372036854775806) (w : World) :
  Calls Tryz.prog 122 #[.string t, .int .i64 10, .int .i64 32] w fun e w' => e = .returned (Lib.uintTupleM 144 4294967295 (Lib.parseUintB 32 t.data.toList)) ∧ (w' = w ∨ w' = Lib.bytesWorld w 5 t) := Any.internal_strconv_ParseUint_10_at32 Tryz.lays287 t hmax w
open Go.RowKit in
theorem Tryz.internal_strconv_ParseUint_10_at16 (t : ByteArray) (hmax : t.size ≤ 9223372036854775806) (w : World) :
  Calls Tryz.prog 122 #[.string t, .int .i64 10, .int .i64 16] w fun e w' => e = .returned (Lib.uintTupleM 144 65535 (Lib.parseUintB 16 t.data.toList)) ∧ (w' = w ∨ w' = Lib.bytesWorld w 5 t) := Any.internal_strconv_ParseUint_10_at16 Tryz.lays287 t hmax w
open Go.RowKit in
theorem Tryz.internal_strconv_ParseUint_10_at8 (t : ByteArray) (hmax : t.size ≤ 9223372036854775806) (w : World) :
  Calls Tryz.prog 122 #[.string t, .int .i64 10, .int .i64 8] w fun e w' => e = .returned (Lib.uintTupleM 144 255 (Lib.parseUintB 8 t.data.toList)) ∧ (w' = w ∨ w' = Lib.bytesWorld w 5 t) := Any.internal_strconv_ParseUint_10_at8 Tryz.lays287 t hmax w
def Tryz.lays217_ren : Go.Shelf.Ren := ⟨fun | 217 => 59 | 266 => 93 | n => n, fun | 9 => 9 | 5 => 5 | 3 => 3 | n => n, fun | n => n⟩
theorem Tryz.lays217 : Go.Proofs.Lays.n217 Tryz.prog Tryz.lays217_ren := {
 mixed := by kernel_rfl
 f217 := Tryz.func59.trans (congrArg some (by kernel_rfl))
 f266 := Tryz.func93.trans (congrArg some (by kernel_rfl))
 t3 := Tryz.underlying3
 a3 := Tryz.isAgg3
 z3 := Tryz.sizeOf3
 v3 := Tryz.zeroValue3
 t5 := Tryz.underlying5
 a5 := Tryz.isAgg5
 z5 := Tryz.sizeOf5
 v5 := Tryz.zeroValue5
 t9 := Tryz.underlying9
 a9 := Tryz.isAgg9
 z9 := Tryz.sizeOf9
 v9 := Tryz.zeroValue9 }
open Go.RowKit Go.Lib in
theorem Tryz.stringslite_IndexByte (s : ByteArray) (c : Int) (w : World) :
  Calls Tryz.prog 59 #[.string s, .int .u8 c] w fun e w' => e = .returned (.int .i64 (Lib.indexByte s.data.toList c.toNat.toUInt8)) ∧ w' = w := Any.stringslite_IndexByte Tryz.lays217 s c w
def Tryz.lays224_ren : Go.Shelf.Ren := ⟨fun | 224 => 160 | n => n, fun | 3 => 3 | n => n, fun | n => n⟩
theorem Tryz.lays224 : Go.Proofs.Lays.n224 Tryz.prog Tryz.lays224_ren := {
 mixed := by kernel_rfl
 f224 := Tryz.func160.trans (congrArg some (by kernel_rfl))
 t3 := Tryz.underlying3
 a3 := Tryz.isAgg3
 z3 := Tryz.sizeOf3
 v3 := Tryz.zeroValue3 }
open Go.RowKit Go.Lib in
theorem Tryz.bytealg_Cutover (n : Int) (h0 : 0 ≤ n) (h1 : n < 4611686018427387904) (w : World) :
  Calls Tryz.prog 160 #[.int .i64 n] w fun e w' => e = .returned (.int .i64 ((n + 16) / 8)) ∧ w' = w := Any.bytealg_Cutover Tryz.lays224 n h0 h1 w
def Tryz.lays314_ren : Go.Shelf.Ren := ⟨fun | 314 => 173 | n => n, fun | 9 => 9 | 51 => 133 | 3 => 3 | 4 => 4 | 5 => 5 | 46 => 136 | n => n, fun | n => n⟩
theorem Tryz.lays314 : Go.Proofs.Lays.n314 Tryz.prog Tryz.lays314_ren := {
 mixed := by kernel_rfl
 f314 := Tryz.func173.trans (congrArg some (by kernel_rfl))
 t3 := Tryz.underlying3
 a3 := Tryz.isAgg3
 z3 := Tryz.sizeOf3
 v3 := Tryz.zeroValue3
 t4 := Tryz.underlying4
 a4 := Tryz.isAgg4
 z4 := Tryz.sizeOf4
 v4 := Tryz.zeroValue4
 t5 := Tryz.underlying5
 a5 := Tryz.isAgg5
 z5 := Tryz.sizeOf5
 v5 := Tryz.zeroValue5
 t9 := Tryz.underlying9
 a9 := Tryz.isAgg9
 z9 := Tryz.sizeOf9
 v9 := Tryz.zeroValue9
 t46 := Tryz.underlying136
 a46 := Tryz.isAgg136
 z46 := Tryz.sizeOf136
 v46 := Tryz.zeroValue136
 t51 := Tryz.underlying133
 a51 := Tryz.isAgg133
 z51 := Tryz.sizeOf133
 v51 := Tryz.zeroValue133 }
open Go.RowKit Go.Lib in
theorem Tryz.bytealg_hashStr (sep : ByteArray) (hs : sep.size < 4294967281) (w : World) :
  Calls Tryz.prog 173 #[.string sep] w fun e w' => e = .returned (.tuple #[.int .u32 (RK.H sep.data.toList % 4294967296), .int .u32 (16777619 ^ sep.size % 4294967296)]) ∧ w' = w := Any.bytealg_hashStr Tryz.lays314 sep hs w
def Tryz.lays267_ren : Go.Shelf.Ren := ⟨fun | 267 => 161 | 314 => 173 | n => n, fun | 9 => 9 | 3 => 3 | 146 => 174 | 51 => 133 | 4 => 4 | 5 => 5 | 46 => 136 | n => n, fun | n => n⟩
theorem Tryz.lays267 : Go.Proofs.Lays.n267 Tryz.prog Tryz.lays267_ren := {
 mixed := by kernel_rfl
 f267 := Tryz.func161.trans (congrArg some (by kernel_rfl))
 f314 := Tryz.func173.trans (congrArg some (by kernel_rfl))
 t3 := Tryz.underlying3
 a3 := Tryz.isAgg3
 z3 := Tryz.sizeOf3
 v3 := Tryz.zeroValue3
 t4 := Tryz.underlying4
 a4 := Tryz.isAgg4
 z4 := Tryz.sizeOf4
 v4 := Tryz.zeroValue4
 t5 := Tryz.underlying5
 a5 := Tryz.isAgg5
 z5 := Tryz.sizeOf5
 v5 := Tryz.zeroValue5
 t9 := Tryz.underlying9
 a9 := Tryz.isAgg9
 z9 := Tryz.sizeOf9
 v9 := Tryz.zeroValue9
 t46 := Tryz.underlying136
 a46 := Tryz.isAgg136
 z46 := Tryz.sizeOf136
 v46 := Tryz.zeroValue136
 t51 := Tryz.underlying133
 a51 := Tryz.isAgg133
 z51 := Tryz.sizeOf133
 v51 := Tryz.zeroValue133
 t146 := Tryz.underlying174
 a146 := Tryz.isAgg174
 z146 := Tryz.sizeOf174
 v146 := Tryz.zeroValue174 }
open Go.RowKit Go.Lib in
theorem Tryz.bytealg_IndexRabinKarp (s sep : ByteArray) (h1 : 1 ≤ sep.size) (h2 : sep.size ≤ s.size) (hs : s.size < 4294967281) (w : World) :
  Calls Tryz.prog 161 #[.string s, .string sep] w fun e w' => e = .returned (.int .i64 (Lib.index s.data.toList sep.data.toList)) ∧ w' = w := Any.bytealg_IndexRabinKarp Tryz.lays267 s sep h1 h2 hs w
def Tryz.lays219_ren : Go.Shelf.Ren := ⟨fun | 219 => 151 | 217 => 59 | 225 => 159 | 224 => 160 | 267 => 161 | 266 => 93 | 314 => 173 | n => n, fun | 9 => 9 | 3 => 3 | 4 => 4 | 5 => 5 | 46 => 136 | 146 => 174 | 51 => 133 | n => n, fun | 1 => 0 | n => n⟩
theorem Tryz.lays219 : Go.Proofs.Lays.n219 Tryz.prog Tryz.lays219_ren := {
 mixed := by kernel_rfl
 f217 := Tryz.func59.trans (congrArg some (by kernel_rfl))
 f219 := Tryz.func151.trans (congrArg some (by kernel_rfl))
 f224 := Tryz.func160.trans (congrArg some (by kernel_rfl))
 f225 := Tryz.func159.trans (congrArg some (by kernel_rfl))
 f266 := Tryz.func93.trans (congrArg some (by kernel_rfl))
 f267 := Tryz.func161.trans (congrArg some (by kernel_rfl))
 f314 := Tryz.func173.trans (congrArg some (by kernel_rfl))
 t3 := Tryz.underlying3
 a3 := Tryz.isAgg3
 z3 := Tryz.sizeOf3
 v3 := Tryz.zeroValue3
 t4 := Tryz.underlying4
 a4 := Tryz.isAgg4
 z4 := Tryz.sizeOf4
 v4 := Tryz.zeroValue4
 t5 := Tryz.underlying5
 a5 := Tryz.isAgg5
 z5 := Tryz.sizeOf5
 v5 := Tryz.zeroValue5
 t9 := Tryz.underlying9
 a9 := Tryz.isAgg9
 z9 := Tryz.sizeOf9
 v9 := Tryz.zeroValue9
 t46 := Tryz.underlying136
 a46 := Tryz.isAgg136
 z46 := Tryz.sizeOf136
 v46 := Tryz.zeroValue136
 t51 := Tryz.underlying133
 a51 := Tryz.isAgg133
 z51 := Tryz.sizeOf133
 v51 := Tryz.zeroValue133
 t146 := Tryz.underlying174
 a146 := Tryz.isAgg174
 z146 := Tryz.sizeOf174
 v146 := Tryz.zeroValue174
 g1 := by kernel_rfl }
open Go.RowKit Go.Lib in
theorem Tryz.stringslite_Index_one (s : ByteArray) (c : UInt8) (w : World) :
  Calls Tryz.prog 151 #[.string s, .string ⟨#[c]⟩] w fun e w' => e = .returned (.int .i64 (Lib.indexByte s.data.toList c)) ∧ w' = w := Any.stringslite_Index_one Tryz.lays219 s c w
open Go.RowKit Go.Lib in
theorem Tryz.stringslite_Index (s sub : ByteArray) (m : Int) (w : World) (hs : s.size < 4294967281) (hm : w.cell? ⟨0, 0, none⟩ = some (.int .i64 m)) :
  Calls Tryz.prog 151 #[.string s, .string sub] w fun e w' => e = .returned (.int .i64 (Lib.index s.data.toList sub.data.toList)) ∧ w' = w := Any.stringslite_Index Tryz.lays219 s sub m w hs hm
def Tryz.lays143_ren : Go.Shelf.Ren := ⟨fun | 143 => 133 | 219 => 151 | 217 => 59 | 225 => 159 | 224 => 160 | 267 => 161 | 266 => 93 | 314 => 173 | n => n, fun | 9 => 9 | 3 => 3 | 4 => 4 | 5 => 5 | 46 => 136 | 146 => 174 | 51 => 133 | n => n, fun | 1 => 0 | n => n⟩
theorem Tryz.lays143 : Go.Proofs.Lays.n143 Tryz.prog Tryz.lays143_ren := {
 mixed := by kernel_rfl
 f143 := Tryz.func133.trans (congrArg some (by kernel_rfl))
 f217 := Tryz.func59.trans (congrArg some (by kernel_rfl))
 f219 := Tryz.func151.trans (congrArg some (by kernel_rfl))
 f224 := Tryz.func160.trans (congrArg some (by kernel_rfl))
 f225 := Tryz.func159.trans (congrArg some (by kernel_rfl))
 f266 := Tryz.func93.trans (congrArg some (by kernel_rfl))
 f267 := Tryz.func161.trans (congrArg some (by kernel_rfl))
 f314 := Tryz.func173.trans (congrArg some (by kernel_rfl))
 t3 := Tryz.underlying3
 a3 := Tryz.isAgg3
 z3 := Tryz.sizeOf3
 v3 := Tryz.zeroValue3
 t4 := Tryz.underlying4
 a4 := Tryz.isAgg4
 z4 := Tryz.sizeOf4
 v4 := Tryz.zeroValue4
 t5 := Tryz.underlying5
 a5 := Tryz.isAgg5
 z5 := Tryz.sizeOf5
 v5 := Tryz.zeroValue5
 t9 := Tryz.underlying9
 a9 := Tryz.isAgg9
 z9 := Tryz.sizeOf9
 v9 := Tryz.zeroValue9
 t46 := Tryz.underlying136
 a46 := Tryz.isAgg136
 z46 := Tryz.sizeOf136
 v46 := Tryz.zeroValue136
 t51 := Tryz.underlying133
 a51 := Tryz.isAgg133
 z51 := Tryz.sizeOf133
 v51 := Tryz.zeroValue133
 t146 := Tryz.underlying174
 a146 := Tryz.isAgg174
 z146 := Tryz.sizeOf174
 v146 := Tryz.zeroValue174
 g1 := by kernel_rfl }
open Go.RowKit Go.Lib in
theorem Tryz.strings_Index_one (s : ByteArray) (c : UInt8) (w : World) :
  Calls Tryz.prog 133 #[.string s, .string ⟨#[c]⟩] w fun e w' => e = .returned (.int .i64 (Lib.indexByte s.data.toList c)) ∧ w' = w := Any.strings_Index_one Tryz.lays143 s c w
open Go.RowKit Go.Lib in
theorem Tryz.strings_Index (s sub : ByteArray) (m : Int) (w : World) (hs : s.size < 4294967281) (hm : w.cell? ⟨0, 0, none⟩ = some (.int .i64 m)) :
  Calls Tryz.prog 133 #[.string s, .string sub] w fun e w' => e = .returned (.int .i64 (Lib.index s.data.toList sub.data.toList)) ∧ w' = w := Any.strings_Index Tryz.lays143 s sub m w hs hm
def Tryz.lays138_ren : Go.Shelf.Ren := ⟨fun | 138 => 132 | 195 => 148 | 218 => 150 | 143 => 133 | 219 => 151 | 217 => 59 | 225 => 159 | 224 => 160 | 267 => 161 | 266 => 93 | 314 => 173 | n => n, fun | 9 => 9 | 3 => 3 | 4 => 4 | 5 => 5 | 0 => 0 | 46 => 136 | 146 => 174 | 51 => 133 | n => n, fun | 1 => 0 | n => n⟩
theorem Tryz.lays138 : Go.Proofs.Lays.n138 Tryz.prog Tryz.lays138_ren := {
 mixed := by kernel_rfl
 f138 := Tryz.func132.trans (congrArg some (by kernel_rfl))
 f143 := Tryz.func133.trans (congrArg some (by kernel_rfl))
 f195 := Tryz.func148.trans (congrArg some (by kernel_rfl))
 f217 := Tryz.func59.trans (congrArg some (by kernel_rfl))
 f218 := Tryz.func150.trans (congrArg some (by kernel_rfl))
 f219 := Tryz.func151.trans (congrArg some (by kernel_rfl))
 f224 := Tryz.func160.trans (congrArg some (by kernel_rfl))
 f225 := Tryz.func159.trans (congrArg some (by kernel_rfl))
 f266 := Tryz.func93.trans (congrArg some (by kernel_rfl))
 f267 := Tryz.func161.trans (congrArg some (by kernel_rfl))
 f314 := Tryz.func173.trans (congrArg some (by kernel_rfl))
 t0 := Tryz.underlying0
 a0 := Tryz.isAgg0
 z0 := Tryz.sizeOf0
 v0 := Tryz.zeroValue0
 t3 := Tryz.underlying3
 a3 := Tryz.isAgg3
 z3 := Tryz.sizeOf3
 v3 := Tryz.zeroValue3
 t4 := Tryz.underlying4
 a4 := Tryz.isAgg4
 z4 := Tryz.sizeOf4
 v4 := Tryz.zeroValue4
 t5 := Tryz.underlying5
 a5 := Tryz.isAgg5
 z5 := Tryz.sizeOf5
 v5 := Tryz.zeroValue5
 t9 := Tryz.underlying9
 a9 := Tryz.isAgg9
 z9 := Tryz.sizeOf9
 v9 := Tryz.zeroValue9
 t46 := Tryz.underlying136
 a46 := Tryz.isAgg136
 z46 := Tryz.sizeOf136
 v46 := Tryz.zeroValue136
 t51 := Tryz.underlying133
 a51 := Tryz.isAgg133
 z51 := Tryz.sizeOf133
 v51 := Tryz.zeroValue133
 t146 := Tryz.underlying174
 a146 := Tryz.isAgg174
 z146 := Tryz.sizeOf174
 v146 := Tryz.zeroValue174
 g1 := by kernel_rfl }
open Go.RowKit Go.Lib in
theorem Tryz.strings_Count_one (s : ByteArray) (c : UInt8) (w : World) :
  Calls Tryz.prog 132 #[.string s, .string ⟨#[c]⟩] w fun e w' => e = .returned (.int .i64 (Lib.countByte s.data.toList c)) ∧ w' = w := Any.strings_Count_one Tryz.lays138 s c w
open Go.RowKit Go.Lib in
theorem Tryz.strings_Count (s sub : ByteArray) (m : Int) (w : World) (hs : s.size < 4294967281) (hm : w.cell? ⟨0, 0, none⟩ = some (.int .i64 m)) (h2 : 2 ≤ sub.size) :
  Calls Tryz.prog 132 #[.string s, .string sub] w fun e w' => e = .returned (.int .i64 (Lib.countB s sub)) ∧ w' = w := Any.strings_Count Tryz.lays138 s sub m w hs hm h2
def Tryz.laysM219_ren : Go.Shelf.Ren := ⟨fun | 219 => 151 | 217 => 59 | 225 => 159 | 224 => 160 | 267 => 161 | 266 => 93 | 314 => 173 | n => n, fun | 9 => 9 | 3 => 3 | 4 => 4 | 5 => 5 | 46 => 136 | 146 => 174 | 51 => 133 | n => n, fun | 1 => 0 | n => n⟩
theorem Tryz.laysM219 : Go.Proofs.LaysM.n219 Tryz.prog Tryz.laysM219_ren := {
 mixed := by kernel_rfl
 f217 := Tryz.func59.trans (congrArg some (by kernel_rfl))
 f219 := Tryz.func151.trans (congrArg some (by kernel_rfl))
 f224 := Tryz.func160.trans (congrArg some (by kernel_rfl))
 f225 := Tryz.func159.trans (congrArg some (by kernel_rfl))
 f266 := Tryz.func93.trans (congrArg some (by kernel_rfl))
 f267 := Tryz.func161.trans (congrArg some (by kernel_rfl))
 f314 := Tryz.func173.trans (congrArg some (by kernel_rfl))
 t3 := Tryz.underlying3
 a3 := Tryz.isAgg3
 z3 := Tryz.sizeOf3
 v3 := Tryz.zeroValue3
 t4 := Tryz.underlying4
 a4 := Tryz.isAgg4
 z4 := Tryz.sizeOf4
 v4 := Tryz.zeroValue4
 t5 := Tryz.underlying5
 a5 := Tryz.isAgg5
 z5 := Tryz.sizeOf5
 v5 := Tryz.zeroValue5
 t9 := Tryz.underlying9
 a9 := Tryz.isAgg9
 z9 := Tryz.sizeOf9
 v9 := Tryz.zeroValue9
 t46 := Tryz.underlying136
 a46 := Tryz.isAgg136
 z46 := Tryz.sizeOf136
 v46 := Tryz.zeroValue136
 t51 := Tryz.underlying133
 a51 := Tryz.isAgg133
 z51 := Tryz.sizeOf133
 v51 := Tryz.zeroValue133
 t146 := Tryz.underlying174
 a146 := Tryz.isAgg174
 z146 := Tryz.sizeOf174
 v146 := Tryz.zeroValue174
 g1 := by kernel_rfl
 i3 := by kernel_rfl
 i4 := by kernel_rfl
 i5 := by kernel_rfl
 i9 := by kernel_rfl
 i46 := by kernel_rfl
 i51 := by kernel_rfl
 i146 := by kernel_rfl
 m1 := by kernel_rfl
 s1_3 := fun w h => Go.Proofs.cell_of_shapedOpen_int (zero := #[.int .i64 0]) (t := 3) h (of_decide_eq_true (by kernel_rfl)) (by kernel_rfl) rfl (by kernel_rfl) (by kernel_rfl) Tryz.underlying3 }
open Go.RowKit Go.Lib in
theorem Tryz.stringslite_Index_shaped (s sub : ByteArray) (w : World) (h : w.ShapedOpen Tryz.prog) (hs : s.size < 4294967281) :
  Calls Tryz.prog 151 #[.string s, .string sub] w fun e w' => e = .returned (.int .i64 (Lib.index s.data.toList sub.data.toList)) ∧ w' = w := Any.stringslite_Index_shaped Tryz.laysM219 s sub w h hs
def Tryz.laysM143_ren : Go.Shelf.Ren := ⟨fun | 143 => 133 | 219 => 151 | 217 => 59 | 225 => 159 | 224 => 160 | 267 => 161 | 266 => 93 | 314 => 173 | n => n, fun | 9 => 9 | 3 => 3 | 4 => 4 | 5 => 5 | 46 => 136 | 146 => 174 | 51 => 133 | n => n, fun | 1 => 0 | n => n⟩
theorem Tryz.laysM143 : Go.Proofs.LaysM.n143 Tryz.prog Tryz.laysM143_ren := {
 mixed := by kernel_rfl
 f143 := Tryz.func133.trans (congrArg some (by kernel_rfl))
 f217 := Tryz.func59.trans (congrArg some (by kernel_rfl))
 f219 := Tryz.func151.trans (congrArg some (by kernel_rfl))
 f224 := Tryz.func160.trans (congrArg some (by kernel_rfl))
 f225 := Tryz.func159.trans (congrArg some (by kernel_rfl))
 f266 := Tryz.func93.trans (congrArg some (by kernel_rfl))
 f267 := Tryz.func161.trans (congrArg some (by kernel_rfl))
 f314 := Tryz.func173.trans (congrArg some (by kernel_rfl))
 t3 := Tryz.underlying3
 a3 := Tryz.isAgg3
 z3 := Tryz.sizeOf3
 v3 := Tryz.zeroValue3
 t4 := Tryz.underlying4
 a4 := Tryz.isAgg4
 z4 := Tryz.sizeOf4
 v4 := Tryz.zeroValue4
 t5 := Tryz.underlying5
 a5 := Tryz.isAgg5
 z5 := Tryz.sizeOf5
 v5 := Tryz.zeroValue5
 t9 := Tryz.underlying9
 a9 := Tryz.isAgg9
 z9 := Tryz.sizeOf9
 v9 := Tryz.zeroValue9
 t46 := Tryz.underlying136
 a46 := Tryz.isAgg136
 z46 := Tryz.sizeOf136
 v46 := Tryz.zeroValue136
 t51 := Tryz.underlying133
 a51 := Tryz.isAgg133
 z51 := Tryz.sizeOf133
 v51 := Tryz.zeroValue133
 t146 := Tryz.underlying174
 a146 := Tryz.isAgg174
 z146 := Tryz.sizeOf174
 v146 := Tryz.zeroValue174
 g1 := by kernel_rfl
 i3 := by kernel_rfl
 i4 := by kernel_rfl
 i5 := by kernel_rfl
 i9 := by kernel_rfl
 i46 := by kernel_rfl
 i51 := by kernel_rfl
 i146 := by kernel_rfl
 m1 := by kernel_rfl
 s1_3 := fun w h => Go.Proofs.cell_of_shapedOpen_int (zero := #[.int .i64 0]) (t := 3) h (of_decide_eq_true (by kernel_rfl)) (by kernel_rfl) rfl (by kernel_rfl) (by kernel_rfl) Tryz.underlying3 }
open Go.RowKit Go.Lib in
theorem Tryz.strings_Index_shaped (s sub : ByteArray) (w : World) (h : w.ShapedOpen Tryz.prog) (hs : s.size < 4294967281) :
  Calls Tryz.prog 133 #[.string s, .string sub] w fun e w' => e = .returned (.int .i64 (Lib.index s.data.toList sub.data.toList)) ∧ w' = w := Any.strings_Index_shaped Tryz.laysM143 s sub w h hs
def Tryz.laysM138_ren : Go.Shelf.Ren := ⟨fun | 138 => 132 | 195 => 148 | 218 => 150 | 143 => 133 | 219 => 151 | 217 => 59 | 225 => 159 | 224 => 160 | 267 => 161 | 266 => 93 | 314 => 173 | n => n, fun | 9 => 9 | 3 => 3 | 4 => 4 | 5 => 5 | 0 => 0 | 46 => 136 | 146 => 174 | 51 => 133 | n => n, fun | 1 => 0 | n => n⟩
theorem Tryz.laysM138 : Go.Proofs.LaysM.n138 Tryz.prog Tryz.laysM138_ren := {
 mixed := by kernel_rfl
 f138 := Tryz.func132.trans (congrArg some (by kernel_rfl))
 f143 := Tryz.func133.trans (congrArg some (by kernel_rfl))
 f195 := Tryz.func148.trans (congrArg some (by kernel_rfl))
 f217 := Tryz.func59.trans (congrArg some (by kernel_rfl))
 f218 := Tryz.func150.trans (congrArg some (by kernel_rfl))
 f219 := Tryz.func151.trans (congrArg some (by kernel_rfl))
 f224 := Tryz.func160.trans (congrArg some (by kernel_rfl))
 f225 := Tryz.func159.trans (congrArg some (by kernel_rfl))
 f266 := Tryz.func93.trans (congrArg some (by kernel_rfl))
 f267 := Tryz.func161.trans (congrArg some (by kernel_rfl))
 f314 := Tryz.func173.trans (congrArg some (by kernel_rfl))
 t0 := Tryz.underlying0
 a0 := Tryz.isAgg0
 z0 := Tryz.sizeOf0
 v0 := Tryz.zeroValue0
 t3 := Tryz.underlying3
 a3 := Tryz.isAgg3
 z3 := Tryz.sizeOf3
 v3 := Tryz.zeroValue3
 t4 := Tryz.underlying4
 a4 := Tryz.isAgg4
 z4 := Tryz.sizeOf4
 v4 := Tryz.zeroValue4
 t5 := Tryz.underlying5
 a5 := Tryz.isAgg5
 z5 := Tryz.sizeOf5
 v5 := Tryz.zeroValue5
 t9 := Tryz.underlying9
 a9 := Tryz.isAgg9
 z9 := Tryz.sizeOf9
 v9 := Tryz.zeroValue9
 t46 := Tryz.underlying136
 a46 := Tryz.isAgg136
 z46 := Tryz.sizeOf136
 v46 := Tryz.zeroValue136
 t51 := Tryz.underlying133
 a51 := Tryz.isAgg133
 z51 := Tryz.sizeOf133
 v51 := Tryz.zeroValue133
 t146 := Tryz.underlying174
 a146 := Tryz.isAgg174
 z146 := Tryz.sizeOf174
 v146 := Tryz.zeroValue174
 g1 := by kernel_rfl
 i0 := by kernel_rfl
 i3 := by kernel_rfl
 i4 := by kernel_rfl
 i5 := by kernel_rfl
 i9 := by kernel_rfl
 i46 := by kernel_rfl
 i51 := by kernel_rfl
 i146 := by kernel_rfl
 m1 := by kernel_rfl
 s1_3 := fun w h => Go.Proofs.cell_of_shapedOpen_int (zero := #[.int .i64 0]) (t := 3) h (of_decide_eq_true (by kernel_rfl)) (by kernel_rfl) rfl (by kernel_rfl) (by kernel_rfl) Tryz.underlying3 }
open Go.RowKit Go.Lib in
theorem Tryz.strings_Count_shaped (s sub : ByteArray) (w : World) (h : w.ShapedOpen Tryz.prog) (hs : s.size < 4294967281) (h2 : 2 ≤ sub.size) :
  Calls Tryz.prog 132 #[.string s, .string sub] w fun e w' => e = .returned (.int .i64 (Lib.countB s sub)) ∧ w' = w := Any.strings_Count_shaped Tryz.laysM138 s sub w h hs h2
def Tryz.lays206_ren : Go.Shelf.Ren := ⟨fun | 206 => 87 | n => n, fun | 9 => 9 | 4 => 4 | 3 => 3 | n => n, fun | n => n⟩
theorem Tryz.lays206 : Go.Proofs.Lays.n206 Tryz.prog Tryz.lays206_ren := {
 mixed := by kernel_rfl
 f206 := Tryz.func87.trans (congrArg some (by kernel_rfl))
 t3 := Tryz.underlying3
 a3 := Tryz.isAgg3
 z3 := Tryz.sizeOf3
 v3 := Tryz.zeroValue3
 t4 := Tryz.underlying4
 a4 := Tryz.isAgg4
 z4 := Tryz.sizeOf4
 v4 := Tryz.zeroValue4
 t9 := Tryz.underlying9
 a9 := Tryz.isAgg9
 z9 := Tryz.sizeOf9
 v9 := Tryz.zeroValue9 }
open Go.RowKit Go.Lib in
theorem Tryz.stringslite_HasPrefix (s p : ByteArray) (w : World) :
  Calls Tryz.prog 87 #[.string s, .string p] w fun e w' => e = .returned (.bool (Lib.hasPrefix s.data.toList p.data.toList)) ∧ w' = w := Any.stringslite_HasPrefix Tryz.lays206 s p w
def Tryz.lays99_ren : Go.Shelf.Ren := ⟨fun | 99 => 49 | 206 => 87 | n => n, fun | 9 => 9 | 4 => 4 | 3 => 3 | n => n, fun | n => n⟩
theorem Tryz.lays99 : Go.Proofs.Lays.n99 Tryz.prog Tryz.lays99_ren := {
 mixed := by kernel_rfl
 f99 := Tryz.func49.trans (congrArg some (by kernel_rfl))
 f206 := Tryz.func87.trans (congrArg some (by kernel_rfl))
 t3 := Tryz.underlying3
 a3 := Tryz.isAgg3
 z3 := Tryz.sizeOf3
 v3 := Tryz.zeroValue3
 t4 := Tryz.underlying4
 a4 := Tryz.isAgg4
 z4 := Tryz.sizeOf4
 v4 := Tryz.zeroValue4
 t9 := Tryz.underlying9
 a9 := Tryz.isAgg9
 z9 := Tryz.sizeOf9
 v9 := Tryz.zeroValue9 }
open Go.RowKit Go.Lib in
theorem Tryz.strings_HasPrefix (s p : ByteArray) (w : World) :
  Calls Tryz.prog 49 #[.string s, .string p] w fun e w' => e = .returned (.bool (Lib.hasPrefix s.data.toList p.data.toList)) ∧ w' = w := Any.strings_HasPrefix Tryz.lays99 s p w
open Go.RowKit Go.Lib in
theorem Tryz.strings_Count_any (s sep : ByteArray) (m : Int) (w : World) (hs : s.size < 4294967281) (hm : w.cell? ⟨0, 0, none⟩ = some (.int .i64 m)) (h1 : 1 ≤ sep.size) :
  Calls Tryz.prog 132 #[.string s, .string sep] w fun e w' => e = .returned (.int .i64 (Lib.countB s sep)) ∧ w' = w := Any.strings_Count_any Tryz.lays138 s sep m w hs hm h1
def Tryz.lays221_ren : Go.Shelf.Ren := ⟨fun | 221 => 119 | 268 => 131 | 138 => 132 | 143 => 133 | 195 => 148 | 197 => 149 | 218 => 150 | 219 => 151 | 260 => 158 | 217 => 59 | 225 => 159 | 224 => 160 | 267 => 161 | 266 => 93 | 314 => 173 | n => n, fun | 9 => 9 | 3 => 3 | 31 => 24 | 4 => 4 | 0 => 0 | 105 => 150 | 21 => 21 | 5 => 5 | 46 => 136 | 119 => 170 | 139 => 173 | 138 => 172 | 146 => 174 | 51 => 133 | n => n, fun | 1 => 0 | 3 => 6 | 4 => 7 | n => n⟩
theorem Tryz.lays221 : Go.Proofs.Lays.n221 Tryz.prog Tryz.lays221_ren := {
 mixed := by kernel_rfl
 f138 := Tryz.func132.trans (congrArg some (by kernel_rfl))
 f143 := Tryz.func133.trans (congrArg some (by kernel_rfl))
 f195 := Tryz.func148.trans (congrArg some (by kernel_rfl))
 f197 := Tryz.func149.trans (congrArg some (by kernel_rfl))
 f217 := Tryz.func59.trans (congrArg some (by kernel_rfl))
 f218 := Tryz.func150.trans (congrArg some (by kernel_rfl))
 f219 := Tryz.func151.trans (congrArg some (by kernel_rfl))
 f221 := Tryz.func119.trans (congrArg some (by kernel_rfl))
 f224 := Tryz.func160.trans (congrArg some (by kernel_rfl))
 f225 := Tryz.func159.trans (congrArg some (by kernel_rfl))
 f260 := Tryz.func158.trans (congrArg some (by kernel_rfl))
 f266 := Tryz.func93.trans (congrArg some (by kernel_rfl))
 f267 := Tryz.func161.trans (congrArg some (by kernel_rfl))
 f268 := Tryz.func131.trans (congrArg some (by kernel_rfl))
 f314 := Tryz.func173.trans (congrArg some (by kernel_rfl))
 t0 := Tryz.underlying0
 a0 := Tryz.isAgg0
 z0 := Tryz.sizeOf0
 v0 := Tryz.zeroValue0
 t3 := Tryz.underlying3
 a3 := Tryz.isAgg3
 z3 := Tryz.sizeOf3
 v3 := Tryz.zeroValue3
 t4 := Tryz.underlying4
 a4 := Tryz.isAgg4
 z4 := Tryz.sizeOf4
 v4 := Tryz.zeroValue4
 t5 := Tryz.underlying5
 a5 := Tryz.isAgg5
 z5 := Tryz.sizeOf5
 v5 := Tryz.zeroValue5
 t9 := Tryz.underlying9
 a9 := Tryz.isAgg9
 z9 := Tryz.sizeOf9
 v9 := Tryz.zeroValue9
 t21 := Tryz.underlying21
 a21 := Tryz.isAgg21
 z21 := Tryz.sizeOf21
 v21 := Tryz.zeroValue21
 t31 := Tryz.underlying24
 a31 := Tryz.isAgg24
 z31 := Tryz.sizeOf24
 v31 := Tryz.zeroValue24
 t46 := Tryz.underlying136
 a46 := Tryz.isAgg136
 z46 := Tryz.sizeOf136
 v46 := Tryz.zeroValue136
 t51 := Tryz.underlying133
 a51 := Tryz.isAgg133
 z51 := Tryz.sizeOf133
 v51 := Tryz.zeroValue133
 t105 := Tryz.underlying150
 a105 := Tryz.isAgg150
 z105 := Tryz.sizeOf150
 v105 := Tryz.zeroValue150
 t119 := Tryz.underlying170
 a119 := Tryz.isAgg170
 z119 := Tryz.sizeOf170
 t138 := Tryz.underlying172
 a138 := Tryz.isAgg172
 z138 := Tryz.sizeOf172
 v138 := Tryz.zeroValue172
 t139 := Tryz.underlying173
 a139 := Tryz.isAgg173
 z139 := Tryz.sizeOf173
 v139 := Tryz.zeroValue173
 t146 := Tryz.underlying174
 a146 := Tryz.isAgg174
 z146 := Tryz.sizeOf174
 v146 := Tryz.zeroValue174
 g1 := by kernel_rfl
 g3 := by kernel_rfl
 g4 := by kernel_rfl }
open Go.RowKit Go.Lib in
theorem Tryz.strings_genSplit (s sep : ByteArray) (sv : Nat) (n : Int) (N : Nat) (m : Int) (w : World) (hs : s.size < 4294967281) (hm : w.cell? ⟨0, 0, none⟩ = some (.int .i64 m)) (h1 : 1 ≤ sep.size) (hsv : sv ≤ sep.size) (hn0 : n ≠ 0) (hn63 : n ≤ 9223372036854775807) (hN : (N : Int) = min (if n < 0 then (Lib.countB s sep : Int) + 1 else n) ((s.size : Int) + 1)) :
  Calls Tryz.prog 119 #[.string s, .string sep, .int .i64 sv, .int .i64 n] w fun e w' =>
   e = .returned (.slice (some ⟨w.heap.size, 0, none⟩) (Lib.splitB sep sv (N - 1) s).length N) ∧ w' = w.alloc (.cells (Lib.cellsOf (Lib.splitB sep sv (N - 1) s) N) 9) := Any.strings_genSplit Tryz.lays221 (by kernel_rfl) s sep sv n N m w hs hm h1 hsv hn0 hn63 hN
def Tryz.lays146_ren : Go.Shelf.Ren := ⟨fun | 146 => 107 | 221 => 119 | 268 => 131 | 138 => 132 | 143 => 133 | 195 => 148 | 197 => 149 | 218 => 150 | 219 => 151 | 260 => 158 | 217 => 59 | 225 => 159 | 224 => 160 | 267 => 161 | 266 => 93 | 314 => 173 | n => n, fun | 9 => 9 | 31 => 24 | 3 => 3 | 4 => 4 | 0 => 0 | 105 => 150 | 21 => 21 | 5 => 5 | 46 => 136 | 119 => 170 | 139 => 173 | 138 => 172 | 146 => 174 | 51 => 133 | n => n, fun | 1 => 0 | 3 => 6 | 4 => 7 | n => n⟩
theorem Tryz.lays146 : Go.Proofs.Lays.n146 Tryz.prog Tryz.lays146_ren := {
 mixed := by kernel_rfl
 f138 := Tryz.func132.trans (congrArg some (by kernel_rfl))
 f143 := Tryz.func133.trans (congrArg some (by kernel_rfl))
 f146 := Tryz.func107.trans (congrArg some (by kernel_rfl))
 f195 := Tryz.func148.trans (congrArg some (by kernel_rfl))
 f197 := Tryz.func149.trans (congrArg some (by kernel_rfl))
 f217 := Tryz.func59.trans (congrArg some (by kernel_rfl))
 f218 := Tryz.func150.trans (congrArg some (by kernel_rfl))
 f219 := Tryz.func151.trans (congrArg some (by kernel_rfl))
 f221 := Tryz.func119.trans (congrArg some (by kernel_rfl))
 f224 := Tryz.func160.trans (congrArg some (by kernel_rfl))
 f225 := Tryz.func159.trans (congrArg some (by kernel_rfl))
 f260 := Tryz.func158.trans (congrArg some (by kernel_rfl))
 f266 := Tryz.func93.trans (congrArg some (by kernel_rfl))
 f267 := Tryz.func161.trans (congrArg some (by kernel_rfl))
 f268 := Tryz.func131.trans (congrArg some (by kernel_rfl))
 f314 := Tryz.func173.trans (congrArg some (by kernel_rfl))
 t0 := Tryz.underlying0
 a0 := Tryz.isAgg0
 z0 := Tryz.sizeOf0
 v0 := Tryz.zeroValue0
 t3 := Tryz.underlying3
 a3 := Tryz.isAgg3
 z3 := Tryz.sizeOf3
 v3 := Tryz.zeroValue3
 t4 := Tryz.underlying4
 a4 := Tryz.isAgg4
 z4 := Tryz.sizeOf4
 v4 := Tryz.zeroValue4
 t5 := Tryz.underlying5
 a5 := Tryz.isAgg5
 z5 := Tryz.sizeOf5
 v5 := Tryz.zeroValue5
 t9 := Tryz.underlying9
 a9 := Tryz.isAgg9
 z9 := Tryz.sizeOf9
 v9 := Tryz.zeroValue9
 t21 := Tryz.underlying21
 a21 := Tryz.isAgg21
 z21 := Tryz.sizeOf21
 v21 := Tryz.zeroValue21
 t31 := Tryz.underlying24
 a31 := Tryz.isAgg24
 z31 := Tryz.sizeOf24
 v31 := Tryz.zeroValue24
 t46 := Tryz.underlying136
 a46 := Tryz.isAgg136
 z46 := Tryz.sizeOf136
 v46 := Tryz.zeroValue136
 t51 := Tryz.underlying133
 a51 := Tryz.isAgg133
 z51 := Tryz.sizeOf133
 v51 := Tryz.zeroValue133
 t105 := Tryz.underlying150
 a105 := Tryz.isAgg150
 z105 := Tryz.sizeOf150
 v105 := Tryz.zeroValue150
 t119 := Tryz.underlying170
 a119 := Tryz.isAgg170
 z119 := Tryz.sizeOf170
 t138 := Tryz.underlying172
 a138 := Tryz.isAgg172
 z138 := Tryz.sizeOf172
 v138 := Tryz.zeroValue172
 t139 := Tryz.underlying173
 a139 := Tryz.isAgg173
 z139 := Tryz.sizeOf173
 v139 := Tryz.zeroValue173
 t146 := Tryz.underlying174
 a146 := Tryz.isAgg174
 z146 := Tryz.sizeOf174
 v146 := Tryz.zeroValue174
 g1 := by kernel_rfl
 g3 := by kernel_rfl
 g4 := by kernel_rfl }
open Go.RowKit Go.Lib in
theorem Tryz.strings_Split (s sep : ByteArray) (m : Int) (w : World) (hs : s.size < 4294967281) (hm : w.cell? ⟨0, 0, none⟩ = some (.int .i64 m)) (h1 : 1 ≤ sep.size) :
  Calls Tryz.prog 107 #[.string s, .string sep] w fun e w' =>
   e = .returned (.slice (some ⟨w.heap.size, 0, none⟩) (Lib.countB s sep + 1) (Lib.countB s sep + 1)) ∧ w' = w.alloc (.cells ((Lib.splitB sep 0 (Lib.countB s sep) s).map Value.string).toArray 9) := Any.strings_Split Tryz.lays146 (by kernel_rfl) s sep m w hs hm h1
def Tryz.laysM146_ren : Go.Shelf.Ren := ⟨fun | 146 => 107 | 221 => 119 | 268 => 131 | 138 => 132 | 143 => 133 | 195 => 148 | 197 => 149 | 218 => 150 | 219 => 151 | 260 => 158 | 217 => 59 | 225 => 159 | 224 => 160 | 267 => 161 | 266 => 93 | 314 => 173 | n => n, fun | 9 => 9 | 31 => 24 | 3 => 3 | 4 => 4 | 0 => 0 | 105 => 150 | 21 => 21 | 5 => 5 | 46 => 136 | 119 => 170 | 139 => 173 | 138 => 172 | 146 => 174 | 51 => 133 | n => n, fun | 1 => 0 | 3 => 6 | 4 => 7 | n => n⟩
theorem Tryz.laysM146 : Go.Proofs.LaysM.n146 Tryz.prog Tryz.laysM146_ren := {
 mixed := by kernel_rfl
 f138 := Tryz.func132.trans (congrArg some (by kernel_rfl))
 f143 := Tryz.func133.trans (congrArg some (by kernel_rfl))
 f146 := Tryz.func107.trans (congrArg some (by kernel_rfl))
 f195 := Tryz.func148.trans (congrArg some (by kernel_rfl))
 f197 := Tryz.func149.trans (congrArg some (by kernel_rfl))
 f217 := Tryz.func59.trans (congrArg some (by kernel_rfl))
 f218 := Tryz.func150.trans (congrArg some (by kernel_rfl))
 f219 := Tryz.func151.trans (congrArg some (by kernel_rfl))
 f221 := Tryz.func119.trans (congrArg some (by kernel_rfl))
 f224 := Tryz.func160.trans (congrArg some (by kernel_rfl))
 f225 := Tryz.func159.trans (congrArg some (by kernel_rfl))
 f260 := Tryz.func158.trans (congrArg some (by kernel_rfl))
 f266 := Tryz.func93.trans (congrArg some (by kernel_rfl))
 f267 := Tryz.func161.trans (congrArg some (by kernel_rfl))
 f268 := Tryz.func131.trans (congrArg some (by kernel_rfl))
 f314 := Tryz.func173.trans (congrArg some (by kernel_rfl))
 t0 := Tryz.underlying0
 a0 := Tryz.isAgg0
 z0 := Tryz.sizeOf0
 v0 := Tryz.zeroValue0
 t3 := Tryz.underlying3
 a3 := Tryz.isAgg3
 z3 := Tryz.sizeOf3
 v3 := Tryz.zeroValue3
 t4 := Tryz.underlying4
 a4 := Tryz.isAgg4
 z4 := Tryz.sizeOf4
 v4 := Tryz.zeroValue4
 t5 := Tryz.underlying5
 a5 := Tryz.isAgg5
 z5 := Tryz.sizeOf5
 v5 := Tryz.zeroValue5
 t9 := Tryz.underlying9
 a9 := Tryz.isAgg9
 z9 := Tryz.sizeOf9
 v9 := Tryz.zeroValue9
 t21 := Tryz.underlying21
 a21 := Tryz.isAgg21
 z21 := Tryz.sizeOf21
 v21 := Tryz.zeroValue21
 t31 := Tryz.underlying24
 a31 := Tryz.isAgg24
 z31 := Tryz.sizeOf24
 v31 := Tryz.zeroValue24
 t46 := Tryz.underlying136
 a46 := Tryz.isAgg136
 z46 := Tryz.sizeOf136
 v46 := Tryz.zeroValue136
 t51 := Tryz.underlying133
 a51 := Tryz.isAgg133
 z51 := Tryz.sizeOf133
 v51 := Tryz.zeroValue133
 t105 := Tryz.underlying150
 a105 := Tryz.isAgg150
 z105 := Tryz.sizeOf150
 v105 := Tryz.zeroValue150
 t119 := Tryz.underlying170
 a119 := Tryz.isAgg170
 z119 := Tryz.sizeOf170
 t138 := Tryz.underlying172
 a138 := Tryz.isAgg172
 z138 := Tryz.sizeOf172
 v138 := Tryz.zeroValue172
 t139 := Tryz.underlying173
 a139 := Tryz.isAgg173
 z139 := Tryz.sizeOf173
 v139 := Tryz.zeroValue173
 t146 := Tryz.underlying174
 a146 := Tryz.isAgg174
 z146 := Tryz.sizeOf174
 v146 := Tryz.zeroValue174
 g1 := by kernel_rfl
 g3 := by kernel_rfl
 g4 := by kernel_rfl
 i0 := by kernel_rfl
 i3 := by kernel_rfl
 i4 := by kernel_rfl
 i5 := by kernel_rfl
 i9 := by kernel_rfl
 i21 := by kernel_rfl
 i31 := by kernel_rfl
 i46 := by kernel_rfl
 i51 := by kernel_rfl
 i105 := by kernel_rfl
 i138 := by kernel_rfl
 i139 := by kernel_rfl
 i146 := by kernel_rfl
 m1 := by kernel_rfl
 s1_3 := fun w h => Go.Proofs.cell_of_shapedOpen_int (zero := #[.int .i64 0]) (t := 3) h (of_decide_eq_true (by kernel_rfl)) (by kernel_rfl) rfl (by kernel_rfl) (by kernel_rfl) Tryz.underlying3
 m3 := by kernel_rfl
 m4 := by kernel_rfl }
open Go.RowKit Go.Lib in
theorem Tryz.strings_Split_shaped (s sep : ByteArray) (w : World) (h : w.ShapedOpen Tryz.prog) (hs : s.size < 4294967281) (h1 : 1 ≤ sep.size) :
  Calls Tryz.prog 107 #[.string s, .string sep] w fun e w' =>
   e = .returned (.slice (some ⟨w.heap.size, 0, none⟩) (Lib.countB s sep + 1) (Lib.countB s sep + 1)) ∧ w' = w.alloc (.cells ((Lib.splitB sep 0 (Lib.countB s sep) s).map Value.string).toArray 9) := Any.strings_Split_shaped Tryz.laysM146 s sep w h hs h1
def Tryz.lays197_ren : Go.Shelf.Ren := ⟨fun | 197 => 149 | 260 => 158 | n => n, fun | 9 => 9 | 21 => 21 | 3 => 3 | 4 => 4 | 5 => 5 | 105 => 150 | 119 => 170 | 0 => 0 | 46 => 136 | 139 => 173 | 138 => 172 | n => n, fun | 3 => 6 | 4 => 7 | n => n⟩
theorem Tryz.lays197 : Go.Proofs.Lays.n197 Tryz.prog Tryz.lays197_ren := {
 mixed := by kernel_rfl
 f197 := Tryz.func149.trans (congrArg some (by kernel_rfl))
 f260 := Tryz.func158.trans (congrArg some (by kernel_rfl))
 t0 := Tryz.underlying0
 a0 := Tryz.isAgg0
 z0 := Tryz.sizeOf0
 v0 := Tryz.zeroValue0
 t3 := Tryz.underlying3
 a3 := Tryz.isAgg3
 z3 := Tryz.sizeOf3
 v3 := Tryz.zeroValue3
 t4 := Tryz.underlying4
 a4 := Tryz.isAgg4
 z4 := Tryz.sizeOf4
 v4 := Tryz.zeroValue4
 t5 := Tryz.underlying5
 a5 := Tryz.isAgg5
 z5 := Tryz.sizeOf5
 v5 := Tryz.zeroValue5
 t9 := Tryz.underlying9
 a9 := Tryz.isAgg9
 z9 := Tryz.sizeOf9
 v9 := Tryz.zeroValue9
 t21 := Tryz.underlying21
 a21 := Tryz.isAgg21
 z21 := Tryz.sizeOf21
 v21 := Tryz.zeroValue21
 t46 := Tryz.underlying136
 a46 := Tryz.isAgg136
 z46 := Tryz.sizeOf136
 v46 := Tryz.zeroValue136
 t105 := Tryz.underlying150
 a105 := Tryz.isAgg150
 z105 := Tryz.sizeOf150
 v105 := Tryz.zeroValue150
 t119 := Tryz.underlying170
 a119 := Tryz.isAgg170
 z119 := Tryz.sizeOf170
 t138 := Tryz.underlying172
 a138 := Tryz.isAgg172
 z138 := Tryz.sizeOf172
 v138 := Tryz.zeroValue172
 t139 := Tryz.underlying173
 a139 := Tryz.isAgg173
 z139 := Tryz.sizeOf173
 v139 := Tryz.zeroValue173
 g3 := by kernel_rfl
 g4 := by kernel_rfl }
open Go.RowKit Go.Lib in
theorem Tryz.utf8_DecodeRuneInString_ascii (s : ByteArray) (x : UInt8) (w : World) (h0 : s.data.toList[0]? = some x) (hx : x.toNat < 128) :
  Calls Tryz.prog 149 #[.string s] w fun e w' => e = .returned (.tuple #[.int .i32 x.toNat, .int .i64 1]) ∧ w' = w := Any.utf8_DecodeRuneInString_ascii Tryz.lays197 s x w h0 hx
open Go.RowKit Go.Lib in
theorem Tryz.utf8_RuneCountInString_ascii (s : ByteArray) (w : World) (hs : s.size < 4294967281) (hascii : ∀ (j : Nat) b, s.data.toList[j]? = some b → b.toNat < 128) :
  Calls Tryz.prog 148 #[.string s] w fun e w' => e = .returned (.int .i64 s.size) ∧ w' = w.iter s s.size := Any.utf8_RuneCountInString_ascii Tryz.lays195 s w hs hascii
def Tryz.lays268_ren : Go.Shelf.Ren := ⟨fun | 268 => 131 | 195 => 148 | 197 => 149 | 260 => 158 | n => n, fun | 9 => 9 | 3 => 3 | 31 => 24 | 4 => 4 | 105 => 150 | 21 => 21 | 0 => 0 | 5 => 5 | 119 => 170 | 46 => 136 | 139 => 173 | 138 => 172 | n => n, fun | 3 => 6 | 4 => 7 | n => n⟩
theorem Tryz.lays268 : Go.Proofs.Lays.n268 Tryz.prog Tryz.lays268_ren := {
 mixed := by kernel_rfl
 f195 := Tryz.func148.trans (congrArg some (by kernel_rfl))
 f197 := Tryz.func149.trans (congrArg some (by kernel_rfl))
 f260 := Tryz.func158.trans (congrArg some (by kernel_rfl))
 f268 := Tryz.func131.trans (congrArg some (by kernel_rfl))
 t0 := Tryz.underlying0
 a0 := Tryz.isAgg0
 z0 := Tryz.sizeOf0
 v0 := Tryz.zeroValue0
 t3 := Tryz.underlying3
 a3 := Tryz.isAgg3
 z3 := Tryz.sizeOf3
 v3 := Tryz.zeroValue3
 t4 := Tryz.underlying4
 a4 := Tryz.isAgg4
 z4 := Tryz.sizeOf4
 v4 := Tryz.zeroValue4
 t5 := Tryz.underlying5
 a5 := Tryz.isAgg5
 z5 := Tryz.sizeOf5
 v5 := Tryz.zeroValue5
 t9 := Tryz.underlying9
 a9 := Tryz.isAgg9
 z9 := Tryz.sizeOf9
 v9 := Tryz.zeroValue9
 t21 := Tryz.underlying21
 a21 := Tryz.isAgg21
 z21 := Tryz.sizeOf21
 v21 := Tryz.zeroValue21
 t31 := Tryz.underlying24
 a31 := Tryz.isAgg24
 z31 := Tryz.sizeOf24
 v31 := Tryz.zeroValue24
 t46 := Tryz.underlying136
 a46 := Tryz.isAgg136
 z46 := Tryz.sizeOf136
 v46 := Tryz.zeroValue136
 t105 := Tryz.underlying150
 a105 := Tryz.isAgg150
 z105 := Tryz.sizeOf150
 v105 := Tryz.zeroValue150
 t119 := Tryz.underlying170
 a119 := Tryz.isAgg170
 z119 := Tryz.sizeOf170
 t138 := Tryz.underlying172
 a138 := Tryz.isAgg172
 z138 := Tryz.sizeOf172
 v138 := Tryz.zeroValue172
 t139 := Tryz.underlying173
 a139 := Tryz.isAgg173
 z139 := Tryz.sizeOf173
 v139 := Tryz.zeroValue173
 g3 := by kernel_rfl
 g4 := by kernel_rfl }
open Go.RowKit Go.Lib in
theorem Tryz.strings_explode_all (s : ByteArray) (n : Int) (w : World) (hn : n < 0) (hs : s.size < 4294967281) (hascii : ∀ (j : Nat) b, s.data.toList[j]? = some b → b.toNat < 128) :
  Calls Tryz.prog 131 #[.string s, .int .i64 n] w fun e w' =>
   e = .returned (.slice (some ⟨(w.iter s s.size).heap.size, 0, none⟩) s.size s.size) ∧ w' = (w.iter s s.size).alloc (.cells ((Lib.charsB s).map Value.string).toArray 9) := Any.strings_explode_all Tryz.lays268 (by kernel_rfl) s n w hn hs hascii
open Go.RowKit Go.Lib in
theorem Tryz.strings_genSplit_chars (s sep : ByteArray) (sv n : Int) (w : World) (h0 : sep.size = 0) (hn : n < 0) (hs : s.size < 4294967281) (hascii : ∀ (j : Nat) b, s.data.toList[j]? = some b → b.toNat < 128) :
  Calls Tryz.prog 119 #[.string s, .string sep, .int .i64 sv, .int .i64 n] w fun e w' =>
   e = .returned (.slice (some ⟨(w.iter s s.size).heap.size, 0, none⟩) s.size s.size) ∧ w' = (w.iter s s.size).alloc (.cells ((Lib.charsB s).map Value.string).toArray 9) := Any.strings_genSplit_chars Tryz.lays221 (by kernel_rfl) s sep sv n w h0 hn hs hascii
open Go.RowKit Go.Lib in
theorem Tryz.strings_Split_chars (s sep : ByteArray) (w : World) (h0 : sep.size = 0) (hs : s.size < 4294967281) (hascii : ∀ (j : Nat) b, s.data.toList[j]? = some b → b.toNat < 128) :
  Calls Tryz.prog 107 #[.string s, .string sep] w fun e w' =>
   e = .returned (.slice (some ⟨(w.iter s s.size).heap.size, 0, none⟩) s.size s.size) ∧ w' = (w.iter s s.size).alloc (.cells ((Lib.charsB s).map Value.string).toArray 9) := Any.strings_Split_chars Tryz.lays146 (by kernel_rfl) s sep w h0 hs hascii
def Tryz.lays260_ren : Go.Shelf.Ren := ⟨fun | 260 => 158 | n => n, fun | 9 => 9 | 21 => 21 | 3 => 3 | 4 => 4 | 5 => 5 | 119 => 170 | 0 => 0 | 46 => 136 | 139 => 173 | 138 => 172 | n => n, fun | 3 => 6 | 4 => 7 | n => n⟩
theorem Tryz.lays260 : Go.Proofs.Lays.n260 Tryz.prog Tryz.lays260_ren := {
 mixed := by kernel_rfl
 f260 := Tryz.func158.trans (congrArg some (by kernel_rfl))
 t0 := Tryz.underlying0
 a0 := Tryz.isAgg0
 z0 := Tryz.sizeOf0
 v0 := Tryz.zeroValue0
 t3 := Tryz.underlying3
 a3 := Tryz.isAgg3
 z3 := Tryz.sizeOf3
 v3 := Tryz.zeroValue3
 t4 := Tryz.underlying4
 a4 := Tryz.isAgg4
 z4 := Tryz.sizeOf4
 v4 := Tryz.zeroValue4
 t5 := Tryz.underlying5
 a5 := Tryz.isAgg5
 z5 := Tryz.sizeOf5
 v5 := Tryz.zeroValue5
 t9 := Tryz.underlying9
 a9 := Tryz.isAgg9
 z9 := Tryz.sizeOf9
 v9 := Tryz.zeroValue9
 t21 := Tryz.underlying21
 a21 := Tryz.isAgg21
 z21 := Tryz.sizeOf21
 v21 := Tryz.zeroValue21
 t46 := Tryz.underlying136
 a46 := Tryz.isAgg136
 z46 := Tryz.sizeOf136
 v46 := Tryz.zeroValue136
 t119 := Tryz.underlying170
 a119 := Tryz.isAgg170
 z119 := Tryz.sizeOf170
 t138 := Tryz.underlying172
 a138 := Tryz.isAgg172
 z138 := Tryz.sizeOf172
 v138 := Tryz.zeroValue172
 t139 := Tryz.underlying173
 a139 := Tryz.isAgg173
 z139 := Tryz.sizeOf173
 v139 := Tryz.zeroValue173
 g3 := by kernel_rfl
 g4 := by kernel_rfl }
open Go.RowKit Go.Lib in
theorem Tryz.utf8_decodeRuneInStringSlow (s : ByteArray) (w : World) (hT : Lib.Utf8Tabs 6 7 w) :
  Calls Tryz.prog 158 #[.string s] w fun e w' => e = .returned (.tuple #[.int .i32 (Lib.decodeGo s).1, .int .i64 (Lib.decodeGo s).2]) ∧ Below w.heap.size w w' := Any.utf8_decodeRuneInStringSlow Tryz.lays260 s w hT
open Go.RowKit Go.Lib in
theorem Tryz.utf8_DecodeRuneInString (s : ByteArray) (w : World) (hT : Lib.Utf8Tabs 6 7 w) :
  Calls Tryz.prog 149 #[.string s] w fun e w' => e = .returned (.tuple #[.int .i32 (Lib.decodeGo s).1, .int .i64 (Lib.decodeGo s).2]) ∧ Below w.heap.size w w' := Any.utf8_DecodeRuneInString Tryz.lays197 s w hT
def Tryz.lays109_ren : Go.Shelf.Ren := ⟨fun | 109 => 171 | n => n, fun | 31 => 24 | 9 => 9 | 3 => 3 | 0 => 0 | 4 => 4 | n => n, fun | n => n⟩
theorem Tryz.lays109 : Go.Proofs.Lays.n109 Tryz.prog Tryz.lays109_ren := {
 mixed := by kernel_rfl
 f109 := Tryz.func171.trans (congrArg some (by kernel_rfl))
 t0 := Tryz.underlying0
 a0 := Tryz.isAgg0
 z0 := Tryz.sizeOf0
 v0 := Tryz.zeroValue0
 t3 := Tryz.underlying3
 a3 := Tryz.isAgg3
 z3 := Tryz.sizeOf3
 v3 := Tryz.zeroValue3
 t4 := Tryz.underlying4
 a4 := Tryz.isAgg4
 z4 := Tryz.sizeOf4
 v4 := Tryz.zeroValue4
 t9 := Tryz.underlying9
 a9 := Tryz.isAgg9
 z9 := Tryz.sizeOf9
 v9 := Tryz.zeroValue9
 t31 := Tryz.underlying24
 a31 := Tryz.isAgg24
 z31 := Tryz.sizeOf24
 v31 := Tryz.zeroValue24 }
open Go.Lib in
theorem Tryz.slices_Index_string (b off n c : Nat) (zs : List ByteArray) (x : ByteArray) (w : World) (hz : n ≤ zs.length) (hbig : n ≤ 9223372036854775807) (hc : ∀ j, j < zs.length → w.cell? ⟨b, off + j, none⟩ = some (.string (zs.getD j ByteArray.empty))) :
  Calls Tryz.prog 171 #[.slice (some ⟨b, off, none⟩) n c, .string x] w fun e w' => e = .returned (.int .i64 (Lib.idxOfS (zs.take n) x)) ∧ w' = w := Any.slices_Index_string Tryz.lays109 b off n c zs x w hz hbig hc
open Go.Lib in
theorem Tryz.slices_Index_string_empty (a : Option Addr) (c : Nat) (x : ByteArray) (w : World) :
  Calls Tryz.prog 171 #[.slice a 0 c, .string x] w fun e w' => e = .returned (.int .i64 (Lib.idxOfS [] x)) ∧ w' = w := Any.slices_Index_string_empty Tryz.lays109 a c x w
def Tryz.lays193_ren : Go.Shelf.Ren := ⟨fun | 193 => 37 | n => n, fun | 31 => 24 | 9 => 9 | 4 => 4 | 3 => 3 | 0 => 0 | n => n, fun | n => n⟩
theorem Tryz.lays193 : Go.Proofs.Lays.n193 Tryz.prog Tryz.lays193_ren := {
 mixed := by kernel_rfl
 f193 := Tryz.func37.trans (congrArg some (by kernel_rfl))
 t0 := Tryz.underlying0
 a0 := Tryz.isAgg0
 z0 := Tryz.sizeOf0
 v0 := Tryz.zeroValue0
 t3 := Tryz.underlying3
 a3 := Tryz.isAgg3
 z3 := Tryz.sizeOf3
 v3 := Tryz.zeroValue3
 t4 := Tryz.underlying4
 a4 := Tryz.isAgg4
 z4 := Tryz.sizeOf4
 v4 := Tryz.zeroValue4
 t9 := Tryz.underlying9
 a9 := Tryz.isAgg9
 z9 := Tryz.sizeOf9
 v9 := Tryz.zeroValue9
 t31 := Tryz.underlying24
 a31 := Tryz.isAgg24
 z31 := Tryz.sizeOf24
 v31 := Tryz.zeroValue24 }
open Go.RowKit Go.Lib in
theorem Tryz.slices_Equal_string (b1 o1 n c b2 o2 m d : Nat) (xs ys : List ByteArray) (w : World) (hx : n ≤ xs.length) (hy : m ≤ ys.length) (hbig : n ≤ 9223372036854775807) (hbig2 : m ≤ 9223372036854775807) (hc1 : ∀ j, j < xs.length → w.cell? ⟨b1, o1 + j, none⟩ = some (.string (xs.getD j ByteArray.empty))) (hc2 : ∀ j, j < ys.length → w.cell? ⟨b2, o2 + j, none⟩ = some (.string (ys.getD j ByteArray.empty))) :
  Calls Tryz.prog 37 #[.slice (some ⟨b1, o1, none⟩) n c, .slice (some ⟨b2, o2, none⟩) m d] w fun e w' => e = .returned (.bool (decide (xs.take n = ys.take m))) ∧ ∃ q, w' = w.drewN q := Any.slices_Equal_string Tryz.lays193 b1 o1 n c b2 o2 m d xs ys w hx hy hbig hbig2 hc1 hc2
open Go.RowKit Go.Lib in
theorem Tryz.slices_Equal_string_empty (a1 a2 : Option Addr) (c m d : Nat) (w : World) (hbig2 : m ≤ 9223372036854775807) :
  Calls Tryz.prog 37 #[.slice a1 0 c, .slice a2 m d] w fun e w' => e = .returned (.bool (decide (m = 0))) ∧ w' = w := Any.slices_Equal_string_empty Tryz.lays193 a1 a2 c m d w hbig2
def Tryz.laysNm216_ren : Go.Shelf.Ren := ⟨fun | 16 => 136 | n => n, fun | 24 => 24 | 9 => 9 | 4 => 4 | n => n, fun | n => n⟩
theorem Tryz.laysNm216 : Go.Proofs.Lays2.n16 Tryz.prog Tryz.laysNm216_ren := {
 mixed := by kernel_rfl
 f16 := Tryz.func136.trans (congrArg some (by kernel_rfl))
 t4 := Tryz.underlying4
 a4 := Tryz.isAgg4
 z4 := Tryz.sizeOf4
 v4 := Tryz.zeroValue4
 t9 := Tryz.underlying9
 a9 := Tryz.isAgg9
 z9 := Tryz.sizeOf9
 v9 := Tryz.zeroValue9
 t24 := Tryz.underlying24
 a24 := Tryz.isAgg24
 z24 := Tryz.sizeOf24
 v24 := Tryz.zeroValue24
 i9 := by kernel_rfl }
open Go.RowKit Go.Lib in
theorem Tryz.slices_Clone_string (b off n c : Nat) (zs : List ByteArray) (w : World) (hz : n ≤ zs.length) (hbig : n * 16 ≤ 140737488355328) (hc : ∀ j, j < zs.length → w.cell? ⟨b, off + j, none⟩ = some (.string (zs.getD j ByteArray.empty))) :
  Calls Tryz.prog 136 #[.slice (some ⟨b, off, none⟩) n c] w fun e w' => ∃ v', e = .returned v' ∧ w'.ownsRow w.heap.size 9 1 v' n ((zs.take n).map (Value.string)) ∧ v' ≠ .slice none 0 0 ∧ Below w.heap.size w w' := Any.slices_Clone_string Tryz.laysNm216 b off n c zs w hz hbig hc
open Go.RowKit Go.Lib in
theorem Tryz.slices_Clone_string_nil (n c : Nat) (w : World) :
  Calls Tryz.prog 136 #[.slice none n c] w fun e w' => e = .returned (.slice none 0 0) ∧ w' = w := Any.slices_Clone_string_nil Tryz.laysNm216 n c w
open Go.RowKit Go.Lib in
theorem Tryz.slices_Clone_string_zero (a : Addr) (c : Nat) (w : World) :
  Calls Tryz.prog 136 #[.slice (some a) 0 c] w fun e w' => ∃ v', e = .returned v' ∧ w'.ownsRow w.heap.size 9 1 v' 0 [] ∧ v' ≠ .slice none 0 0 ∧ Below w.heap.size w w' := Any.slices_Clone_string_zero Tryz.laysNm216 a c w
def Tryz.lays194_ren : Go.Shelf.Ren := ⟨fun | 194 => 139 | n => n, fun | 31 => 24 | 9 => 9 | 3 => 3 | 4 => 4 | 0 => 0 | n => n, fun | n => n⟩
theorem Tryz.lays194 : Go.Proofs.Lays.n194 Tryz.prog Tryz.lays194_ren := {
 mixed := by kernel_rfl
 f194 := Tryz.func139.trans (congrArg some (by kernel_rfl))
 t0 := Tryz.underlying0
 a0 := Tryz.isAgg0
 z0 := Tryz.sizeOf0
 v0 := Tryz.zeroValue0
 t3 := Tryz.underlying3
 a3 := Tryz.isAgg3
 z3 := Tryz.sizeOf3
 v3 := Tryz.zeroValue3
 t4 := Tryz.underlying4
 a4 := Tryz.isAgg4
 z4 := Tryz.sizeOf4
 v4 := Tryz.zeroValue4
 t9 := Tryz.underlying9
 a9 := Tryz.isAgg9
 z9 := Tryz.sizeOf9
 v9 := Tryz.zeroValue9
 t31 := Tryz.underlying24
 a31 := Tryz.isAgg24
 z31 := Tryz.sizeOf24
 v31 := Tryz.zeroValue24 }
open Go.RowKit Go.Lib Go.Sort in
theorem Tryz.slices_Compact_string_arr (blk off cap : Nat) (d : Array (List UInt8)) (w : World) (hH : Holds encStr w blk off d) (hsz : d.size ≤ 9223372036854775807) (hcap : d.size ≤ cap) :
  Calls Tryz.prog 139 #[.slice (some ⟨blk, off, none⟩) d.size cap] w fun e w' => e = .returned (.slice (some ⟨blk, off, none⟩) (compactUpTo d d.size).length cap) ∧ ∃ q, w' = putRow encStr (Sort.ahead w q) blk off (compactUpTo d d.size ++ List.replicate (d.size - (compactUpTo d d.size).length) []).toArray := Any.slices_Compact_string_arr Tryz.lays194 blk off cap d w hH hsz hcap
open Go.RowKit Go.Lib Go.Sort in
theorem Tryz.slices_Compact_string (blk off cap : Nat) (zs : List (List UInt8)) (w : World) (hH : Holds encStr w blk off zs.toArray) (hsz : zs.length ≤ 9223372036854775807) (hcap : zs.length ≤ cap) :
  Calls Tryz.prog 139 #[.slice (some ⟨blk, off, none⟩) zs.length cap] w fun e w' => e = .returned (.slice (some ⟨blk, off, none⟩) (Lib.compact zs).length cap) ∧ ∃ q, w' = putRow encStr (Sort.ahead w q) blk off (Lib.compact zs ++ List.replicate (zs.length - (Lib.compact zs).length) []).toArray := Any.slices_Compact_string Tryz.lays194 blk off cap zs w hH hsz hcap
open Go.RowKit Go.Lib Go.Sort in
theorem Tryz.slices_Compact_string_empty (a : Option Addr) (cap : Nat) (w : World) :
  Calls Tryz.prog 139 #[.slice a 0 cap] w fun e w' => e = .returned (.slice a 0 cap) ∧ w' = w := Any.slices_Compact_string_empty Tryz.lays194 a cap w
open Go.RowKit Go.Lib Go.Sort in
theorem Tryz.slices_Compact_string_cells (b off n c : Nat) (Sx : Nat → ByteArray) (w : World) (hbig : n ≤ 9223372036854775807) (hcap : n ≤ c) (hc : ∀ i, i < n → w.cell? ⟨b, off + i, none⟩ = some (.string (Sx i))) (hf : ∀ j, j < n → w.frozen? ⟨b, off + j, none⟩ = false) :
  Calls Tryz.prog 139 #[.slice (some ⟨b, off, none⟩) n c] w fun e w' => e = .returned (.slice (some ⟨b, off, none⟩) (Lib.compact (Lib.strsOf Sx n)).length c) ∧ ∃ q, w' = (w.drewN q).setCells b off ((Lib.compact (Lib.strsOf Sx n) ++ List.replicate (n - (Lib.compact (Lib.strsOf Sx n)).length) []).map encStr) := Any.slices_Compact_string_cells Tryz.lays194 b off n c Sx w hbig hcap hc hf
open Go.RowKit Go.Lib in
theorem Tryz.slices_Equal_string_lens (a1 a2 : Option Addr) (n c m d : Nat) (w : World) (hnm : n ≠ m) :
  Calls Tryz.prog 37 #[.slice a1 n c, .slice a2 m d] w fun e w' => e = .returned (.bool false) ∧ w' = w := Any.slices_Equal_string_lens Tryz.lays193 a1 a2 n c m d w hnm
def Tryz.laysSlE041_f136_ren : Go.Shelf.Ren := ⟨fun | 41 => 136 | n => n, fun | 22 => 24 | 23 => 9 | 4 => 4 | n => n, fun | n => n⟩
theorem Tryz.laysSlE041_f136 : Go.Proofs.SlLaysE0.n41 Tryz.prog Tryz.laysSlE041_f136_ren := {
 mixed := by kernel_rfl
 f41 := ⟨Tryz.f136.name, by decide, Tryz.func136.trans (congrArg some (by kernel_rfl))⟩
 t4 := Tryz.underlying4
 a4 := Tryz.isAgg4
 z4 := Tryz.sizeOf4
 v4 := Tryz.zeroValue4
 t22 := Tryz.underlying24
 a22 := Tryz.isAgg24
 z22 := Tryz.sizeOf24
 v22 := Tryz.zeroValue24 }
open Go.RowKit Go.Lib in
theorem Tryz.slices_Clone (i0 : TypeInfo) (z : Value) (size bytes : Nat) (hi : Tryz.prog.info? 9 = some i0) (hz0 : i0.zero = some z) (hz1 : i0.size = size) (hz2 : i0.bytes = bytes) (hzs : z.cells.size = size) (hsz : 0 < size) (z23 : ∀ w, (Go.sizeOf 9).run Tryz.prog w = .ok size w) (b off n c : Nat) (news : List Value) (w : World) (hl : news.length = n * size) (hn : n ≤ maxLen) (hbig : n * bytes ≤ 140737488355328) (hc : ∀ j u, news[j]? = some u → w.cell? ⟨b, off + j, none⟩ = some u) (h1 : ∀ u ∈ news, u.oneCell' = true) :
  Calls Tryz.prog 136 #[.slice (some ⟨b, off, none⟩) n c] w fun e w' => ∃ v', e = .returned v' ∧ w'.ownsRow w.heap.size 9 size v' n news ∧ v' ≠ .slice none 0 0 ∧ Below w.heap.size w w' := AnyE.slices_Clone Tryz.laysSlE041_f136 i0 z size bytes hi hz0 hz1 hz2 hzs hsz z23 b off n c news w hl hn hbig hc h1
open Go.RowKit Go.Lib in
theorem Tryz.slices_Clone_nil (n c : Nat) (w : World) :
  Calls Tryz.prog 136 #[.slice none n c] w fun e w' => e = .returned (.slice none 0 0) ∧ w' = w := AnyE.slices_Clone_nil Tryz.laysSlE041_f136 n c w
def Tryz.sortL_ren : Go.Shelf.Ren := ⟨fun | 6 => 137 | 15 => 153 | 14 => 152 | 28 => 170 | 29 => 126 | 20 => 162 | 21 => 163 | 22 => 164 | 23 => 165 | 24 => 166 | 25 => 167 | 26 => 168 | 27 => 169 | 46 => 174 | 47 => 175 | 48 => 176 | 49 => 177 | 50 => 178 | 57 => 180 | n => n, fun | 22 => 24 | 24 => 9 | 25 => 140 | 3 => 3 | 39 => 136 | 0 => 0 | 53 => 133 | 55 => 22 | 4 => 4 | 46 => 160 | 45 => 159 | 50 => 164 | 5 => 5 | 9 => 9 | 66 => 176 | 70 => 179 | 76 => 181 | 77 => 182 | n => n, fun | n => n⟩
theorem Tryz.sortL : Go.Proofs.SlLaysF.n6 Tryz.prog Tryz.sortL_ren := {
 mixed := by kernel_rfl
 f6 := ⟨Tryz.f137.name, by decide, Tryz.func137.trans (congrArg some (by kernel_rfl))⟩
 f14 := ⟨Tryz.f152.name, by decide, Tryz.func152.trans (congrArg some (by kernel_rfl))⟩
 f15 := Tryz.func153.trans (congrArg some (by kernel_rfl))
 f20 := ⟨Tryz.f162.name, by decide, Tryz.func162.trans (congrArg some (by kernel_rfl))⟩
 f21 := ⟨Tryz.f163.name, by decide, Tryz.func163.trans (congrArg some (by kernel_rfl))⟩
 f22 := ⟨Tryz.f164.name, by decide, Tryz.func164.trans (congrArg some (by kernel_rfl))⟩
 f23 := ⟨Tryz.f165.name, by decide, Tryz.func165.trans (congrArg some (by kernel_rfl))⟩
 f24 := ⟨Tryz.f166.name, by decide, Tryz.func166.trans (congrArg some (by kernel_rfl))⟩
 f25 := ⟨Tryz.f167.name, by decide, Tryz.func167.trans (congrArg some (by kernel_rfl))⟩
 f26 := ⟨Tryz.f168.name, by decide, Tryz.func168.trans (congrArg some (by kernel_rfl))⟩
 f27 := ⟨Tryz.f169.name, by decide, Tryz.func169.trans (congrArg some (by kernel_rfl))⟩
 f28 := Tryz.func170.trans (congrArg some (by kernel_rfl))
 f29 := Tryz.func126.trans (congrArg some (by kernel_rfl))
 f46 := ⟨Tryz.f174.name, by decide, Tryz.func174.trans (congrArg some (by kernel_rfl))⟩
 f47 := Tryz.func175.trans (congrArg some (by kernel_rfl))
 f48 := Tryz.func176.trans (congrArg some (by kernel_rfl))
 f49 := ⟨Tryz.f177.name, by decide, Tryz.func177.trans (congrArg some (by kernel_rfl))⟩
 f50 := ⟨Tryz.f178.name, by decide, Tryz.func178.trans (congrArg some (by kernel_rfl))⟩
 f57 := ⟨Tryz.f180.name, by decide, Tryz.func180.trans (congrArg some (by kernel_rfl))⟩
 t0 := Tryz.underlying0
 a0 := Tryz.isAgg0
 z0 := Tryz.sizeOf0
 v0 := Tryz.zeroValue0
 t3 := Tryz.underlying3
 a3 := Tryz.isAgg3
 z3 := Tryz.sizeOf3
 v3 := Tryz.zeroValue3
 t4 := Tryz.underlying4
 a4 := Tryz.isAgg4
 z4 := Tryz.sizeOf4
 v4 := Tryz.zeroValue4
 t5 := Tryz.underlying5
 a5 := Tryz.isAgg5
 z5 := Tryz.sizeOf5
 v5 := Tryz.zeroValue5
 t9 := Tryz.underlying9
 a9 := Tryz.isAgg9
 z9 := Tryz.sizeOf9
 v9 := Tryz.zeroValue9
 t22 := Tryz.underlying24
 a22 := Tryz.isAgg24
 z22 := Tryz.sizeOf24
 v22 := Tryz.zeroValue24
 a24 := Tryz.isAgg9
 z24 := Tryz.sizeOf9
 t25 := Tryz.underlying140
 a25 := Tryz.isAgg140
 z25 := Tryz.sizeOf140
 v25 := Tryz.zeroValue140
 t39 := Tryz.underlying136
 a39 := Tryz.isAgg136
 z39 := Tryz.sizeOf136
 v39 := Tryz.zeroValue136
 t45 := Tryz.underlying159
 a45 := Tryz.isAgg159
 z45 := Tryz.sizeOf159
 v45 := Tryz.zeroValue159
 t46 := Tryz.underlying160
 a46 := Tryz.isAgg160
 z46 := Tryz.sizeOf160
 v46 := Tryz.zeroValue160
 t50 := Tryz.underlying164
 a50 := Tryz.isAgg164
 z50 := Tryz.sizeOf164
 v50 := Tryz.zeroValue164
 t53 := Tryz.underlying133
 a53 := Tryz.isAgg133
 z53 := Tryz.sizeOf133
 v53 := Tryz.zeroValue133
 t55 := Tryz.underlying22
 a55 := Tryz.isAgg22
 z55 := Tryz.sizeOf22
 v55 := Tryz.zeroValue22
 t66 := Tryz.underlying176
 a66 := Tryz.isAgg176
 z66 := Tryz.sizeOf176
 v66 := Tryz.zeroValue176
 t70 := Tryz.underlying179
 a70 := Tryz.isAgg179
 z70 := Tryz.sizeOf179
 v70 := Tryz.zeroValue179
 t76 := Tryz.underlying181
 a76 := Tryz.isAgg181
 z76 := Tryz.sizeOf181
 v76 := Tryz.zeroValue181
 t77 := Tryz.underlying182
 a77 := Tryz.isAgg182
 z77 := Tryz.sizeOf182
 v77 := Tryz.zeroValue182 }
end Go.Proofs
