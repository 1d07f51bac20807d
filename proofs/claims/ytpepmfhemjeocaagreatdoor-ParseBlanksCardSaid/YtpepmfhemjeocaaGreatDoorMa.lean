/- Texts of this claim's author, joined: Sh, Sa, V0, Va, Vb, Vc, Vd, Ve, Vf, Vg, Vh. -/
import Derived.Shelf.Strings.Builder1
import Derived.Shelf.Strings.Builder2
import Derived.Shelf.Strings.OnBuilder
import Derived.Shelf.Small.Strs
import Derived.Shelf.Strings.BuilderF
import Derived.Shelf.Strings.BuilderK
import Derived.Shelf.Utf8.RuneCount
import Derived.Shelf.Strings.Builder2Cap
import Derived.Shelf.Strconv.Itoa0
import Derived.Shelf.Strconv.Itoa1
import Derived.Shelf.LaysM
import Derived.Shelf.Strconv.Itoa2
import Derived.Shelf.Strconv.Itoa3
import Derived.Shelf.Strings.Search1
import Derived.Shelf.Strings.Search2
import Derived.Shelf.Strings.Search3
import Derived.Shelf.Strings.Count
import Derived.Shelf.Strings.Shaped
import Derived.Shelf.Strings.Prefix
import Derived.Shelf.Strings.Split
import Derived.Shelf.Strings.Replace
import Derived.Shelf.Strings.SplitShaped
import Derived.Shelf.Unicode.Decode
import Derived.Shelf.Strings.RuneCount
import Derived.Shelf.Unicode.DecodeSlow
import Derived.Shelf.Unicode.DecodeAny
import Derived.Shelf.Strings.BuilderCap
import Derived.Shelf.Slices.Turned
import Derived.Test.YtpepmfhemjeocaaGreatDoorProg
import Derived.WalkKit
import Derived.BigCall
import Derived.Lib.FrozenHead2
import Derived.Lib.OthersKept
import Derived.Calls
import Derived.Lib.LaidTab
import Derived.Lib.ItoaNum
import Derived.KernelRfl
import Derived.Below
import Derived.Maps.AppendAt
import Derived.Deep.LoopGhost
import Derived.Laws.Cells
import Derived.Laws.CopyRow
import Derived.Laws.Tables
import Derived.Laws.Entries
import Derived.Laws.AppendOwn
import Derived.Great.BuildSlice
import Derived.Laws.Strings
import Derived.Laws.StructEq
section
/- Contracts of the library, laid by the shelf. -/
namespace Go.Proofs
open Go.Shelf
def Tryz.lays170_ren : Go.Shelf.Ren := ⟨fun | 170 => 145 | n => n, fun | 70 => 121 | 3 => 3 | 0 => 0 | 72 => 124 | 37 => 122 | 5 => 5 | n => n, fun | n => n⟩
theorem Tryz.lays170 : Go.Proofs.Lays.n170 Tryz.prog Tryz.lays170_ren := {
  mixed := by kernel_rfl
  f170 := Tryz.func145.trans (congrArg some (by kernel_rfl))
  t0 := Tryz.underlying0
  a0 := Tryz.isAgg0
  z0 := Tryz.sizeOf0
  v0 := Tryz.zeroValue0
  t3 := Tryz.underlying3
  a3 := Tryz.isAgg3
  z3 := Tryz.sizeOf3
  v3 := Tryz.zeroValue3
  t37 := Tryz.underlying122
  a37 := Tryz.isAgg122
  z37 := Tryz.sizeOf122
  v37 := Tryz.zeroValue122
  t70 := Tryz.underlying121
  a70 := Tryz.isAgg121
  z70 := Tryz.sizeOf121
  v70 := Tryz.zeroValue121
  t72 := Tryz.underlying124
  a72 := Tryz.isAgg124
  z72 := Tryz.sizeOf124
  v72 := Tryz.zeroValue124 }
open Go.RowKit in
theorem Tryz.Builder_Len (B b : Nat) (bs : List Value) (w : World) (h : Lib.IsBuilder 124 5 B b bs w) :
    Calls Tryz.prog 145 #[.pointer (some ⟨b, 0, none⟩)] w fun e w' => e = .returned (.int .i64 bs.length) ∧ w' = w := Any.Builder_Len Tryz.lays170 B b bs w h
def Tryz.lays169_ren : Go.Shelf.Ren := ⟨fun | 169 => 101 | n => n, fun | 70 => 121 | 9 => 9 | 0 => 0 | 72 => 124 | 37 => 122 | 127 => 157 | 3 => 3 | 5 => 5 | n => n, fun | n => n⟩
theorem Tryz.lays169 : Go.Proofs.Lays.n169 Tryz.prog Tryz.lays169_ren := {
  mixed := by kernel_rfl
  f169 := Tryz.func101.trans (congrArg some (by kernel_rfl))
  t0 := Tryz.underlying0
  a0 := Tryz.isAgg0
  z0 := Tryz.sizeOf0
  v0 := Tryz.zeroValue0
  t3 := Tryz.underlying3
  a3 := Tryz.isAgg3
  z3 := Tryz.sizeOf3
  v3 := Tryz.zeroValue3
  t9 := Tryz.underlying9
  a9 := Tryz.isAgg9
  z9 := Tryz.sizeOf9
  v9 := Tryz.zeroValue9
  t37 := Tryz.underlying122
  a37 := Tryz.isAgg122
  z37 := Tryz.sizeOf122
  v37 := Tryz.zeroValue122
  t70 := Tryz.underlying121
  a70 := Tryz.isAgg121
  z70 := Tryz.sizeOf121
  v70 := Tryz.zeroValue121
  t72 := Tryz.underlying124
  a72 := Tryz.isAgg124
  z72 := Tryz.sizeOf124
  v72 := Tryz.zeroValue124
  t127 := Tryz.underlying157
  a127 := Tryz.isAgg157
  z127 := Tryz.sizeOf157
  v127 := Tryz.zeroValue157 }
theorem Tryz.Builder_Extra_169 : Builder.Extra Tryz.prog Tryz.lays169_ren := {
  sizeBuilder := by kernel_rfl
  liesBuilder := by kernel_rfl
  t5 := Tryz.underlying5
  a5 := Tryz.isAgg5
  z5 := Tryz.sizeOf5
  v5 := Tryz.zeroValue5
  infoByte := by kernel_rfl
  cellsByte := by kernel_rfl
  sizeByte := by kernel_rfl
  neB5 := by decide }
open Go.RowKit in
theorem Tryz.Builder_String (B b : Nat) (l : List UInt8) (w : World) (h : Lib.IsBuilder 124 5 B b (Lib.byteCells l) w) (h0 : l ≠ []) :
    Calls Tryz.prog 101 #[.pointer (some ⟨b, 0, none⟩)] w fun e w' => e = .returned (.string ⟨l.toArray⟩) ∧ Below B w w' := Any.Builder_String Tryz.lays169 Tryz.Builder_Extra_169 B b l w h h0
open Go.RowKit in
theorem Tryz.Builder_String_empty (B b : Nat) (w : World) (h : Lib.IsBuilder 124 5 B b [] w) (hBw : B ≤ w.heap.size) :
    Calls Tryz.prog 101 #[.pointer (some ⟨b, 0, none⟩)] w fun e w' => e = .returned (.string ⟨#[]⟩) ∧ Below B w w' := Any.Builder_String_empty Tryz.lays169 Tryz.Builder_Extra_169 B b w h hBw
open Go.RowKit in
theorem Tryz.Builder_String_any (B b : Nat) (l : List UInt8) (w : World) (h : Lib.IsBuilder 124 5 B b (Lib.byteCells l) w) (hBw : B ≤ w.heap.size) :
    Calls Tryz.prog 101 #[.pointer (some ⟨b, 0, none⟩)] w fun e w' => e = .returned (.string ⟨l.toArray⟩) ∧ Below B w w' := Any.Builder_String_any Tryz.lays169 Tryz.Builder_Extra_169 B b l w h hBw
def Tryz.lays241_ren : Go.Shelf.Ren := ⟨fun | 241 => 152 | 277 => 181 | n => n, fun | 70 => 121 | 3 => 3 | 0 => 0 | 72 => 124 | 37 => 122 | 5 => 5 | n => n, fun | n => n⟩
theorem Tryz.lays241 : Go.Proofs.Lays.n241 Tryz.prog Tryz.lays241_ren := {
  mixed := by kernel_rfl
  f241 := Tryz.func152.trans (congrArg some (by kernel_rfl))
  f277 := Tryz.func181.trans (congrArg some (by kernel_rfl))
  t0 := Tryz.underlying0
  a0 := Tryz.isAgg0
  z0 := Tryz.sizeOf0
  v0 := Tryz.zeroValue0
  t3 := Tryz.underlying3
  a3 := Tryz.isAgg3
  z3 := Tryz.sizeOf3
  v3 := Tryz.zeroValue3
  t37 := Tryz.underlying122
  a37 := Tryz.isAgg122
  z37 := Tryz.sizeOf122
  v37 := Tryz.zeroValue122
  t70 := Tryz.underlying121
  a70 := Tryz.isAgg121
  z70 := Tryz.sizeOf121
  v70 := Tryz.zeroValue121
  t72 := Tryz.underlying124
  a72 := Tryz.isAgg124
  z72 := Tryz.sizeOf124
  v72 := Tryz.zeroValue124 }
theorem Tryz.Builder_Extra_241 : Builder.Extra Tryz.prog Tryz.lays241_ren := {
  sizeBuilder := by kernel_rfl
  liesBuilder := by kernel_rfl
  t5 := Tryz.underlying5
  a5 := Tryz.isAgg5
  z5 := Tryz.sizeOf5
  v5 := Tryz.zeroValue5
  infoByte := by kernel_rfl
  cellsByte := by kernel_rfl
  sizeByte := by kernel_rfl
  neB5 := by decide }
open Go.RowKit in
theorem Tryz.Builder_grow_fresh (B b n : Nat) (w : World) (hB : B ≤ b) (hbk : w.heap[b]? = some (.cells #[.pointer (some ⟨b, 0, none⟩), .slice none 0 0] 124 (0, 0))) (hBw : B ≤ w.heap.size) (hn : n ≤ 281474976710656) :
    Calls Tryz.prog 152 #[.pointer (some ⟨b, 0, none⟩), .int .i64 n] w fun e w' => e = .returned (.tuple #[]) ∧ (Lib.BuilderAt 124 5 B b (.pointer (some ⟨b, 0, none⟩)) [] w' ∧ Below B w w') := Any.Builder_grow_fresh Tryz.lays241 Tryz.Builder_Extra_241 B b n w hB hbk hBw hn
def Tryz.lays165_ren : Go.Shelf.Ren := ⟨fun | 165 => 99 | 240 => 151 | 241 => 152 | 276 => 180 | 277 => 181 | n => n, fun | 70 => 121 | 3 => 3 | 0 => 0 | 4 => 4 | 9 => 9 | 20 => 20 | 72 => 124 | 37 => 122 | 164 => 171 | 5 => 5 | n => n, fun | n => n⟩
theorem Tryz.lays165 : Go.Proofs.Lays.n165 Tryz.prog Tryz.lays165_ren := {
  mixed := by kernel_rfl
  f165 := Tryz.func99.trans (congrArg some (by kernel_rfl))
  f240 := Tryz.func151.trans (congrArg some (by kernel_rfl))
  f241 := Tryz.func152.trans (congrArg some (by kernel_rfl))
  f276 := Tryz.func180.trans (congrArg some (by kernel_rfl))
  f277 := Tryz.func181.trans (congrArg some (by kernel_rfl))
  t0 := Tryz.underlying0
  a0 := Tryz.isAgg0
  z0 := Tryz.sizeOf0
  v0 := Tryz.zeroValue0
  t3 := Tryz.underlying3
  a3 := Tryz.isAgg3
  z3 := Tryz.sizeOf3
  v3 := Tryz.zeroValue3
  t4 := Tryz.underlying4
  a4 := Tryz.isAgg4
  z4 := Tryz.sizeOf4
  v4 := Tryz.zeroValue4
  t9 := Tryz.underlying9
  a9 := Tryz.isAgg9
  z9 := Tryz.sizeOf9
  v9 := Tryz.zeroValue9
  t20 := Tryz.underlying20
  a20 := Tryz.isAgg20
  z20 := Tryz.sizeOf20
  v20 := Tryz.zeroValue20
  t37 := Tryz.underlying122
  a37 := Tryz.isAgg122
  z37 := Tryz.sizeOf122
  v37 := Tryz.zeroValue122
  t70 := Tryz.underlying121
  a70 := Tryz.isAgg121
  z70 := Tryz.sizeOf121
  v70 := Tryz.zeroValue121
  t72 := Tryz.underlying124
  a72 := Tryz.isAgg124
  z72 := Tryz.sizeOf124
  v72 := Tryz.zeroValue124
  t164 := Tryz.underlying171
  a164 := Tryz.isAgg171
  z164 := Tryz.sizeOf171
  v164 := Tryz.zeroValue171 }
theorem Tryz.Builder_Extra_165 : Builder.Extra Tryz.prog Tryz.lays165_ren := {
  sizeBuilder := by kernel_rfl
  liesBuilder := by kernel_rfl
  t5 := Tryz.underlying5
  a5 := Tryz.isAgg5
  z5 := Tryz.sizeOf5
  v5 := Tryz.zeroValue5
  infoByte := by kernel_rfl
  cellsByte := by kernel_rfl
  sizeByte := by kernel_rfl
  neB5 := by decide }
open Go.RowKit in
theorem Tryz.Builder_Grow_fresh (B b n : Nat) (w : World) (hB : B ≤ b) (hbk : w.heap[b]? = some (.cells #[.pointer none, .slice none 0 0] 124 (0, 0))) (hBw : B ≤ w.heap.size) (hn : n ≤ 281474976710656) :
    Calls Tryz.prog 99 #[.pointer (some ⟨b, 0, none⟩), .int .i64 n] w fun e w' => e = .returned (.tuple #[]) ∧ (Lib.BuilderAt 124 5 B b (.pointer (some ⟨b, 0, none⟩)) [] w' ∧ Below B w w') := Any.Builder_Grow_fresh Tryz.lays165 Tryz.Builder_Extra_165 B b n w hB hbk hBw hn
def Tryz.lays156_ren : Go.Shelf.Ren := ⟨fun | 156 => 41 | 165 => 99 | 166 => 100 | 169 => 101 | 240 => 151 | 241 => 152 | 276 => 180 | 277 => 181 | n => n, fun | 31 => 78 | 9 => 9 | 3 => 3 | 4 => 4 | 0 => 0 | 20 => 20 | 72 => 124 | 76 => 127 | 70 => 121 | 37 => 122 | 75 => 126 | 127 => 157 | 164 => 171 | 5 => 5 | 80 => 129 | n => n, fun | n => n⟩
theorem Tryz.lays156 : Go.Proofs.Lays.n156 Tryz.prog Tryz.lays156_ren := {
  mixed := by kernel_rfl
  f156 := Tryz.func41.trans (congrArg some (by kernel_rfl))
  f165 := Tryz.func99.trans (congrArg some (by kernel_rfl))
  f166 := Tryz.func100.trans (congrArg some (by kernel_rfl))
  f169 := Tryz.func101.trans (congrArg some (by kernel_rfl))
  f240 := Tryz.func151.trans (congrArg some (by kernel_rfl))
  f241 := Tryz.func152.trans (congrArg some (by kernel_rfl))
  f276 := Tryz.func180.trans (congrArg some (by kernel_rfl))
  f277 := Tryz.func181.trans (congrArg some (by kernel_rfl))
  t0 := Tryz.underlying0
  a0 := Tryz.isAgg0
  z0 := Tryz.sizeOf0
  v0 := Tryz.zeroValue0
  t3 := Tryz.underlying3
  a3 := Tryz.isAgg3
  z3 := Tryz.sizeOf3
  v3 := Tryz.zeroValue3
  t4 := Tryz.underlying4
  a4 := Tryz.isAgg4
  z4 := Tryz.sizeOf4
  v4 := Tryz.zeroValue4
  t9 := Tryz.underlying9
  a9 := Tryz.isAgg9
  z9 := Tryz.sizeOf9
  v9 := Tryz.zeroValue9
  t20 := Tryz.underlying20
  a20 := Tryz.isAgg20
  z20 := Tryz.sizeOf20
  v20 := Tryz.zeroValue20
  t31 := Tryz.underlying78
  a31 := Tryz.isAgg78
  z31 := Tryz.sizeOf78
  v31 := Tryz.zeroValue78
  t37 := Tryz.underlying122
  a37 := Tryz.isAgg122
  z37 := Tryz.sizeOf122
  v37 := Tryz.zeroValue122
  t70 := Tryz.underlying121
  a70 := Tryz.isAgg121
  z70 := Tryz.sizeOf121
  v70 := Tryz.zeroValue121
  t72 := Tryz.underlying124
  a72 := Tryz.isAgg124
  z72 := Tryz.sizeOf124
  v72 := Tryz.zeroValue124
  t75 := Tryz.underlying126
  a75 := Tryz.isAgg126
  z75 := Tryz.sizeOf126
  v75 := Tryz.zeroValue126
  t76 := Tryz.underlying127
  a76 := Tryz.isAgg127
  z76 := Tryz.sizeOf127
  v76 := Tryz.zeroValue127
  t127 := Tryz.underlying157
  a127 := Tryz.isAgg157
  z127 := Tryz.sizeOf157
  v127 := Tryz.zeroValue157
  t164 := Tryz.underlying171
  a164 := Tryz.isAgg171
  z164 := Tryz.sizeOf171
  v164 := Tryz.zeroValue171 }
theorem Tryz.Builder_Extra_156 : Builder.Extra Tryz.prog Tryz.lays156_ren := {
  sizeBuilder := by kernel_rfl
  liesBuilder := by kernel_rfl
  t5 := Tryz.underlying5
  a5 := Tryz.isAgg5
  z5 := Tryz.sizeOf5
  v5 := Tryz.zeroValue5
  infoByte := by kernel_rfl
  cellsByte := by kernel_rfl
  sizeByte := by kernel_rfl
  neB5 := by decide }
open Go.RowKit in
theorem Tryz.strings_Join_none (a : Option Addr) (c : Nat) (sep : ByteArray) (w : World) :
    Calls Tryz.prog 41 #[.slice a 0 c, .string sep] w fun e w' => e = .returned (.string ⟨#[]⟩) ∧ w' = w := Any.strings_Join_none Tryz.lays156 Tryz.Builder_Extra_156 a c sep w
open Go.RowKit in
theorem Tryz.strings_Join (bk o c : Nat) (xs : List ByteArray) (sep : ByteArray) (w : World) (hcells : ∀ (j : Nat) x, xs[j]? = some x → w.cell? ⟨bk, o + j, none⟩ = some (.string x)) (hbk : bk < w.heap.size) (hN : xs.length ≤ 140737488355328) (hcap : xs.length ≤ c) (hlen : (Lib.join (xs.map (·.data.toList)) sep.data.toList).length ≤ 140737488355328) :
    Calls Tryz.prog 41 #[.slice (some ⟨bk, o, none⟩) xs.length c, .string sep] w fun e w' => e = .returned (.string ⟨(Lib.join (xs.map (·.data.toList)) sep.data.toList).toArray⟩) ∧ Below w.heap.size w w' := Any.strings_Join Tryz.lays156 Tryz.Builder_Extra_156 bk o c xs sep w hcells hbk hN hcap hlen
def Tryz.lays137_ren : Go.Shelf.Ren := ⟨fun | 137 => 143 | 217 => 174 | 266 => 188 | n => n, fun | 9 => 9 | 5 => 5 | 3 => 3 | n => n, fun | n => n⟩
theorem Tryz.lays137 : Go.Proofs.Lays.n137 Tryz.prog Tryz.lays137_ren := {
  mixed := by kernel_rfl
  f137 := Tryz.func143.trans (congrArg some (by kernel_rfl))
  f217 := Tryz.func174.trans (congrArg some (by kernel_rfl))
  f266 := Tryz.func188.trans (congrArg some (by kernel_rfl))
  t3 := Tryz.underlying3
  a3 := Tryz.isAgg3
  z3 := Tryz.sizeOf3
  v3 := Tryz.zeroValue3
  t5 := Tryz.underlying5
  a5 := Tryz.isAgg5
  z5 := Tryz.sizeOf5
  v5 := Tryz.zeroValue5
  t9 := Tryz.underlying9
  a9 := Tryz.isAgg9
  z9 := Tryz.sizeOf9
  v9 := Tryz.zeroValue9 }
open Go.RowKit in
theorem Tryz.strings_IndexByte (s : ByteArray) (c : Int) (w : World) :
    Calls Tryz.prog 143 #[.string s, .int .u8 c] w fun e w' => e = .returned (.int .i64 (Lib.indexByte s.data.toList c.toNat.toUInt8)) ∧ w' = w := Any.strings_IndexByte Tryz.lays137 s c w
open Go.RowKit in
theorem Tryz.Builder_Len_f (B b : Nat) (bs : List Value) (w : World) (h : Lib.IsBuilderF 124 5 B b bs w) :
    Calls Tryz.prog 145 #[.pointer (some ⟨b, 0, none⟩)] w fun e w' => e = .returned (.int .i64 bs.length) ∧ w' = w := Any.Builder_Len_f Tryz.lays170 B b bs w h
open Go.RowKit in
theorem Tryz.Builder_String_f (B b : Nat) (l : List UInt8) (w : World) (h : Lib.IsBuilderF 124 5 B b (Lib.byteCells l) w) (h0 : l ≠ []) :
    Calls Tryz.prog 101 #[.pointer (some ⟨b, 0, none⟩)] w fun e w' => e = .returned (.string ⟨l.toArray⟩) ∧ (Lib.IsBuilderF 124 5 B b (Lib.byteCells l) w' ∧ Below B w w') := Any.Builder_String_f Tryz.lays169 Tryz.Builder_Extra_169 B b l w h h0
open Go.RowKit in
theorem Tryz.Builder_String_empty_f (B b : Nat) (w : World) (h : Lib.IsBuilderF 124 5 B b [] w) (hBw : B ≤ w.heap.size) :
    Calls Tryz.prog 101 #[.pointer (some ⟨b, 0, none⟩)] w fun e w' => e = .returned (.string ⟨#[]⟩) ∧ (Lib.IsBuilderF 124 5 B b [] w' ∧ Below B w w') := Any.Builder_String_empty_f Tryz.lays169 Tryz.Builder_Extra_169 B b w h hBw
open Go.RowKit in
theorem Tryz.Builder_String_any_f (B b : Nat) (l : List UInt8) (w : World) (h : Lib.IsBuilderF 124 5 B b (Lib.byteCells l) w) (hBw : B ≤ w.heap.size) :
    Calls Tryz.prog 101 #[.pointer (some ⟨b, 0, none⟩)] w fun e w' => e = .returned (.string ⟨l.toArray⟩) ∧ (Lib.IsBuilderF 124 5 B b (Lib.byteCells l) w' ∧ Below B w w') := Any.Builder_String_any_f Tryz.lays169 Tryz.Builder_Extra_169 B b l w h hBw
open Go.RowKit in
theorem Tryz.Builder_String_k (B b : Nat) (l : List UInt8) (w : World) (h : Lib.IsBuilderF 124 5 B b (Lib.byteCells l) w) (h0 : l ≠ []) :
    Calls Tryz.prog 101 #[.pointer (some ⟨b, 0, none⟩)] w fun e w' => e = .returned (.string ⟨l.toArray⟩) ∧ (Lib.IsBuilderF 124 5 B b (Lib.byteCells l) w' ∧ Below B w w' ∧ Lib.OthersKept 5 (some b) w w') := Any.Builder_String_k Tryz.lays169 Tryz.Builder_Extra_169 B b l w h h0
open Go.RowKit in
theorem Tryz.Builder_String_empty_k (B b : Nat) (w : World) (h : Lib.IsBuilderF 124 5 B b [] w) (hBw : B ≤ w.heap.size) :
    Calls Tryz.prog 101 #[.pointer (some ⟨b, 0, none⟩)] w fun e w' => e = .returned (.string ⟨#[]⟩) ∧ (Lib.IsBuilderF 124 5 B b [] w' ∧ Below B w w' ∧ Lib.OthersKept 5 (some b) w w') := Any.Builder_String_empty_k Tryz.lays169 Tryz.Builder_Extra_169 B b w h hBw
open Go.RowKit in
theorem Tryz.Builder_String_any_k (B b : Nat) (l : List UInt8) (w : World) (h : Lib.IsBuilderF 124 5 B b (Lib.byteCells l) w) (hBw : B ≤ w.heap.size) :
    Calls Tryz.prog 101 #[.pointer (some ⟨b, 0, none⟩)] w fun e w' => e = .returned (.string ⟨l.toArray⟩) ∧ (Lib.IsBuilderF 124 5 B b (Lib.byteCells l) w' ∧ Below B w w' ∧ Lib.OthersKept 5 (some b) w w') := Any.Builder_String_any_k Tryz.lays169 Tryz.Builder_Extra_169 B b l w h hBw
def Tryz.lays195_ren : Go.Shelf.Ren := ⟨fun | 195 => 193 | n => n, fun | 9 => 9 | 3 => 3 | 0 => 0 | 4 => 4 | n => n, fun | n => n⟩
theorem Tryz.lays195 : Go.Proofs.Lays.n195 Tryz.prog Tryz.lays195_ren := {
  mixed := by kernel_rfl
  f195 := Tryz.func193.trans (congrArg some (by kernel_rfl))
  t0 := Tryz.underlying0
  a0 := Tryz.isAgg0
  z0 := Tryz.sizeOf0
  v0 := Tryz.zeroValue0
  t3 := Tryz.underlying3
  a3 := Tryz.isAgg3
  z3 := Tryz.sizeOf3
  v3 := Tryz.zeroValue3
  t4 := Tryz.underlying4
  a4 := Tryz.isAgg4
  z4 := Tryz.sizeOf4
  v4 := Tryz.zeroValue4
  t9 := Tryz.underlying9
  a9 := Tryz.isAgg9
  z9 := Tryz.sizeOf9
  v9 := Tryz.zeroValue9 }
open Go.RowKit in
theorem Tryz.utf8_RuneCountInString (s : ByteArray) (w : World) (hs : s.size < 9223372036854775807) :
    Calls Tryz.prog 193 #[.string s] w fun e w' => e = .returned (.int .i64 (Lib.runeCount s)) ∧ ∃ pos, w' = w.iter s pos := Any.utf8_RuneCountInString Tryz.lays195 s w hs
open Go.RowKit in
theorem Tryz.Builder_grow_fresh_cap (B b n : Nat) (w : World) (hB : B ≤ b) (hbk : w.heap[b]? = some (.cells #[.pointer (some ⟨b, 0, none⟩), .slice none 0 0] 124 (0, 0))) (hBw : B ≤ w.heap.size) (hn : n ≤ 281474976710656) :
    Calls Tryz.prog 152 #[.pointer (some ⟨b, 0, none⟩), .int .i64 n] w fun e w' => e = .returned (.tuple #[]) ∧ (Lib.BuilderAt 124 5 B b (.pointer (some ⟨b, 0, none⟩)) [] w' ∧ Below B w w') ∧ ∃ p cap, w'.cell? ⟨b, 1, none⟩ = some (.slice p 0 cap) ∧ n ≤ cap := Any.Builder_grow_fresh_cap Tryz.lays241 Tryz.Builder_Extra_241 B b n w hB hbk hBw hn
open Go.RowKit in
theorem Tryz.Builder_Grow_fresh_cap (B b n : Nat) (w : World) (hB : B ≤ b) (hbk : w.heap[b]? = some (.cells #[.pointer none, .slice none 0 0] 124 (0, 0))) (hBw : B ≤ w.heap.size) (hn : n ≤ 281474976710656) :
    Calls Tryz.prog 99 #[.pointer (some ⟨b, 0, none⟩), .int .i64 n] w fun e w' => e = .returned (.tuple #[]) ∧ (Lib.BuilderAt 124 5 B b (.pointer (some ⟨b, 0, none⟩)) [] w' ∧ Below B w w') ∧ ∃ p cap, w'.cell? ⟨b, 1, none⟩ = some (.slice p 0 cap) ∧ n ≤ cap := Any.Builder_Grow_fresh_cap Tryz.lays165 Tryz.Builder_Extra_165 B b n w hB hbk hBw hn
def Tryz.lays129_ren : Go.Shelf.Ren := ⟨fun | 129 => 199 | n => n, fun | 53 => 179 | 3 => 3 | 4 => 4 | 46 => 190 | 5 => 5 | 9 => 9 | n => n, fun | n => n⟩
theorem Tryz.lays129 : Go.Proofs.Lays.n129 Tryz.prog Tryz.lays129_ren := {
  mixed := by kernel_rfl
  f129 := Tryz.func199.trans (congrArg some (by kernel_rfl))
  t3 := Tryz.underlying3
  a3 := Tryz.isAgg3
  z3 := Tryz.sizeOf3
  v3 := Tryz.zeroValue3
  t4 := Tryz.underlying4
  a4 := Tryz.isAgg4
  z4 := Tryz.sizeOf4
  v4 := Tryz.zeroValue4
  t5 := Tryz.underlying5
  a5 := Tryz.isAgg5
  z5 := Tryz.sizeOf5
  v5 := Tryz.zeroValue5
  t9 := Tryz.underlying9
  a9 := Tryz.isAgg9
  z9 := Tryz.sizeOf9
  v9 := Tryz.zeroValue9
  t46 := Tryz.underlying190
  a46 := Tryz.isAgg190
  z46 := Tryz.sizeOf190
  v46 := Tryz.zeroValue190
  t53 := Tryz.underlying179
  a53 := Tryz.isAgg179
  z53 := Tryz.sizeOf179
  v53 := Tryz.zeroValue179 }
theorem Tryz.bits_Len64 (x : Int) (w : World) (h0 : 0 ≤ x) (h1 : x ≤ 18446744073709551615) :
    Calls Tryz.prog 199 #[.int .u64 x] w fun e w' => e = .returned (.int .i64 (Lib.bitLen x.toNat)) ∧ w' = w := Any.bits_Len64 Tryz.lays129 x w h0 h1
def Tryz.lays317_ren : Go.Shelf.Ren := ⟨fun | 317 => 198 | n => n, fun | 3 => 3 | 46 => 190 | n => n, fun | n => n⟩
theorem Tryz.lays317 : Go.Proofs.Lays.n317 Tryz.prog Tryz.lays317_ren := {
  mixed := by kernel_rfl
  f317 := Tryz.func198.trans (congrArg some (by kernel_rfl))
  t3 := Tryz.underlying3
  a3 := Tryz.isAgg3
  z3 := Tryz.sizeOf3
  v3 := Tryz.zeroValue3
  t46 := Tryz.underlying190
  a46 := Tryz.isAgg190
  z46 := Tryz.sizeOf190
  v46 := Tryz.zeroValue190 }
open Go.Lib in
theorem Tryz.internal_strconv_log10Pow2 (x : Nat) (h : x ≤ 64) (w : World) :
    Calls Tryz.prog 198 #[.int .i64 x] w fun e w' => e = .returned (.int .i64 (Lib.l10 x)) ∧ w' = w := Any.internal_strconv_log10Pow2 Tryz.lays317 x h w
def Tryz.lays318_ren : Go.Shelf.Ren := ⟨fun | 318 => 200 | n => n, fun | 3 => 3 | 4 => 4 | n => n, fun | n => n⟩
theorem Tryz.lays318 : Go.Proofs.Lays.n318 Tryz.prog Tryz.lays318_ren := {
  mixed := by kernel_rfl
  f318 := Tryz.func200.trans (congrArg some (by kernel_rfl))
  t3 := Tryz.underlying3
  a3 := Tryz.isAgg3
  z3 := Tryz.sizeOf3
  v3 := Tryz.zeroValue3
  t4 := Tryz.underlying4
  a4 := Tryz.isAgg4
  z4 := Tryz.sizeOf4
  v4 := Tryz.zeroValue4 }
open Go.Lib in
theorem Tryz.internal_strconv_bool2_int (b : Bool) (w : World) :
    Calls Tryz.prog 200 #[.bool b] w fun e w' => e = .returned (.int .i64 (if b then 1 else 0)) ∧ w' = w := Any.internal_strconv_bool2_int Tryz.lays318 b w
def Tryz.lays283_ren : Go.Shelf.Ren := ⟨fun | 283 => 189 | n => n, fun | 3 => 3 | 9 => 9 | 4 => 4 | n => n, fun | n => n⟩
theorem Tryz.lays283 : Go.Proofs.Lays.n283 Tryz.prog Tryz.lays283_ren := {
  mixed := by kernel_rfl
  f283 := Tryz.func189.trans (congrArg some (by kernel_rfl))
  t3 := Tryz.underlying3
  a3 := Tryz.isAgg3
  z3 := Tryz.sizeOf3
  v3 := Tryz.zeroValue3
  t4 := Tryz.underlying4
  a4 := Tryz.isAgg4
  z4 := Tryz.sizeOf4
  v4 := Tryz.zeroValue4
  t9 := Tryz.underlying9
  a9 := Tryz.isAgg9
  z9 := Tryz.sizeOf9
  v9 := Tryz.zeroValue9 }
open Go.Lib in
theorem Tryz.internal_strconv_small (i : Nat) (h : i < 100) (w : World) :
    Calls Tryz.prog 189 #[.int .i64 i] w fun e w' => e = .returned (.string ⟨(Lib.decDigits i).toArray⟩) ∧ w' = w := Any.internal_strconv_small Tryz.lays283 i h w
def Tryz.laysM284_ren : Go.Shelf.Ren := ⟨fun | 284 => 190 | 129 => 199 | 317 => 198 | 318 => 200 | n => n, fun | 53 => 179 | 3 => 3 | 212 => 186 | 0 => 0 | 4 => 4 | 46 => 190 | 5 => 5 | 9 => 9 | n => n, fun | 17 => 1 | n => n⟩
theorem Tryz.laysM284 : Go.Proofs.LaysM.n284 Tryz.prog Tryz.laysM284_ren := {
  mixed := by kernel_rfl
  f129 := Tryz.func199.trans (congrArg some (by kernel_rfl))
  f284 := Tryz.func190.trans (congrArg some (by kernel_rfl))
  f317 := Tryz.func198.trans (congrArg some (by kernel_rfl))
  f318 := Tryz.func200.trans (congrArg some (by kernel_rfl))
  t0 := Tryz.underlying0
  a0 := Tryz.isAgg0
  z0 := Tryz.sizeOf0
  v0 := Tryz.zeroValue0
  t3 := Tryz.underlying3
  a3 := Tryz.isAgg3
  z3 := Tryz.sizeOf3
  v3 := Tryz.zeroValue3
  t4 := Tryz.underlying4
  a4 := Tryz.isAgg4
  z4 := Tryz.sizeOf4
  v4 := Tryz.zeroValue4
  t5 := Tryz.underlying5
  a5 := Tryz.isAgg5
  z5 := Tryz.sizeOf5
  v5 := Tryz.zeroValue5
  t9 := Tryz.underlying9
  a9 := Tryz.isAgg9
  z9 := Tryz.sizeOf9
  v9 := Tryz.zeroValue9
  t46 := Tryz.underlying190
  a46 := Tryz.isAgg190
  z46 := Tryz.sizeOf190
  v46 := Tryz.zeroValue190
  t53 := Tryz.underlying179
  a53 := Tryz.isAgg179
  z53 := Tryz.sizeOf179
  v53 := Tryz.zeroValue179
  t212 := Tryz.underlying186
  a212 := Tryz.isAgg186
  z212 := Tryz.sizeOf186
  v212 := Tryz.zeroValue186
  g17 := by kernel_rfl
  i0 := by kernel_rfl
  i3 := by kernel_rfl
  i4 := by kernel_rfl
  i5 := by kernel_rfl
  i9 := by kernel_rfl
  i46 := by kernel_rfl
  i53 := by kernel_rfl
  i212 := by kernel_rfl
  m17 := by kernel_rfl }
open Go.Lib in
theorem Tryz.internal_strconv_numDigits (u : Nat) (h1 : 1 ≤ u) (h2 : u < 18446744073709551616) (w : World) (htab : Lib.TabIs Tryz.prog w "internal/strconv.uint64pow10" .u64 Lib.pow10Tab) :
    Calls Tryz.prog 190 #[.int .u64 u] w fun e w' => e = .returned (.int .i64 (Lib.nDigits u)) ∧ w' = w := Any.internal_strconv_numDigits Tryz.laysM284 u h1 h2 w htab
def Tryz.lays285_ren : Go.Shelf.Ren := ⟨fun | 285 => 191 | n => n, fun | 37 => 122 | 53 => 179 | 3 => 3 | 4 => 4 | 51 => 187 | 9 => 9 | 5 => 5 | 0 => 0 | n => n, fun | n => n⟩
theorem Tryz.lays285 : Go.Proofs.Lays.n285 Tryz.prog Tryz.lays285_ren := {
  mixed := by kernel_rfl
  f285 := Tryz.func191.trans (congrArg some (by kernel_rfl))
  t0 := Tryz.underlying0
  a0 := Tryz.isAgg0
  z0 := Tryz.sizeOf0
  v0 := Tryz.zeroValue0
  t3 := Tryz.underlying3
  a3 := Tryz.isAgg3
  z3 := Tryz.sizeOf3
  v3 := Tryz.zeroValue3
  t4 := Tryz.underlying4
  a4 := Tryz.isAgg4
  z4 := Tryz.sizeOf4
  v4 := Tryz.zeroValue4
  t5 := Tryz.underlying5
  a5 := Tryz.isAgg5
  z5 := Tryz.sizeOf5
  v5 := Tryz.zeroValue5
  t9 := Tryz.underlying9
  a9 := Tryz.isAgg9
  z9 := Tryz.sizeOf9
  v9 := Tryz.zeroValue9
  t37 := Tryz.underlying122
  a37 := Tryz.isAgg122
  z37 := Tryz.sizeOf122
  v37 := Tryz.zeroValue122
  t51 := Tryz.underlying187
  a51 := Tryz.isAgg187
  z51 := Tryz.sizeOf187
  v51 := Tryz.zeroValue187
  t53 := Tryz.underlying179
  a53 := Tryz.isAgg179
  z53 := Tryz.sizeOf179
  v53 := Tryz.zeroValue179 }
open Go.RowKit Go.Sort Go.Lib in
theorem Tryz.internal_strconv_formatBase10 (blk off cap : Nat) (u : Nat) (d : Array UInt8) (w : World) (hH : Holds (fun (b : UInt8) => Value.int .u8 (b.toNat : Int)) w blk off d) (hu : u < 10 ^ d.size) (hu64 : u < 18446744073709551616) (hsz : d.size < 4611686018427387904) :
    Calls Tryz.prog 191 #[.slice (some ⟨blk, off, none⟩) d.size cap, .int .u64 u] w fun e w' =>
      e = .returned (.tuple #[]) ∧ ∃ (n v' : Nat) (dk : Array UInt8), w' = (putRow (fun (b : UInt8) => Value.int .u8 (b.toNat : Int)) w blk off dk).drewN n ∧ FmtInv d.size u 0 v' dk := Any.internal_strconv_formatBase10 Tryz.lays285 blk off cap u d w hH hu hu64 hsz
def Tryz.laysM246_ren : Go.Shelf.Ren := ⟨fun | 246 => 176 | 283 => 189 | 284 => 190 | 285 => 191 | 286 => 192 | 129 => 199 | 317 => 198 | 318 => 200 | 319 => 201 | 320 => 202 | 337 => 207 | 338 => 208 | n => n, fun | 2 => 2 | 3 => 3 | 9 => 9 | 4 => 4 | 171 => 178 | 0 => 0 | 53 => 179 | 37 => 122 | 5 => 5 | 173 => 182 | 212 => 186 | 51 => 187 | 20 => 20 | 213 => 188 | 46 => 190 | 232 => 199 | 233 => 200 | n => n, fun | 17 => 1 | 18 => 4 | 19 => 5 | n => n⟩
theorem Tryz.laysM246 : Go.Proofs.LaysM.n246 Tryz.prog Tryz.laysM246_ren := {
  mixed := by kernel_rfl
  f129 := Tryz.func199.trans (congrArg some (by kernel_rfl))
  f246 := Tryz.func176.trans (congrArg some (by kernel_rfl))
  f283 := Tryz.func189.trans (congrArg some (by kernel_rfl))
  f284 := Tryz.func190.trans (congrArg some (by kernel_rfl))
  f285 := Tryz.func191.trans (congrArg some (by kernel_rfl))
  f286 := Tryz.func192.trans (congrArg some (by kernel_rfl))
  f317 := Tryz.func198.trans (congrArg some (by kernel_rfl))
  f318 := Tryz.func200.trans (congrArg some (by kernel_rfl))
  f319 := Tryz.func201.trans (congrArg some (by kernel_rfl))
  f320 := Tryz.func202.trans (congrArg some (by kernel_rfl))
  f337 := Tryz.func207.trans (congrArg some (by kernel_rfl))
  f338 := Tryz.func208.trans (congrArg some (by kernel_rfl))
  t0 := Tryz.underlying0
  a0 := Tryz.isAgg0
  z0 := Tryz.sizeOf0
  v0 := Tryz.zeroValue0
  t2 := Tryz.underlying2
  a2 := Tryz.isAgg2
  z2 := Tryz.sizeOf2
  v2 := Tryz.zeroValue2
  t3 := Tryz.underlying3
  a3 := Tryz.isAgg3
  z3 := Tryz.sizeOf3
  v3 := Tryz.zeroValue3
  t4 := Tryz.underlying4
  a4 := Tryz.isAgg4
  z4 := Tryz.sizeOf4
  v4 := Tryz.zeroValue4
  t5 := Tryz.underlying5
  a5 := Tryz.isAgg5
  z5 := Tryz.sizeOf5
  v5 := Tryz.zeroValue5
  t9 := Tryz.underlying9
  a9 := Tryz.isAgg9
  z9 := Tryz.sizeOf9
  v9 := Tryz.zeroValue9
  t20 := Tryz.underlying20
  a20 := Tryz.isAgg20
  z20 := Tryz.sizeOf20
  v20 := Tryz.zeroValue20
  t37 := Tryz.underlying122
  a37 := Tryz.isAgg122
  z37 := Tryz.sizeOf122
  v37 := Tryz.zeroValue122
  t46 := Tryz.underlying190
  a46 := Tryz.isAgg190
  z46 := Tryz.sizeOf190
  v46 := Tryz.zeroValue190
  t51 := Tryz.underlying187
  a51 := Tryz.isAgg187
  z51 := Tryz.sizeOf187
  v51 := Tryz.zeroValue187
  t53 := Tryz.underlying179
  a53 := Tryz.isAgg179
  z53 := Tryz.sizeOf179
  v53 := Tryz.zeroValue179
  t171 := Tryz.underlying178
  a171 := Tryz.isAgg178
  z171 := Tryz.sizeOf178
  v171 := Tryz.zeroValue178
  t173 := Tryz.underlying182
  a173 := Tryz.isAgg182
  z173 := Tryz.sizeOf182
  v173 := Tryz.zeroValue182
  t212 := Tryz.underlying186
  a212 := Tryz.isAgg186
  z212 := Tryz.sizeOf186
  v212 := Tryz.zeroValue186
  t213 := Tryz.underlying188
  a213 := Tryz.isAgg188
  z213 := Tryz.sizeOf188
  t232 := Tryz.underlying199
  a232 := Tryz.isAgg199
  z232 := Tryz.sizeOf199
  v232 := Tryz.zeroValue199
  t233 := Tryz.underlying200
  a233 := Tryz.isAgg200
  z233 := Tryz.sizeOf200
  v233 := Tryz.zeroValue200
  g17 := by kernel_rfl
  g18 := by kernel_rfl
  g19 := by kernel_rfl
  i0 := by kernel_rfl
  i2 := by kernel_rfl
  i3 := by kernel_rfl
  i4 := by kernel_rfl
  i5 := by kernel_rfl
  i9 := by kernel_rfl
  i20 := by kernel_rfl
  i37 := by kernel_rfl
  i46 := by kernel_rfl
  i51 := by kernel_rfl
  i53 := by kernel_rfl
  i171 := by kernel_rfl
  i173 := by kernel_rfl
  i212 := by kernel_rfl
  i232 := by kernel_rfl
  i233 := by kernel_rfl
  m17 := by kernel_rfl
  m18 := by kernel_rfl
  m19 := by kernel_rfl }
open Go.RowKit Go.Sort Go.Lib in
theorem Tryz.internal_strconv_FormatInt_10 (n : Int) (h0 : -9223372036854775808 ≤ n) (h1 : n ≤ 9223372036854775807) (w : World) (htab : Lib.TabIs Tryz.prog w "internal/strconv.uint64pow10" .u64 Lib.pow10Tab) :
    Calls Tryz.prog 176 #[.int .i64 n, .int .i64 10] w fun e w' => e = .returned (.string ⟨(Lib.itoa n).toArray⟩) ∧ ∃ k os, w' = grow (w.drewN k) os := Any.internal_strconv_FormatInt_10 Tryz.laysM246 n h0 h1 w htab
def Tryz.lays246_ren : Go.Shelf.Ren := ⟨fun | 246 => 176 | 283 => 189 | 284 => 190 | 285 => 191 | 286 => 192 | 129 => 199 | 317 => 198 | 318 => 200 | 319 => 201 | 320 => 202 | 337 => 207 | 338 => 208 | n => n, fun | 2 => 2 | 3 => 3 | 9 => 9 | 4 => 4 | 171 => 178 | 0 => 0 | 53 => 179 | 37 => 122 | 5 => 5 | 173 => 182 | 212 => 186 | 51 => 187 | 20 => 20 | 213 => 188 | 46 => 190 | 232 => 199 | 233 => 200 | n => n, fun | 17 => 1 | 18 => 4 | 19 => 5 | n => n⟩
theorem Tryz.lays246 : Go.Proofs.Lays.n246 Tryz.prog Tryz.lays246_ren := {
  mixed := by kernel_rfl
  f129 := Tryz.func199.trans (congrArg some (by kernel_rfl))
  f246 := Tryz.func176.trans (congrArg some (by kernel_rfl))
  f283 := Tryz.func189.trans (congrArg some (by kernel_rfl))
  f284 := Tryz.func190.trans (congrArg some (by kernel_rfl))
  f285 := Tryz.func191.trans (congrArg some (by kernel_rfl))
  f286 := Tryz.func192.trans (congrArg some (by kernel_rfl))
  f317 := Tryz.func198.trans (congrArg some (by kernel_rfl))
  f318 := Tryz.func200.trans (congrArg some (by kernel_rfl))
  f319 := Tryz.func201.trans (congrArg some (by kernel_rfl))
  f320 := Tryz.func202.trans (congrArg some (by kernel_rfl))
  f337 := Tryz.func207.trans (congrArg some (by kernel_rfl))
  f338 := Tryz.func208.trans (congrArg some (by kernel_rfl))
  t0 := Tryz.underlying0
  a0 := Tryz.isAgg0
  z0 := Tryz.sizeOf0
  v0 := Tryz.zeroValue0
  t2 := Tryz.underlying2
  a2 := Tryz.isAgg2
  z2 := Tryz.sizeOf2
  v2 := Tryz.zeroValue2
  t3 := Tryz.underlying3
  a3 := Tryz.isAgg3
  z3 := Tryz.sizeOf3
  v3 := Tryz.zeroValue3
  t4 := Tryz.underlying4
  a4 := Tryz.isAgg4
  z4 := Tryz.sizeOf4
  v4 := Tryz.zeroValue4
  t5 := Tryz.underlying5
  a5 := Tryz.isAgg5
  z5 := Tryz.sizeOf5
  v5 := Tryz.zeroValue5
  t9 := Tryz.underlying9
  a9 := Tryz.isAgg9
  z9 := Tryz.sizeOf9
  v9 := Tryz.zeroValue9
  t20 := Tryz.underlying20
  a20 := Tryz.isAgg20
  z20 := Tryz.sizeOf20
  v20 := Tryz.zeroValue20
  t37 := Tryz.underlying122
  a37 := Tryz.isAgg122
  z37 := Tryz.sizeOf122
  v37 := Tryz.zeroValue122
  t46 := Tryz.underlying190
  a46 := Tryz.isAgg190
  z46 := Tryz.sizeOf190
  v46 := Tryz.zeroValue190
  t51 := Tryz.underlying187
  a51 := Tryz.isAgg187
  z51 := Tryz.sizeOf187
  v51 := Tryz.zeroValue187
  t53 := Tryz.underlying179
  a53 := Tryz.isAgg179
  z53 := Tryz.sizeOf179
  v53 := Tryz.zeroValue179
  t171 := Tryz.underlying178
  a171 := Tryz.isAgg178
  z171 := Tryz.sizeOf178
  v171 := Tryz.zeroValue178
  t173 := Tryz.underlying182
  a173 := Tryz.isAgg182
  z173 := Tryz.sizeOf182
  v173 := Tryz.zeroValue182
  t212 := Tryz.underlying186
  a212 := Tryz.isAgg186
  z212 := Tryz.sizeOf186
  v212 := Tryz.zeroValue186
  t213 := Tryz.underlying188
  a213 := Tryz.isAgg188
  z213 := Tryz.sizeOf188
  t232 := Tryz.underlying199
  a232 := Tryz.isAgg199
  z232 := Tryz.sizeOf199
  v232 := Tryz.zeroValue199
  t233 := Tryz.underlying200
  a233 := Tryz.isAgg200
  z233 := Tryz.sizeOf200
  v233 := Tryz.zeroValue200
  g17 := by kernel_rfl
  g18 := by kernel_rfl
  g19 := by kernel_rfl }
open Go.RowKit Go.Sort Go.Lib in
theorem Tryz.internal_strconv_FormatInt_10_small (i : Nat) (hi : i < 100) (w : World) :
    Calls Tryz.prog 176 #[.int .i64 i, .int .i64 10] w fun e w' => e = .returned (.string ⟨(Lib.decDigits i).toArray⟩) ∧ w' = w := Any.internal_strconv_FormatInt_10_small Tryz.lays246 i hi w
def Tryz.laysM243_ren : Go.Shelf.Ren := ⟨fun | 243 => 149 | 246 => 176 | 283 => 189 | 284 => 190 | 285 => 191 | 286 => 192 | 129 => 199 | 317 => 198 | 318 => 200 | 319 => 201 | 320 => 202 | 337 => 207 | 338 => 208 | n => n, fun | 3 => 3 | 9 => 9 | 2 => 2 | 4 => 4 | 171 => 178 | 0 => 0 | 53 => 179 | 37 => 122 | 5 => 5 | 173 => 182 | 212 => 186 | 51 => 187 | 20 => 20 | 213 => 188 | 46 => 190 | 232 => 199 | 233 => 200 | n => n, fun | 17 => 1 | 18 => 4 | 19 => 5 | n => n⟩
theorem Tryz.laysM243 : Go.Proofs.LaysM.n243 Tryz.prog Tryz.laysM243_ren := {
  mixed := by kernel_rfl
  f129 := Tryz.func199.trans (congrArg some (by kernel_rfl))
  f243 := Tryz.func149.trans (congrArg some (by kernel_rfl))
  f246 := Tryz.func176.trans (congrArg some (by kernel_rfl))
  f283 := Tryz.func189.trans (congrArg some (by kernel_rfl))
  f284 := Tryz.func190.trans (congrArg some (by kernel_rfl))
  f285 := Tryz.func191.trans (congrArg some (by kernel_rfl))
  f286 := Tryz.func192.trans (congrArg some (by kernel_rfl))
  f317 := Tryz.func198.trans (congrArg some (by kernel_rfl))
  f318 := Tryz.func200.trans (congrArg some (by kernel_rfl))
  f319 := Tryz.func201.trans (congrArg some (by kernel_rfl))
  f320 := Tryz.func202.trans (congrArg some (by kernel_rfl))
  f337 := Tryz.func207.trans (congrArg some (by kernel_rfl))
  f338 := Tryz.func208.trans (congrArg some (by kernel_rfl))
  t0 := Tryz.underlying0
  a0 := Tryz.isAgg0
  z0 := Tryz.sizeOf0
  v0 := Tryz.zeroValue0
  t2 := Tryz.underlying2
  a2 := Tryz.isAgg2
  z2 := Tryz.sizeOf2
  v2 := Tryz.zeroValue2
  t3 := Tryz.underlying3
  a3 := Tryz.isAgg3
  z3 := Tryz.sizeOf3
  v3 := Tryz.zeroValue3
  t4 := Tryz.underlying4
  a4 := Tryz.isAgg4
  z4 := Tryz.sizeOf4
  v4 := Tryz.zeroValue4
  t5 := Tryz.underlying5
  a5 := Tryz.isAgg5
  z5 := Tryz.sizeOf5
  v5 := Tryz.zeroValue5
  t9 := Tryz.underlying9
  a9 := Tryz.isAgg9
  z9 := Tryz.sizeOf9
  v9 := Tryz.zeroValue9
  t20 := Tryz.underlying20
  a20 := Tryz.isAgg20
  z20 := Tryz.sizeOf20
  v20 := Tryz.zeroValue20
  t37 := Tryz.underlying122
  a37 := Tryz.isAgg122
  z37 := Tryz.sizeOf122
  v37 := Tryz.zeroValue122
  t46 := Tryz.underlying190
  a46 := Tryz.isAgg190
  z46 := Tryz.sizeOf190
  v46 := Tryz.zeroValue190
  t51 := Tryz.underlying187
  a51 := Tryz.isAgg187
  z51 := Tryz.sizeOf187
  v51 := Tryz.zeroValue187
  t53 := Tryz.underlying179
  a53 := Tryz.isAgg179
  z53 := Tryz.sizeOf179
  v53 := Tryz.zeroValue179
  t171 := Tryz.underlying178
  a171 := Tryz.isAgg178
  z171 := Tryz.sizeOf178
  v171 := Tryz.zeroValue178
  t173 := Tryz.underlying182
  a173 := Tryz.isAgg182
  z173 := Tryz.sizeOf182
  v173 := Tryz.zeroValue182
  t212 := Tryz.underlying186
  a212 := Tryz.isAgg186
  z212 := Tryz.sizeOf186
  v212 := Tryz.zeroValue186
  t213 := Tryz.underlying188
  a213 := Tryz.isAgg188
  z213 := Tryz.sizeOf188
  t232 := Tryz.underlying199
  a232 := Tryz.isAgg199
  z232 := Tryz.sizeOf199
  v232 := Tryz.zeroValue199
  t233 := Tryz.underlying200
  a233 := Tryz.isAgg200
  z233 := Tryz.sizeOf200
  v233 := Tryz.zeroValue200
  g17 := by kernel_rfl
  g18 := by kernel_rfl
  g19 := by kernel_rfl
  i0 := by kernel_rfl
  i2 := by kernel_rfl
  i3 := by kernel_rfl
  i4 := by kernel_rfl
  i5 := by kernel_rfl
  i9 := by kernel_rfl
  i20 := by kernel_rfl
  i37 := by kernel_rfl
  i46 := by kernel_rfl
  i51 := by kernel_rfl
  i53 := by kernel_rfl
  i171 := by kernel_rfl
  i173 := by kernel_rfl
  i212 := by kernel_rfl
  i232 := by kernel_rfl
  i233 := by kernel_rfl
  m17 := by kernel_rfl
  m18 := by kernel_rfl
  m19 := by kernel_rfl }
open Go.RowKit Go.Sort Go.Lib in
theorem Tryz.internal_strconv_Itoa (n : Int) (h0 : -9223372036854775808 ≤ n) (h1 : n ≤ 9223372036854775807) (w : World) (htab : Lib.TabIs Tryz.prog w "internal/strconv.uint64pow10" .u64 Lib.pow10Tab) :
    Calls Tryz.prog 149 #[.int .i64 n] w fun e w' => e = .returned (.string ⟨(Lib.itoa n).toArray⟩) ∧ ∃ k os, w' = grow (w.drewN k) os := Any.internal_strconv_Itoa Tryz.laysM243 n h0 h1 w htab
def Tryz.lays243_ren : Go.Shelf.Ren := ⟨fun | 243 => 149 | 246 => 176 | 283 => 189 | 284 => 190 | 285 => 191 | 286 => 192 | 129 => 199 | 317 => 198 | 318 => 200 | 319 => 201 | 320 => 202 | 337 => 207 | 338 => 208 | n => n, fun | 3 => 3 | 9 => 9 | 2 => 2 | 4 => 4 | 171 => 178 | 0 => 0 | 53 => 179 | 37 => 122 | 5 => 5 | 173 => 182 | 212 => 186 | 51 => 187 | 20 => 20 | 213 => 188 | 46 => 190 | 232 => 199 | 233 => 200 | n => n, fun | 17 => 1 | 18 => 4 | 19 => 5 | n => n⟩
theorem Tryz.lays243 : Go.Proofs.Lays.n243 Tryz.prog Tryz.lays243_ren := {
  mixed := by kernel_rfl
  f129 := Tryz.func199.trans (congrArg some (by kernel_rfl))
  f243 := Tryz.func149.trans (congrArg some (by kernel_rfl))
  f246 := Tryz.func176.trans (congrArg some (by kernel_rfl))
  f283 := Tryz.func189.trans (congrArg some (by kernel_rfl))
  f284 := Tryz.func190.trans (congrArg some (by kernel_rfl))
  f285 := Tryz.func191.trans (congrArg some (by kernel_rfl))
  f286 := Tryz.func192.trans (congrArg some (by kernel_rfl))
  f317 := Tryz.func198.trans (congrArg some (by kernel_rfl))
  f318 := Tryz.func200.trans (congrArg some (by kernel_rfl))
  f319 := Tryz.func201.trans (congrArg some (by kernel_rfl))
  f320 := Tryz.func202.trans (congrArg some (by kernel_rfl))
  f337 := Tryz.func207.trans (congrArg some (by kernel_rfl))
  f338 := Tryz.func208.trans (congrArg some (by kernel_rfl))
  t0 := Tryz.underlying0
  a0 := Tryz.isAgg0
  z0 := Tryz.sizeOf0
  v0 := Tryz.zeroValue0
  t2 := Tryz.underlying2
  a2 := Tryz.isAgg2
  z2 := Tryz.sizeOf2
  v2 := Tryz.zeroValue2
  t3 := Tryz.underlying3
  a3 := Tryz.isAgg3
  z3 := Tryz.sizeOf3
  v3 := Tryz.zeroValue3
  t4 := Tryz.underlying4
  a4 := Tryz.isAgg4
  z4 := Tryz.sizeOf4
  v4 := Tryz.zeroValue4
  t5 := Tryz.underlying5
  a5 := Tryz.isAgg5
  z5 := Tryz.sizeOf5
  v5 := Tryz.zeroValue5
  t9 := Tryz.underlying9
  a9 := Tryz.isAgg9
  z9 := Tryz.sizeOf9
  v9 := Tryz.zeroValue9
  t20 := Tryz.underlying20
  a20 := Tryz.isAgg20
  z20 := Tryz.sizeOf20
  v20 := Tryz.zeroValue20
  t37 := Tryz.underlying122
  a37 := Tryz.isAgg122
  z37 := Tryz.sizeOf122
  v37 := Tryz.zeroValue122
  t46 := Tryz.underlying190
  a46 := Tryz.isAgg190
  z46 := Tryz.sizeOf190
  v46 := Tryz.zeroValue190
  t51 := Tryz.underlying187
  a51 := Tryz.isAgg187
  z51 := Tryz.sizeOf187
  v51 := Tryz.zeroValue187
  t53 := Tryz.underlying179
  a53 := Tryz.isAgg179
  z53 := Tryz.sizeOf179
  v53 := Tryz.zeroValue179
  t171 := Tryz.underlying178
  a171 := Tryz.isAgg178
  z171 := Tryz.sizeOf178
  v171 := Tryz.zeroValue178
  t173 := Tryz.underlying182
  a173 := Tryz.isAgg182
  z173 := Tryz.sizeOf182
  v173 := Tryz.zeroValue182
  t212 := Tryz.underlying186
  a212 := Tryz.isAgg186
  z212 := Tryz.sizeOf186
  v212 := Tryz.zeroValue186
  t213 := Tryz.underlying188
  a213 := Tryz.isAgg188
  z213 := Tryz.sizeOf188
  t232 := Tryz.underlying199
  a232 := Tryz.isAgg199
  z232 := Tryz.sizeOf199
  v232 := Tryz.zeroValue199
  t233 := Tryz.underlying200
  a233 := Tryz.isAgg200
  z233 := Tryz.sizeOf200
  v233 := Tryz.zeroValue200
  g17 := by kernel_rfl
  g18 := by kernel_rfl
  g19 := by kernel_rfl }
open Go.RowKit Go.Sort Go.Lib in
theorem Tryz.internal_strconv_Itoa_small (i : Nat) (hi : i < 100) (w : World) :
    Calls Tryz.prog 149 #[.int .i64 i] w fun e w' => e = .returned (.string ⟨(Lib.decDigits i).toArray⟩) ∧ w' = w := Any.internal_strconv_Itoa_small Tryz.lays243 i hi w
def Tryz.laysM171_ren : Go.Shelf.Ren := ⟨fun | 171 => 97 | 243 => 149 | 246 => 176 | 283 => 189 | 284 => 190 | 285 => 191 | 286 => 192 | 129 => 199 | 317 => 198 | 318 => 200 | 319 => 201 | 320 => 202 | 337 => 207 | 338 => 208 | n => n, fun | 3 => 3 | 9 => 9 | 2 => 2 | 4 => 4 | 171 => 178 | 0 => 0 | 53 => 179 | 37 => 122 | 5 => 5 | 173 => 182 | 212 => 186 | 51 => 187 | 20 => 20 | 213 => 188 | 46 => 190 | 232 => 199 | 233 => 200 | n => n, fun | 17 => 1 | 18 => 4 | 19 => 5 | n => n⟩
theorem Tryz.laysM171 : Go.Proofs.LaysM.n171 Tryz.prog Tryz.laysM171_ren := {
  mixed := by kernel_rfl
  f129 := Tryz.func199.trans (congrArg some (by kernel_rfl))
  f171 := Tryz.func97.trans (congrArg some (by kernel_rfl))
  f243 := Tryz.func149.trans (congrArg some (by kernel_rfl))
  f246 := Tryz.func176.trans (congrArg some (by kernel_rfl))
  f283 := Tryz.func189.trans (congrArg some (by kernel_rfl))
  f284 := Tryz.func190.trans (congrArg some (by kernel_rfl))
  f285 := Tryz.func191.trans (congrArg some (by kernel_rfl))
  f286 := Tryz.func192.trans (congrArg some (by kernel_rfl))
  f317 := Tryz.func198.trans (congrArg some (by kernel_rfl))
  f318 := Tryz.func200.trans (congrArg some (by kernel_rfl))
  f319 := Tryz.func201.trans (congrArg some (by kernel_rfl))
  f320 := Tryz.func202.trans (congrArg some (by kernel_rfl))
  f337 := Tryz.func207.trans (congrArg some (by kernel_rfl))
  f338 := Tryz.func208.trans (congrArg some (by kernel_rfl))
  t0 := Tryz.underlying0
  a0 := Tryz.isAgg0
  z0 := Tryz.sizeOf0
  v0 := Tryz.zeroValue0
  t2 := Tryz.underlying2
  a2 := Tryz.isAgg2
  z2 := Tryz.sizeOf2
  v2 := Tryz.zeroValue2
  t3 := Tryz.underlying3
  a3 := Tryz.isAgg3
  z3 := Tryz.sizeOf3
  v3 := Tryz.zeroValue3
  t4 := Tryz.underlying4
  a4 := Tryz.isAgg4
  z4 := Tryz.sizeOf4
  v4 := Tryz.zeroValue4
  t5 := Tryz.underlying5
  a5 := Tryz.isAgg5
  z5 := Tryz.sizeOf5
  v5 := Tryz.zeroValue5
  t9 := Tryz.underlying9
  a9 := Tryz.isAgg9
  z9 := Tryz.sizeOf9
  v9 := Tryz.zeroValue9
  t20 := Tryz.underlying20
  a20 := Tryz.isAgg20
  z20 := Tryz.sizeOf20
  v20 := Tryz.zeroValue20
  t37 := Tryz.underlying122
  a37 := Tryz.isAgg122
  z37 := Tryz.sizeOf122
  v37 := Tryz.zeroValue122
  t46 := Tryz.underlying190
  a46 := Tryz.isAgg190
  z46 := Tryz.sizeOf190
  v46 := Tryz.zeroValue190
  t51 := Tryz.underlying187
  a51 := Tryz.isAgg187
  z51 := Tryz.sizeOf187
  v51 := Tryz.zeroValue187
  t53 := Tryz.underlying179
  a53 := Tryz.isAgg179
  z53 := Tryz.sizeOf179
  v53 := Tryz.zeroValue179
  t171 := Tryz.underlying178
  a171 := Tryz.isAgg178
  z171 := Tryz.sizeOf178
  v171 := Tryz.zeroValue178
  t173 := Tryz.underlying182
  a173 := Tryz.isAgg182
  z173 := Tryz.sizeOf182
  v173 := Tryz.zeroValue182
  t212 := Tryz.underlying186
  a212 := Tryz.isAgg186
  z212 := Tryz.sizeOf186
  v212 := Tryz.zeroValue186
  t213 := Tryz.underlying188
  a213 := Tryz.isAgg188
  z213 := Tryz.sizeOf188
  t232 := Tryz.underlying199
  a232 := Tryz.isAgg199
  z232 := Tryz.sizeOf199
  v232 := Tryz.zeroValue199
  t233 := Tryz.underlying200
  a233 := Tryz.isAgg200
  z233 := Tryz.sizeOf200
  v233 := Tryz.zeroValue200
  g17 := by kernel_rfl
  g18 := by kernel_rfl
  g19 := by kernel_rfl
  i0 := by kernel_rfl
  i2 := by kernel_rfl
  i3 := by kernel_rfl
  i4 := by kernel_rfl
  i5 := by kernel_rfl
  i9 := by kernel_rfl
  i20 := by kernel_rfl
  i37 := by kernel_rfl
  i46 := by kernel_rfl
  i51 := by kernel_rfl
  i53 := by kernel_rfl
  i171 := by kernel_rfl
  i173 := by kernel_rfl
  i212 := by kernel_rfl
  i232 := by kernel_rfl
  i233 := by kernel_rfl
  m17 := by kernel_rfl
  m18 := by kernel_rfl
  m19 := by kernel_rfl }
open Go.RowKit Go.Sort Go.Lib in
theorem Tryz.strconv_Itoa (n : Int) (h0 : -9223372036854775808 ≤ n) (h1 : n ≤ 9223372036854775807) (w : World) (htab : Lib.TabIs Tryz.prog w "internal/strconv.uint64pow10" .u64 Lib.pow10Tab) :
    Calls Tryz.prog 97 #[.int .i64 n] w fun e w' => e = .returned (.string ⟨(Lib.itoa n).toArray⟩) ∧ ∃ k os, w' = grow (w.drewN k) os := Any.strconv_Itoa Tryz.laysM171 n h0 h1 w htab
def Tryz.lays171_ren : Go.Shelf.Ren := ⟨fun | 171 => 97 | 243 => 149 | 246 => 176 | 283 => 189 | 284 => 190 | 285 => 191 | 286 => 192 | 129 => 199 | 317 => 198 | 318 => 200 | 319 => 201 | 320 => 202 | 337 => 207 | 338 => 208 | n => n, fun | 3 => 3 | 9 => 9 | 2 => 2 | 4 => 4 | 171 => 178 | 0 => 0 | 53 => 179 | 37 => 122 | 5 => 5 | 173 => 182 | 212 => 186 | 51 => 187 | 20 => 20 | 213 => 188 | 46 => 190 | 232 => 199 | 233 => 200 | n => n, fun | 17 => 1 | 18 => 4 | 19 => 5 | n => n⟩
theorem Tryz.lays171 : Go.Proofs.Lays.n171 Tryz.prog Tryz.lays171_ren := {
  mixed := by kernel_rfl
  f129 := Tryz.func199.trans (congrArg some (by kernel_rfl))
  f171 := Tryz.func97.trans (congrArg some (by kernel_rfl))
  f243 := Tryz.func149.trans (congrArg some (by kernel_rfl))
  f246 := Tryz.func176.trans (congrArg some (by kernel_rfl))
  f283 := Tryz.func189.trans (congrArg some (by kernel_rfl))
  f284 := Tryz.func190.trans (congrArg some (by kernel_rfl))
  f285 := Tryz.func191.trans (congrArg some (by kernel_rfl))
  f286 := Tryz.func192.trans (congrArg some (by kernel_rfl))
  f317 := Tryz.func198.trans (congrArg some (by kernel_rfl))
  f318 := Tryz.func200.trans (congrArg some (by kernel_rfl))
  f319 := Tryz.func201.trans (congrArg some (by kernel_rfl))
  f320 := Tryz.func202.trans (congrArg some (by kernel_rfl))
  f337 := Tryz.func207.trans (congrArg some (by kernel_rfl))
  f338 := Tryz.func208.trans (congrArg some (by kernel_rfl))
  t0 := Tryz.underlying0
  a0 := Tryz.isAgg0
  z0 := Tryz.sizeOf0
  v0 := Tryz.zeroValue0
  t2 := Tryz.underlying2
  a2 := Tryz.isAgg2
  z2 := Tryz.sizeOf2
  v2 := Tryz.zeroValue2
  t3 := Tryz.underlying3
  a3 := Tryz.isAgg3
  z3 := Tryz.sizeOf3
  v3 := Tryz.zeroValue3
  t4 := Tryz.underlying4
  a4 := Tryz.isAgg4
  z4 := Tryz.sizeOf4
  v4 := Tryz.zeroValue4
  t5 := Tryz.underlying5
  a5 := Tryz.isAgg5
  z5 := Tryz.sizeOf5
  v5 := Tryz.zeroValue5
  t9 := Tryz.underlying9
  a9 := Tryz.isAgg9
  z9 := Tryz.sizeOf9
  v9 := Tryz.zeroValue9
  t20 := Tryz.underlying20
  a20 := Tryz.isAgg20
  z20 := Tryz.sizeOf20
  v20 := Tryz.zeroValue20
  t37 := Tryz.underlying122
  a37 := Tryz.isAgg122
  z37 := Tryz.sizeOf122
  v37 := Tryz.zeroValue122
  t46 := Tryz.underlying190
  a46 := Tryz.isAgg190
  z46 := Tryz.sizeOf190
  v46 := Tryz.zeroValue190
  t51 := Tryz.underlying187
  a51 := Tryz.isAgg187
  z51 := Tryz.sizeOf187
  v51 := Tryz.zeroValue187
  t53 := Tryz.underlying179
  a53 := Tryz.isAgg179
  z53 := Tryz.sizeOf179
  v53 := Tryz.zeroValue179
  t171 := Tryz.underlying178
  a171 := Tryz.isAgg178
  z171 := Tryz.sizeOf178
  v171 := Tryz.zeroValue178
  t173 := Tryz.underlying182
  a173 := Tryz.isAgg182
  z173 := Tryz.sizeOf182
  v173 := Tryz.zeroValue182
  t212 := Tryz.underlying186
  a212 := Tryz.isAgg186
  z212 := Tryz.sizeOf186
  v212 := Tryz.zeroValue186
  t213 := Tryz.underlying188
  a213 := Tryz.isAgg188
  z213 := Tryz.sizeOf188
  t232 := Tryz.underlying199
  a232 := Tryz.isAgg199
  z232 := Tryz.sizeOf199
  v232 := Tryz.zeroValue199
  t233 := Tryz.underlying200
  a233 := Tryz.isAgg200
  z233 := Tryz.sizeOf200
  v233 := Tryz.zeroValue200
  g17 := by kernel_rfl
  g18 := by kernel_rfl
  g19 := by kernel_rfl }
open Go.RowKit Go.Sort Go.Lib in
theorem Tryz.strconv_Itoa_small (i : Nat) (hi : i < 100) (w : World) :
    Calls Tryz.prog 97 #[.int .i64 i] w fun e w' => e = .returned (.string ⟨(Lib.decDigits i).toArray⟩) ∧ w' = w := Any.strconv_Itoa_small Tryz.lays171 i hi w
def Tryz.lays217_ren : Go.Shelf.Ren := ⟨fun | 217 => 174 | 266 => 188 | n => n, fun | 9 => 9 | 5 => 5 | 3 => 3 | n => n, fun | n => n⟩
theorem Tryz.lays217 : Go.Proofs.Lays.n217 Tryz.prog Tryz.lays217_ren := {
  mixed := by kernel_rfl
  f217 := Tryz.func174.trans (congrArg some (by kernel_rfl))
  f266 := Tryz.func188.trans (congrArg some (by kernel_rfl))
  t3 := Tryz.underlying3
  a3 := Tryz.isAgg3
  z3 := Tryz.sizeOf3
  v3 := Tryz.zeroValue3
  t5 := Tryz.underlying5
  a5 := Tryz.isAgg5
  z5 := Tryz.sizeOf5
  v5 := Tryz.zeroValue5
  t9 := Tryz.underlying9
  a9 := Tryz.isAgg9
  z9 := Tryz.sizeOf9
  v9 := Tryz.zeroValue9 }
open Go.RowKit Go.Lib in
theorem Tryz.stringslite_IndexByte (s : ByteArray) (c : Int) (w : World) :
    Calls Tryz.prog 174 #[.string s, .int .u8 c] w fun e w' => e = .returned (.int .i64 (Lib.indexByte s.data.toList c.toNat.toUInt8)) ∧ w' = w := Any.stringslite_IndexByte Tryz.lays217 s c w
def Tryz.lays224_ren : Go.Shelf.Ren := ⟨fun | 224 => 204 | n => n, fun | 3 => 3 | n => n, fun | n => n⟩
theorem Tryz.lays224 : Go.Proofs.Lays.n224 Tryz.prog Tryz.lays224_ren := {
  mixed := by kernel_rfl
  f224 := Tryz.func204.trans (congrArg some (by kernel_rfl))
  t3 := Tryz.underlying3
  a3 := Tryz.isAgg3
  z3 := Tryz.sizeOf3
  v3 := Tryz.zeroValue3 }
open Go.RowKit Go.Lib in
theorem Tryz.bytealg_Cutover (n : Int) (h0 : 0 ≤ n) (h1 : n < 4611686018427387904) (w : World) :
    Calls Tryz.prog 204 #[.int .i64 n] w fun e w' => e = .returned (.int .i64 ((n + 16) / 8)) ∧ w' = w := Any.bytealg_Cutover Tryz.lays224 n h0 h1 w
def Tryz.lays314_ren : Go.Shelf.Ren := ⟨fun | 314 => 209 | n => n, fun | 9 => 9 | 51 => 187 | 3 => 3 | 4 => 4 | 5 => 5 | 46 => 190 | n => n, fun | n => n⟩
theorem Tryz.lays314 : Go.Proofs.Lays.n314 Tryz.prog Tryz.lays314_ren := {
  mixed := by kernel_rfl
  f314 := Tryz.func209.trans (congrArg some (by kernel_rfl))
  t3 := Tryz.underlying3
  a3 := Tryz.isAgg3
  z3 := Tryz.sizeOf3
  v3 := Tryz.zeroValue3
  t4 := Tryz.underlying4
  a4 := Tryz.isAgg4
  z4 := Tryz.sizeOf4
  v4 := Tryz.zeroValue4
  t5 := Tryz.underlying5
  a5 := Tryz.isAgg5
  z5 := Tryz.sizeOf5
  v5 := Tryz.zeroValue5
  t9 := Tryz.underlying9
  a9 := Tryz.isAgg9
  z9 := Tryz.sizeOf9
  v9 := Tryz.zeroValue9
  t46 := Tryz.underlying190
  a46 := Tryz.isAgg190
  z46 := Tryz.sizeOf190
  v46 := Tryz.zeroValue190
  t51 := Tryz.underlying187
  a51 := Tryz.isAgg187
  z51 := Tryz.sizeOf187
  v51 := Tryz.zeroValue187 }
open Go.RowKit Go.Lib in
theorem Tryz.bytealg_hashStr (sep : ByteArray) (hs : sep.size < 4294967281) (w : World) :
    Calls Tryz.prog 209 #[.string sep] w fun e w' => e = .returned (.tuple #[.int .u32 (RK.H sep.data.toList % 4294967296), .int .u32 (16777619 ^ sep.size % 4294967296)]) ∧ w' = w := Any.bytealg_hashStr Tryz.lays314 sep hs w
def Tryz.lays267_ren : Go.Shelf.Ren := ⟨fun | 267 => 205 | 314 => 209 | n => n, fun | 9 => 9 | 3 => 3 | 146 => 197 | 51 => 187 | 4 => 4 | 5 => 5 | 46 => 190 | n => n, fun | n => n⟩
theorem Tryz.lays267 : Go.Proofs.Lays.n267 Tryz.prog Tryz.lays267_ren := {
  mixed := by kernel_rfl
  f267 := Tryz.func205.trans (congrArg some (by kernel_rfl))
  f314 := Tryz.func209.trans (congrArg some (by kernel_rfl))
  t3 := Tryz.underlying3
  a3 := Tryz.isAgg3
  z3 := Tryz.sizeOf3
  v3 := Tryz.zeroValue3
  t4 := Tryz.underlying4
  a4 := Tryz.isAgg4
  z4 := Tryz.sizeOf4
  v4 := Tryz.zeroValue4
  t5 := Tryz.underlying5
  a5 := Tryz.isAgg5
  z5 := Tryz.sizeOf5
  v5 := Tryz.zeroValue5
  t9 := Tryz.underlying9
  a9 := Tryz.isAgg9
  z9 := Tryz.sizeOf9
  v9 := Tryz.zeroValue9
  t46 := Tryz.underlying190
  a46 := Tryz.isAgg190
  z46 := Tryz.sizeOf190
  v46 := Tryz.zeroValue190
  t51 := Tryz.underlying187
  a51 := Tryz.isAgg187
  z51 := Tryz.sizeOf187
  v51 := Tryz.zeroValue187
  t146 := Tryz.underlying197
  a146 := Tryz.isAgg197
  z146 := Tryz.sizeOf197
  v146 := Tryz.zeroValue197 }
open Go.RowKit Go.Lib in
theorem Tryz.bytealg_IndexRabinKarp (s sep : ByteArray) (h1 : 1 ≤ sep.size) (h2 : sep.size ≤ s.size) (hs : s.size < 4294967281) (w : World) :
    Calls Tryz.prog 205 #[.string s, .string sep] w fun e w' => e = .returned (.int .i64 (Lib.index s.data.toList sep.data.toList)) ∧ w' = w := Any.bytealg_IndexRabinKarp Tryz.lays267 s sep h1 h2 hs w
def Tryz.lays219_ren : Go.Shelf.Ren := ⟨fun | 219 => 195 | 217 => 174 | 225 => 203 | 224 => 204 | 267 => 205 | 266 => 188 | 314 => 209 | n => n, fun | 9 => 9 | 3 => 3 | 4 => 4 | 5 => 5 | 46 => 190 | 146 => 197 | 51 => 187 | n => n, fun | 1 => 0 | n => n⟩
theorem Tryz.lays219 : Go.Proofs.Lays.n219 Tryz.prog Tryz.lays219_ren := {
  mixed := by kernel_rfl
  f217 := Tryz.func174.trans (congrArg some (by kernel_rfl))
  f219 := Tryz.func195.trans (congrArg some (by kernel_rfl))
  f224 := Tryz.func204.trans (congrArg some (by kernel_rfl))
  f225 := Tryz.func203.trans (congrArg some (by kernel_rfl))
  f266 := Tryz.func188.trans (congrArg some (by kernel_rfl))
  f267 := Tryz.func205.trans (congrArg some (by kernel_rfl))
  f314 := Tryz.func209.trans (congrArg some (by kernel_rfl))
  t3 := Tryz.underlying3
  a3 := Tryz.isAgg3
  z3 := Tryz.sizeOf3
  v3 := Tryz.zeroValue3
  t4 := Tryz.underlying4
  a4 := Tryz.isAgg4
  z4 := Tryz.sizeOf4
  v4 := Tryz.zeroValue4
  t5 := Tryz.underlying5
  a5 := Tryz.isAgg5
  z5 := Tryz.sizeOf5
  v5 := Tryz.zeroValue5
  t9 := Tryz.underlying9
  a9 := Tryz.isAgg9
  z9 := Tryz.sizeOf9
  v9 := Tryz.zeroValue9
  t46 := Tryz.underlying190
  a46 := Tryz.isAgg190
  z46 := Tryz.sizeOf190
  v46 := Tryz.zeroValue190
  t51 := Tryz.underlying187
  a51 := Tryz.isAgg187
  z51 := Tryz.sizeOf187
  v51 := Tryz.zeroValue187
  t146 := Tryz.underlying197
  a146 := Tryz.isAgg197
  z146 := Tryz.sizeOf197
  v146 := Tryz.zeroValue197
  g1 := by kernel_rfl }
open Go.RowKit Go.Lib in
theorem Tryz.stringslite_Index_one (s : ByteArray) (c : UInt8) (w : World) :
    Calls Tryz.prog 195 #[.string s, .string ⟨#[c]⟩] w fun e w' => e = .returned (.int .i64 (Lib.indexByte s.data.toList c)) ∧ w' = w := Any.stringslite_Index_one Tryz.lays219 s c w
open Go.RowKit Go.Lib in
theorem Tryz.stringslite_Index (s sub : ByteArray) (m : Int) (w : World) (hs : s.size < 4294967281) (hm : w.cell? ⟨0, 0, none⟩ = some (.int .i64 m)) :
    Calls Tryz.prog 195 #[.string s, .string sub] w fun e w' => e = .returned (.int .i64 (Lib.index s.data.toList sub.data.toList)) ∧ w' = w := Any.stringslite_Index Tryz.lays219 s sub m w hs hm
def Tryz.lays143_ren : Go.Shelf.Ren := ⟨fun | 143 => 178 | 219 => 195 | 217 => 174 | 225 => 203 | 224 => 204 | 267 => 205 | 266 => 188 | 314 => 209 | n => n, fun | 9 => 9 | 3 => 3 | 4 => 4 | 5 => 5 | 46 => 190 | 146 => 197 | 51 => 187 | n => n, fun | 1 => 0 | n => n⟩
theorem Tryz.lays143 : Go.Proofs.Lays.n143 Tryz.prog Tryz.lays143_ren := {
  mixed := by kernel_rfl
  f143 := Tryz.func178.trans (congrArg some (by kernel_rfl))
  f217 := Tryz.func174.trans (congrArg some (by kernel_rfl))
  f219 := Tryz.func195.trans (congrArg some (by kernel_rfl))
  f224 := Tryz.func204.trans (congrArg some (by kernel_rfl))
  f225 := Tryz.func203.trans (congrArg some (by kernel_rfl))
  f266 := Tryz.func188.trans (congrArg some (by kernel_rfl))
  f267 := Tryz.func205.trans (congrArg some (by kernel_rfl))
  f314 := Tryz.func209.trans (congrArg some (by kernel_rfl))
  t3 := Tryz.underlying3
  a3 := Tryz.isAgg3
  z3 := Tryz.sizeOf3
  v3 := Tryz.zeroValue3
  t4 := Tryz.underlying4
  a4 := Tryz.isAgg4
  z4 := Tryz.sizeOf4
  v4 := Tryz.zeroValue4
  t5 := Tryz.underlying5
  a5 := Tryz.isAgg5
  z5 := Tryz.sizeOf5
  v5 := Tryz.zeroValue5
  t9 := Tryz.underlying9
  a9 := Tryz.isAgg9
  z9 := Tryz.sizeOf9
  v9 := Tryz.zeroValue9
  t46 := Tryz.underlying190
  a46 := Tryz.isAgg190
  z46 := Tryz.sizeOf190
  v46 := Tryz.zeroValue190
  t51 := Tryz.underlying187
  a51 := Tryz.isAgg187
  z51 := Tryz.sizeOf187
  v51 := Tryz.zeroValue187
  t146 := Tryz.underlying197
  a146 := Tryz.isAgg197
  z146 := Tryz.sizeOf197
  v146 := Tryz.zeroValue197
  g1 := by kernel_rfl }
open Go.RowKit Go.Lib in
theorem Tryz.strings_Index_one (s : ByteArray) (c : UInt8) (w : World) :
    Calls Tryz.prog 178 #[.string s, .string ⟨#[c]⟩] w fun e w' => e = .returned (.int .i64 (Lib.indexByte s.data.toList c)) ∧ w' = w := Any.strings_Index_one Tryz.lays143 s c w
open Go.RowKit Go.Lib in
theorem Tryz.strings_Index (s sub : ByteArray) (m : Int) (w : World) (hs : s.size < 4294967281) (hm : w.cell? ⟨0, 0, none⟩ = some (.int .i64 m)) :
    Calls Tryz.prog 178 #[.string s, .string sub] w fun e w' => e = .returned (.int .i64 (Lib.index s.data.toList sub.data.toList)) ∧ w' = w := Any.strings_Index Tryz.lays143 s sub m w hs hm
def Tryz.lays138_ren : Go.Shelf.Ren := ⟨fun | 138 => 177 | 195 => 193 | 218 => 194 | 143 => 178 | 219 => 195 | 217 => 174 | 225 => 203 | 224 => 204 | 267 => 205 | 266 => 188 | 314 => 209 | n => n, fun | 9 => 9 | 3 => 3 | 4 => 4 | 5 => 5 | 0 => 0 | 46 => 190 | 146 => 197 | 51 => 187 | n => n, fun | 1 => 0 | n => n⟩
theorem Tryz.lays138 : Go.Proofs.Lays.n138 Tryz.prog Tryz.lays138_ren := {
  mixed := by kernel_rfl
  f138 := Tryz.func177.trans (congrArg some (by kernel_rfl))
  f143 := Tryz.func178.trans (congrArg some (by kernel_rfl))
  f195 := Tryz.func193.trans (congrArg some (by kernel_rfl))
  f217 := Tryz.func174.trans (congrArg some (by kernel_rfl))
  f218 := Tryz.func194.trans (congrArg some (by kernel_rfl))
  f219 := Tryz.func195.trans (congrArg some (by kernel_rfl))
  f224 := Tryz.func204.trans (congrArg some (by kernel_rfl))
  f225 := Tryz.func203.trans (congrArg some (by kernel_rfl))
  f266 := Tryz.func188.trans (congrArg some (by kernel_rfl))
  f267 := Tryz.func205.trans (congrArg some (by kernel_rfl))
  f314 := Tryz.func209.trans (congrArg some (by kernel_rfl))
  t0 := Tryz.underlying0
  a0 := Tryz.isAgg0
  z0 := Tryz.sizeOf0
  v0 := Tryz.zeroValue0
  t3 := Tryz.underlying3
  a3 := Tryz.isAgg3
  z3 := Tryz.sizeOf3
  v3 := Tryz.zeroValue3
  t4 := Tryz.underlying4
  a4 := Tryz.isAgg4
  z4 := Tryz.sizeOf4
  v4 := Tryz.zeroValue4
  t5 := Tryz.underlying5
  a5 := Tryz.isAgg5
  z5 := Tryz.sizeOf5
  v5 := Tryz.zeroValue5
  t9 := Tryz.underlying9
  a9 := Tryz.isAgg9
  z9 := Tryz.sizeOf9
  v9 := Tryz.zeroValue9
  t46 := Tryz.underlying190
  a46 := Tryz.isAgg190
  z46 := Tryz.sizeOf190
  v46 := Tryz.zeroValue190
  t51 := Tryz.underlying187
  a51 := Tryz.isAgg187
  z51 := Tryz.sizeOf187
  v51 := Tryz.zeroValue187
  t146 := Tryz.underlying197
  a146 := Tryz.isAgg197
  z146 := Tryz.sizeOf197
  v146 := Tryz.zeroValue197
  g1 := by kernel_rfl }
open Go.RowKit Go.Lib in
theorem Tryz.strings_Count_one (s : ByteArray) (c : UInt8) (w : World) :
    Calls Tryz.prog 177 #[.string s, .string ⟨#[c]⟩] w fun e w' => e = .returned (.int .i64 (Lib.countByte s.data.toList c)) ∧ w' = w := Any.strings_Count_one Tryz.lays138 s c w
open Go.RowKit Go.Lib in
theorem Tryz.strings_Count (s sub : ByteArray) (m : Int) (w : World) (hs : s.size < 4294967281) (hm : w.cell? ⟨0, 0, none⟩ = some (.int .i64 m)) (h2 : 2 ≤ sub.size) :
    Calls Tryz.prog 177 #[.string s, .string sub] w fun e w' => e = .returned (.int .i64 (Lib.countB s sub)) ∧ w' = w := Any.strings_Count Tryz.lays138 s sub m w hs hm h2
def Tryz.laysM219_ren : Go.Shelf.Ren := ⟨fun | 219 => 195 | 217 => 174 | 225 => 203 | 224 => 204 | 267 => 205 | 266 => 188 | 314 => 209 | n => n, fun | 9 => 9 | 3 => 3 | 4 => 4 | 5 => 5 | 46 => 190 | 146 => 197 | 51 => 187 | n => n, fun | 1 => 0 | n => n⟩
theorem Tryz.laysM219 : Go.Proofs.LaysM.n219 Tryz.prog Tryz.laysM219_ren := {
  mixed := by kernel_rfl
  f217 := Tryz.func174.trans (congrArg some (by kernel_rfl))
  f219 := Tryz.func195.trans (congrArg some (by kernel_rfl))
  f224 := Tryz.func204.trans (congrArg some (by kernel_rfl))
  f225 := Tryz.func203.trans (congrArg some (by kernel_rfl))
  f266 := Tryz.func188.trans (congrArg some (by kernel_rfl))
  f267 := Tryz.func205.trans (congrArg some (by kernel_rfl))
  f314 := Tryz.func209.trans (congrArg some (by kernel_rfl))
  t3 := Tryz.underlying3
  a3 := Tryz.isAgg3
  z3 := Tryz.sizeOf3
  v3 := Tryz.zeroValue3
  t4 := Tryz.underlying4
  a4 := Tryz.isAgg4
  z4 := Tryz.sizeOf4
  v4 := Tryz.zeroValue4
  t5 := Tryz.underlying5
  a5 := Tryz.isAgg5
  z5 := Tryz.sizeOf5
  v5 := Tryz.zeroValue5
  t9 := Tryz.underlying9
  a9 := Tryz.isAgg9
  z9 := Tryz.sizeOf9
  v9 := Tryz.zeroValue9
  t46 := Tryz.underlying190
  a46 := Tryz.isAgg190
  z46 := Tryz.sizeOf190
  v46 := Tryz.zeroValue190
  t51 := Tryz.underlying187
  a51 := Tryz.isAgg187
  z51 := Tryz.sizeOf187
  v51 := Tryz.zeroValue187
  t146 := Tryz.underlying197
  a146 := Tryz.isAgg197
  z146 := Tryz.sizeOf197
  v146 := Tryz.zeroValue197
  g1 := by kernel_rfl
  i3 := by kernel_rfl
  i4 := by kernel_rfl
  i5 := by kernel_rfl
  i9 := by kernel_rfl
  i46 := by kernel_rfl
  i51 := by kernel_rfl
  i146 := by kernel_rfl
  m1 := by kernel_rfl
  s1_3 := fun w h => Go.Proofs.cell_of_shapedOpen_int (zero := #[.int .i64 0]) (t := 3) h (of_decide_eq_true (by kernel_rfl)) (by kernel_rfl) rfl (by kernel_rfl) (by kernel_rfl) Tryz.underlying3 }
open Go.RowKit Go.Lib in
theorem Tryz.stringslite_Index_shaped (s sub : ByteArray) (w : World) (h : w.ShapedOpen Tryz.prog) (hs : s.size < 4294967281) :
    Calls Tryz.prog 195 #[.string s, .string sub] w fun e w' => e = .returned (.int .i64 (Lib.index s.data.toList sub.data.toList)) ∧ w' = w := Any.stringslite_Index_shaped Tryz.laysM219 s sub w h hs
def Tryz.laysM143_ren : Go.Shelf.Ren := ⟨fun | 143 => 178 | 219 => 195 | 217 => 174 | 225 => 203 | 224 => 204 | 267 => 205 | 266 => 188 | 314 => 209 | n => n, fun | 9 => 9 | 3 => 3 | 4 => 4 | 5 => 5 | 46 => 190 | 146 => 197 | 51 => 187 | n => n, fun | 1 => 0 | n => n⟩
theorem Tryz.laysM143 : Go.Proofs.LaysM.n143 Tryz.prog Tryz.laysM143_ren := {
  mixed := by kernel_rfl
  f143 := Tryz.func178.trans (congrArg some (by kernel_rfl))
  f217 := Tryz.func174.trans (congrArg some (by kernel_rfl))
  f219 := Tryz.func195.trans (congrArg some (by kernel_rfl))
  f224 := Tryz.func204.trans (congrArg some (by kernel_rfl))
  f225 := Tryz.func203.trans (congrArg some (by kernel_rfl))
  f266 := Tryz.func188.trans (congrArg some (by kernel_rfl))
  f267 := Tryz.func205.trans (congrArg some (by kernel_rfl))
  f314 := Tryz.func209.trans (congrArg some (by kernel_rfl))
  t3 := Tryz.underlying3
  a3 := Tryz.isAgg3
  z3 := Tryz.sizeOf3
  v3 := Tryz.zeroValue3
  t4 := Tryz.underlying4
  a4 := Tryz.isAgg4
  z4 := Tryz.sizeOf4
  v4 := Tryz.zeroValue4
  t5 := Tryz.underlying5
  a5 := Tryz.isAgg5
  z5 := Tryz.sizeOf5
  v5 := Tryz.zeroValue5
  t9 := Tryz.underlying9
  a9 := Tryz.isAgg9
  z9 := Tryz.sizeOf9
  v9 := Tryz.zeroValue9
  t46 := Tryz.underlying190
  a46 := Tryz.isAgg190
  z46 := Tryz.sizeOf190
  v46 := Tryz.zeroValue190
  t51 := Tryz.underlying187
  a51 := Tryz.isAgg187
  z51 := Tryz.sizeOf187
  v51 := Tryz.zeroValue187
  t146 := Tryz.underlying197
  a146 := Tryz.isAgg197
  z146 := Tryz.sizeOf197
  v146 := Tryz.zeroValue197
  g1 := by kernel_rfl
  i3 := by kernel_rfl
  i4 := by kernel_rfl
  i5 := by kernel_rfl
  i9 := by kernel_rfl
  i46 := by kernel_rfl
  i51 := by kernel_rfl
  i146 := by kernel_rfl
  m1 := by kernel_rfl
  s1_3 := fun w h => Go.Proofs.cell_of_shapedOpen_int (zero := #[.int .i64 0]) (t := 3) h (of_decide_eq_true (by kernel_rfl)) (by kernel_rfl) rfl (by kernel_rfl) (by kernel_rfl) Tryz.underlying3 }
open Go.RowKit Go.Lib in
theorem Tryz.strings_Index_shaped (s sub : ByteArray) (w : World) (h : w.ShapedOpen Tryz.prog) (hs : s.size < 4294967281) :
    Calls Tryz.prog 178 #[.string s, .string sub] w fun e w' => e = .returned (.int .i64 (Lib.index s.data.toList sub.data.toList)) ∧ w' = w := Any.strings_Index_shaped Tryz.laysM143 s sub w h hs
def Tryz.laysM138_ren : Go.Shelf.Ren := ⟨fun | 138 => 177 | 195 => 193 | 218 => 194 | 143 => 178 | 219 => 195 | 217 => 174 | 225 => 203 | 224 => 204 | 267 => 205 | 266 => 188 | 314 => 209 | n => n, fun | 9 => 9 | 3 => 3 | 4 => 4 | 5 => 5 | 0 => 0 | 46 => 190 | 146 => 197 | 51 => 187 | n => n, fun | 1 => 0 | n => n⟩
theorem Tryz.laysM138 : Go.Proofs.LaysM.n138 Tryz.prog Tryz.laysM138_ren := {
  mixed := by kernel_rfl
  f138 := Tryz.func177.trans (congrArg some (by kernel_rfl))
  f143 := Tryz.func178.trans (congrArg some (by kernel_rfl))
  f195 := Tryz.func193.trans (congrArg some (by kernel_rfl))
  f217 := Tryz.func174.trans (congrArg some (by kernel_rfl))
  f218 := Tryz.func194.trans (congrArg some (by kernel_rfl))
  f219 := Tryz.func195.trans (congrArg some (by kernel_rfl))
  f224 := Tryz.func204.trans (congrArg some (by kernel_rfl))
  f225 := Tryz.func203.trans (congrArg some (by kernel_rfl))
  f266 := Tryz.func188.trans (congrArg some (by kernel_rfl))
  f267 := Tryz.func205.trans (congrArg some (by kernel_rfl))
  f314 := Tryz.func209.trans (congrArg some (by kernel_rfl))
  t0 := Tryz.underlying0
  a0 := Tryz.isAgg0
  z0 := Tryz.sizeOf0
  v0 := Tryz.zeroValue0
  t3 := Tryz.underlying3
  a3 := Tryz.isAgg3
  z3 := Tryz.sizeOf3
  v3 := Tryz.zeroValue3
  t4 := Tryz.underlying4
  a4 := Tryz.isAgg4
  z4 := Tryz.sizeOf4
  v4 := Tryz.zeroValue4
  t5 := Tryz.underlying5
  a5 := Tryz.isAgg5
  z5 := Tryz.sizeOf5
  v5 := Tryz.zeroValue5
  t9 := Tryz.underlying9
  a9 := Tryz.isAgg9
  z9 := Tryz.sizeOf9
  v9 := Tryz.zeroValue9
  t46 := Tryz.underlying190
  a46 := Tryz.isAgg190
  z46 := Tryz.sizeOf190
  v46 := Tryz.zeroValue190
  t51 := Tryz.underlying187
  a51 := Tryz.isAgg187
  z51 := Tryz.sizeOf187
  v51 := Tryz.zeroValue187
  t146 := Tryz.underlying197
  a146 := Tryz.isAgg197
  z146 := Tryz.sizeOf197
  v146 := Tryz.zeroValue197
  g1 := by kernel_rfl
  i0 := by kernel_rfl
  i3 := by kernel_rfl
  i4 := by kernel_rfl
  i5 := by kernel_rfl
  i9 := by kernel_rfl
  i46 := by kernel_rfl
  i51 := by kernel_rfl
  i146 := by kernel_rfl
  m1 := by kernel_rfl
  s1_3 := fun w h => Go.Proofs.cell_of_shapedOpen_int (zero := #[.int .i64 0]) (t := 3) h (of_decide_eq_true (by kernel_rfl)) (by kernel_rfl) rfl (by kernel_rfl) (by kernel_rfl) Tryz.underlying3 }
open Go.RowKit Go.Lib in
theorem Tryz.strings_Count_shaped (s sub : ByteArray) (w : World) (h : w.ShapedOpen Tryz.prog) (hs : s.size < 4294967281) (h2 : 2 ≤ sub.size) :
    Calls Tryz.prog 177 #[.string s, .string sub] w fun e w' => e = .returned (.int .i64 (Lib.countB s sub)) ∧ w' = w := Any.strings_Count_shaped Tryz.laysM138 s sub w h hs h2
def Tryz.lays206_ren : Go.Shelf.Ren := ⟨fun | 206 => 142 | n => n, fun | 9 => 9 | 4 => 4 | 3 => 3 | n => n, fun | n => n⟩
theorem Tryz.lays206 : Go.Proofs.Lays.n206 Tryz.prog Tryz.lays206_ren := {
  mixed := by kernel_rfl
  f206 := Tryz.func142.trans (congrArg some (by kernel_rfl))
  t3 := Tryz.underlying3
  a3 := Tryz.isAgg3
  z3 := Tryz.sizeOf3
  v3 := Tryz.zeroValue3
  t4 := Tryz.underlying4
  a4 := Tryz.isAgg4
  z4 := Tryz.sizeOf4
  v4 := Tryz.zeroValue4
  t9 := Tryz.underlying9
  a9 := Tryz.isAgg9
  z9 := Tryz.sizeOf9
  v9 := Tryz.zeroValue9 }
open Go.RowKit Go.Lib in
theorem Tryz.stringslite_HasPrefix (s p : ByteArray) (w : World) :
    Calls Tryz.prog 142 #[.string s, .string p] w fun e w' => e = .returned (.bool (Lib.hasPrefix s.data.toList p.data.toList)) ∧ w' = w := Any.stringslite_HasPrefix Tryz.lays206 s p w
def Tryz.lays99_ren : Go.Shelf.Ren := ⟨fun | 99 => 87 | 206 => 142 | n => n, fun | 9 => 9 | 4 => 4 | 3 => 3 | n => n, fun | n => n⟩
theorem Tryz.lays99 : Go.Proofs.Lays.n99 Tryz.prog Tryz.lays99_ren := {
  mixed := by kernel_rfl
  f99 := Tryz.func87.trans (congrArg some (by kernel_rfl))
  f206 := Tryz.func142.trans (congrArg some (by kernel_rfl))
  t3 := Tryz.underlying3
  a3 := Tryz.isAgg3
  z3 := Tryz.sizeOf3
  v3 := Tryz.zeroValue3
  t4 := Tryz.underlying4
  a4 := Tryz.isAgg4
  z4 := Tryz.sizeOf4
  v4 := Tryz.zeroValue4
  t9 := Tryz.underlying9
  a9 := Tryz.isAgg9
  z9 := Tryz.sizeOf9
  v9 := Tryz.zeroValue9 }
open Go.RowKit Go.Lib in
theorem Tryz.strings_HasPrefix (s p : ByteArray) (w : World) :
    Calls Tryz.prog 87 #[.string s, .string p] w fun e w' => e = .returned (.bool (Lib.hasPrefix s.data.toList p.data.toList)) ∧ w' = w := Any.strings_HasPrefix Tryz.lays99 s p w
open Go.RowKit Go.Lib in
theorem Tryz.strings_Count_any (s sep : ByteArray) (m : Int) (w : World) (hs : s.size < 4294967281) (hm : w.cell? ⟨0, 0, none⟩ = some (.int .i64 m)) (h1 : 1 ≤ sep.size) :
    Calls Tryz.prog 177 #[.string s, .string sep] w fun e w' => e = .returned (.int .i64 (Lib.countB s sep)) ∧ w' = w := Any.strings_Count_any Tryz.lays138 s sep m w hs hm h1
def Tryz.lays154_ren : Go.Shelf.Ren := ⟨fun | 154 => 150 | 138 => 177 | 165 => 99 | 143 => 178 | 166 => 100 | 197 => 179 | 169 => 101 | 195 => 193 | 218 => 194 | 240 => 151 | 241 => 152 | 219 => 195 | 260 => 196 | 276 => 180 | 277 => 181 | 217 => 174 | 225 => 203 | 224 => 204 | 267 => 205 | 266 => 188 | 314 => 209 | n => n, fun | 9 => 9 | 3 => 3 | 4 => 4 | 72 => 124 | 0 => 0 | 76 => 127 | 105 => 169 | 21 => 21 | 5 => 5 | 70 => 121 | 20 => 20 | 37 => 122 | 75 => 126 | 127 => 157 | 164 => 171 | 46 => 190 | 119 => 192 | 139 => 195 | 138 => 194 | 146 => 197 | 51 => 187 | 80 => 129 | n => n, fun | 1 => 0 | 3 => 2 | 4 => 3 | n => n⟩
theorem Tryz.lays154 : Go.Proofs.Lays.n154 Tryz.prog Tryz.lays154_ren := {
  mixed := by kernel_rfl
  f138 := Tryz.func177.trans (congrArg some (by kernel_rfl))
  f143 := Tryz.func178.trans (congrArg some (by kernel_rfl))
  f154 := Tryz.func150.trans (congrArg some (by kernel_rfl))
  f165 := Tryz.func99.trans (congrArg some (by kernel_rfl))
  f166 := Tryz.func100.trans (congrArg some (by kernel_rfl))
  f169 := Tryz.func101.trans (congrArg some (by kernel_rfl))
  f195 := Tryz.func193.trans (congrArg some (by kernel_rfl))
  f197 := Tryz.func179.trans (congrArg some (by kernel_rfl))
  f217 := Tryz.func174.trans (congrArg some (by kernel_rfl))
  f218 := Tryz.func194.trans (congrArg some (by kernel_rfl))
  f219 := Tryz.func195.trans (congrArg some (by kernel_rfl))
  f224 := Tryz.func204.trans (congrArg some (by kernel_rfl))
  f225 := Tryz.func203.trans (congrArg some (by kernel_rfl))
  f240 := Tryz.func151.trans (congrArg some (by kernel_rfl))
  f241 := Tryz.func152.trans (congrArg some (by kernel_rfl))
  f260 := Tryz.func196.trans (congrArg some (by kernel_rfl))
  f266 := Tryz.func188.trans (congrArg some (by kernel_rfl))
  f267 := Tryz.func205.trans (congrArg some (by kernel_rfl))
  f276 := Tryz.func180.trans (congrArg some (by kernel_rfl))
  f277 := Tryz.func181.trans (congrArg some (by kernel_rfl))
  f314 := Tryz.func209.trans (congrArg some (by kernel_rfl))
  t0 := Tryz.underlying0
  a0 := Tryz.isAgg0
  z0 := Tryz.sizeOf0
  v0 := Tryz.zeroValue0
  t3 := Tryz.underlying3
  a3 := Tryz.isAgg3
  z3 := Tryz.sizeOf3
  v3 := Tryz.zeroValue3
  t4 := Tryz.underlying4
  a4 := Tryz.isAgg4
  z4 := Tryz.sizeOf4
  v4 := Tryz.zeroValue4
  t5 := Tryz.underlying5
  a5 := Tryz.isAgg5
  z5 := Tryz.sizeOf5
  v5 := Tryz.zeroValue5
  t9 := Tryz.underlying9
  a9 := Tryz.isAgg9
  z9 := Tryz.sizeOf9
  v9 := Tryz.zeroValue9
  t20 := Tryz.underlying20
  a20 := Tryz.isAgg20
  z20 := Tryz.sizeOf20
  v20 := Tryz.zeroValue20
  t21 := Tryz.underlying21
  a21 := Tryz.isAgg21
  z21 := Tryz.sizeOf21
  v21 := Tryz.zeroValue21
  t37 := Tryz.underlying122
  a37 := Tryz.isAgg122
  z37 := Tryz.sizeOf122
  v37 := Tryz.zeroValue122
  t46 := Tryz.underlying190
  a46 := Tryz.isAgg190
  z46 := Tryz.sizeOf190
  v46 := Tryz.zeroValue190
  t51 := Tryz.underlying187
  a51 := Tryz.isAgg187
  z51 := Tryz.sizeOf187
  v51 := Tryz.zeroValue187
  t70 := Tryz.underlying121
  a70 := Tryz.isAgg121
  z70 := Tryz.sizeOf121
  v70 := Tryz.zeroValue121
  t72 := Tryz.underlying124
  a72 := Tryz.isAgg124
  z72 := Tryz.sizeOf124
  v72 := Tryz.zeroValue124
  t75 := Tryz.underlying126
  a75 := Tryz.isAgg126
  z75 := Tryz.sizeOf126
  v75 := Tryz.zeroValue126
  t76 := Tryz.underlying127
  a76 := Tryz.isAgg127
  z76 := Tryz.sizeOf127
  v76 := Tryz.zeroValue127
  t105 := Tryz.underlying169
  a105 := Tryz.isAgg169
  z105 := Tryz.sizeOf169
  v105 := Tryz.zeroValue169
  t119 := Tryz.underlying192
  a119 := Tryz.isAgg192
  z119 := Tryz.sizeOf192
  t127 := Tryz.underlying157
  a127 := Tryz.isAgg157
  z127 := Tryz.sizeOf157
  v127 := Tryz.zeroValue157
  t138 := Tryz.underlying194
  a138 := Tryz.isAgg194
  z138 := Tryz.sizeOf194
  v138 := Tryz.zeroValue194
  t139 := Tryz.underlying195
  a139 := Tryz.isAgg195
  z139 := Tryz.sizeOf195
  v139 := Tryz.zeroValue195
  t146 := Tryz.underlying197
  a146 := Tryz.isAgg197
  z146 := Tryz.sizeOf197
  v146 := Tryz.zeroValue197
  t164 := Tryz.underlying171
  a164 := Tryz.isAgg171
  z164 := Tryz.sizeOf171
  v164 := Tryz.zeroValue171
  g1 := by kernel_rfl
  g3 := by kernel_rfl
  g4 := by kernel_rfl }
theorem Tryz.Builder_Extra_154 : Builder.Extra Tryz.prog Tryz.lays154_ren := {
  sizeBuilder := by kernel_rfl
  liesBuilder := by kernel_rfl
  t5 := Tryz.underlying5
  a5 := Tryz.isAgg5
  z5 := Tryz.sizeOf5
  v5 := Tryz.zeroValue5
  infoByte := by kernel_rfl
  cellsByte := by kernel_rfl
  sizeByte := by kernel_rfl
  neB5 := by decide }
open Go.RowKit Go.Lib in
theorem Tryz.strings_Replace_some (s old new : ByteArray) (n : Int) (m : Int) (w : World) (hs : s.size < 4294967281) (hm : w.cell? ⟨0, 0, none⟩ = some (.int .i64 m)) (h1 : 1 ≤ old.size) (hne : old ≠ new) (hn0 : n ≠ 0) (hc0 : Lib.countB s old ≠ 0) (hlen : s.size + Lib.countB s old * new.size ≤ 140737488355328) :
    Calls Tryz.prog 150 #[.string s, .string old, .string new, .int .i64 n] w fun e w' =>
      e = .returned (.string ⟨(Lib.replaceK old.data.toList new.data.toList (Lib.replaceNum s.data.toList old.data.toList n) s.data.toList).toArray⟩) ∧ Below w.heap.size w w' := Any.strings_Replace_some Tryz.lays154 Tryz.Builder_Extra_154 s old new n m w hs hm h1 hne hn0 hc0 hlen
open Go.RowKit Go.Lib in
theorem Tryz.strings_Replace_none (s old new : ByteArray) (n : Int) (w : World) (h : old = new ∨ n = 0) :
    Calls Tryz.prog 150 #[.string s, .string old, .string new, .int .i64 n] w fun e w' => e = .returned (.string s) ∧ w' = w := Any.strings_Replace_none Tryz.lays154 s old new n w h
open Go.RowKit Go.Lib in
theorem Tryz.strings_Replace_absent (s old new : ByteArray) (n : Int) (m : Int) (w : World) (hs : s.size < 4294967281) (hm : w.cell? ⟨0, 0, none⟩ = some (.int .i64 m)) (h1 : 1 ≤ old.size) (hne : old ≠ new) (hn0 : n ≠ 0) (hc0 : Lib.countB s old = 0) :
    Calls Tryz.prog 150 #[.string s, .string old, .string new, .int .i64 n] w fun e w' => e = .returned (.string s) ∧ w' = w := Any.strings_Replace_absent Tryz.lays154 s old new n m w hs hm h1 hne hn0 hc0
open Go.RowKit Go.Lib in
theorem Tryz.strings_Replace (s old new : ByteArray) (n : Int) (m : Int) (w : World) (hs : s.size < 4294967281) (hm : w.cell? ⟨0, 0, none⟩ = some (.int .i64 m)) (h1 : 1 ≤ old.size) (hlen : s.size + Lib.countB s old * new.size ≤ 140737488355328) :
    Calls Tryz.prog 150 #[.string s, .string old, .string new, .int .i64 n] w fun e w' =>
      e = .returned (.string ⟨(Lib.replace s.data.toList old.data.toList new.data.toList n).toArray⟩) ∧ Below w.heap.size w w' := Any.strings_Replace Tryz.lays154 Tryz.Builder_Extra_154 s old new n m w hs hm h1 hlen
def Tryz.lays155_ren : Go.Shelf.Ren := ⟨fun | 155 => 98 | 154 => 150 | 138 => 177 | 165 => 99 | 143 => 178 | 166 => 100 | 197 => 179 | 169 => 101 | 195 => 193 | 218 => 194 | 240 => 151 | 241 => 152 | 219 => 195 | 260 => 196 | 276 => 180 | 277 => 181 | 217 => 174 | 225 => 203 | 224 => 204 | 267 => 205 | 266 => 188 | 314 => 209 | n => n, fun | 9 => 9 | 3 => 3 | 4 => 4 | 72 => 124 | 0 => 0 | 76 => 127 | 105 => 169 | 21 => 21 | 5 => 5 | 70 => 121 | 20 => 20 | 37 => 122 | 75 => 126 | 127 => 157 | 164 => 171 | 46 => 190 | 119 => 192 | 139 => 195 | 138 => 194 | 146 => 197 | 51 => 187 | 80 => 129 | n => n, fun | 1 => 0 | 3 => 2 | 4 => 3 | n => n⟩
theorem Tryz.lays155 : Go.Proofs.Lays.n155 Tryz.prog Tryz.lays155_ren := {
  mixed := by kernel_rfl
  f138 := Tryz.func177.trans (congrArg some (by kernel_rfl))
  f143 := Tryz.func178.trans (congrArg some (by kernel_rfl))
  f154 := Tryz.func150.trans (congrArg some (by kernel_rfl))
  f155 := Tryz.func98.trans (congrArg some (by kernel_rfl))
  f165 := Tryz.func99.trans (congrArg some (by kernel_rfl))
  f166 := Tryz.func100.trans (congrArg some (by kernel_rfl))
  f169 := Tryz.func101.trans (congrArg some (by kernel_rfl))
  f195 := Tryz.func193.trans (congrArg some (by kernel_rfl))
  f197 := Tryz.func179.trans (congrArg some (by kernel_rfl))
  f217 := Tryz.func174.trans (congrArg some (by kernel_rfl))
  f218 := Tryz.func194.trans (congrArg some (by kernel_rfl))
  f219 := Tryz.func195.trans (congrArg some (by kernel_rfl))
  f224 := Tryz.func204.trans (congrArg some (by kernel_rfl))
  f225 := Tryz.func203.trans (congrArg some (by kernel_rfl))
  f240 := Tryz.func151.trans (congrArg some (by kernel_rfl))
  f241 := Tryz.func152.trans (congrArg some (by kernel_rfl))
  f260 := Tryz.func196.trans (congrArg some (by kernel_rfl))
  f266 := Tryz.func188.trans (congrArg some (by kernel_rfl))
  f267 := Tryz.func205.trans (congrArg some (by kernel_rfl))
  f276 := Tryz.func180.trans (congrArg some (by kernel_rfl))
  f277 := Tryz.func181.trans (congrArg some (by kernel_rfl))
  f314 := Tryz.func209.trans (congrArg some (by kernel_rfl))
  t0 := Tryz.underlying0
  a0 := Tryz.isAgg0
  z0 := Tryz.sizeOf0
  v0 := Tryz.zeroValue0
  t3 := Tryz.underlying3
  a3 := Tryz.isAgg3
  z3 := Tryz.sizeOf3
  v3 := Tryz.zeroValue3
  t4 := Tryz.underlying4
  a4 := Tryz.isAgg4
  z4 := Tryz.sizeOf4
  v4 := Tryz.zeroValue4
  t5 := Tryz.underlying5
  a5 := Tryz.isAgg5
  z5 := Tryz.sizeOf5
  v5 := Tryz.zeroValue5
  t9 := Tryz.underlying9
  a9 := Tryz.isAgg9
  z9 := Tryz.sizeOf9
  v9 := Tryz.zeroValue9
  t20 := Tryz.underlying20
  a20 := Tryz.isAgg20
  z20 := Tryz.sizeOf20
  v20 := Tryz.zeroValue20
  t21 := Tryz.underlying21
  a21 := Tryz.isAgg21
  z21 := Tryz.sizeOf21
  v21 := Tryz.zeroValue21
  t37 := Tryz.underlying122
  a37 := Tryz.isAgg122
  z37 := Tryz.sizeOf122
  v37 := Tryz.zeroValue122
  t46 := Tryz.underlying190
  a46 := Tryz.isAgg190
  z46 := Tryz.sizeOf190
  v46 := Tryz.zeroValue190
  t51 := Tryz.underlying187
  a51 := Tryz.isAgg187
  z51 := Tryz.sizeOf187
  v51 := Tryz.zeroValue187
  t70 := Tryz.underlying121
  a70 := Tryz.isAgg121
  z70 := Tryz.sizeOf121
  v70 := Tryz.zeroValue121
  t72 := Tryz.underlying124
  a72 := Tryz.isAgg124
  z72 := Tryz.sizeOf124
  v72 := Tryz.zeroValue124
  t75 := Tryz.underlying126
  a75 := Tryz.isAgg126
  z75 := Tryz.sizeOf126
  v75 := Tryz.zeroValue126
  t76 := Tryz.underlying127
  a76 := Tryz.isAgg127
  z76 := Tryz.sizeOf127
  v76 := Tryz.zeroValue127
  t105 := Tryz.underlying169
  a105 := Tryz.isAgg169
  z105 := Tryz.sizeOf169
  v105 := Tryz.zeroValue169
  t119 := Tryz.underlying192
  a119 := Tryz.isAgg192
  z119 := Tryz.sizeOf192
  t127 := Tryz.underlying157
  a127 := Tryz.isAgg157
  z127 := Tryz.sizeOf157
  v127 := Tryz.zeroValue157
  t138 := Tryz.underlying194
  a138 := Tryz.isAgg194
  z138 := Tryz.sizeOf194
  v138 := Tryz.zeroValue194
  t139 := Tryz.underlying195
  a139 := Tryz.isAgg195
  z139 := Tryz.sizeOf195
  v139 := Tryz.zeroValue195
  t146 := Tryz.underlying197
  a146 := Tryz.isAgg197
  z146 := Tryz.sizeOf197
  v146 := Tryz.zeroValue197
  t164 := Tryz.underlying171
  a164 := Tryz.isAgg171
  z164 := Tryz.sizeOf171
  v164 := Tryz.zeroValue171
  g1 := by kernel_rfl
  g3 := by kernel_rfl
  g4 := by kernel_rfl }
theorem Tryz.Builder_Extra_155 : Builder.Extra Tryz.prog Tryz.lays155_ren := {
  sizeBuilder := by kernel_rfl
  liesBuilder := by kernel_rfl
  t5 := Tryz.underlying5
  a5 := Tryz.isAgg5
  z5 := Tryz.sizeOf5
  v5 := Tryz.zeroValue5
  infoByte := by kernel_rfl
  cellsByte := by kernel_rfl
  sizeByte := by kernel_rfl
  neB5 := by decide }
open Go.RowKit Go.Lib in
theorem Tryz.strings_ReplaceAll (s old new : ByteArray) (m : Int) (w : World) (hs : s.size < 4294967281) (hm : w.cell? ⟨0, 0, none⟩ = some (.int .i64 m)) (h1 : 1 ≤ old.size) (hlen : s.size + Lib.countB s old * new.size ≤ 140737488355328) :
    Calls Tryz.prog 98 #[.string s, .string old, .string new] w fun e w' =>
      e = .returned (.string ⟨(Lib.replaceAll s.data.toList old.data.toList new.data.toList).toArray⟩) ∧ Below w.heap.size w w' := Any.strings_ReplaceAll Tryz.lays155 Tryz.Builder_Extra_155 s old new m w hs hm h1 hlen
def Tryz.laysM154_ren : Go.Shelf.Ren := ⟨fun | 154 => 150 | 138 => 177 | 165 => 99 | 143 => 178 | 166 => 100 | 197 => 179 | 169 => 101 | 195 => 193 | 218 => 194 | 240 => 151 | 241 => 152 | 219 => 195 | 260 => 196 | 276 => 180 | 277 => 181 | 217 => 174 | 225 => 203 | 224 => 204 | 267 => 205 | 266 => 188 | 314 => 209 | n => n, fun | 9 => 9 | 3 => 3 | 4 => 4 | 72 => 124 | 0 => 0 | 76 => 127 | 105 => 169 | 21 => 21 | 5 => 5 | 70 => 121 | 20 => 20 | 37 => 122 | 75 => 126 | 127 => 157 | 164 => 171 | 46 => 190 | 119 => 192 | 139 => 195 | 138 => 194 | 146 => 197 | 51 => 187 | 80 => 129 | n => n, fun | 1 => 0 | 3 => 2 | 4 => 3 | n => n⟩
theorem Tryz.laysM154 : Go.Proofs.LaysM.n154 Tryz.prog Tryz.laysM154_ren := {
  mixed := by kernel_rfl
  f138 := Tryz.func177.trans (congrArg some (by kernel_rfl))
  f143 := Tryz.func178.trans (congrArg some (by kernel_rfl))
  f154 := Tryz.func150.trans (congrArg some (by kernel_rfl))
  f165 := Tryz.func99.trans (congrArg some (by kernel_rfl))
  f166 := Tryz.func100.trans (congrArg some (by kernel_rfl))
  f169 := Tryz.func101.trans (congrArg some (by kernel_rfl))
  f195 := Tryz.func193.trans (congrArg some (by kernel_rfl))
  f197 := Tryz.func179.trans (congrArg some (by kernel_rfl))
  f217 := Tryz.func174.trans (congrArg some (by kernel_rfl))
  f218 := Tryz.func194.trans (congrArg some (by kernel_rfl))
  f219 := Tryz.func195.trans (congrArg some (by kernel_rfl))
  f224 := Tryz.func204.trans (congrArg some (by kernel_rfl))
  f225 := Tryz.func203.trans (congrArg some (by kernel_rfl))
  f240 := Tryz.func151.trans (congrArg some (by kernel_rfl))
  f241 := Tryz.func152.trans (congrArg some (by kernel_rfl))
  f260 := Tryz.func196.trans (congrArg some (by kernel_rfl))
  f266 := Tryz.func188.trans (congrArg some (by kernel_rfl))
  f267 := Tryz.func205.trans (congrArg some (by kernel_rfl))
  f276 := Tryz.func180.trans (congrArg some (by kernel_rfl))
  f277 := Tryz.func181.trans (congrArg some (by kernel_rfl))
  f314 := Tryz.func209.trans (congrArg some (by kernel_rfl))
  t0 := Tryz.underlying0
  a0 := Tryz.isAgg0
  z0 := Tryz.sizeOf0
  v0 := Tryz.zeroValue0
  t3 := Tryz.underlying3
  a3 := Tryz.isAgg3
  z3 := Tryz.sizeOf3
  v3 := Tryz.zeroValue3
  t4 := Tryz.underlying4
  a4 := Tryz.isAgg4
  z4 := Tryz.sizeOf4
  v4 := Tryz.zeroValue4
  t5 := Tryz.underlying5
  a5 := Tryz.isAgg5
  z5 := Tryz.sizeOf5
  v5 := Tryz.zeroValue5
  t9 := Tryz.underlying9
  a9 := Tryz.isAgg9
  z9 := Tryz.sizeOf9
  v9 := Tryz.zeroValue9
  t20 := Tryz.underlying20
  a20 := Tryz.isAgg20
  z20 := Tryz.sizeOf20
  v20 := Tryz.zeroValue20
  t21 := Tryz.underlying21
  a21 := Tryz.isAgg21
  z21 := Tryz.sizeOf21
  v21 := Tryz.zeroValue21
  t37 := Tryz.underlying122
  a37 := Tryz.isAgg122
  z37 := Tryz.sizeOf122
  v37 := Tryz.zeroValue122
  t46 := Tryz.underlying190
  a46 := Tryz.isAgg190
  z46 := Tryz.sizeOf190
  v46 := Tryz.zeroValue190
  t51 := Tryz.underlying187
  a51 := Tryz.isAgg187
  z51 := Tryz.sizeOf187
  v51 := Tryz.zeroValue187
  t70 := Tryz.underlying121
  a70 := Tryz.isAgg121
  z70 := Tryz.sizeOf121
  v70 := Tryz.zeroValue121
  t72 := Tryz.underlying124
  a72 := Tryz.isAgg124
  z72 := Tryz.sizeOf124
  v72 := Tryz.zeroValue124
  t75 := Tryz.underlying126
  a75 := Tryz.isAgg126
  z75 := Tryz.sizeOf126
  v75 := Tryz.zeroValue126
  t76 := Tryz.underlying127
  a76 := Tryz.isAgg127
  z76 := Tryz.sizeOf127
  v76 := Tryz.zeroValue127
  t105 := Tryz.underlying169
  a105 := Tryz.isAgg169
  z105 := Tryz.sizeOf169
  v105 := Tryz.zeroValue169
  t119 := Tryz.underlying192
  a119 := Tryz.isAgg192
  z119 := Tryz.sizeOf192
  t127 := Tryz.underlying157
  a127 := Tryz.isAgg157
  z127 := Tryz.sizeOf157
  v127 := Tryz.zeroValue157
  t138 := Tryz.underlying194
  a138 := Tryz.isAgg194
  z138 := Tryz.sizeOf194
  v138 := Tryz.zeroValue194
  t139 := Tryz.underlying195
  a139 := Tryz.isAgg195
  z139 := Tryz.sizeOf195
  v139 := Tryz.zeroValue195
  t146 := Tryz.underlying197
  a146 := Tryz.isAgg197
  z146 := Tryz.sizeOf197
  v146 := Tryz.zeroValue197
  t164 := Tryz.underlying171
  a164 := Tryz.isAgg171
  z164 := Tryz.sizeOf171
  v164 := Tryz.zeroValue171
  g1 := by kernel_rfl
  g3 := by kernel_rfl
  g4 := by kernel_rfl
  t80 := Tryz.underlying129
  a80 := Tryz.isAgg129
  z80 := Tryz.sizeOf129
  v80 := Tryz.zeroValue129
  i0 := by kernel_rfl
  i3 := by kernel_rfl
  i4 := by kernel_rfl
  i5 := by kernel_rfl
  i9 := by kernel_rfl
  i20 := by kernel_rfl
  i21 := by kernel_rfl
  i37 := by kernel_rfl
  i46 := by kernel_rfl
  i51 := by kernel_rfl
  i70 := by kernel_rfl
  i72 := by kernel_rfl
  i75 := by kernel_rfl
  i76 := by kernel_rfl
  i80 := by kernel_rfl
  i105 := by kernel_rfl
  i127 := by kernel_rfl
  i138 := by kernel_rfl
  i139 := by kernel_rfl
  i146 := by kernel_rfl
  i164 := by kernel_rfl
  m1 := by kernel_rfl
  s1_3 := fun w h => Go.Proofs.cell_of_shapedOpen_int (zero := #[.int .i64 0]) (t := 3) h (of_decide_eq_true (by kernel_rfl)) (by kernel_rfl) rfl (by kernel_rfl) (by kernel_rfl) Tryz.underlying3
  m3 := by kernel_rfl
  m4 := by kernel_rfl }
theorem Tryz.Builder_Extra_M154 : Builder.Extra Tryz.prog Tryz.laysM154_ren := {
  sizeBuilder := by kernel_rfl
  liesBuilder := by kernel_rfl
  t5 := Tryz.underlying5
  a5 := Tryz.isAgg5
  z5 := Tryz.sizeOf5
  v5 := Tryz.zeroValue5
  infoByte := by kernel_rfl
  cellsByte := by kernel_rfl
  sizeByte := by kernel_rfl
  neB5 := by decide }
open Go.RowKit Go.Lib in
theorem Tryz.strings_Replace_shaped (s old new : ByteArray) (n : Int) (w : World) (h : w.ShapedOpen Tryz.prog) (hs : s.size < 4294967281) (h1 : 1 ≤ old.size) (hlen : s.size + Lib.countB s old * new.size ≤ 140737488355328) :
    Calls Tryz.prog 150 #[.string s, .string old, .string new, .int .i64 n] w fun e w' =>
      e = .returned (.string ⟨(Lib.replace s.data.toList old.data.toList new.data.toList n).toArray⟩) ∧ Below w.heap.size w w' := Any.strings_Replace_shaped Tryz.laysM154 Tryz.Builder_Extra_M154 s old new n w h hs h1 hlen
def Tryz.laysM155_ren : Go.Shelf.Ren := ⟨fun | 155 => 98 | 154 => 150 | 138 => 177 | 165 => 99 | 143 => 178 | 166 => 100 | 197 => 179 | 169 => 101 | 195 => 193 | 218 => 194 | 240 => 151 | 241 => 152 | 219 => 195 | 260 => 196 | 276 => 180 | 277 => 181 | 217 => 174 | 225 => 203 | 224 => 204 | 267 => 205 | 266 => 188 | 314 => 209 | n => n, fun | 9 => 9 | 3 => 3 | 4 => 4 | 72 => 124 | 0 => 0 | 76 => 127 | 105 => 169 | 21 => 21 | 5 => 5 | 70 => 121 | 20 => 20 | 37 => 122 | 75 => 126 | 127 => 157 | 164 => 171 | 46 => 190 | 119 => 192 | 139 => 195 | 138 => 194 | 146 => 197 | 51 => 187 | 80 => 129 | n => n, fun | 1 => 0 | 3 => 2 | 4 => 3 | n => n⟩
theorem Tryz.laysM155 : Go.Proofs.LaysM.n155 Tryz.prog Tryz.laysM155_ren := {
  mixed := by kernel_rfl
  f138 := Tryz.func177.trans (congrArg some (by kernel_rfl))
  f143 := Tryz.func178.trans (congrArg some (by kernel_rfl))
  f154 := Tryz.func150.trans (congrArg some (by kernel_rfl))
  f155 := Tryz.func98.trans (congrArg some (by kernel_rfl))
  f165 := Tryz.func99.trans (congrArg some (by kernel_rfl))
  f166 := Tryz.func100.trans (congrArg some (by kernel_rfl))
  f169 := Tryz.func101.trans (congrArg some (by kernel_rfl))
  f195 := Tryz.func193.trans (congrArg some (by kernel_rfl))
  f197 := Tryz.func179.trans (congrArg some (by kernel_rfl))
  f217 := Tryz.func174.trans (congrArg some (by kernel_rfl))
  f218 := Tryz.func194.trans (congrArg some (by kernel_rfl))
  f219 := Tryz.func195.trans (congrArg some (by kernel_rfl))
  f224 := Tryz.func204.trans (congrArg some (by kernel_rfl))
  f225 := Tryz.func203.trans (congrArg some (by kernel_rfl))
  f240 := Tryz.func151.trans (congrArg some (by kernel_rfl))
  f241 := Tryz.func152.trans (congrArg some (by kernel_rfl))
  f260 := Tryz.func196.trans (congrArg some (by kernel_rfl))
  f266 := Tryz.func188.trans (congrArg some (by kernel_rfl))
  f267 := Tryz.func205.trans (congrArg some (by kernel_rfl))
  f276 := Tryz.func180.trans (congrArg some (by kernel_rfl))
  f277 := Tryz.func181.trans (congrArg some (by kernel_rfl))
  f314 := Tryz.func209.trans (congrArg some (by kernel_rfl))
  t0 := Tryz.underlying0
  a0 := Tryz.isAgg0
  z0 := Tryz.sizeOf0
  v0 := Tryz.zeroValue0
  t3 := Tryz.underlying3
  a3 := Tryz.isAgg3
  z3 := Tryz.sizeOf3
  v3 := Tryz.zeroValue3
  t4 := Tryz.underlying4
  a4 := Tryz.isAgg4
  z4 := Tryz.sizeOf4
  v4 := Tryz.zeroValue4
  t5 := Tryz.underlying5
  a5 := Tryz.isAgg5
  z5 := Tryz.sizeOf5
  v5 := Tryz.zeroValue5
  t9 := Tryz.underlying9
  a9 := Tryz.isAgg9
  z9 := Tryz.sizeOf9
  v9 := Tryz.zeroValue9
  t20 := Tryz.underlying20
  a20 := Tryz.isAgg20
  z20 := Tryz.sizeOf20
  v20 := Tryz.zeroValue20
  t21 := Tryz.underlying21
  a21 := Tryz.isAgg21
  z21 := Tryz.sizeOf21
  v21 := Tryz.zeroValue21
  t37 := Tryz.underlying122
  a37 := Tryz.isAgg122
  z37 := Tryz.sizeOf122
  v37 := Tryz.zeroValue122
  t46 := Tryz.underlying190
  a46 := Tryz.isAgg190
  z46 := Tryz.sizeOf190
  v46 := Tryz.zeroValue190
  t51 := Tryz.underlying187
  a51 := Tryz.isAgg187
  z51 := Tryz.sizeOf187
  v51 := Tryz.zeroValue187
  t70 := Tryz.underlying121
  a70 := Tryz.isAgg121
  z70 := Tryz.sizeOf121
  v70 := Tryz.zeroValue121
  t72 := Tryz.underlying124
  a72 := Tryz.isAgg124
  z72 := Tryz.sizeOf124
  v72 := Tryz.zeroValue124
  t75 := Tryz.underlying126
  a75 := Tryz.isAgg126
  z75 := Tryz.sizeOf126
  v75 := Tryz.zeroValue126
  t76 := Tryz.underlying127
  a76 := Tryz.isAgg127
  z76 := Tryz.sizeOf127
  v76 := Tryz.zeroValue127
  t105 := Tryz.underlying169
  a105 := Tryz.isAgg169
  z105 := Tryz.sizeOf169
  v105 := Tryz.zeroValue169
  t119 := Tryz.underlying192
  a119 := Tryz.isAgg192
  z119 := Tryz.sizeOf192
  t127 := Tryz.underlying157
  a127 := Tryz.isAgg157
  z127 := Tryz.sizeOf157
  v127 := Tryz.zeroValue157
  t138 := Tryz.underlying194
  a138 := Tryz.isAgg194
  z138 := Tryz.sizeOf194
  v138 := Tryz.zeroValue194
  t139 := Tryz.underlying195
  a139 := Tryz.isAgg195
  z139 := Tryz.sizeOf195
  v139 := Tryz.zeroValue195
  t146 := Tryz.underlying197
  a146 := Tryz.isAgg197
  z146 := Tryz.sizeOf197
  v146 := Tryz.zeroValue197
  t164 := Tryz.underlying171
  a164 := Tryz.isAgg171
  z164 := Tryz.sizeOf171
  v164 := Tryz.zeroValue171
  g1 := by kernel_rfl
  g3 := by kernel_rfl
  g4 := by kernel_rfl
  t80 := Tryz.underlying129
  a80 := Tryz.isAgg129
  z80 := Tryz.sizeOf129
  v80 := Tryz.zeroValue129
  i0 := by kernel_rfl
  i3 := by kernel_rfl
  i4 := by kernel_rfl
  i5 := by kernel_rfl
  i9 := by kernel_rfl
  i20 := by kernel_rfl
  i21 := by kernel_rfl
  i37 := by kernel_rfl
  i46 := by kernel_rfl
  i51 := by kernel_rfl
  i70 := by kernel_rfl
  i72 := by kernel_rfl
  i75 := by kernel_rfl
  i76 := by kernel_rfl
  i80 := by kernel_rfl
  i105 := by kernel_rfl
  i127 := by kernel_rfl
  i138 := by kernel_rfl
  i139 := by kernel_rfl
  i146 := by kernel_rfl
  i164 := by kernel_rfl
  m1 := by kernel_rfl
  s1_3 := fun w h => Go.Proofs.cell_of_shapedOpen_int (zero := #[.int .i64 0]) (t := 3) h (of_decide_eq_true (by kernel_rfl)) (by kernel_rfl) rfl (by kernel_rfl) (by kernel_rfl) Tryz.underlying3
  m3 := by kernel_rfl
  m4 := by kernel_rfl }
theorem Tryz.Builder_Extra_M155 : Builder.Extra Tryz.prog Tryz.laysM155_ren := {
  sizeBuilder := by kernel_rfl
  liesBuilder := by kernel_rfl
  t5 := Tryz.underlying5
  a5 := Tryz.isAgg5
  z5 := Tryz.sizeOf5
  v5 := Tryz.zeroValue5
  infoByte := by kernel_rfl
  cellsByte := by kernel_rfl
  sizeByte := by kernel_rfl
  neB5 := by decide }
open Go.RowKit Go.Lib in
theorem Tryz.strings_ReplaceAll_shaped (s old new : ByteArray) (w : World) (h : w.ShapedOpen Tryz.prog) (hs : s.size < 4294967281) (h1 : 1 ≤ old.size) (hlen : s.size + Lib.countB s old * new.size ≤ 140737488355328) :
    Calls Tryz.prog 98 #[.string s, .string old, .string new] w fun e w' =>
      e = .returned (.string ⟨(Lib.replaceAll s.data.toList old.data.toList new.data.toList).toArray⟩) ∧ Below w.heap.size w w' := Any.strings_ReplaceAll_shaped Tryz.laysM155 Tryz.Builder_Extra_M155 s old new w h hs h1 hlen
def Tryz.lays197_ren : Go.Shelf.Ren := ⟨fun | 197 => 179 | 260 => 196 | n => n, fun | 9 => 9 | 21 => 21 | 3 => 3 | 4 => 4 | 5 => 5 | 105 => 169 | 119 => 192 | 0 => 0 | 46 => 190 | 139 => 195 | 138 => 194 | n => n, fun | 3 => 2 | 4 => 3 | n => n⟩
theorem Tryz.lays197 : Go.Proofs.Lays.n197 Tryz.prog Tryz.lays197_ren := {
  mixed := by kernel_rfl
  f197 := Tryz.func179.trans (congrArg some (by kernel_rfl))
  f260 := Tryz.func196.trans (congrArg some (by kernel_rfl))
  t0 := Tryz.underlying0
  a0 := Tryz.isAgg0
  z0 := Tryz.sizeOf0
  v0 := Tryz.zeroValue0
  t3 := Tryz.underlying3
  a3 := Tryz.isAgg3
  z3 := Tryz.sizeOf3
  v3 := Tryz.zeroValue3
  t4 := Tryz.underlying4
  a4 := Tryz.isAgg4
  z4 := Tryz.sizeOf4
  v4 := Tryz.zeroValue4
  t5 := Tryz.underlying5
  a5 := Tryz.isAgg5
  z5 := Tryz.sizeOf5
  v5 := Tryz.zeroValue5
  t9 := Tryz.underlying9
  a9 := Tryz.isAgg9
  z9 := Tryz.sizeOf9
  v9 := Tryz.zeroValue9
  t21 := Tryz.underlying21
  a21 := Tryz.isAgg21
  z21 := Tryz.sizeOf21
  v21 := Tryz.zeroValue21
  t46 := Tryz.underlying190
  a46 := Tryz.isAgg190
  z46 := Tryz.sizeOf190
  v46 := Tryz.zeroValue190
  t105 := Tryz.underlying169
  a105 := Tryz.isAgg169
  z105 := Tryz.sizeOf169
  v105 := Tryz.zeroValue169
  t119 := Tryz.underlying192
  a119 := Tryz.isAgg192
  z119 := Tryz.sizeOf192
  t138 := Tryz.underlying194
  a138 := Tryz.isAgg194
  z138 := Tryz.sizeOf194
  v138 := Tryz.zeroValue194
  t139 := Tryz.underlying195
  a139 := Tryz.isAgg195
  z139 := Tryz.sizeOf195
  v139 := Tryz.zeroValue195
  g3 := by kernel_rfl
  g4 := by kernel_rfl }
open Go.RowKit Go.Lib in
theorem Tryz.utf8_DecodeRuneInString_ascii (s : ByteArray) (x : UInt8) (w : World) (h0 : s.data.toList[0]? = some x) (hx : x.toNat < 128) :
    Calls Tryz.prog 179 #[.string s] w fun e w' => e = .returned (.tuple #[.int .i32 x.toNat, .int .i64 1]) ∧ w' = w := Any.utf8_DecodeRuneInString_ascii Tryz.lays197 s x w h0 hx
open Go.RowKit Go.Lib in
theorem Tryz.utf8_RuneCountInString_ascii (s : ByteArray) (w : World) (hs : s.size < 4294967281) (hascii : ∀ (j : Nat) b, s.data.toList[j]? = some b → b.toNat < 128) :
    Calls Tryz.prog 193 #[.string s] w fun e w' => e = .returned (.int .i64 s.size) ∧ w' = w.iter s s.size := Any.utf8_RuneCountInString_ascii Tryz.lays195 s w hs hascii
def Tryz.lays260_ren : Go.Shelf.Ren := ⟨fun | 260 => 196 | n => n, fun | 9 => 9 | 21 => 21 | 3 => 3 | 4 => 4 | 5 => 5 | 119 => 192 | 0 => 0 | 46 => 190 | 139 => 195 | 138 => 194 | n => n, fun | 3 => 2 | 4 => 3 | n => n⟩
theorem Tryz.lays260 : Go.Proofs.Lays.n260 Tryz.prog Tryz.lays260_ren := {
  mixed := by kernel_rfl
  f260 := Tryz.func196.trans (congrArg some (by kernel_rfl))
  t0 := Tryz.underlying0
  a0 := Tryz.isAgg0
  z0 := Tryz.sizeOf0
  v0 := Tryz.zeroValue0
  t3 := Tryz.underlying3
  a3 := Tryz.isAgg3
  z3 := Tryz.sizeOf3
  v3 := Tryz.zeroValue3
  t4 := Tryz.underlying4
  a4 := Tryz.isAgg4
  z4 := Tryz.sizeOf4
  v4 := Tryz.zeroValue4
  t5 := Tryz.underlying5
  a5 := Tryz.isAgg5
  z5 := Tryz.sizeOf5
  v5 := Tryz.zeroValue5
  t9 := Tryz.underlying9
  a9 := Tryz.isAgg9
  z9 := Tryz.sizeOf9
  v9 := Tryz.zeroValue9
  t21 := Tryz.underlying21
  a21 := Tryz.isAgg21
  z21 := Tryz.sizeOf21
  v21 := Tryz.zeroValue21
  t46 := Tryz.underlying190
  a46 := Tryz.isAgg190
  z46 := Tryz.sizeOf190
  v46 := Tryz.zeroValue190
  t119 := Tryz.underlying192
  a119 := Tryz.isAgg192
  z119 := Tryz.sizeOf192
  t138 := Tryz.underlying194
  a138 := Tryz.isAgg194
  z138 := Tryz.sizeOf194
  v138 := Tryz.zeroValue194
  t139 := Tryz.underlying195
  a139 := Tryz.isAgg195
  z139 := Tryz.sizeOf195
  v139 := Tryz.zeroValue195
  g3 := by kernel_rfl
  g4 := by kernel_rfl }
open Go.RowKit Go.Lib in
theorem Tryz.utf8_decodeRuneInStringSlow (s : ByteArray) (w : World) (hT : Lib.Utf8Tabs 2 3 w) :
    Calls Tryz.prog 196 #[.string s] w fun e w' => e = .returned (.tuple #[.int .i32 (Lib.decodeGo s).1, .int .i64 (Lib.decodeGo s).2]) ∧ Below w.heap.size w w' := Any.utf8_decodeRuneInStringSlow Tryz.lays260 s w hT
open Go.RowKit Go.Lib in
theorem Tryz.utf8_DecodeRuneInString (s : ByteArray) (w : World) (hT : Lib.Utf8Tabs 2 3 w) :
    Calls Tryz.prog 179 #[.string s] w fun e w' => e = .returned (.tuple #[.int .i32 (Lib.decodeGo s).1, .int .i64 (Lib.decodeGo s).2]) ∧ Below w.heap.size w w' := Any.utf8_DecodeRuneInString Tryz.lays197 s w hT
def Tryz.lays109_ren : Go.Shelf.Ren := ⟨fun | 109 => 175 | n => n, fun | 31 => 78 | 9 => 9 | 3 => 3 | 0 => 0 | 4 => 4 | n => n, fun | n => n⟩
theorem Tryz.lays109 : Go.Proofs.Lays.n109 Tryz.prog Tryz.lays109_ren := {
  mixed := by kernel_rfl
  f109 := Tryz.func175.trans (congrArg some (by kernel_rfl))
  t0 := Tryz.underlying0
  a0 := Tryz.isAgg0
  z0 := Tryz.sizeOf0
  v0 := Tryz.zeroValue0
  t3 := Tryz.underlying3
  a3 := Tryz.isAgg3
  z3 := Tryz.sizeOf3
  v3 := Tryz.zeroValue3
  t4 := Tryz.underlying4
  a4 := Tryz.isAgg4
  z4 := Tryz.sizeOf4
  v4 := Tryz.zeroValue4
  t9 := Tryz.underlying9
  a9 := Tryz.isAgg9
  z9 := Tryz.sizeOf9
  v9 := Tryz.zeroValue9
  t31 := Tryz.underlying78
  a31 := Tryz.isAgg78
  z31 := Tryz.sizeOf78
  v31 := Tryz.zeroValue78 }
open Go.Lib in
theorem Tryz.slices_Index_string (b off n c : Nat) (zs : List ByteArray) (x : ByteArray) (w : World) (hz : n ≤ zs.length) (hbig : n ≤ 9223372036854775807) (hc : ∀ j, j < zs.length → w.cell? ⟨b, off + j, none⟩ = some (.string (zs.getD j ByteArray.empty))) :
    Calls Tryz.prog 175 #[.slice (some ⟨b, off, none⟩) n c, .string x] w fun e w' => e = .returned (.int .i64 (Lib.idxOfS (zs.take n) x)) ∧ w' = w := Any.slices_Index_string Tryz.lays109 b off n c zs x w hz hbig hc
open Go.Lib in
theorem Tryz.slices_Index_string_empty (a : Option Addr) (c : Nat) (x : ByteArray) (w : World) :
    Calls Tryz.prog 175 #[.slice a 0 c, .string x] w fun e w' => e = .returned (.int .i64 (Lib.idxOfS [] x)) ∧ w' = w := Any.slices_Index_string_empty Tryz.lays109 a c x w
def Tryz.lays110_ren : Go.Shelf.Ren := ⟨fun | 110 => 146 | 109 => 175 | n => n, fun | 31 => 78 | 9 => 9 | 4 => 4 | 3 => 3 | 0 => 0 | n => n, fun | n => n⟩
theorem Tryz.lays110 : Go.Proofs.Lays.n110 Tryz.prog Tryz.lays110_ren := {
  mixed := by kernel_rfl
  f109 := Tryz.func175.trans (congrArg some (by kernel_rfl))
  f110 := Tryz.func146.trans (congrArg some (by kernel_rfl))
  t0 := Tryz.underlying0
  a0 := Tryz.isAgg0
  z0 := Tryz.sizeOf0
  v0 := Tryz.zeroValue0
  t3 := Tryz.underlying3
  a3 := Tryz.isAgg3
  z3 := Tryz.sizeOf3
  v3 := Tryz.zeroValue3
  t4 := Tryz.underlying4
  a4 := Tryz.isAgg4
  z4 := Tryz.sizeOf4
  v4 := Tryz.zeroValue4
  t9 := Tryz.underlying9
  a9 := Tryz.isAgg9
  z9 := Tryz.sizeOf9
  v9 := Tryz.zeroValue9
  t31 := Tryz.underlying78
  a31 := Tryz.isAgg78
  z31 := Tryz.sizeOf78
  v31 := Tryz.zeroValue78 }
open Go.Lib in
theorem Tryz.slices_Contains_string (b off n c : Nat) (zs : List ByteArray) (x : ByteArray) (w : World) (hz : n ≤ zs.length) (hbig : n ≤ 9223372036854775807) (hc : ∀ j, j < zs.length → w.cell? ⟨b, off + j, none⟩ = some (.string (zs.getD j ByteArray.empty))) :
    Calls Tryz.prog 146 #[.slice (some ⟨b, off, none⟩) n c, .string x] w fun e w' => e = .returned (.bool (Lib.containsS (zs.take n) x)) ∧ w' = w := Any.slices_Contains_string Tryz.lays110 b off n c zs x w hz hbig hc
open Go.Lib in
theorem Tryz.slices_Contains_string_empty (a : Option Addr) (c : Nat) (x : ByteArray) (w : World) :
    Calls Tryz.prog 146 #[.slice a 0 c, .string x] w fun e w' => e = .returned (.bool false) ∧ w' = w := Any.slices_Contains_string_empty Tryz.lays110 a c x w
end Go.Proofs
end
section
/- strings.Builder at the machine: what writes to it. -/
set_option linter.unusedVariables false
set_option linter.unusedSimpArgs false
namespace Go.Proofs.YtpepmfhemjeocaaGreatDoor
open Go Go.Proofs Go.RowKit

theorem sb_size : (Tryz.prog.info? 124).map (·.size) = some 2 := by kernel_rfl
theorem sb_lies : liesAt Tryz.prog Tryz.prog.depth 124 (2 / Tryz.prog.cellsOf 124) 0 124 1 = true := by kernel_rfl
theorem byte_info : (Tryz.prog.info? 5).map (fun i => (i.zero, i.size, i.bytes)) = some (some (.int .u8 0), 1, 1) := by kernel_rfl

set_option maxHeartbeats 1000000 in
set_option maxRecDepth 100000 in
theorem sb_check_used (b : Nat) (w : World) (h0 : w.cell? ⟨b, 0, none⟩ = some (.pointer (some ⟨b, 0, none⟩))) :
    Calls Tryz.prog 151 #[.pointer (some ⟨b, 0, none⟩)] w fun e w' => e = .returned (.tuple #[]) ∧ w' = w := by
  obtain ⟨j, hj, _⟩ := Option.map_eq_some_iff.1 sb_size
  go_enter Tryz.func151, Tryz.ntmps151
  go_wp2
  rw [Lib.run_neq_ptr_same w _ Tryz.underlying121 hj]
  go_wp2
  go_end0
  exact ⟨rfl, rfl⟩

set_option maxHeartbeats 1000000 in
set_option maxRecDepth 100000 in
theorem sb_check_fresh (b : Nat) (w : World) (h0 : w.cell? ⟨b, 0, none⟩ = some (.pointer none)) (hsh : w.shape? b = some (124, 2)) (hfz : w.frozen? ⟨b, 0, none⟩ = false) :
    Calls Tryz.prog 151 #[.pointer (some ⟨b, 0, none⟩)] w fun e w' => e = .returned (.tuple #[]) ∧ w' = w.setCell ⟨b, 0, none⟩ (.pointer (some ⟨b, 0, none⟩)) := by
  obtain ⟨j, hj, hjs⟩ := Option.map_eq_some_iff.1 sb_size
  go_enter Tryz.func151, Tryz.ntmps151
  go_wp2
  rw [Lib.run_to_unsafe w ⟨b, 0, none⟩ Tryz.underlying121 Tryz.underlying171 hj (by rw [hjs]; decide) hsh (Nat.zero_lt_succ 1)]
  simp only [Result.andThen]
  rw [Oper.upon_value]
  go_wp2
  rw [run_callFunc_extern Tryz.func180 (by kernel_rfl) (by kernel_rfl) (by kernel_rfl) (e := Extern.AbiNoEscape.same) (by kernel_rfl)]
  rw [Lib.run_noEscape]
  simp only [Result.andThen]
  rw [Oper.upon_value]
  go_wp2
  rw [Lib.run_from_unsafe w ⟨b, 0, none⟩ Tryz.underlying171 Tryz.underlying121 hj hsh sb_lies]
  simp only [Result.andThen]
  rw [Oper.upon_value]
  go_wp2
  go_end0
  exact ⟨rfl, rfl⟩

theorem sb_check (B b : Nat) (bs : List Value) (w : World) (h : Lib.IsBuilderF 124 5 B b bs w) :
    Calls Tryz.prog 151 #[.pointer (some ⟨b, 0, none⟩)] w fun e w' => e = .returned (.tuple #[]) ∧ (Lib.BuilderAtF 124 5 B b (.pointer (some ⟨b, 0, none⟩)) bs w' ∧ Below B w w') := by
  rcases h with h | h
  · refine (sb_check_fresh b w h.cell0 h.shape h.frozen0).mono ?_
    rintro e w' ⟨rfl, rfl⟩
    exact ⟨rfl, h.used _, (Below.refl B w).setCell (p := ⟨b, 0, none⟩) h.1 _⟩
  · refine (sb_check_used b w h.cell0).mono ?_
    rintro e w' ⟨rfl, rfl⟩
    exact ⟨rfl, h, Below.refl B _⟩

set_option maxHeartbeats 2000000 in
set_option maxRecDepth 100000 in
theorem sb_byte (B b : Nat) (bs : List Value) (c : Int) (w : World) (h : Lib.IsBuilderF 124 5 B b bs w) (hlen : bs.length + 1 ≤ 140737488355328) (hBw : B ≤ w.heap.size) :
    Calls Tryz.prog 144 #[.pointer (some ⟨b, 0, none⟩), .int .u8 c] w fun e w' => e = .returned .nilIface ∧ (Lib.BuilderAtF 124 5 B b (.pointer (some ⟨b, 0, none⟩)) (bs ++ [.int .u8 c]) w' ∧ Below B w w') := by
  obtain ⟨i0, hi, hz0, hz1, hz2⟩ := info_parts byte_info
  go_enter Tryz.func144, Tryz.ntmps144
  go_wp2_with (go_at_call 151; refine (sb_check B b bs _ h).mono ?_)
  rintro e w1 ⟨rfl, h1, hb1⟩
  obtain ⟨hB, v, hbk, hown, hne⟩ := h1
  have c0 : w1.cell? ⟨b, 0, none⟩ = some (.pointer (some ⟨b, 0, none⟩)) := by rw [Lib.cell_of_heap hbk]; rfl
  have c1 : w1.cell? ⟨b, 1, none⟩ = some v := by rw [Lib.cell_of_heap hbk]; rfl
  go_wp2_with (at_builtin; refine wpList_append_ownF _ rfl _ _ 122 rfl B 5 i0 (.int .u8 0) 1 1 Tryz.underlying122 hi hz0 hz1 hz2 rfl (by decide) _ _ _ rfl (hown.alloc _) ⟨w1.heap.size, 0, none⟩ 1 1 [.int .u8 c] rfl rfl ?c1 ?c2 ?c3 ?c4 ?c5 ?_)
  case c1 =>
    intro j u hj
    match j, hj with
    | 0, hj => simp at hj; subst hj; simp [Addr.add]
  case c2 => intro u hu; simp at hu; subst hu; rfl
  case c3 => unfold maxLen; omega
  case c4 => omega
  case c5 => have := hb1.size; simp; omega
  intro v' w2 hown' hgrow _
  have hlt : b < w1.heap.size := by
    rcases Nat.lt_or_ge b w1.heap.size with h' | h'
    · exact h'
    · simp [Array.getElem?_eq_none h'] at hbk
  have hb2 : w2.heap[b]? = some (.cells #[.pointer (some ⟨b, 0, none⟩), v] 124 (0, 0)) := by
    rw [hgrow.block b (by simp; omega) (fun e => hne e.symm), Lib.alloc_old w1 _ b hlt]
    exact hbk
  have d0 : w2.cell? ⟨b, 0, none⟩ = some (.pointer (some ⟨b, 0, none⟩)) := by rw [Lib.cell_of_heap hb2]; rfl
  have d1 : w2.cell? ⟨b, 1, none⟩ = some v := by rw [Lib.cell_of_heap hb2]; rfl
  have f1 : w2.frozen? ⟨b, 1, none⟩ = false := Lib.frozen_of_heap hb2 1
  obtain ⟨g, cap, rfl⟩ : ∃ g cap, v' = .slice (some ⟨g, 0, none⟩) (bs.length + 1) cap := by
    rcases hown'.2 with ⟨_, h0⟩ | ⟨g, cap, cur, fz, hv, _⟩
    · omega
    · exact ⟨g, cap, hv⟩
  go_wp2
  go_ret
  refine ⟨rfl, ?_, ?_⟩
  · exact Lib.BuilderAtF.put (T := 124) (e := 5) hB hb2 (bs' := bs ++ [.int .u8 c]) (by simpa using hown') (by decide)
  · exact ((hb1.alloc (by have := hb1.size; omega) _).grown hgrow (by have := hb1.size; simp; omega) (fun k hk => (hown.lt k hk).1)).setCell (p := ⟨b, 1, none⟩) hB _

set_option maxHeartbeats 2000000 in
set_option maxRecDepth 100000 in
theorem sb_string (B b : Nat) (bs : List Value) (s : ByteArray) (w : World) (h : Lib.IsBuilderF 124 5 B b bs w) (hlen : bs.length + s.size ≤ 140737488355328) (hBw : B ≤ w.heap.size) :
    Calls Tryz.prog 100 #[.pointer (some ⟨b, 0, none⟩), .string s] w fun e w' => e = .returned (.tuple #[.int .i64 s.size, .nilIface]) ∧ (Lib.BuilderAtF 124 5 B b (.pointer (some ⟨b, 0, none⟩)) (bs ++ Lib.strCells s) w' ∧ Below B w w') := by
  obtain ⟨i0, hi, hz0, hz1, hz2⟩ := info_parts byte_info
  go_enter Tryz.func100, Tryz.ntmps100
  go_wp2_with (go_at_call 151; refine (sb_check B b bs _ h).mono ?_)
  rintro e w1 ⟨rfl, h1, hb1⟩
  obtain ⟨hB, v, hbk, hown, hne⟩ := h1
  have c0 : w1.cell? ⟨b, 0, none⟩ = some (.pointer (some ⟨b, 0, none⟩)) := by rw [Lib.cell_of_heap hbk]; rfl
  have c1 : w1.cell? ⟨b, 1, none⟩ = some v := by rw [Lib.cell_of_heap hbk]; rfl
  go_wp2_with (at_builtin; refine Lib.wpList_append_own_stringF _ rfl _ _ 122 9 rfl B 5 i0 Tryz.underlying122 Tryz.underlying9 hi hz0 hz1 hz2 _ _ _ rfl hown s rfl ?c3 ?c4 ?c5 ?_)
  case c3 => unfold maxLen; omega
  case c4 => omega
  case c5 => have := hb1.size; omega
  intro v' w2 hown' hgrow _
  have hlt : b < w1.heap.size := by
    rcases Nat.lt_or_ge b w1.heap.size with h' | h'
    · exact h'
    · simp [Array.getElem?_eq_none h'] at hbk
  have hb2 : w2.heap[b]? = some (.cells #[.pointer (some ⟨b, 0, none⟩), v] 124 (0, 0)) := by
    rw [hgrow.block b hlt (fun e => hne e.symm)]
    exact hbk
  have d0 : w2.cell? ⟨b, 0, none⟩ = some (.pointer (some ⟨b, 0, none⟩)) := by rw [Lib.cell_of_heap hb2]; rfl
  have d1 : w2.cell? ⟨b, 1, none⟩ = some v := by rw [Lib.cell_of_heap hb2]; rfl
  have f1 : w2.frozen? ⟨b, 1, none⟩ = false := Lib.frozen_of_heap hb2 1
  obtain ⟨ao, n', cap, rfl⟩ : ∃ ao n' cap, v' = .slice ao n' cap := by
    rcases hown'.2 with ⟨hv, _⟩ | ⟨g, cap, cur, fz, hv, _⟩
    · exact ⟨_, _, _, hv⟩
    · exact ⟨_, _, _, hv⟩
  go_wp2
  go_ret2
  refine ⟨rfl, ?_, ?_⟩
  · exact Lib.BuilderAtF.put (T := 124) (e := 5) hB hb2 (bs' := bs ++ Lib.strCells s) (by simpa [Lib.strCells_length] using hown') (by decide)
  · exact (hb1.grown hgrow (by have := hb1.size; omega) (fun k hk => (hown.lt k hk).1)).setCell (p := ⟨b, 1, none⟩) hB _
end Go.Proofs.YtpepmfhemjeocaaGreatDoor
end
section
/- What the package's variables hold that are read: a table of powers of ten, a number. -/
namespace Go.Proofs.YtpepmfhemjeocaaGreatDoor
/-- So many blocks hold them. -/
def NG : Nat := 6
theorem gPow : Tryz.prog.globalNamed "internal/strconv.uint64pow10" = some 1 := by kernel_rfl
def TabFacts (w : World) : Prop := Lib.TabIs Tryz.prog w "internal/strconv.uint64pow10" .u64 Lib.pow10Tab ∧ ∃ m : Int, w.cell? ⟨0, 0, none⟩ = some (.int .i64 m)
theorem TabFacts.keep {w w' : World} (h : ∀ b, b < NG → w'.heap[b]? = w.heap[b]?) (t : TabFacts w) : TabFacts w' := by
  obtain ⟨t, m, hm⟩ := t
  refine ⟨?_, m, ?_⟩
  · unfold Lib.TabIs World.var? at t ⊢
    simp only [gPow, Option.bind_some] at t ⊢
    rw [h 1 (by decide)]
    exact t
  · unfold World.cell? at hm ⊢
    rw [h 0 (by decide)]
    exact hm
end Go.Proofs.YtpepmfhemjeocaaGreatDoor
end
section
/- Values of Go as trees, and what a value of the machine says of them: plain theorems on a world's blocks. Nothing of the program. -/
set_option linter.unusedVariables false
set_option linter.unusedSimpArgs false
namespace Go.Proofs.YtpepmfhemjeocaaGreatDoor

/-- How a slice stands to its array: nil; no more to be said; the one that may be appended to (object k). -/
inductive Tk where
  | nil | no | own (k : Nat)

/-- A value as a tree. 'ref r o': a pointer to cell o of variable r. 'elem x': a pointer to cells that never change and hold x. -/
inductive PV where
  | int (k : IntKind) (n : Int)
  | bool (b : Bool)
  | str (l : List UInt8)
  | list (sz : Nat) (xs : List PV) (t : Tk)
  | ref (r off : Nat)
  | elem (x : PV)
  | agg (cs : List PV)
  | tup (cs : List PV)
  | clo (fn : Fn) (first cap : List PV)
  | val (v : Value)

def PV.cells : PV → List PV
  | .agg cs => cs
  | x => [x]

def cellsOf (xs : List PV) : List PV := xs.flatMap PV.cells
@[simp] theorem cellsOf_nil : cellsOf [] = [] := rfl
theorem cellsOf_cons (x : PV) (xs : List PV) : cellsOf (x :: xs) = x.cells ++ cellsOf xs := by simp [cellsOf]
theorem cellsOf_append (xs ys : List PV) : cellsOf (xs ++ ys) = cellsOf xs ++ cellsOf ys := by simp [cellsOf]

/-- A value of one cell. -/
def PV.isCell : PV → Bool
  | .agg _ | .tup _ => false
  | .val v => v.oneCell'
  | _ => true

/-- The ghost of a call: the world at its begin, the blocks there of variables and of objects that it may write; what never changes; where its variables lie; where each object lay when it had n elements (block, capacity, cells of an element). -/
structure Gh where
  w0 : World
  pub : Nat → Prop
  pob : Nat → Prop
  dat : Nat → List Value
  ref : List Nat
  hist : Nat → Nat → Option (Nat × Nat × Nat)

mutual
inductive Rep (G : Gh) : PV → Value → Prop
  | int (k : IntKind) (n : Int) : Rep G (.int k n) (.int k n)
  | bool (b : Bool) : Rep G (.bool b) (.bool b)
  | str (l : List UInt8) : Rep G (.str l) (.string ⟨l.toArray⟩)
  | none (sz : Nat) (t : Tk) : Rep G (.list sz [] t) (.slice none 0 0)
  | list (sz : Nat) (xs : List PV) (t : Tk) (b o c : Nat) (vs : List Value) (ht : t ≠ .nil) (hc : xs.length ≤ c) (hs : ∀ x ∈ xs, x.cells.length = sz)
      (h1 : ∀ x ∈ cellsOf xs, x.isCell = true) (hv : Reps G (cellsOf xs) vs) (hd : vs <+: (G.dat b).drop o)
      (hk : ∀ k, t = .own k → o = 0 ∧ G.hist k xs.length = some (b, c, sz)) : Rep G (.list sz xs t) (.slice (some ⟨b, o, .none⟩) xs.length c)
  | ref (r b off : Nat) (h : G.ref[r]? = some b) : Rep G (.ref r off) (.pointer (some ⟨b, off, .none⟩))
  | elem (x : PV) (b o : Nat) (vs : List Value) (h1 : ∀ y ∈ x.cells, y.isCell = true) (hv : Reps G x.cells vs) (hd : vs <+: (G.dat b).drop o) : Rep G (.elem x) (.pointer (some ⟨b, o, .none⟩))
  | agg (cs : List PV) (vs : List Value) (h1 : ∀ x ∈ cs, x.isCell = true) (hv : Reps G cs vs) : Rep G (.agg cs) (.agg vs.toArray)
  | tup (cs : List PV) (vs : List Value) (hv : Reps G cs vs) : Rep G (.tup cs) (.tuple vs.toArray)
  | clo (fn : Fn) (fs cs : List PV) (us vs : List Value) (hu : Reps G fs us) (hv : Reps G cs vs) : Rep G (.clo fn fs cs) (.func fn us.toArray vs.toArray)
  | val (v : Value) : Rep G (.val v) v
inductive Reps (G : Gh) : List PV → List Value → Prop
  | nil : Reps G [] []
  | cons (x : PV) (v : Value) (xs : List PV) (vs : List Value) (h : Rep G x v) (t : Reps G xs vs) : Reps G (x :: xs) (v :: vs)
end

theorem Reps.length {G : Gh} : ∀ {xs : List PV} {vs : List Value}, Reps G xs vs → xs.length = vs.length
  | _, _, .nil => rfl
  | _, _, .cons _ _ _ _ _ t => by simp [t.length]
theorem Reps.append {G : Gh} : ∀ {xs : List PV} {vs : List Value} {ys : List PV} {us : List Value}, Reps G xs vs → Reps G ys us → Reps G (xs ++ ys) (vs ++ us)
  | _, _, _, _, .nil, h => h
  | _, _, _, _, .cons _ _ _ _ h t, k => .cons _ _ _ _ h (t.append k)
theorem Reps.split {G : Gh} : ∀ {xs ys : List PV} {vs : List Value}, Reps G (xs ++ ys) vs → ∃ us ws, vs = us ++ ws ∧ Reps G xs us ∧ Reps G ys ws
  | [], _, vs, h => ⟨[], vs, rfl, .nil, h⟩
  | x :: xs, ys, _, .cons _ v _ vs h t => by
    obtain ⟨us, ws, rfl, h1, h2⟩ := Reps.split (xs := xs) t
    exact ⟨v :: us, ws, rfl, .cons _ _ _ _ h h1, h2⟩
theorem Reps.get {G : Gh} : ∀ {xs : List PV} {vs : List Value}, Reps G xs vs → ∀ (i : Nat) (x : PV), xs[i]? = some x → ∃ v, vs[i]? = some v ∧ Rep G x v
  | _, _, .nil, i, x, h => by simp at h
  | _, _, .cons y v ys vs h t, 0, x, e => by simp at e; subst e; exact ⟨v, by simp, h⟩
  | _, _, .cons y v ys vs h t, i + 1, x, e => by
    obtain ⟨u, hu, hr⟩ := t.get i x (by simpa using e)
    exact ⟨u, by simpa using hu, hr⟩
theorem Reps.take {G : Gh} {xs : List PV} {vs : List Value} (h : Reps G xs vs) (n : Nat) : Reps G (xs.take n) (vs.take n) := by
  induction n generalizing xs vs with
  | zero => simpa using Reps.nil
  | succ n ih => cases h with
    | nil => simpa using Reps.nil
    | cons x v xs vs h t => simpa using Reps.cons x v _ _ h (ih t)
theorem Reps.drop {G : Gh} {xs : List PV} {vs : List Value} (h : Reps G xs vs) (n : Nat) : Reps G (xs.drop n) (vs.drop n) := by
  induction n generalizing xs vs with
  | zero => simpa using h
  | succ n ih => cases h with
    | nil => simpa using Reps.nil
    | cons x v xs vs h t => simpa using ih t
theorem Reps.set {G : Gh} {xs : List PV} {vs : List Value} (h : Reps G xs vs) (i : Nat) {x : PV} {v : Value} (hx : Rep G x v) : Reps G (xs.set i x) (vs.set i v) := by
  induction i generalizing xs vs with
  | zero => cases h with
    | nil => simpa using Reps.nil
    | cons y u ys us h t => simpa using Reps.cons x v _ _ hx t
  | succ i ih => cases h with
    | nil => simpa using Reps.nil
    | cons y u ys us h t => simpa using Reps.cons y u _ _ h (ih t)
theorem Reps.mk {G : Gh} : ∀ {xs : List PV} {vs : List Value}, xs.length = vs.length → (∀ (i : Nat) (x : PV) (v : Value), xs[i]? = some x → vs[i]? = some v → Rep G x v) → Reps G xs vs
  | [], [], _, _ => .nil
  | x :: xs, v :: vs, hl, h => .cons _ _ _ _ (h 0 x v (by simp) (by simp)) (Reps.mk (by simpa using hl) fun i y u h1 h2 => h (i + 1) y u (by simpa using h1) (by simpa using h2))

/-! ### The cells of a value -/
theorem Rep.cell1 {G : Gh} {x : PV} {v : Value} (h : Rep G x v) (h1 : x.isCell = true) : v.oneCell' = true ∧ v.cells = #[v] ∧ x.cells = [x] := by
  cases h with
  | val => cases v <;> simp_all [PV.isCell, Value.oneCell', Value.cells, PV.cells]
  | agg => simp [PV.isCell] at h1
  | tup => simp [PV.isCell] at h1
  | _ => simp [Value.oneCell', Value.cells, PV.cells]
theorem Rep.cells {G : Gh} {x : PV} {v : Value} (h : Rep G x v) (h1 : ∀ y ∈ x.cells, y.isCell = true) : Reps G x.cells v.cells.toList := by
  by_cases hc : x.isCell = true
  · obtain ⟨_, hv, hx⟩ := h.cell1 hc
    rw [hv, hx]
    exact .cons _ _ _ _ h .nil
  · cases h with
    | agg cs vs h1 hr => simpa [PV.cells, Value.cells] using hr
    | val => simp [PV.cells] at h1; exact absurd h1 hc
    | tup cs vs hv => simp [PV.cells, PV.isCell] at h1
    | _ => simp [PV.isCell] at hc
/-- What is stored is flat. -/
theorem Rep.flat {G : Gh} {x : PV} {v : Value} (h : Rep G x v) (ht : ∀ cs, x ≠ .tup cs) (hv : ∀ u, x = .val u → u.oneCell' = true) : ∀ y ∈ x.cells, y.isCell = true := by
  cases h with
  | agg cs vs h1 hr => simpa [PV.cells] using h1
  | tup cs vs _ => exact absurd rfl (ht cs)
  | val => simp [PV.cells, PV.isCell]; exact hv v rfl
  | _ => simp [PV.cells, PV.isCell]

/-! ### Growth of the ghost -/
structure Gh.le (G G' : Gh) : Prop where
  w0 : G'.w0 = G.w0
  pub : G'.pub = G.pub
  pob : G'.pob = G.pob
  dat : ∀ b, G.dat b <+: G'.dat b
  old : ∀ b, b < G.w0.heap.size → ¬ G.pub b → ¬ G.pob b → G'.dat b = G.dat b
  ref : G.ref <+: G'.ref
  hist : ∀ k n x, G.hist k n = some x → G'.hist k n = some x
theorem Gh.le.refl (G : Gh) : G.le G := ⟨rfl, rfl, rfl, fun _ => List.prefix_rfl, fun _ _ _ _ => rfl, List.prefix_rfl, fun _ _ _ h => h⟩
theorem Gh.le.trans {G G' G'' : Gh} (h : G.le G') (k : G'.le G'') : G.le G'' :=
  ⟨k.w0.trans h.w0, k.pub.trans h.pub, k.pob.trans h.pob, fun b => (h.dat b).trans (k.dat b), fun b hb hp hq => (k.old b (by rw [h.w0]; exact hb) (by rw [h.pub]; exact hp) (by rw [h.pob]; exact hq)).trans (h.old b hb hp hq), h.ref.trans k.ref, fun a n x e => k.hist a n x (h.hist a n x e)⟩

theorem prefix_get {α : Type} {xs ys : List α} (h : xs <+: ys) {i : Nat} {x : α} (e : xs[i]? = some x) : ys[i]? = some x := by
  obtain ⟨t, rfl⟩ := h
  have : i < xs.length := by
    rcases Nat.lt_or_ge i xs.length with h | h
    · exact h
    · simp [List.getElem?_eq_none h] at e
  rw [List.getElem?_append_left this]; exact e
theorem prefix_drop {α : Type} {xs ys : List α} (h : xs <+: ys) (o : Nat) (ho : o ≤ xs.length) : xs.drop o <+: ys.drop o := by
  obtain ⟨t, rfl⟩ := h
  rw [List.drop_append_of_le_length ho]
  exact List.prefix_append _ _
theorem prefix_into {α : Type} {vs xs ys : List α} (h : xs <+: ys) {o : Nat} (hv : vs <+: xs.drop o) : vs <+: ys.drop o := by
  rcases Nat.lt_or_ge xs.length o with ho | ho
  · rw [List.drop_eq_nil_of_le (by omega)] at hv
    rw [List.prefix_nil.1 hv]
    exact List.nil_prefix
  · exact hv.trans (prefix_drop h o ho)

mutual
/-- Whatever is represented stays so when data, variables and objects are more. -/
theorem Rep.to {G G' : Gh} (hd : ∀ b, G.dat b <+: G'.dat b) (hr : ∀ (r b : Nat), G.ref[r]? = some b → G'.ref[r]? = some b) (hh : ∀ k n x, G.hist k n = some x → G'.hist k n = some x) : ∀ {x : PV} {v : Value}, Rep G x v → Rep G' x v
  | _, _, .int k n => .int k n
  | _, _, .bool b => .bool b
  | _, _, .str l => .str l
  | _, _, .none sz t => .none sz t
  | _, _, .list sz xs t b o c vs ht hc hs h1 hv hp hk => .list sz xs t b o c vs ht hc hs h1 (Reps.to hd hr hh hv) (prefix_into (hd b) hp) fun k e => ⟨(hk k e).1, hh _ _ _ (hk k e).2⟩
  | _, _, .ref r b off h => .ref r b off (hr r b h)
  | _, _, .elem x b o vs h1 hv hp => .elem x b o vs h1 (Reps.to hd hr hh hv) (prefix_into (hd b) hp)
  | _, _, .agg cs vs h1 hv => .agg cs vs h1 (Reps.to hd hr hh hv)
  | _, _, .tup cs vs hv => .tup cs vs (Reps.to hd hr hh hv)
  | _, _, .clo fn fs cs us vs hu hv => .clo fn fs cs us vs (Reps.to hd hr hh hu) (Reps.to hd hr hh hv)
  | _, _, .val v => .val v
theorem Reps.to {G G' : Gh} (hd : ∀ b, G.dat b <+: G'.dat b) (hr : ∀ (r b : Nat), G.ref[r]? = some b → G'.ref[r]? = some b) (hh : ∀ k n x, G.hist k n = some x → G'.hist k n = some x) : ∀ {xs : List PV} {vs : List Value}, Reps G xs vs → Reps G' xs vs
  | _, _, .nil => .nil
  | _, _, .cons x v xs vs h t => .cons x v xs vs (Rep.to hd hr hh h) (Reps.to hd hr hh t)
end
theorem Rep.mono {G G' : Gh} (h : G.le G') {x : PV} {v : Value} (r : Rep G x v) : Rep G' x v := Rep.to h.dat (fun _ _ e => prefix_get h.ref e) h.hist r
theorem Reps.mono {G G' : Gh} (h : G.le G') {xs : List PV} {vs : List Value} (r : Reps G xs vs) : Reps G' xs vs := Reps.to h.dat (fun _ _ e => prefix_get h.ref e) h.hist r

/-! ### The state: the variables' cells, the objects' lengths -/
structure St where
  box : List (List PV)
  len : List Nat

/-- Of what was there only what may be written has changed. -/
structure Kept (w0 : World) (pub pob : Nat → Prop) (w : World) : Prop where
  os : w.os = w0.os
  tape : w.tape = w0.tape
  output : w.output = w0.output
  size : w0.heap.size ≤ w.heap.size
  block : ∀ b, b < w0.heap.size → ¬ pub b → ¬ pob b → w.heap[b]? = w0.heap[b]?

/-- A block of cells, none of them frozen. -/
def World.row (w : World) (b : Nat) (vs : List Value) : Prop := ∃ T, w.heap[b]? = some (.cells vs.toArray T (0, 0))

/-- The package's variables lie in the first blocks and are as they were laid; nobody may write them. -/
structure Laid (w0 : World) (pub pob : Nat → Prop) : Prop where
  size : NG ≤ w0.heap.size
  pub : ∀ b, b < NG → ¬ pub b
  pob : ∀ b, b < NG → ¬ pob b
  tab : TabFacts w0
structure Inv (G : Gh) (st : St) (w : World) : Prop where
  kept : Kept G.w0 G.pub G.pob w
  dat : ∀ b i x, (G.dat b)[i]? = some x → w.cell? ⟨b, i, none⟩ = some x
  rlen : G.ref.length = st.box.length
  box : ∀ (r b : Nat), G.ref[r]? = some b → (G.pub b ∨ G.w0.heap.size ≤ b) ∧ G.dat b = [] ∧ ∃ cs vs, st.box[r]? = some cs ∧ World.row w b vs ∧ Reps G cs vs ∧ ∀ x ∈ cs, x.isCell = true
  inj : G.ref.Nodup
  own : ∀ k n, st.len[k]? = some n → ∀ b c sz, G.hist k n = some (b, c, sz) →
    (G.pob b ∨ G.w0.heap.size ≤ b) ∧ b ∉ G.ref ∧ (G.dat b).length = n * sz ∧ ∃ vs, World.row w b vs ∧ vs.length = c * sz ∧ c ≤ maxLen
  apart : ∀ k k' n n' b c sz c' sz', st.len[k]? = some n → st.len[k']? = some n' → G.hist k n = some (b, c, sz) → G.hist k' n' = some (b, c', sz') → k = k'
  fresh : ∀ k n, (∀ m, st.len[k]? = some m → m < n) → G.hist k n = none
  laid : Laid G.w0 G.pub G.pob
theorem Inv.tab {G : Gh} {st : St} {w : World} (h : Inv G st w) : TabFacts w :=
  TabFacts.keep (fun b hb => h.kept.block b (Nat.lt_of_lt_of_le hb h.laid.size) (h.laid.pub b hb) (h.laid.pob b hb)) h.laid.tab
end Go.Proofs.YtpepmfhemjeocaaGreatDoor
end
section
/- What a value may be taken for; which variables and objects it speaks of; a world's growth: plain theorems. -/
set_option linter.unusedVariables false
set_option linter.unusedSimpArgs false
namespace Go.Proofs.YtpepmfhemjeocaaGreatDoor

/-! ### Taking a value for less -/
def Weak (x y : PV) : Prop := ∀ (G : Gh) (v : Value), Rep G x v → Rep G y v
@[simp] theorem Weak.refl (x : PV) : Weak x x := fun _ _ h => h
theorem Weak.nil (sz sz' : Nat) (t : Tk) : Weak (.list sz [] .nil) (.list sz' [] t) := by
  intro G v h
  cases h with
  | none => exact .none _ _
  | list _ _ _ b o c vs ht => exact absurd rfl ht
theorem Weak.no (sz : Nat) (xs : List PV) (t : Tk) : Weak (.list sz xs t) (.list sz xs .no) := by
  intro G v h
  cases h with
  | none => exact .none _ _
  | list _ _ _ b o c vs ht hc hs h1 hv hd hk => exact .list sz xs .no b o c vs (by simp) hc hs h1 hv hd (by simp)
inductive Weaks : List PV → List PV → Prop
  | nil : Weaks [] []
  | cons {x y : PV} {xs ys : List PV} (h : Weak x y) (t : Weaks xs ys) : Weaks (x :: xs) (y :: ys)
theorem Weaks.reps {xs ys : List PV} (h : Weaks xs ys) {G : Gh} {vs : List Value} (r : Reps G xs vs) : Reps G ys vs := by
  induction h generalizing vs with
  | nil => cases r; exact .nil
  | cons h t ih => cases r with
    | cons _ v _ vs r rs => exact .cons _ _ _ _ (h G v r) (ih rs)
@[simp] theorem weaks_nil : Weaks [] [] := .nil
@[simp] theorem weaks_cons {x y : PV} {xs ys : List PV} : Weaks (x :: xs) (y :: ys) ↔ Weak x y ∧ Weaks xs ys := ⟨fun | .cons h t => ⟨h, t⟩, fun ⟨h, t⟩ => .cons h t⟩
theorem Weaks.refl : ∀ xs : List PV, Weaks xs xs
  | [] => .nil
  | x :: xs => .cons (.refl x) (.refl xs)
theorem Weak.agg {xs ys : List PV} (h : Weaks xs ys) (hc : ∀ y ∈ ys, y.isCell = true) : Weak (.agg xs) (.agg ys) := by
  intro G v r
  cases r with
  | agg _ vs h1 hv => exact .agg ys vs hc (h.reps hv)

/-! ### Which variables and objects a value speaks of -/
mutual
def PV.clean (n m : Nat) : PV → Bool
  | .list _ xs t => (match t with | .own k => decide (k < m) | _ => true) && PVs.clean n m xs
  | .ref r _ => decide (r < n)
  | .elem x => PV.clean n m x
  | .agg cs => PVs.clean n m cs
  | .tup cs => PVs.clean n m cs
  | .clo _ fs cs => PVs.clean n m fs && PVs.clean n m cs
  | _ => true
def PVs.clean (n m : Nat) : List PV → Bool
  | [] => true
  | x :: xs => PV.clean n m x && PVs.clean n m xs
end
theorem PVs.clean_iff {n m : Nat} : ∀ {xs : List PV}, PVs.clean n m xs = true ↔ ∀ x ∈ xs, PV.clean n m x = true
  | [] => by simp [PVs.clean]
  | x :: xs => by simp [PVs.clean, PVs.clean_iff (xs := xs)]
theorem PVs.clean_append {n m : Nat} {xs ys : List PV} : PVs.clean n m (xs ++ ys) = (PVs.clean n m xs && PVs.clean n m ys) := by
  induction xs with
  | nil => simp [PVs.clean]
  | cons x xs ih => simp [PVs.clean, ih, Bool.and_assoc]
theorem PV.clean_cells {n m : Nat} (x : PV) : PVs.clean n m x.cells = PV.clean n m x := by
  cases x <;> simp [PV.cells, PVs.clean, PV.clean]
theorem PVs.clean_cellsOf {n m : Nat} : ∀ xs : List PV, PVs.clean n m (cellsOf xs) = PVs.clean n m xs
  | [] => rfl
  | x :: xs => by rw [cellsOf_cons, PVs.clean_append, PV.clean_cells, PVs.clean_cellsOf xs]; rfl

mutual
theorem Rep.cut {G G' : Gh} {n m : Nat} (hd : ∀ b, G.dat b <+: G'.dat b) (hr : ∀ (r b : Nat), r < n → G.ref[r]? = some b → G'.ref[r]? = some b) (hh : ∀ k i x, k < m → G.hist k i = some x → G'.hist k i = some x) :
    ∀ {x : PV} {v : Value}, Rep G x v → PV.clean n m x = true → Rep G' x v
  | _, _, .int k i, _ => .int k i
  | _, _, .bool b, _ => .bool b
  | _, _, .str l, _ => .str l
  | _, _, .none sz t, _ => .none sz t
  | _, _, .list sz xs t b o c vs ht hc hs h1 hv hp hk, h => .list sz xs t b o c vs ht hc hs h1 (Reps.cut hd hr hh hv (by simp only [PV.clean, Bool.and_eq_true] at h; rw [PVs.clean_cellsOf]; exact h.2)) (prefix_into (hd b) hp)
      fun k e => ⟨(hk k e).1, hh _ _ _ (by subst e; simp only [PV.clean, Bool.and_eq_true, decide_eq_true_eq] at h; exact h.1) (hk k e).2⟩
  | _, _, .ref r b off e, h => .ref r b off (hr r b (by simpa [PV.clean] using h) e)
  | _, _, .elem x b o vs h1 hv hp, h => .elem x b o vs h1 (Reps.cut hd hr hh hv (by rw [PV.clean_cells]; simpa [PV.clean] using h)) (prefix_into (hd b) hp)
  | _, _, .agg cs vs h1 hv, h => .agg cs vs h1 (Reps.cut hd hr hh hv (by simpa [PV.clean] using h))
  | _, _, .tup cs vs hv, h => .tup cs vs (Reps.cut hd hr hh hv (by simpa [PV.clean] using h))
  | _, _, .clo fn fs cs us vs hu hv, h => .clo fn fs cs us vs (Reps.cut hd hr hh hu (by simp only [PV.clean, Bool.and_eq_true] at h; exact h.1)) (Reps.cut hd hr hh hv (by simp only [PV.clean, Bool.and_eq_true] at h; exact h.2))
  | _, _, .val v, _ => .val v
theorem Reps.cut {G G' : Gh} {n m : Nat} (hd : ∀ b, G.dat b <+: G'.dat b) (hr : ∀ (r b : Nat), r < n → G.ref[r]? = some b → G'.ref[r]? = some b) (hh : ∀ k i x, k < m → G.hist k i = some x → G'.hist k i = some x) :
    ∀ {xs : List PV} {vs : List Value}, Reps G xs vs → PVs.clean n m xs = true → Reps G' xs vs
  | _, _, .nil, _ => .nil
  | _, _, .cons x v xs vs h t, c => .cons x v xs vs (Rep.cut hd hr hh h (by simp only [PVs.clean, Bool.and_eq_true] at c; exact c.1)) (Reps.cut hd hr hh t (by simp only [PVs.clean, Bool.and_eq_true] at c; exact c.2))
end

/-! ### Forgetting what was made on the way -/
def Gh.trunc (G : Gh) (n m : Nat) : Gh := { G with ref := G.ref.take n, hist := fun k i => if k < m then G.hist k i else none }
theorem take_get {α : Type} {xs : List α} {n i : Nat} {x : α} (h : (xs.take n)[i]? = some x) : i < n ∧ xs[i]? = some x := by
  rw [List.getElem?_take] at h
  split at h
  · exact ⟨by assumption, h⟩
  · simp at h
theorem Rep.trunc {G : Gh} {n m : Nat} {x : PV} {v : Value} (h : Rep G x v) (c : PV.clean n m x = true) : Rep (G.trunc n m) x v :=
  Rep.cut (G := G) (G' := G.trunc n m) (fun b => List.prefix_rfl) (fun r b hr e => by show (G.ref.take n)[r]? = some b; rw [List.getElem?_take, if_pos hr]; exact e) (fun k i y hk e => by simp only [Gh.trunc, if_pos hk]; exact e) h c
theorem Reps.trunc {G : Gh} {n m : Nat} {xs : List PV} {vs : List Value} (h : Reps G xs vs) (c : PVs.clean n m xs = true) : Reps (G.trunc n m) xs vs :=
  Reps.cut (G := G) (G' := G.trunc n m) (fun b => List.prefix_rfl) (fun r b hr e => by show (G.ref.take n)[r]? = some b; rw [List.getElem?_take, if_pos hr]; exact e) (fun k i y hk e => by simp only [Gh.trunc, if_pos hk]; exact e) h c

/-- The cells of variables, each taken for less. -/
inductive Boxes : List (List PV) → List (List PV) → Prop
  | nil : Boxes [] []
  | cons {x y : List PV} {xs ys : List (List PV)} (h : Weaks x y) (hc : ∀ c ∈ y, c.isCell = true) (t : Boxes xs ys) : Boxes (x :: xs) (y :: ys)
theorem Boxes.length {xs ys : List (List PV)} (h : Boxes xs ys) : xs.length = ys.length := by
  induction h with
  | nil => rfl
  | cons _ _ _ ih => simp [ih]
theorem Boxes.get {xs ys : List (List PV)} (h : Boxes xs ys) {i : Nat} {x : List PV} (e : xs[i]? = some x) : ∃ y, ys[i]? = some y ∧ Weaks x y ∧ ∀ c ∈ y, c.isCell = true := by
  induction h generalizing i with
  | nil => simp at e
  | cons h hc t ih => cases i with
    | zero => simp at e; subst e; exact ⟨_, by simp, h, hc⟩
    | succ i => obtain ⟨y, hy, hw⟩ := ih (by simpa using e); exact ⟨y, by simpa using hy, hw⟩
@[simp] theorem boxes_nil : Boxes [] [] := .nil
@[simp] theorem boxes_cons {x y : List PV} {xs ys : List (List PV)} : Boxes (x :: xs) (y :: ys) ↔ Weaks x y ∧ (∀ c ∈ y, c.isCell = true) ∧ Boxes xs ys := ⟨fun | .cons h hc t => ⟨h, hc, t⟩, fun ⟨h, hc, t⟩ => .cons h hc t⟩

/-- st is what is left of st' when all but its first variables and objects are forgotten. -/
structure Left (st' st : St) : Prop where
  box : Boxes (st'.box.take st.box.length) st.box
  len : st'.len.take st.len.length = st.len
  clean : ∀ cs ∈ st.box, PVs.clean st.box.length st.len.length cs = true

theorem Inv.trunc {G : Gh} {st' st : St} {w : World} (h : Inv G st' w) (l : Left st' st) : Inv (G.trunc st.box.length st.len.length) st w := by
  have hlen : ∀ (k n : Nat), st.len[k]? = some n → k < st.len.length ∧ st'.len[k]? = some n := by
    intro k n e
    rw [← l.len] at e
    exact take_get e
  have hhist : ∀ k i x, (G.trunc st.box.length st.len.length).hist k i = some x → k < st.len.length ∧ G.hist k i = some x := by
    intro k i x e
    simp only [Gh.trunc] at e
    split at e
    · exact ⟨by assumption, e⟩
    · cases e
  refine ⟨h.kept, h.dat, ?_, ?_, ?_, ?_, ?_, ?_, h.laid⟩
  · have hl := l.box.length
    rw [List.length_take] at hl
    show (G.ref.take _).length = _
    rw [List.length_take, h.rlen]
    omega
  · intro r b e
    obtain ⟨hr, e⟩ := take_get e
    obtain ⟨h1, h2, cs, vs, h3, h4, h5, h6⟩ := h.box r b e
    have e3 : (st'.box.take st.box.length)[r]? = some cs := by rw [List.getElem?_take, if_pos hr]; exact h3
    obtain ⟨ds, hds, hw, hc⟩ := l.box.get e3
    exact ⟨h1, h2, ds, vs, hds, h4, Reps.trunc (hw.reps h5) (l.clean ds (List.mem_of_getElem? hds)), hc⟩
  · exact (List.take_sublist _ _).nodup h.inj
  · intro k n e b c sz e2
    obtain ⟨hk, e2⟩ := hhist _ _ _ e2
    obtain ⟨h1, h2, h3⟩ := h.own k n (hlen k n e).2 b c sz e2
    exact ⟨h1, fun hm => h2 (List.mem_of_mem_take hm), h3⟩
  · intro k k' n n' b c sz c' sz' e e' e2 e2'
    exact h.apart k k' n n' b c sz c' sz' (hlen _ _ e).2 (hlen _ _ e').2 (hhist _ _ _ e2).2 (hhist _ _ _ e2').2
  · intro k n e
    simp only [Gh.trunc]
    split
    · rename_i hk
      refine h.fresh k n fun q hq => e q ?_
      rw [← l.len, List.getElem?_take, if_pos hk]; exact hq
    · rfl
theorem Gh.le.trunc {G G' : Gh} {st : St} {w : World} {n m : Nat} (h : G.le G') (i : Inv G st w) (hn : st.box.length ≤ n) (hm : st.len.length ≤ m) : G.le (G'.trunc n m) := by
  refine ⟨h.w0, h.pub, h.pob, h.dat, h.old, ?_, ?_⟩
  · obtain ⟨t, ht⟩ := h.ref
    refine ⟨t.take (n - G.ref.length), ?_⟩
    show _ = G'.ref.take n
    have hl : G.ref.take n = G.ref := List.take_of_length_le (by rw [i.rlen]; exact hn)
    rw [← ht, List.take_append, hl]
  · intro k j x e
    have hk : k < m := by
      rcases Nat.lt_or_ge k m with hk | hk
      · exact hk
      · rw [i.fresh k j fun q hq => by rw [List.getElem?_eq_none (by omega)] at hq; cases hq] at e
        cases e
    simp only [Gh.trunc, if_pos hk]
    exact h.hist k j x e
end Go.Proofs.YtpepmfhemjeocaaGreatDoor
end
section
/- A logic over values as trees: what a piece of code and what a call comes to. Each rule is a theorem on the machine. -/
set_option linter.unusedVariables false
set_option linter.unusedSimpArgs false
namespace Go.Proofs.YtpepmfhemjeocaaGreatDoor

abbrev Env := List (Nat × PV)
def eget : Env → Nat → Option PV
  | [], _ => none
  | (j, x) :: r, i => if i = j then some x else eget r i

structure ARep (G : Gh) (nt : Nat) (env : Env) (a : Act) : Prop where
  defers : a.defers = []
  size : a.tmps.size = nt
  get : ∀ i x, eget env i = some x → ∃ v, a.tmps[i]? = some v ∧ Rep G x v
theorem ARep.mono {G G' : Gh} {nt : Nat} {env : Env} {a : Act} (h : G.le G') (r : ARep G nt env a) : ARep G' nt env a :=
  ⟨r.defers, r.size, fun i x e => let ⟨v, h1, h2⟩ := r.get i x e; ⟨v, h1, h2.mono h⟩⟩

/-- env is part of env', each value taken for less. -/
def Sub (env' : Env) : Env → Prop
  | [] => True
  | (i, x) :: r => (∃ y, eget env' i = some y ∧ Weak y x) ∧ Sub env' r
theorem Sub.get {env' : Env} : ∀ {env : Env}, Sub env' env → ∀ i x, eget env i = some x → ∃ y, eget env' i = some y ∧ Weak y x
  | [], _, i, x, e => by simp [eget] at e
  | (j, z) :: r, ⟨h, t⟩, i, x, e => by
    simp only [eget] at e
    split at e
    · rename_i hj; subst hj; injection e with e; subst e; exact h
    · exact Sub.get t i x e
theorem Sub.of_get {env' : Env} : ∀ {env : Env}, (∀ p ∈ env, ∃ y, eget env' p.1 = some y ∧ Weak y p.2) → Sub env' env
  | [], _ => trivial
  | (j, z) :: r, h => ⟨h (j, z) (by simp), Sub.of_get fun p hp => h p (by simp [hp])⟩
theorem ARep.sub {G : Gh} {nt : Nat} {env env' : Env} {a : Act} (r : ARep G nt env' a) (s : Sub env' env) : ARep G nt env a :=
  ⟨r.defers, r.size, fun i x e => let ⟨y, hy, hw⟩ := s.get i x e; let ⟨v, h1, h2⟩ := r.get i y hy; ⟨v, h1, hw _ _ h2⟩⟩
def Env.clean (n m : Nat) : Env → Bool
  | [] => true
  | (_, x) :: r => PV.clean n m x && Env.clean n m r
theorem Env.clean_get {n m : Nat} : ∀ {env : Env}, Env.clean n m env = true → ∀ i x, eget env i = some x → PV.clean n m x = true
  | [], _, i, x, e => by simp [eget] at e
  | (j, z) :: r, h, i, x, e => by
    simp only [Env.clean, Bool.and_eq_true] at h
    simp only [eget] at e
    split at e
    · injection e with e; subst e; exact h.1
    · exact Env.clean_get h.2 i x e
theorem ARep.trunc {G : Gh} {nt n m : Nat} {env : Env} {a : Act} (r : ARep G nt env a) (c : Env.clean n m env = true) : ARep (G.trunc n m) nt env a :=
  ⟨r.defers, r.size, fun i x e => let ⟨v, h1, h2⟩ := r.get i x e; ⟨v, h1, h2.trunc (Env.clean_get c i x e)⟩⟩

/-! ### What code comes to -/
def PostE (G : Gh) (nt : Nat) (Q : Exit → Env → St → Prop) (e : Exit) (a : Act) (w : World) : Prop :=
  ∃ G' env st, G.le G' ∧ Inv G' st w ∧ ARep G' nt env a ∧ Q e env st
def PW (P : Program) (nt : Nat) (c : Code) (Q : Exit → Env → St → Prop) (env : Env) (st : St) : Prop :=
  ∀ G a w, Inv G st w → ARep G nt env a → c.wp P (PostE G nt Q) a w
theorem PostE.le {G G' : Gh} {nt : Nat} {Q : Exit → Env → St → Prop} {e : Exit} {a : Act} {w : World} (h : G.le G') (p : PostE G' nt Q e a w) : PostE G nt Q e a w :=
  let ⟨G2, env, st, h1, h2⟩ := p; ⟨G2, env, st, h.trans h1, h2⟩
theorem PostE.mono {G : Gh} {nt : Nat} {Q Q' : Exit → Env → St → Prop} {e : Exit} {a : Act} {w : World} (p : PostE G nt Q e a w) (h : ∀ e env st, Q e env st → Q' e env st) : PostE G nt Q' e a w :=
  let ⟨G2, env, st, h1, h2, h3, h4⟩ := p; ⟨G2, env, st, h1, h2, h3, h _ _ _ h4⟩

section
variable {P : Program} {nt : Nat} {Q : Exit → Env → St → Prop} {env : Env} {st : St}
theorem PW.mono {c : Code} {Q' : Exit → Env → St → Prop} (h : PW P nt c Q env st) (hq : ∀ e env st, Q e env st → Q' e env st) : PW P nt c Q' env st :=
  fun G a w hi ha => wp_mono (h G a w hi ha) fun e a w p => p.mono hq
/-- Go on from what is left when some of it is forgotten. -/
theorem PW.forget {c : Code} (env' : Env) (st' : St) (hs : Sub env env') (hl : Left st st') (hc : Env.clean st'.box.length st'.len.length env' = true)
    (hb : st.box.length ≤ st'.box.length) (hm : st.len.length ≤ st'.len.length) (h : PW P nt c Q env' st') : PW P nt c Q env st := by
  intro G a w hi ha
  exact wp_mono (h _ a w (hi.trunc hl) ((ha.sub hs).trunc hc)) fun e a w p => p.le ((Gh.le.refl G).trunc hi hb hm)
/-- Go on from less of the temporaries. -/
theorem PW.less {c : Code} (env' : Env) (hs : Sub env env') (h : PW P nt c Q env' st) : PW P nt c Q env st :=
  fun G a w hi ha => h G a w hi (ha.sub hs)
theorem PW.skip (h : Q .normal env st) : PW P nt .skip Q env st := fun G a w hi ha => wp_skip ⟨G, env, st, .refl G, hi, ha, h⟩
theorem PW.label {l : Nat} (h : Q .normal env st) : PW P nt (.label l) Q env st := fun G a w hi ha => wp_label ⟨G, env, st, .refl G, hi, ha, h⟩
theorem PW.exit {id : Nat} (h : Q (.exit id) env st) : PW P nt (.exit id) Q env st := fun G a w hi ha => wp_exit ⟨G, env, st, .refl G, hi, ha, h⟩
theorem PW.ret (h : Q .ret env st) : PW P nt .ret Q env st := fun G a w hi ha => wp_ret ⟨G, env, st, .refl G, hi, ha, h⟩
/-- What stands behind: K if the code comes to its end, Q else. -/
def Then (K : Env → St → Prop) (Q : Exit → Env → St → Prop) : Exit → Env → St → Prop
  | .normal, env, st => K env st
  | e, env, st => Q e env st
theorem PW.seq {x y : Code} (h : PW P nt x (Then (PW P nt y Q) Q) env st) : PW P nt (.seq x y) Q env st := by
  intro G a w hi ha
  refine wp_seq (wp_mono (h G a w hi ha) fun e a w p => ?_)
  obtain ⟨G', env', st', h1, h2, h3, h4⟩ := p
  cases e with
  | normal => exact wp_mono (h4 G' a w h2 h3) fun e a w p => p.le h1
  | _ => exact ⟨G', env', st', h1, h2, h3, h4⟩
/-- The same, with a name for what stands behind. -/
theorem PW.seq_k {x y : Code} (h : ∀ K : Env → St → Prop, (∀ env st, PW P nt y Q env st → K env st) → PW P nt x (Then K Q) env st) : PW P nt (.seq x y) Q env st :=
  PW.seq (h _ fun _ _ h => h)
/-- The same, cut: what holds between. -/
theorem PW.cut {x y : Code} (K : Env → St → Prop) (h : PW P nt x (Then K Q) env st) (k : ∀ env st, K env st → PW P nt y Q env st) : PW P nt (.seq x y) Q env st :=
  PW.seq (h.mono fun e env st q => by cases e <;> first | exact k _ _ q | exact q)
def InBlock (id : Nat) (Q : Exit → Env → St → Prop) : Exit → Env → St → Prop
  | .exit id', env, st => if id' = id then Q .normal env st else Q (.exit id') env st
  | e, env, st => Q e env st
theorem PW.block {id : Nat} {c : Code} (h : PW P nt c (InBlock id Q) env st) : PW P nt (.block id c) Q env st := by
  intro G a w hi ha
  refine wp_block (wp_mono (h G a w hi ha) fun e a w p => ?_)
  obtain ⟨G', env', st', h1, h2, h3, h4⟩ := p
  cases e with
  | exit id' =>
    simp only [InBlock] at h4
    simp only [Exit.inBlock]
    split at h4
    · rename_i hid; rw [if_pos hid]; exact ⟨G', env', st', h1, h2, h3, h4⟩
    · rename_i hid; rw [if_neg hid]; exact ⟨G', env', st', h1, h2, h3, h4⟩
  | _ => exact ⟨G', env', st', h1, h2, h3, h4⟩

/-- An operand's value. -/
def ofC : Value → PV
  | .int k n => .int k n
  | .bool b => .bool b
  | .string s => .str s.data.toList
  | .slice none 0 0 => .list 0 [] .nil
  | v => .val v
theorem rep_ofC (G : Gh) (v : Value) : Rep G (ofC v) v := by
  unfold ofC
  split
  · exact .int _ _
  · exact .bool _
  · rename_i s; exact .str s.data.toList
  · exact .none _ _
  · exact .val _
def ev (env : Env) : Operand → Option PV
  | .tmp t => eget env t
  | .const v => some (ofC v)
  | .func f => some (.clo (.func f) [] [])
  | .global _ => none
theorem ARep.ev {G : Gh} {env : Env} {a : Act} (r : ARep G nt env a) {o : Operand} {x : PV} (h : ev env o = some x) : Rep G x (a.eval o) := by
  cases o with
  | tmp t =>
    obtain ⟨v, h1, h2⟩ := r.get t x h
    show Rep G x (a.tmps.getD t undef)
    rw [Array.getD_eq_getD_getElem?, h1]
    exact h2
  | const v => injection h with h; subst h; exact rep_ofC G v
  | func f => injection h with h; subst h; exact .clo _ [] [] [] [] .nil .nil
  | global g => cases h
theorem Rep.bool_inv {G : Gh} {b : Bool} {v : Value} (h : Rep G (.bool b) v) : v = .bool b := by cases h; rfl
theorem Rep.int_inv {G : Gh} {k : IntKind} {n : Int} {v : Value} (h : Rep G (.int k n) v) : v = .int k n := by cases h; rfl
theorem Rep.str_inv {G : Gh} {l : List UInt8} {v : Value} (h : Rep G (.str l) v) : v = .string ⟨l.toArray⟩ := by cases h; rfl
theorem Rep.val_inv {G : Gh} {u : Value} {v : Value} (h : Rep G (.val u) v) : v = u := by cases h; rfl
theorem PW.cond {c : Operand} {x y : Code} {b : Bool} (hc : Proofs.YtpepmfhemjeocaaGreatDoor.ev env c = some (.bool b)) (h : PW P nt (if b then x else y) Q env st) : PW P nt (.cond c x y) Q env st :=
  fun G a w hi ha => wp_cond (ha.ev hc).bool_inv (h G a w hi ha)
theorem PW.cond_split {c : Operand} {x y : Code} {b : Bool} (hc : Proofs.YtpepmfhemjeocaaGreatDoor.ev env c = some (.bool b)) (ht : b = true → PW P nt x Q env st) (hf : b = false → PW P nt y Q env st) : PW P nt (.cond c x y) Q env st := by
  refine PW.cond hc ?_
  cases b
  · exact hf rfl
  · exact ht rfl


/-- A loop: at every round's head 'I a' and 'S a' stand there, with 'C a'; μ falls. -/
theorem PW.loop {α : Type} {c : Code} (I : α → Env) (S : α → St) (C : α → Prop) (μ : α → Nat) (a0 : α) (h0 : C a0) (hs : Sub env (I a0)) (hst : S a0 = st) (hn : ∀ a, C a → (S a).box.length = st.box.length ∧ (S a).len.length = st.len.length)
    (hround : ∀ a, C a → PW P nt c (Then (fun env' st' => ∃ a', C a' ∧ μ a' < μ a ∧ Sub env' (I a') ∧ Left st' (S a') ∧ Env.clean st.box.length st.len.length (I a') = true) Q) (I a) (S a)) :
    PW P nt (.loop c) Q env st := by
  intro G ac w hi ha
  subst hst
  refine wp_loop_ghost (fun n ac w => ∃ a G', μ a = n ∧ C a ∧ G.le G' ∧ Inv G' (S a) w ∧ ARep G' nt (I a) ac) (μ a0) ⟨a0, G, rfl, h0, .refl G, hi, ha.sub hs⟩ ?_
  rintro n ac w ⟨a, G', rfl, hc, hle, hi', ha'⟩
  refine wp_mono (hround a hc G' ac w hi' ha') ?_
  rintro e ac2 w2 ⟨G2, env2, st2, h1, h2, h3, h4⟩
  cases e with
  | normal =>
    obtain ⟨a', hc', hm, hsub, hl, hcl⟩ := h4
    obtain ⟨hb, hlen⟩ := hn a' hc'
    exact ⟨μ a', hm, a', _, rfl, hc', (hle.trans h1).trunc hi (by omega) (by omega), h2.trunc hl, ((h3.sub hsub).trunc (by rw [hb, hlen]; exact hcl))⟩
  | _ => exact ⟨G2, env2, st2, hle.trans h1, h2, h3, h4⟩

/-! ### Calls -/
def Enters (P : Program) (f : FuncId) : Prop := ∃ fn, P.funcs[f]? = some fn ∧ (fn.name == "runtime.NumGoroutine") = false ∧ fn.body.isNone = false
/-- A call that returns, or an entry of the model's own that gives a value. -/
def Ran (P : Program) (f : FuncId) (vs : Array Value) (w : World) (p : Value → World → Prop) : Prop :=
  (Enters P f ∧ Calls P f vs w fun e w' => ∃ v, e = .returned v ∧ p v w') ∨ ∃ v w', (callFunc f vs).run P w = .ok (.value v) w' ∧ p v w'
theorem Ran.mono {f : FuncId} {vs : Array Value} {w : World} {p q : Value → World → Prop} (h : Ran P f vs w p) (k : ∀ v w', p v w' → q v w') : Ran P f vs w q := by
  rcases h with ⟨h1, h2⟩ | ⟨v, w', h1, h2⟩
  · exact .inl ⟨h1, h2.mono fun e w' ⟨v, e1, e2⟩ => ⟨v, e1, k v w' e2⟩⟩
  · exact .inr ⟨v, w', h1, k v w' h2⟩
def PC (P : Program) (f : FuncId) (args : List PV) (st : St) (R : PV → St → Prop) : Prop :=
  ∀ G w vs, Inv G st w → Reps G args vs → Ran P f vs.toArray w fun v w' => ∃ G' r st', G.le G' ∧ Inv G' st' w' ∧ Rep G' r v ∧ R r st' ∧ st.len.length ≤ st'.len.length
theorem PC.mono {f : FuncId} {args : List PV} {R R' : PV → St → Prop} (h : PC P f args st R) (k : ∀ r st', R r st' → R' r st') : PC P f args st R' :=
  fun G w vs hi hr => (h G w vs hi hr).mono fun v w' ⟨G', r, st', h2, h3, h4, h5⟩ => ⟨G', r, st', h2, h3, h4, k r st' h5.1, h5.2⟩
theorem PC.weak {f : FuncId} {args args' : List PV} {R : PV → St → Prop} (h : PC P f args' st R) (k : Weaks args args') : PC P f args st R :=
  fun G w vs hi hr => h G w vs hi (k.reps hr)

end
end Go.Proofs.YtpepmfhemjeocaaGreatDoor
end
section
/- What the logic asks of types; loads, stores, new variables and data: theorems on the machine. -/
set_option linter.unusedVariables false
set_option linter.unusedSimpArgs false
namespace Go.Proofs.YtpepmfhemjeocaaGreatDoor

inductive TK where
  | int (k : IntKind) | bool | str | slice (e : Nat) | struct | other (p : Option Nat)
structure TyI where
  size : Nat
  bytes : Nat
  ag : Bool
  flds : List (Nat × Nat × Bool)
  zero : List PV
  k : TK
  cmp : Bool
/-- Cells, each of the type's kind, compared one by one. -/
def eqCells : List PV → List PV → List PV → Option Bool
  | [], [], [] => some true
  | .int k _ :: z, .int k1 a :: xs, .int k2 b :: ys => if k1 = k ∧ k2 = k then (match eqCells z xs ys with
    | some r => some (a == b && r)
    | none => none) else none
  | .str _ :: z, .str a :: xs, .str b :: ys => match eqCells z xs ys with
    | some r => some (a == b && r)
    | none => none
  | .bool _ :: z, .bool a :: xs, .bool b :: ys => match eqCells z xs ys with
    | some r => some (a == b && r)
    | none => none
  | _, _, _ => none
theorem eqCells_int {k : IntKind} {n : Int} {z xs ys : List PV} {b : Bool} (h : eqCells (.int k n :: z) xs ys = some b) : ∃ a a' xs' ys' r, xs = .int k a :: xs' ∧ ys = .int k a' :: ys' ∧ eqCells z xs' ys' = some r ∧ b = (a == a' && r) := by
  unfold eqCells at h
  split at h <;> rename_i hh <;> first | (cases hh; done) | skip
  · cases hh
    split at h
    · rename_i hk
      obtain ⟨rfl, rfl⟩ := hk
      split at h
      · injection h with h
        exact ⟨_, _, _, _, _, rfl, rfl, by assumption, h.symm⟩
      · cases h
    · cases h
  · cases h
theorem eqCells_str {n : List UInt8} {z xs ys : List PV} {b : Bool} (h : eqCells (.str n :: z) xs ys = some b) : ∃ a a' xs' ys' r, xs = .str a :: xs' ∧ ys = .str a' :: ys' ∧ eqCells z xs' ys' = some r ∧ b = (a == a' && r) := by
  unfold eqCells at h
  split at h <;> rename_i hh <;> first | (cases hh; done) | skip
  · cases hh
    split at h
    · injection h with h
      exact ⟨_, _, _, _, _, rfl, rfl, by assumption, h.symm⟩
    · cases h
  · cases h
theorem eqCells_bool {n : Bool} {z xs ys : List PV} {b : Bool} (h : eqCells (.bool n :: z) xs ys = some b) : ∃ a a' xs' ys' r, xs = .bool a :: xs' ∧ ys = .bool a' :: ys' ∧ eqCells z xs' ys' = some r ∧ b = (a == a' && r) := by
  unfold eqCells at h
  split at h <;> rename_i hh <;> first | (cases hh; done) | skip
  · cases hh
    split at h
    · injection h with h
      exact ⟨_, _, _, _, _, rfl, rfl, by assumption, h.symm⟩
    · cases h
  · cases h
theorem eqCells_nil {xs ys : List PV} {b : Bool} (h : eqCells [] xs ys = some b) : xs = [] ∧ ys = [] ∧ b = true := by
  unfold eqCells at h
  split at h <;> rename_i hh <;> first | (cases hh; done) | skip
  · injection h with h
    exact ⟨rfl, rfl, h.symm⟩
  · cases h
theorem Reps.cons_inv {G : Gh} {x : PV} {xs : List PV} {vs : List Value} (h : Reps G (x :: xs) vs) : ∃ v us, vs = v :: us ∧ Rep G x v ∧ Reps G xs us := by
  cases h with
  | cons _ v _ us h1 h2 => exact ⟨v, us, rfl, h1, h2⟩
/-- What == of a type gives. -/
structure EqL (P : Program) (t : TypeId) (z : List PV) : Prop where
  guard : P.eqGuardType P.depth t = false
  eql : ∀ (G : Gh) (xs ys : List PV) (vs us : List Value) (b : Bool) (w : World), eqCells z xs ys = some b → Reps G xs vs → Reps G ys us → (Op.equalIn 10000 t (.agg vs.toArray) (.agg us.toArray)).run P w = .ok b w
def PV.toV : PV → Value
  | .int k n => .int k n
  | .bool b => .bool b
  | .str l => .string ⟨l.toArray⟩
  | .list _ _ _ => .slice none 0 0
  | .val v => v
  | _ => undef
def PV.simple : PV → Bool
  | .int _ _ | .bool _ | .str _ => true
  | .list _ [] .nil => true
  | .val v => v.oneCell'
  | _ => false
theorem rep_simple (G : Gh) {x : PV} (h : x.simple = true) : Rep G x x.toV ∧ x.isCell = true := by
  unfold PV.simple at h
  split at h <;> first | exact ⟨by constructor, by simp_all [PV.isCell]⟩ | simp at h
theorem reps_simple (G : Gh) : ∀ {xs : List PV}, xs.all PV.simple = true → Reps G xs (xs.map PV.toV) ∧ ∀ x ∈ xs, x.isCell = true
  | [], _ => ⟨.nil, by simp⟩
  | x :: xs, h => by
    simp only [List.all_cons, Bool.and_eq_true] at h
    obtain ⟨h1, h2⟩ := reps_simple G h.2
    exact ⟨.cons _ _ _ _ (rep_simple G h.1).1 h1, by simpa using ⟨(rep_simple G h.1).2, h2⟩⟩
def agB (P : Program) (t : TypeId) : Bool := match P.underlying t with | some (.struct _) | some (.array _ _) => true | _ => false
def fldB (P : Program) (t : TypeId) : List (Nat × Nat × Bool) := match P.underlying t with
  | some (.struct fs) => fs.toList.map fun f => (f.offset, ((P.info? f.type).map (·.size)).getD 0, agB P f.type)
  | _ => []
def fokB (P : Program) (t : TypeId) : Bool := match P.underlying t with
  | some (.struct fs) => fs.toList.all fun f => (P.info? f.type).isSome && (P.underlying f.type).isSome
  | _ => true
def TK.ok (P : Program) (t : TypeId) : TK → Prop
  | .int k => P.underlying t = some (.int k)
  | .bool => P.underlying t = some .bool
  | .str => P.underlying t = some .string
  | .slice e => P.underlying t = some (.slice e)
  | .struct => (match P.underlying t with | some (.struct _) => true | _ => false) = true
  | .other (some e) => P.underlying t = some (.pointer e)
  | .other none => True
structure TOk (P : Program) (t : TypeId) (y : TyI) : Prop where
  size : (P.info? t).map (fun i => (i.size, i.bytes)) = some (y.size, y.bytes)
  zero : ((P.info? t).bind (·.zero)).map (fun z => z.cells.toList) = some (y.zero.map PV.toV)
  simple : y.zero.all PV.simple = true
  zlen : y.zero.length = y.size
  und : y.k.ok P t
  isSm : (P.underlying t).isSome = true
  ag : agB P t = y.ag
  flds : fldB P t = y.flds
  fok : fokB P t = true
  eql : y.cmp = true → EqL P t y.zero

section
variable {P : Program} {t : TypeId} {y : TyI} (w : World)
theorem TOk.info (h : TOk P t y) : ∃ i z, P.info? t = some i ∧ i.size = y.size ∧ i.bytes = y.bytes ∧ i.zero = some z ∧ z.cells.toList = y.zero.map PV.toV := by
  have h1 := h.size
  have h2 := h.zero
  cases hi : P.info? t with
  | none => rw [hi] at h1; simp at h1
  | some i =>
    rw [hi] at h1 h2
    simp at h1 h2
    obtain ⟨z, hz, he⟩ := h2
    exact ⟨i, z, rfl, h1.1, h1.2, hz, he⟩
theorem TOk.run_sizeOf (h : TOk P t y) : (sizeOf t).run P w = .ok y.size w := by
  obtain ⟨i, z, hi, hs, _⟩ := h.info
  simp [sizeOf, typeInfo, hi, hs]
theorem TOk.run_zero (h : TOk P t y) : ∃ z, (zeroValue t).run P w = .ok z w ∧ z.cells.toList = y.zero.map PV.toV := by
  obtain ⟨i, z, hi, _, _, hz, he⟩ := h.info
  exact ⟨z, by simp [zeroValue, typeInfo, hi, hz], he⟩
theorem TOk.run_isAgg (h : TOk P t y) : (isAgg t).run P w = .ok y.ag w := by
  have h1 := h.ag
  have h2 := h.isSm
  unfold agB at h1
  cases hu : P.underlying t with
  | none => simp [hu] at h2
  | some d => rw [hu] at h1; rw [← h1]; cases d <;> simp [isAgg, underlying, hu]

theorem add_lit (b o n : Nat) : (⟨b, o, none⟩ : Addr).add n = ⟨b, o + n, none⟩ := by unfold Addr.add; split <;> simp_all

/-- Cells that read as a list, from an offset on. -/
theorem TOk.run_loadVar (h : TOk P t y) (b o : Nat) (vs : List Value) (hc : ∀ (j : Nat) (v : Value), vs[j]? = some v → w.cell? ⟨b, o + j, none⟩ = some v) (hl : vs.length = y.size) (hs : y.ag = false → y.size = 1) :
    ∃ v, (loadVar t ⟨b, o, none⟩).run P w = .ok v w ∧ ((y.ag = true ∧ v = .agg vs.toArray) ∨ (y.ag = false ∧ vs = [v])) := by
  cases ha : y.ag with
  | true =>
    refine ⟨.agg vs.toArray, ?_, .inl ⟨rfl, rfl⟩⟩
    have := run_loadCells_list (P := P) w ⟨b, o, none⟩ vs (fun j v e => by rw [add_lit]; exact hc j v e)
    rw [hl] at this
    simp [loadVar, h.run_isAgg, ha, h.run_sizeOf, this]
  | false =>
    rw [hs ha] at hl
    match vs, hl with
    | [v], _ =>
      refine ⟨v, ?_, .inr ⟨rfl, rfl⟩⟩
      have := hc 0 v rfl
      rw [Nat.add_zero] at this
      simp [loadVar, h.run_isAgg, ha, load, Sem.run, this]
end

/-! ### Loads -/
def PV.isAgg : PV → Bool
  | .agg _ => true
  | _ => false
/-- What a load of type y through p gives. -/
def ldPV (y : TyI) (st : St) : PV → Option PV
  | .ref r o => match st.box[r]? with
    | some cs => if o + y.size ≤ cs.length then (if y.ag then some (.agg ((cs.drop o).take y.size)) else if y.size = 1 then cs[o]? else none) else none
    | none => none
  | .elem x => if x.cells.length = y.size then (if x.isAgg = y.ag then (if x.isAgg then some x else if x.isCell then some x else none) else none) else none
  | _ => none
theorem row_cell {w : World} {b : Nat} {vs : List Value} (h : World.row w b vs) (i : Nat) : w.cell? ⟨b, i, none⟩ = vs[i]? := by
  obtain ⟨T, h⟩ := h
  simp [World.cell?, h]
theorem ld_ok {P : Program} {t : TypeId} {y : TyI} (hy : TOk P t y) {G : Gh} {st : St} {w : World} {p x : PV} {v : Value} (hi : Inv G st w) (hp : Rep G p v) (hl : ldPV y st p = some x) :
    ∃ u, (Instr.loadAt t v).run P w = .ok u w ∧ Rep G x u := by
  unfold ldPV at hl
  split at hl
  · -- a variable
    rename_i r o
    cases hp with
    | ref _ b _ hr =>
    obtain ⟨_, _, cs, vs, hcs, hrow, hreps, hcell⟩ := hi.box r b hr
    rw [hcs] at hl
    simp only at hl
    split at hl
    · rename_i hle
      have hlen := hreps.length
      have hsub : ∀ (j : Nat) (u : Value), ((vs.drop o).take y.size)[j]? = some u → w.cell? ⟨b, o + j, none⟩ = some u := by
        intro j u e
        obtain ⟨_, e⟩ := take_get e
        rw [row_cell hrow]
        simpa [List.getElem?_drop] using e
      have hl2 : ((vs.drop o).take y.size).length = y.size := by simp; omega
      split at hl
      · rename_i hag
        injection hl with hl
        subst hl
        obtain ⟨u, h1, h2⟩ := hy.run_loadVar w b o _ hsub hl2 (by simp [hag])
        rcases h2 with ⟨_, rfl⟩ | ⟨h2, _⟩
        · exact ⟨_, by simpa [Instr.loadAt, Instr.sureAddr] using h1, .agg _ _ (fun z hz => hcell z (List.mem_of_mem_drop (List.mem_of_mem_take hz))) ((hreps.drop o).take _)⟩
        · simp [hag] at h2
      · rename_i hag
        split at hl
        · rename_i h1s
          obtain ⟨u, h1, h2⟩ := hy.run_loadVar w b o _ hsub hl2 (fun _ => h1s)
          rcases h2 with ⟨h2, _⟩ | ⟨_, h2⟩
          · simp [h2] at hag
          · obtain ⟨u', hu', hrep⟩ := hreps.get o x hl
            have : (List.take y.size (List.drop o vs))[0]? = vs[o]? := by rw [h1s]; simp [List.getElem?_take]
            rw [h2, hu'] at this
            simp at this
            subst this
            exact ⟨u, by simpa [Instr.loadAt, Instr.sureAddr] using h1, hrep⟩
        · simp at hl
    · simp at hl
  · -- data
    rename_i z
    cases hp with
    | elem _ b o vs h1 hv hd =>
    split at hl
    · rename_i hsz
      have hlen := hv.length
      have hcell : ∀ (j : Nat) (u : Value), vs[j]? = some u → w.cell? ⟨b, o + j, none⟩ = some u := by
        intro j u e
        refine hi.dat b (o + j) u ?_
        have := prefix_get hd e
        simpa [List.getElem?_drop] using this
      split at hl
      · rename_i hag
        split at hl
        · rename_i hz
          injection hl with hl
          subst hl
          have hag' : y.ag = true := by rw [← hag]; exact hz
          obtain ⟨u, h2, h3⟩ := hy.run_loadVar w b o vs hcell (by omega) (by simp [hag'])
          rcases h3 with ⟨_, rfl⟩ | ⟨h3, _⟩
          · refine ⟨_, by simpa [Instr.loadAt, Instr.sureAddr] using h2, ?_⟩
            cases z <;> simp [PV.isAgg] at hz
            exact .agg _ _ (by simpa [PV.cells] using h1) (by simpa [PV.cells] using hv)
          · simp [hag'] at h3
        · rename_i hz
          split at hl
          · rename_i hcl
            injection hl with hl
            subst hl
            have hag' : y.ag = false := by rw [← hag]; simpa using hz
            have hcs : z.cells = [z] := by cases z <;> simp_all [PV.cells, PV.isAgg]
            rw [hcs] at hsz hv
            obtain ⟨u, h2, h3⟩ := hy.run_loadVar w b o vs hcell (by simp at hsz hlen; rw [hcs] at hlen; simp at hlen; omega) (fun _ => by simpa using hsz.symm)
            rcases h3 with ⟨h3, _⟩ | ⟨_, rfl⟩
            · simp [hag'] at h3
            · cases hv with
              | cons _ _ _ _ hv _ => exact ⟨u, by simpa [Instr.loadAt, Instr.sureAddr] using h2, hv⟩
          · simp at hl
      · simp at hl
    · simp at hl
  · simp at hl
end Go.Proofs.YtpepmfhemjeocaaGreatDoor
end
section
/- Stores, new variables, new data, append: theorems on the machine. -/
set_option linter.unusedVariables false
set_option linter.unusedSimpArgs false
namespace Go.Proofs.YtpepmfhemjeocaaGreatDoor

theorem Inv.ref_lt {G : Gh} {st : St} {w : World} (h : Inv G st w) {r b : Nat} (e : G.ref[r]? = some b) : b < w.heap.size := by
  obtain ⟨_, _, _, _, _, ⟨T, hT⟩, _⟩ := h.box r b e
  exact (Array.getElem?_eq_some_iff.1 hT).1
theorem Inv.dat_lt {G : Gh} {st : St} {w : World} (h : Inv G st w) {b i : Nat} {x : Value} (e : (G.dat b)[i]? = some x) : b < w.heap.size := by
  have := h.dat b i x e
  unfold World.cell? at this
  rcases Nat.lt_or_ge b w.heap.size with hb | hb
  · exact hb
  · simp [Array.getElem?_eq_none hb] at this
theorem Inv.dat_new {G : Gh} {st : St} {w : World} (h : Inv G st w) : G.dat w.heap.size = [] := by
  cases e : G.dat w.heap.size with
  | nil => rfl
  | cons x xs => have := h.dat_lt (b := w.heap.size) (i := 0) (x := x) (by rw [e]; rfl); omega
theorem nodup_inj {xs : List Nat} (h : xs.Nodup) {i j b : Nat} (hi : xs[i]? = some b) (hj : xs[j]? = some b) : i = j := by
  exact (List.getElem?_inj (List.getElem?_eq_some_iff.1 hi).1 h).1 (hi.trans hj.symm)

/-! ### A store -/
/-- A variable's cells, some of them written. -/
def splice (cs : List PV) (o : Nat) (xs : List PV) : List PV := cs.take o ++ xs ++ cs.drop (o + xs.length)
def stPV (y : TyI) (st : St) (p x : PV) : Option St :=
  match p with
  | .ref r o => match st.box[r]? with
    | some cs => if x.cells.length = y.size ∧ o + y.size ≤ cs.length ∧ x.cells.all PV.isCell then some { st with box := st.box.set r (splice cs o x.cells) } else none
    | none => none
  | _ => none
theorem Inv.setBox {G : Gh} {st : St} {w w' : World} (h : Inv G st w) {r b : Nat} (hr : G.ref[r]? = some b) {cs : List PV} {vs : List Value} (hv : Reps G cs vs) (hc : ∀ x ∈ cs, x.isCell = true)
    (hrow : World.row w' b vs) (hother : ∀ k, k ≠ b → w'.heap[k]? = w.heap[k]?) (hs : w'.heap.size = w.heap.size) (ho : w'.os = w.os) (ht : w'.tape = w.tape) (hp : w'.output = w.output) :
    Inv G { st with box := st.box.set r cs } w' := by
  have hbs := h.box r b hr
  refine ⟨⟨ho.trans h.kept.os, ht.trans h.kept.tape, hp.trans h.kept.output, by rw [hs]; exact h.kept.size, ?_⟩, ?_, by simpa using h.rlen, ?_, h.inj, ?_, h.apart, h.fresh, h.laid⟩
  · intro k hk h1 h2
    rw [hother k]
    · exact h.kept.block k hk h1 h2
    · rintro rfl
      rcases hbs.1 with hb | hb
      · exact h1 hb
      · omega
  · intro k i x e
    have hkb : k ≠ b := by rintro rfl; rw [hbs.2.1] at e; simp at e
    rw [World.cell?_of_block (w := w) (by exact hother k hkb)]
    exact h.dat k i x e
  · intro r' b' hr'
    by_cases hrr : r' = r
    · subst hrr
      rw [hr] at hr'
      injection hr' with hb
      subst hb
      have hlt : r' < st.box.length := by rw [← h.rlen]; exact (List.getElem?_eq_some_iff.1 hr).1
      exact ⟨hbs.1, hbs.2.1, cs, vs, by simp [List.getElem?_set, hlt], hrow, hv, hc⟩
    · have hne : b' ≠ b := fun e => hrr (nodup_inj h.inj hr' (e ▸ hr))
      obtain ⟨h1, h2, cs', vs', h3, ⟨T, h4⟩, h5⟩ := h.box r' b' hr'
      exact ⟨h1, h2, cs', vs', by simp only [List.getElem?_set]; rw [if_neg (Ne.symm hrr)]; exact h3, ⟨T, by rw [hother b' hne]; exact h4⟩, h5⟩
  · intro k n e b' c sz e2
    obtain ⟨h1, h2, h3, vs', ⟨T, h4⟩, h5⟩ := h.own k n e b' c sz e2
    have hne : b' ≠ b := by rintro rfl; exact h2 (List.mem_of_getElem? hr)
    exact ⟨h1, h2, h3, vs', ⟨T, by rw [hother b' hne]; exact h4⟩, h5⟩
theorem splice_reps {G : Gh} {cs xs : List PV} {vs us : List Value} (h : Reps G cs vs) (k : Reps G xs us) (o : Nat) : Reps G (splice cs o xs) (vs.take o ++ us ++ vs.drop (o + us.length)) := by
  unfold splice
  rw [k.length]
  exact ((h.take o).append k).append (h.drop _)
theorem st_ok {P : Program} {t : TypeId} {y : TyI} (hy : TOk P t y) {G : Gh} {st st' : St} {w : World} {p x : PV} {v u : Value} (hi : Inv G st w) (hp : Rep G p v) (hx : Rep G x u) (hl : stPV y st p x = some st') :
    ∃ w', (Instr.storeAt t v u).run P w = .ok () w' ∧ Inv G st' w' := by
  unfold stPV at hl
  split at hl
  case h_2 => simp at hl
  rename_i r o
  cases hp with
  | ref _ b _ hr =>
  obtain ⟨_, _, cs, vs, hcs, ⟨T, hT⟩, hreps, hcell⟩ := hi.box r b hr
  rw [hcs] at hl
  simp only at hl
  split at hl
  case isFalse => simp at hl
  rename_i hle
  obtain ⟨hl1, hl2, hl3⟩ := hle
  injection hl with hl
  subst hl
  have hxc : ∀ z ∈ x.cells, z.isCell = true := by simpa using hl3
  have hu := hx.cells hxc
  have hul := hu.length
  have hvl := hreps.length
  have hu1 : ∀ z ∈ u.cells.toList, z.oneCell' = true := by
    intro z hz
    obtain ⟨j, hj⟩ := List.mem_iff_getElem?.1 hz
    have hj2 : j < x.cells.length := by rw [hul]; exact (List.getElem?_eq_some_iff.1 hj).1
    obtain ⟨z', hz', hrep⟩ := hu.get j _ (List.getElem?_eq_getElem hj2)
    rw [hj] at hz'
    injection hz' with hz'
    subst hz'
    exact (hrep.cell1 (hxc _ (List.getElem_mem hj2))).1
  have hsc := run_storeCells_at P b o T u.cells.toList 0 vs.toArray w hT (by simp at hul ⊢; omega) hu1
  have hsize : u.cells.size = y.size := by simp at hul; omega
  refine ⟨_, ?_, hi.setBox hr (splice_reps hreps hu o) ?_ ⟨T, setRow_heap w b _ _ T _ hT⟩ (fun k hk => setRow_other w b k _ hk) (by simp) rfl rfl rfl⟩
  · simp only [Instr.storeAt, Instr.sureAddr, storeVar, Sem.run_bind, Sem.run_pure, Result.andThen_ok, hy.run_sizeOf, hsize]
    simp only [ne_eq, not_true, if_false, Sem.run_pure, Result.andThen_ok]
    simpa using hsc
  · intro z hz
    simp only [splice, List.mem_append] at hz
    rcases hz with (hz | hz) | hz
    · exact hcell z (List.mem_of_mem_take hz)
    · exact hxc z hz
    · exact hcell z (List.mem_of_mem_drop hz)

/-! ### A new variable -/
theorem kept_push {w0 w : World} {p q : Nat → Prop} (h : Kept w0 p q w) (o : Obj) : Kept w0 p q { w with heap := w.heap.push o } := by
  refine ⟨h.os, h.tape, h.output, by have := h.size; simp; omega, fun b hb h1 h2 => ?_⟩
  show (w.heap.push o)[b]? = _
  rw [Array.getElem?_push, if_neg (by have := h.size; omega)]
  exact h.block b hb h1 h2
theorem push_old {w : World} (o : Obj) {k : Nat} (h : k < w.heap.size) : ({ w with heap := w.heap.push o } : World).heap[k]? = w.heap[k]? := by
  show (w.heap.push o)[k]? = _
  rw [Array.getElem?_push, if_neg (by omega)]
theorem row_lt {w : World} {b : Nat} {vs : List Value} (h : World.row w b vs) : b < w.heap.size := by
  obtain ⟨T, h⟩ := h
  exact (Array.getElem?_eq_some_iff.1 h).1
theorem row_push {w : World} {b : Nat} {vs : List Value} (h : World.row w b vs) (o : Obj) : World.row { w with heap := w.heap.push o } b vs := by
  have hlt := row_lt h
  obtain ⟨T, h⟩ := h
  exact ⟨T, by rw [push_old o hlt]; exact h⟩
theorem cell_push {w : World} {b i : Nat} {x : Value} (h : w.cell? ⟨b, i, none⟩ = some x) (o : Obj) : ({ w with heap := w.heap.push o } : World).cell? ⟨b, i, none⟩ = some x := by
  have hlt : b < w.heap.size := by
    unfold World.cell? at h
    rcases Nat.lt_or_ge b w.heap.size with hb | hb
    · exact hb
    · simp [Array.getElem?_eq_none hb] at h
  rw [World.cell?_of_block (w := w) (push_old o hlt)]
  exact h
def Gh.addRef (G : Gh) (b : Nat) : Gh := { G with ref := G.ref ++ [b] }
theorem Gh.le_addRef (G : Gh) (b : Nat) : G.le (G.addRef b) := ⟨rfl, rfl, rfl, fun _ => List.prefix_rfl, fun _ _ _ _ => rfl, List.prefix_append _ _, fun _ _ _ h => h⟩
theorem Inv.newBox {G : Gh} {st : St} {w : World} (h : Inv G st w) {cs : List PV} {vs : List Value} (hv : Reps G cs vs) (hc : ∀ x ∈ cs, x.isCell = true) (T : TypeId) :
    Inv (G.addRef w.heap.size) { st with box := st.box ++ [cs] } { w with heap := w.heap.push (.cells vs.toArray T) } := by
  have hle := G.le_addRef w.heap.size
  have hnew : ¬ w.heap.size ∈ G.ref := fun hm => by
    obtain ⟨r, hr⟩ := List.mem_iff_getElem?.1 hm
    have := h.ref_lt hr
    omega
  refine ⟨kept_push h.kept _, fun b i x e => cell_push (h.dat b i x e) _, ?_, ?_, ?_, ?_, h.apart, h.fresh, h.laid⟩
  · show (G.ref ++ [_]).length = (st.box ++ [cs]).length
    simp [h.rlen]
  · intro r b e
    rcases Nat.lt_or_ge r G.ref.length with hr | hr
    · have e' : G.ref[r]? = some b := by rw [← e]; exact (List.getElem?_append_left hr).symm
      obtain ⟨h1, h2, cs', vs', h3, h4, h5, h6⟩ := h.box r b e'
      exact ⟨h1, h2, cs', vs', by show (st.box ++ [cs])[r]? = _; rw [List.getElem?_append_left (by rw [← h.rlen]; exact hr)]; exact h3, row_push h4 _, h5.mono hle, h6⟩
    · have e' : (G.ref ++ [w.heap.size])[r]? = some b := e
      rw [List.getElem?_append_right hr] at e'
      have hr0 : r = G.ref.length := by
        rcases Nat.eq_or_lt_of_le hr with h | h
        · exact h.symm
        · rw [List.getElem?_eq_none (by simp; omega)] at e'; cases e'
      subst hr0
      simp at e'
      subst e'
      refine ⟨.inr h.kept.size, h.dat_new, cs, vs, ?_, ⟨T, ?_⟩, hv.mono hle, hc⟩
      · show (st.box ++ [cs])[_]? = _
        rw [h.rlen]; simp
      · show (w.heap.push _)[w.heap.size]? = _
        simp
  · show (G.ref ++ [w.heap.size]).Nodup
    rw [List.nodup_append]
    exact ⟨h.inj, by simp, fun a ha b hb => by simp at hb; subst hb; rintro rfl; exact hnew ha⟩
  · intro k n e b c sz e2
    obtain ⟨h1, h2, h3, vs', h4, h5⟩ := h.own k n e b c sz e2
    refine ⟨h1, ?_, h3, vs', row_push h4 _, h5⟩
    show ¬ b ∈ G.ref ++ [w.heap.size]
    have := row_lt h4
    simp only [List.mem_append, List.mem_singleton, not_or]
    exact ⟨h2, by omega⟩
theorem addRef_get {G : Gh} {st : St} {w : World} (h : Inv G st w) (b : Nat) : (G.addRef b).ref[st.box.length]? = some b := by
  show (G.ref ++ [b])[_]? = _
  rw [← h.rlen]; simp

/-! ### New data -/
def Gh.addDat (G : Gh) (b : Nat) (vs : List Value) : Gh := { G with dat := fun k => if k = b then vs else G.dat k }
theorem Gh.le_addDat {G : Gh} {st : St} {w : World} (h : Inv G st w) (vs : List Value) : G.le (G.addDat w.heap.size vs) := by
  refine ⟨rfl, rfl, rfl, fun b => ?_, fun b hb _ _ => ?_, List.prefix_rfl, fun _ _ _ h => h⟩
  · simp only [Gh.addDat]
    split
    · rename_i e; subst e; rw [h.dat_new]; exact List.nil_prefix
    · exact List.prefix_rfl
  · simp only [Gh.addDat]
    rw [if_neg (by have := h.kept.size; omega)]
theorem Inv.newDat {G : Gh} {st : St} {w : World} (h : Inv G st w) (vs : List Value) (T : TypeId) (us : List Value) (hu : vs <+: us) : Inv (G.addDat w.heap.size vs) st { w with heap := w.heap.push (.cells us.toArray T) } := by
  have hle := Gh.le_addDat h vs
  refine ⟨kept_push h.kept _, ?_, h.rlen, ?_, h.inj, ?_, h.apart, h.fresh, h.laid⟩
  · intro b i x e
    simp only [Gh.addDat] at e
    split at e
    · rename_i hb
      subst hb
      have : us[i]? = some x := prefix_get hu e
      simp [World.cell?, this]
    · exact cell_push (h.dat b i x e) _
  · intro r b e
    obtain ⟨h1, h2, cs', vs', h3, h4, h5, h6⟩ := h.box r b e
    have hb := row_lt h4
    refine ⟨h1, ?_, cs', vs', h3, row_push h4 _, h5.mono hle, h6⟩
    simp only [Gh.addDat]
    rw [if_neg (by omega)]; exact h2
  · intro k n e b c sz e2
    obtain ⟨h1, h2, h3, vs', h4, h5⟩ := h.own k n e b c sz e2
    have hb := row_lt h4
    refine ⟨h1, h2, ?_, vs', row_push h4 _, h5⟩
    simp only [Gh.addDat]
    rw [if_neg (by omega)]; exact h3
end Go.Proofs.YtpepmfhemjeocaaGreatDoor
end
section
/- Objects that grow: append. -/
set_option linter.unusedVariables false
set_option linter.unusedSimpArgs false
namespace Go.Proofs.YtpepmfhemjeocaaGreatDoor

theorem Inv.addLen {G : Gh} {st : St} {w : World} (h : Inv G st w) : Inv G { st with len := st.len ++ [0] } w := by
  have hold : ∀ (k n : Nat), (st.len ++ [0])[k]? = some n → (st.len[k]? = some n) ∨ (k = st.len.length ∧ n = 0) := by
    intro k n e
    rcases Nat.lt_or_ge k st.len.length with hk | hk
    · rw [List.getElem?_append_left hk] at e; exact .inl e
    · rw [List.getElem?_append_right hk] at e
      rcases Nat.eq_or_lt_of_le hk with hk' | hk'
      · subst hk'; simp at e; exact .inr ⟨rfl, e.symm⟩
      · rw [List.getElem?_eq_none (by simp; omega)] at e; cases e
  have hnone : ∀ i, G.hist st.len.length i = none := fun i => h.fresh _ i fun m hm => by simp at hm
  refine ⟨h.kept, h.dat, h.rlen, h.box, h.inj, ?_, ?_, ?_, h.laid⟩
  · intro k n e b c sz e2
    rcases hold k n e with e | ⟨rfl, rfl⟩
    · exact h.own k n e b c sz e2
    · rw [hnone] at e2; cases e2
  · intro k k' n n' b c sz c' sz' e e' e2 e2'
    rcases hold k n e with e | ⟨rfl, rfl⟩
    · rcases hold k' n' e' with e' | ⟨rfl, rfl⟩
      · exact h.apart k k' n n' b c sz c' sz' e e' e2 e2'
      · rw [hnone] at e2'; cases e2'
    · rw [hnone] at e2; cases e2
  · intro k n e
    refine h.fresh k n fun m hm => e m ?_
    show (st.len ++ [0])[k]? = some m
    rw [List.getElem?_append_left (List.getElem?_eq_some_iff.1 hm).1]; exact hm

/-- Object k lies in block b now, with these elements' cells. -/
def Gh.to (G : Gh) (k n b c sz : Nat) (vs : List Value) : Gh :=
  { G with dat := fun j => if j = b then vs else G.dat j, hist := fun k' i => if k' = k ∧ i = n then some (b, c, sz) else G.hist k' i }
theorem Inv.grow {G : Gh} {st : St} {w w' : World} (h : Inv G st w) {k n n' b c sz : Nat} {vs us : List Value} (hk : st.len[k]? = some n) (hn : n ≤ n') (hnew : G.hist k n' = none)
    (ho : w'.os = w.os) (ht : w'.tape = w.tape) (hp : w'.output = w.output) (hs : w.heap.size ≤ w'.heap.size) (hother : ∀ j, j < w.heap.size → j ≠ b → w'.heap[j]? = w.heap[j]?)
    (hb : b = w.heap.size ∨ ∃ c0 s0, G.hist k n = some (b, c0, s0)) (hrow : World.row w' b us) (hvs : vs <+: us) (hl : vs.length = n' * sz) (hus : us.length = c * sz) (hc : c ≤ maxLen) (hd : G.dat b <+: vs) :
    G.le (G.to k n' b c sz vs) ∧ Inv (G.to k n' b c sz vs) { st with len := st.len.set k n' } w' := by
  have hpb : G.pob b ∨ G.w0.heap.size ≤ b := by
    rcases hb with rfl | ⟨c0, s0, e⟩
    · exact .inr h.kept.size
    · exact (h.own k n hk b c0 s0 e).1
  have hbr : b ∉ G.ref := by
    rcases hb with rfl | ⟨c0, s0, e⟩
    · intro hm
      obtain ⟨r, hr⟩ := List.mem_iff_getElem?.1 hm
      have := h.ref_lt hr
      omega
    · exact (h.own k n hk b c0 s0 e).2.1
  have hle : G.le (G.to k n' b c sz vs) := by
    refine ⟨rfl, rfl, rfl, fun j => ?_, fun j hj h1 h2 => ?_, List.prefix_rfl, fun k' i x e => ?_⟩
    · simp only [Gh.to]; split
      · rename_i e; subst e; exact hd
      · exact List.prefix_rfl
    · simp only [Gh.to]; rw [if_neg]
      rintro rfl
      rcases hpb with hpb | hpb
      · exact h2 hpb
      · omega
    · simp only [Gh.to]; rw [if_neg]
      · exact e
      · rintro ⟨rfl, rfl⟩; rw [hnew] at e; cases e
  have hkl : k < st.len.length := (List.getElem?_eq_some_iff.1 hk).1
  have hlen : ∀ (k' m : Nat), (st.len.set k n')[k']? = some m → (k' = k ∧ m = n') ∨ (k' ≠ k ∧ st.len[k']? = some m) := by
    intro k' m e
    rw [List.getElem?_set] at e
    split at e
    · rename_i hkk; subst hkk; simp [hkl] at e; exact .inl ⟨rfl, e.symm⟩
    · rename_i hkk; exact .inr ⟨fun e => hkk e.symm, e⟩
  have hhist : ∀ (k' i : Nat) x, k' ≠ k → (G.to k n' b c sz vs).hist k' i = some x → G.hist k' i = some x := by
    intro k' i x hne e
    simp only [Gh.to] at e
    rw [if_neg (fun he => hne he.1)] at e
    exact e
  have hhk : (G.to k n' b c sz vs).hist k n' = some (b, c, sz) := by simp [Gh.to]
  have hap : ∀ (k' m b' c' s' : Nat), k' ≠ k → st.len[k']? = some m → G.hist k' m = some (b', c', s') → b' ≠ b := by
    intro k' m b' c' s' hne e e2
    rintro rfl
    rcases hb with rfl | ⟨c0, s0, e0⟩
    · obtain ⟨_, _, _, vs', h4, _⟩ := h.own k' m e _ _ _ e2
      have := row_lt h4
      omega
    · exact hne (h.apart k' k m n b' c' s' c0 s0 e hk e2 e0)
  refine ⟨hle, ⟨⟨ho.trans h.kept.os, ht.trans h.kept.tape, hp.trans h.kept.output, Nat.le_trans h.kept.size hs, ?_⟩, ?_, h.rlen, ?_, h.inj, ?_, ?_, ?_, h.laid⟩⟩
  · intro j hj h1 h2
    rw [hother j (by have := h.kept.size; show j < _; have hj' : j < G.w0.heap.size := hj; omega)]
    · exact h.kept.block j hj h1 h2
    · rintro rfl
      rcases hpb with hpb | hpb
      · exact h2 hpb
      · have hj' : j < G.w0.heap.size := hj
        omega
  · intro j i x e
    simp only [Gh.to] at e
    split at e
    · rename_i hj
      subst hj
      rw [row_cell hrow]
      exact prefix_get hvs e
    · rename_i hj
      rw [World.cell?_of_block (w := w) (hother j (h.dat_lt e) hj)]
      exact h.dat j i x e
  · intro r b' e
    obtain ⟨h1, h2, cs, vs', h3, ⟨T, h4⟩, h5, h6⟩ := h.box r b' e
    have hne : b' ≠ b := by rintro rfl; exact hbr (List.mem_of_getElem? e)
    refine ⟨h1, ?_, cs, vs', h3, ⟨T, by rw [hother b' (h.ref_lt e) hne]; exact h4⟩, h5.mono hle, h6⟩
    simp only [Gh.to]; rw [if_neg hne]; exact h2
  · intro k' m e b' c' s' e2
    rcases hlen k' m e with ⟨rfl, rfl⟩ | ⟨hne, e⟩
    · rw [hhk] at e2
      injection e2 with e2
      simp only [Prod.mk.injEq] at e2
      obtain ⟨rfl, rfl, rfl⟩ := e2
      exact ⟨hpb, hbr, by simp only [Gh.to, if_true]; exact hl, us, hrow, hus, hc⟩
    · have e2' := hhist _ _ _ hne e2
      have hbb := hap k' m b' c' s' hne e e2'
      obtain ⟨h1, h2, h3, vs', h4, h5⟩ := h.own k' m e b' c' s' e2'
      have hlt := row_lt h4
      obtain ⟨T, h4⟩ := h4
      refine ⟨h1, h2, ?_, vs', ⟨T, by rw [hother b' hlt hbb]; exact h4⟩, h5⟩
      simp only [Gh.to]; rw [if_neg hbb]; exact h3
  · intro k1 k2 m1 m2 b' c1 s1 c2 s2 e1 e2 f1 f2
    rcases hlen k1 m1 e1 with ⟨rfl, rfl⟩ | ⟨hne1, d1⟩
    · rcases hlen k2 m2 e2 with ⟨rfl, rfl⟩ | ⟨hne2, d2⟩
      · rfl
      · rw [hhk] at f1
        injection f1 with f1
        simp only [Prod.mk.injEq] at f1
        exact absurd f1.1.symm (hap k2 m2 b' c2 s2 hne2 d2 (hhist _ _ _ hne2 f2))
    · rcases hlen k2 m2 e2 with ⟨rfl, rfl⟩ | ⟨hne2, d2⟩
      · rw [hhk] at f2
        injection f2 with f2
        simp only [Prod.mk.injEq] at f2
        exact absurd f2.1.symm (hap k1 m1 b' c1 s1 hne1 d1 (hhist _ _ _ hne1 f1))
      · exact h.apart k1 k2 m1 m2 b' c1 s1 c2 s2 d1 d2 (hhist _ _ _ hne1 f1) (hhist _ _ _ hne2 f2)
  · intro k' i e
    simp only [Gh.to]
    by_cases hkk : k' = k
    · subst hkk
      have := e n' (by simp [List.getElem?_set, hkl])
      rw [if_neg (by omega)]
      exact h.fresh k' i fun m hm => by rw [hk] at hm; injection hm with hm; omega
    · rw [if_neg (fun he => hkk he.1)]
      exact h.fresh k' i fun m hm => e m (by simp only [List.getElem?_set]; rw [if_neg (Ne.symm hkk)]; exact hm)

/-! ### append -/
theorem run_append_room' {P : Program} (w : World) (t ty e T : TypeId) (i : TypeInfo) (ht : P.underlying t = some (.slice e)) (hi : P.info? e = some i)
    (g sLen sCap : Nat) (cur : Array Value) (hg : w.heap[g]? = some (.cells cur T (0, 0)))
    (a : Addr) (m c : Nat) (news : List Value) (hl : news.length = m * i.size) (hnews : ∀ (j : Nat) u, news[j]? = some u → w.cell? (a.add j) = some u) (h1 : ∀ u ∈ news, u.oneCell' = true)
    (hroom : sLen + m ≤ sCap) (hfit : sLen * i.size + news.length ≤ cur.size) :
    (Builtin.append_ #[t, t] ty #[.slice (some ⟨g, 0, none⟩) sLen sCap, .slice (some a) m c]).run P w =
      .ok (.slice (some ⟨g, 0, none⟩) (sLen + m) sCap) (w.setRow g (cur.toList.take (sLen * i.size) ++ news ++ cur.toList.drop (sLen * i.size + news.length)).toArray) := by
  have hf := run_firstCells_some (P := P) w i.size m a m c news hl hnews
  have hst := run_storeCells_at P g (sLen * i.size) T news 0 cur w hg (by simpa using hfit) h1
  simp only [Nat.add_zero] at hst
  simp [Builtin.append_, run_underlying ht, sizeOf, typeInfo, hi, Builtin.lenOf, hroom, hf, Addr.add_lit, hst]
theorem run_append_zero {P : Program} (w : World) (t ty e : TypeId) (i : TypeInfo) (ht : P.underlying t = some (.slice e)) (hi : P.info? e = some i)
    (base xa : Option Addr) (n cap c : Nat) (hn : n ≤ cap) :
    (Builtin.append_ #[t, t] ty #[.slice base n cap, .slice xa 0 c]).run P w = .ok (.slice base n cap) w := by
  cases xa <;> cases base <;> simp [Builtin.append_, run_underlying ht, sizeOf, typeInfo, hi, Builtin.lenOf, hn, Builtin.firstCells, loadCells, loadCellsFrom, storeCells]

theorem Rep.list_inv {G : Gh} {sz : Nat} {xs : List PV} {t : Tk} {v : Value} (h : Rep G (.list sz xs t) v) :
    (xs = [] ∧ v = .slice Option.none 0 0) ∨ ∃ b o c vs, t ≠ .nil ∧ v = .slice (some ⟨b, o, Option.none⟩) xs.length c ∧ xs.length ≤ c ∧ (∀ x ∈ xs, x.cells.length = sz) ∧ (∀ x ∈ cellsOf xs, x.isCell = true) ∧ Reps G (cellsOf xs) vs ∧ vs <+: (G.dat b).drop o ∧
      ∀ k, t = .own k → o = 0 ∧ G.hist k xs.length = some (b, c, sz) := by
  cases h with
  | none => exact .inl ⟨rfl, rfl⟩
  | list _ _ _ b o c vs ht hc hs h1 hv hd hk => exact .inr ⟨b, o, c, vs, ht, rfl, hc, hs, h1, hv, hd, hk⟩
theorem cellsOf_length {sz : Nat} : ∀ {xs : List PV}, (∀ x ∈ xs, x.cells.length = sz) → (cellsOf xs).length = xs.length * sz
  | [], _ => by simp
  | x :: xs, h => by
    rw [cellsOf_cons, List.length_append, cellsOf_length (fun y hy => h y (by simp [hy])), h x (by simp), List.length_cons, Nat.add_mul]
    omega
theorem reps_oneCell {G : Gh} {xs : List PV} {vs : List Value} (h : Reps G xs vs) (h1 : ∀ x ∈ xs, x.isCell = true) : ∀ v ∈ vs, v.oneCell' = true := by
  intro v hv
  obtain ⟨j, hj⟩ := List.mem_iff_getElem?.1 hv
  have hj2 : j < xs.length := by rw [h.length]; exact (List.getElem?_eq_some_iff.1 hj).1
  obtain ⟨u, hu, hr⟩ := h.get j _ (List.getElem?_eq_getElem hj2)
  rw [hj] at hu
  injection hu with hu
  subst hu
  exact (hr.cell1 (h1 _ (List.getElem_mem hj2))).1
/-- The cells of what is read. -/
theorem Inv.dat_cells {G : Gh} {st : St} {w : World} (hi : Inv G st w) {b o : Nat} {vs : List Value} (hd : vs <+: (G.dat b).drop o) (j : Nat) (u : Value) (e : vs[j]? = some u) : w.cell? ((⟨b, o, none⟩ : Addr).add j) = some u := by
  rw [add_lit]
  refine hi.dat b (o + j) u ?_
  have := prefix_get hd e
  simpa [List.getElem?_drop] using this

theorem append_ok {P : Program} {t e ty : TypeId} {yt ye : TyI} (ht : TOk P t yt) (hk : yt.k = .slice e) (he : TOk P e ye) (h0 : 0 < ye.size) {G : Gh} {st : St} {w : World} (hi : Inv G st w)
    {k : Nat} {xs ys : List PV} {tk : Tk} {v u : Value} (hv : Rep G (.list ye.size xs (.own k)) v) (hu : Rep G (.list ye.size ys tk) u) (hlen : st.len[k]? = some xs.length)
    (hfit : (xs.length + ys.length) * ye.bytes ≤ 140737488355328) (hmax : xs.length + ys.length ≤ maxLen) :
    ∃ v' w' G', (Builtin.append_ #[t, t] ty #[v, u]).run P w = .ok v' w' ∧ G.le G' ∧ Inv G' { st with len := st.len.set k (xs.length + ys.length) } w' ∧ Rep G' (.list ye.size (xs ++ ys) (.own k)) v' := by
  have hu' : P.underlying t = some (.slice e) := by have := ht.und; rw [hk] at this; exact this
  obtain ⟨i, z, hinfo, hsz, hby, hz, hzc⟩ := he.info
  have hzs : z.cells.size = ye.size := by
    have := congrArg List.length hzc
    simp at this
    rw [this, he.zlen]
  have hkl : k < st.len.length := (List.getElem?_eq_some_iff.1 hlen).1
  have hmx : xs.length + ys.length ≤ 9223372036854775807 := by simp only [maxLen] at hmax; omega
  -- nothing is appended
  have hzero : ys = [] → ∃ v' w' G', (Builtin.append_ #[t, t] ty #[v, u]).run P w = .ok v' w' ∧ G.le G' ∧ Inv G' { st with len := st.len.set k (xs.length + ys.length) } w' ∧ Rep G' (.list ye.size (xs ++ ys) (.own k)) v' := by
    rintro rfl
    have hst : ({ st with len := st.len.set k (xs.length + ([] : List PV).length) } : St) = st := by
      cases st
      simp only [List.length_nil, Nat.add_zero, St.mk.injEq, true_and]
      apply List.ext_getElem?
      intro j
      rw [List.getElem?_set]
      split
      · rename_i hj; subst hj; simp only at hlen hkl ⊢; rw [hlen]
      · rfl
    obtain ⟨xa, c, rfl⟩ : ∃ xa c, u = .slice xa 0 c := by
      rcases hu.list_inv with ⟨_, rfl⟩ | ⟨b, o, c, vs, _, rfl, _⟩
      · exact ⟨_, _, rfl⟩
      · exact ⟨_, _, rfl⟩
    have hv' : ∃ base cap, v = .slice base xs.length cap ∧ xs.length ≤ cap := by
      rcases hv.list_inv with ⟨rfl, rfl⟩ | ⟨b, o, c, vs, _, rfl, hc, _⟩
      · exact ⟨none, 0, rfl, Nat.le_refl _⟩
      · exact ⟨_, _, rfl, hc⟩
    obtain ⟨base, cap, rfl, hcap⟩ := hv'
    exact ⟨_, w, G, run_append_zero w t ty e i hu' hinfo base xa _ cap c hcap, .refl G, by rw [hst]; exact hi, by simpa using hv⟩
  by_cases hys : ys = []
  · exact hzero hys
  have hm0 : 0 < ys.length := by
    cases ys with
    | nil => exact absurd rfl hys
    | cons => simp
  rcases hu.list_inv with ⟨h, _⟩ | ⟨ub, uo, uc, us, _, rfl, huc, hus, hu1, hur, hud, _⟩
  · exact absurd h hys
  have hul : us.length = ys.length * i.size := by rw [← hur.length, cellsOf_length hus, hsz]
  have hcells := hi.dat_cells hud
  have huone := reps_oneCell hur hu1
  -- what growing leaves
  have grown : ∀ (vs : List Value), Reps G (cellsOf xs) vs → (∀ x ∈ xs, x.cells.length = ye.size) → (∀ x ∈ cellsOf xs, x.isCell = true) → ∀ old, old < xs.length + ys.length →
      ∃ G', G.le G' ∧ Inv G' { st with len := st.len.set k (xs.length + ys.length) } (w.drew.alloc (.cells (vs.toArray ++ us.toArray ++ Builtin.zeroCells z.cells (grownCap w (xs.length + ys.length) old e - (xs.length + ys.length))) e)) ∧
        Rep G' (.list ye.size (xs ++ ys) (.own k)) (.slice (some ⟨w.heap.size, 0, none⟩) (xs.length + ys.length) (grownCap w (xs.length + ys.length) old e)) := by
    intro vs hvr hxs hx1 old hold
    have hge := grownCap_ge w (xs.length + ys.length) old e
    have hcm := grownCap_le_maxLen w (xs.length + ys.length) old e hmax
    have hvl : vs.length = xs.length * ye.size := by rw [← hvr.length, cellsOf_length hxs]
    have hnone : G.hist k (xs.length + ys.length) = none := hi.fresh k _ fun m hm => by rw [hlen] at hm; injection hm with hm; omega
    obtain ⟨hle, hinv⟩ := hi.grow (w' := w.drew.alloc (.cells (vs.toArray ++ us.toArray ++ Builtin.zeroCells z.cells (grownCap w (xs.length + ys.length) old e - (xs.length + ys.length))) e)) (k := k) (n := xs.length) (n' := xs.length + ys.length) (b := w.heap.size) (c := grownCap w (xs.length + ys.length) old e) (sz := ye.size)
      (vs := vs ++ us) (us := vs ++ us ++ (Builtin.zeroCells z.cells (grownCap w (xs.length + ys.length) old e - (xs.length + ys.length))).toList) hlen (by omega) hnone rfl rfl rfl (by show w.heap.size ≤ (w.heap.push _).size; rw [Array.size_push]; omega) (fun j hj _ => by
        show (w.heap.push _)[j]? = _
        rw [Array.getElem?_push, if_neg (by omega)]) (.inl rfl) ⟨e, by
        show (w.heap.push _)[w.heap.size]? = _
        simp [Array.getElem?_push]⟩ (List.prefix_append _ _) (by rw [List.length_append, hvl, hul, hsz, Nat.add_mul]) (by
        simp only [List.length_append, hvl, hul, hsz, Array.length_toList, size_zeroCells, hzs, ← Nat.add_mul]
        congr 1
        omega) hcm (by rw [hi.dat_new]; exact List.nil_prefix)
    refine ⟨_, hle, hinv, ?_⟩
    have := Rep.list (G := G.to k (xs.length + ys.length) w.heap.size (grownCap w (xs.length + ys.length) old e) ye.size (vs ++ us)) ye.size (xs ++ ys) (.own k) w.heap.size 0 (grownCap w (xs.length + ys.length) old e) (vs ++ us) (by simp) (by simpa using hge)
      (by intro x hx; rcases List.mem_append.1 hx with hx | hx; exact hxs x hx; exact hus x hx) (by rw [cellsOf_append]; intro x hx; rcases List.mem_append.1 hx with hx | hx; exact hx1 x hx; exact hu1 x hx)
      (by rw [cellsOf_append]; exact (hvr.mono hle).append (hur.mono hle)) (by simp [Gh.to]) (by intro k' hk'; injection hk' with hk'; subst hk'; simp [Gh.to])
    simpa using this
  rcases hv.list_inv with ⟨rfl, rfl⟩ | ⟨b, o, c, vs, _, rfl, hc, hxs, hx1, hvr, hvd, hown⟩
  · -- onto nil
    obtain ⟨G', h1, h2, h3⟩ := grown [] .nil (by simp) (by simp) 0 (by simp; omega)
    have hr := run_append_nil (P := P) w t ty e i z hu' hinfo hz ⟨ub, uo, none⟩ ys.length uc us hul hcells hm0 (by simp at hmx; omega) (by
      have hb := hfit
      simp only [List.length_nil, Nat.zero_add] at hb
      rw [← hby] at hb
      omega)
    simp only [List.length_nil, Nat.zero_add, List.nil_append, Array.empty_append] at h2 h3 ⊢
    exact ⟨_, _, G', hr, h1, h2, h3⟩
  · obtain ⟨rfl, hhist⟩ := hown k rfl
    obtain ⟨_, hbr, hdl, cur, ⟨T, hT⟩, hcl, hcm⟩ := hi.own k _ hlen _ _ _ hhist
    have hvl : vs.length = xs.length * ye.size := by rw [← hvr.length, cellsOf_length hxs]
    have hvs : vs = G.dat b := by
      have hd : vs <+: G.dat b := by simpa using hvd
      exact hd.eq_of_length (by rw [hvl, hdl])
    by_cases hroom : xs.length + ys.length ≤ c
    · -- there is room
      have hfit2 : xs.length * i.size + us.length ≤ cur.toArray.size := by
        rw [hul, ← Nat.add_mul, hsz]
        simp only [List.size_toArray, hcl]
        exact Nat.mul_le_mul_right _ hroom
      have hr := run_append_room' w t ty e T i hu' hinfo b xs.length c cur.toArray hT ⟨ub, uo, none⟩ ys.length uc us hul hcells huone hroom hfit2
      have htake : cur.take (xs.length * ye.size) = vs := by
        have hp : vs <+: cur := by
          rw [hvs]
          refine List.prefix_iff_getElem?.2 fun j hj => ?_
          have := hi.dat b j (G.dat b)[j] (List.getElem?_eq_getElem hj)
          simpa [World.cell?, hT] using this
        obtain ⟨tl, rfl⟩ := hp
        rw [← hvl]
        simp
      have hnone : G.hist k (xs.length + ys.length) = none := hi.fresh k _ fun m hm => by rw [hlen] at hm; injection hm with hm; omega
      have hsz' : xs.length * i.size = xs.length * ye.size := by rw [hsz]
      obtain ⟨hle, hinv⟩ := hi.grow (w' := w.setRow b (cur.toArray.toList.take (xs.length * i.size) ++ us ++ cur.toArray.toList.drop (xs.length * i.size + us.length)).toArray) (k := k) (n := xs.length) (n' := xs.length + ys.length) (b := b) (c := c) (sz := ye.size)
        (vs := vs ++ us) (us := cur.take (xs.length * i.size) ++ us ++ cur.drop (xs.length * i.size + us.length)) hlen (by omega) hnone rfl rfl rfl (by simp) (fun j _ hj => setRow_other w b j _ hj) (.inr ⟨c, ye.size, hhist⟩)
        ⟨T, setRow_heap w b _ _ T _ hT⟩ (by rw [hsz', htake]; exact List.prefix_append _ _) (by rw [List.length_append, hvl, hul, hsz, Nat.add_mul]) (by
          simp only [List.size_toArray] at hfit2
          simp only [List.length_append, List.length_take, List.length_drop]
          omega) hcm (by rw [← hvs]; exact List.prefix_append _ _)
      refine ⟨_, _, _, hr, hle, hinv, ?_⟩
      have := Rep.list (G := G.to k (xs.length + ys.length) b c ye.size (vs ++ us)) ye.size (xs ++ ys) (.own k) b 0 c (vs ++ us) (by simp) (by simpa using hroom)
        (by intro x hx; rcases List.mem_append.1 hx with hx | hx; exact hxs x hx; exact hus x hx) (by rw [cellsOf_append]; intro x hx; rcases List.mem_append.1 hx with hx | hx; exact hx1 x hx; exact hu1 x hx)
        (by rw [cellsOf_append]; exact (hvr.mono hle).append (hur.mono hle)) (by simp [Gh.to]) (by intro k' hk'; injection hk' with hk'; subst hk'; simp [Gh.to])
      simpa using this
    · obtain ⟨G', h1, h2, h3⟩ := grown vs hvr hxs hx1 c (by omega)
      have hr := run_append_grow (P := P) w t ty e i z hu' hinfo hz ⟨b, 0, none⟩ xs.length c vs (by rw [hvl, hsz]) (hi.dat_cells hvd) ⟨ub, uo, none⟩ ys.length uc us hul hcells (by omega) (by omega) (growslice_fits (by omega) (by rw [hby]; exact hfit))
      exact ⟨_, _, G', hr, h1, h2, h3⟩
end Go.Proofs.YtpepmfhemjeocaaGreatDoor
end
section
/- What each operation makes of the temporaries and of the state; and that the machine does so. -/
set_option linter.unusedVariables false
set_option linter.unusedSimpArgs false
namespace Go.Proofs.YtpepmfhemjeocaaGreatDoor

abbrev TTab := TypeId → Option TyI
def TT (P : Program) (tt : TTab) : Prop := ∀ t y, tt t = some y → TOk P t y

def put (nt : Nat) (d : Option Tmp) (env : Env) (x : PV) : Env :=
  match d with
  | some d => if d < nt then (d, x) :: env else env
  | none => env
def evs (env : Env) : List Operand → Option (List PV)
  | [] => some []
  | o :: os => match ev env o, evs env os with
    | some x, some xs => some (x :: xs)
    | _, _ => none

def bitsPV (op : BinOp) (k : IntKind) (x y : Int) : Int :=
  let a := BitVec.ofInt k.bits x
  let b := BitVec.ofInt k.bits y
  match op with
  | .and => k.wrap (a &&& b).toNat
  | .or => k.wrap (a ||| b).toNat
  | .xor => k.wrap (a ^^^ b).toNat
  | _ => k.wrap (a &&& ~~~b).toNat
/-- A binary operation; K: what must hold of its value. -/
def pBin (op : BinOp) (x y : PV) (K : PV → Prop) : Prop :=
  match x, y with
  | .int k a, .int k' b =>
    match op with
    | .shl => 0 ≤ b ∧ K (.int k (k.wrap (a * 2 ^ min b.toNat k.bits)))
    | .shr => 0 ≤ b ∧ K (.int k (a.fdiv (2 ^ min b.toNat k.bits)))
    | .add => k = k' ∧ K (.int k (k.wrap (a + b)))
    | .sub => k = k' ∧ K (.int k (k.wrap (a - b)))
    | .mul => k = k' ∧ K (.int k (k.wrap (a * b)))
    | .quo => k = k' ∧ b ≠ 0 ∧ K (.int k (k.wrap (a.tdiv b)))
    | .rem => k = k' ∧ b ≠ 0 ∧ K (.int k (a.tmod b))
    | .eql => k = k' ∧ K (.bool (a == b))
    | .neq => k = k' ∧ K (.bool (a != b))
    | .lss => k = k' ∧ K (.bool (decide (a < b)))
    | .leq => k = k' ∧ K (.bool (decide (a ≤ b)))
    | .gtr => k = k' ∧ K (.bool (decide (a > b)))
    | .geq => k = k' ∧ K (.bool (decide (a ≥ b)))
    | op => k = k' ∧ K (.int k (bitsPV op k a b))
  | .str a, .str b =>
    match op with
    | .add => a.length + b.length ≤ 9223372036854775807 ∧ K (.str (a ++ b))
    | .eql => K (.bool (a == b))
    | .neq => K (.bool (!(a == b)))
    | .lss => K (.bool (Op.bytesLess a b))
    | .leq => K (.bool (Op.bytesLess a b || a == b))
    | .gtr => K (.bool (!(Op.bytesLess a b || a == b)))
    | .geq => K (.bool (!(Op.bytesLess a b)))
    | _ => False
  | _, _ => False
theorem toList_mk (l : List UInt8) : (⟨l.toArray⟩ : ByteArray).toList = l := by rw [ByteArray.toList_eq]
theorem size_mk (l : List UInt8) : (⟨l.toArray⟩ : ByteArray).size = l.length := rfl
theorem append_mk (a b : List UInt8) : (⟨a.toArray⟩ : ByteArray) ++ ⟨b.toArray⟩ = ⟨(a ++ b).toArray⟩ := by
  apply ByteArray.ext
  simp
theorem run_pBin {P : Program} {op : BinOp} {t : TypeId} {x y : PV} {K : PV → Prop} {G : Gh} {u v : Value} {w : World} (h : pBin op x y K) (hx : Rep G x u) (hy : Rep G y v) : ∃ r z, (binOp op t u v).run P w = .ok z w ∧ Rep G r z ∧ K r := by
  unfold pBin at h
  split at h
  · cases hx; cases hy
    rename_i k a k' b
    cases op
    case shl => exact ⟨_, _, by have h1 := Int.not_lt.2 h.1; simp [binOp, Op.shift, h1], .int _ _, h.2⟩
    case shr => exact ⟨_, _, by have h1 := Int.not_lt.2 h.1; simp [binOp, Op.shift, h1], .int _ _, h.2⟩
    case quo =>
      obtain ⟨rfl, h1, h2⟩ := h
      exact ⟨_, _, by simp [binOp, Op.intDiv, h1], .int _ _, h2⟩
    case rem =>
      obtain ⟨rfl, h1, h2⟩ := h
      exact ⟨_, _, by simp [binOp, Op.intDiv, h1], .int _ _, h2⟩
    all_goals
      obtain ⟨rfl, h2⟩ := h
      first
        | (refine ⟨_, _, ?_, .int _ _, h2⟩; first | (simp [binOp, Op.intArith]; done) | (simp [binOp, Op.intBits, bitsPV]; done))
        | (refine ⟨_, _, ?_, .bool _, h2⟩; simp [binOp, Op.intCmp]; done)
  · cases hx; cases hy
    rename_i a b
    cases op <;> simp only at h <;> first
      | exact h.elim
      | (refine ⟨_, _, ?_, .str _, h.2⟩; have h1 := h.1; simp [binOp, Op.stringOp, size_mk, append_mk, IntKind.max, IntKind.bits, IntKind.signed]; omega)
      | (refine ⟨_, _, ?_, .bool _, h⟩; simp [binOp, Op.stringOp, toList_mk]; done)
  · exact h.elim
end Go.Proofs.YtpepmfhemjeocaaGreatDoor
end
section
/- What each operation makes of the temporaries and of the state: the rules; and that the machine does so. -/
set_option linter.unusedVariables false
set_option linter.unusedSimpArgs false
namespace Go.Proofs.YtpepmfhemjeocaaGreatDoor

/-- Where a part lies. -/
def fillPV (flds : List (Nat × Nat × Bool)) (cs : List PV) : List (Nat × PV) → Option (List PV)
  | [] => some cs
  | (i, x) :: r => match flds[i]? with
    | some (o, n, _) => if x.cells.length = n ∧ o + n ≤ cs.length ∧ x.cells.all PV.isCell then fillPV flds (splice cs o x.cells) r else none
    | none => none
def evParts (env : Env) : List (Nat × Operand) → Option (List (Nat × PV))
  | [] => some []
  | (i, o) :: os => match ev env o, evParts env os with
    | some x, some xs => some ((i, x) :: xs)
    | _, _ => none
/-- Whole parts, in order, none left out. -/
def dense (n : Nat) : List (Nat × PV) → Option (List PV)
  | [] => some []
  | (i, x) :: r => if i = n then (dense (n + 1) r).map (x :: ·) else none
def fldOf (y : TyI) (f : Nat) (cs : List PV) : Option PV := match y.flds[f]? with
  | some (o, n, ag) => if o + n ≤ cs.length then (if ag then some (.agg ((cs.drop o).take n)) else cs[o]?) else none
  | none => none
def pCut (x : PV) (lo hi : Option PV) (K : PV → Prop) : Prop :=
  match x, lo, hi with
  | .str l, none, none => K (.str l)
  | .str l, some (.int _ a), none => 0 ≤ a ∧ a ≤ l.length ∧ K (.str (l.drop a.toNat))
  | .str l, none, some (.int _ b) => 0 ≤ b ∧ b ≤ l.length ∧ K (.str (l.take b.toNat))
  | .str l, some (.int _ a), some (.int _ b) => 0 ≤ a ∧ a ≤ b ∧ b ≤ l.length ∧ K (.str ((l.take b.toNat).drop a.toNat))
  | .list sz xs _, none, none => K (.list sz xs .no)
  | .list sz xs _, some (.int _ a), none => 0 ≤ a ∧ a ≤ xs.length ∧ K (.list sz (xs.drop a.toNat) .no)
  | .list sz xs _, none, some (.int _ b) => 0 ≤ b ∧ b ≤ xs.length ∧ K (.list sz (xs.take b.toNat) .no)
  | .list sz xs _, some (.int _ a), some (.int _ b) => 0 ≤ a ∧ a ≤ b ∧ b ≤ xs.length ∧ K (.list sz ((xs.take b.toNat).drop a.toNat) .no)
  | _, _, _ => False
def evo (env : Env) : Option Operand → Option (Option PV)
  | none => some none
  | some o => (ev env o).map some
def pConv (ys yd : TyI) (x : PV) (K : PV → Prop) : Prop :=
  match x, yd.k with
  | .int _ n, .int k => K (.int k (k.wrap n))
  | .str l, .str => K (.str l)
  | _, _ => False
def pFieldAddr (y : TyI) (f : Nat) (p : PV) (K : PV → Prop) : Prop :=
  match p, y.flds[f]? with
  | .ref r o, some (off, n, _) => n ≠ 0 ∧ K (.ref r (o + off))
  | .elem (.agg cs), some (off, n, true) => n ≠ 0 ∧ off + n ≤ cs.length ∧ K (.elem (.agg ((cs.drop off).take n)))
  | .elem (.agg cs), some (off, n, false) => n ≠ 0 ∧ ∃ c, cs[off]? = some c ∧ K (.elem c)
  | _, _ => False
def pNil : PV → Bool
  | .ref _ _ | .elem _ => true
  | .clo (.func _) _ _ => true
  | _ => false

/-- Is a value nil, where that is known? -/
def nilness : TK → PV → Option Bool
  | .slice _, .list _ [] .nil => some true
  | .slice _, .list _ (_ :: _) _ => some false
  | .other (some _), .ref _ _ => some false
  | .other (some _), .elem _ => some false
  | .other (some _), .val (.pointer none) => some true
  | _, _ => none
def isNilC : TK → PV → Bool
  | .slice _, .list _ [] .nil => true
  | .other (some _), .val (.pointer none) => true
  | _, _ => false
/-- == and != of bools. -/
def fBool (op : BinOp) (k : TK) (a b : PV) : Option Bool :=
  match k with
  | .bool => match a with
    | .bool x => match b with
      | .bool y => match op with
        | .eql => some (x == y)
        | .neq => some (!(x == y))
        | _ => none
      | _ => none
    | _ => none
  | _ => none
/-- == and != against nil. -/
def fNil0 (op : BinOp) (k : TK) (a b : PV) : Option Bool :=
  match isNilC k b with
  | true => match nilness k a with
    | some n => match op with
      | .eql => some n
      | .neq => some (!n)
      | _ => none
    | none => none
  | false => none
/-- == and != of bools, or against nil. -/
def fNil (op : BinOp) (k : TK) (a b : PV) : Option Bool :=
  match fBool op k a b with
  | some r => some r
  | none => fNil0 op k a b
def owns (ow : List Nat) : Option Tmp → Bool
  | some d => ow.contains d
  | none => false
/-- What must hold for an operation to be carried out and K to hold behind it. ow: the temporaries whose slices will be appended to. -/
def pOp (P : Program) (tt : TTab) (ow : List Nat) (nt : Nat) (o : Oper) (env : Env) (st : St) (K : Env → St → Prop) : Prop :=
  match o.op with
  | .move x | .assign x => ∃ a, ev env x = some a ∧ K (put nt o.dst env a) st
  | .pick c a b => ∃ t, ev env c = some (.bool t) ∧ (match ev env a, ev env b with
    | some (.bool x), some (.bool y) => K (put nt o.dst env (.bool (bif t then x else y))) st
    | x, y => (t = true → ∃ z, x = some z ∧ K (put nt o.dst env z) st) ∧ (t = false → ∃ z, y = some z ∧ K (put nt o.dst env z) st))
  | .alloc T => ∃ y, tt T = some y ∧ K (put nt o.dst env (.ref st.box.length 0)) { st with box := st.box ++ [y.zero] }
  | .box T x => ∃ a, ev env x = some a ∧ a.cells.all PV.isCell = true ∧ K (put nt o.dst env (.ref st.box.length 0)) { st with box := st.box ++ [a.cells] }
  | .build T ps => ∃ y xs cs, tt T = some y ∧ y.k = .struct ∧ evParts env ps.toList = some xs ∧ fillPV y.flds y.zero xs = some cs ∧ K (put nt o.dst env (.agg cs)) st
  | .buildSlice T n ps => ∃ y e ye ps' xs, tt T = some y ∧ y.k = .slice e ∧ tt e = some ye ∧ evParts env ps.toList = some ps' ∧ dense 0 ps' = some xs ∧ xs.length = n ∧ 0 < ye.size ∧ n * ye.size ≤ 16777216 ∧
      (∀ x ∈ xs, x.cells.length = ye.size ∧ x.cells.all PV.isCell = true) ∧
      (if owns ow o.dst = true then K (put nt o.dst env (.list ye.size xs (.own st.len.length))) { st with len := st.len ++ [n] }
       else K (put nt o.dst env (.list ye.size xs .no)) st)
  | .load T a => ∃ p y x, ev env a = some p ∧ tt T = some y ∧ ldPV y st p = some x ∧ K (put nt o.dst env x) st
  | .store T a v => ∃ p y x st', ev env a = some p ∧ tt T = some y ∧ ev env v = some x ∧ stPV y st p x = some st' ∧ K (put nt o.dst env (.val undef)) st'
  | .nilCheck x => ∃ p, ev env x = some p ∧ pNil p = true ∧ K (put nt o.dst env p) st
  | .binOp op T x y _ => (∃ a b, ev env x = some a ∧ ev env y = some b ∧ pBin op a b fun r => K (put nt o.dst env r) st) ∨
      (∃ yt xs ys r, tt T = some yt ∧ yt.cmp = true ∧ ev env x = some (.agg xs) ∧ ev env y = some (.agg ys) ∧ eqCells yt.zero xs ys = some r ∧ (op = .eql ∧ K (put nt o.dst env (.bool r)) st ∨ op = .neq ∧ K (put nt o.dst env (.bool (!r))) st)) ∨
      (∃ a b yt r, ev env x = some a ∧ ev env y = some b ∧ tt T = some yt ∧ fNil op yt.k a b = some r ∧ K (put nt o.dst env (.bool r)) st)
  | .unOp op _ x => match op, ev env x with
    | .not, some (.bool b) => K (put nt o.dst env (.bool (!b))) st
    | .neg, some (.int k n) => K (put nt o.dst env (.int k (k.wrap (0 - n)))) st
    | _, _ => False
  | .convert s d x => ∃ ys yd a, tt s = some ys ∧ tt d = some yd ∧ ev env x = some a ∧ pConv ys yd a fun r => K (put nt o.dst env r) st
  | .makeFunc fn fs cs => ∃ us vs, evs env fs.toList = some us ∧ evs env cs.toList = some vs ∧ K (put nt o.dst env (.clo fn us vs)) st
  | .slice T x lo hi none => ∃ y a l h, tt T = some y ∧ (match y.k, a with | .str, .str _ => True | .slice _, .list sz _ _ => ∃ e ye, y.k = .slice e ∧ tt e = some ye ∧ ye.size = sz | _, _ => False) ∧ ev env x = some a ∧ evo env lo = some l ∧ evo env hi = some h ∧ pCut a l h fun r => K (put nt o.dst env r) st
  | .fieldAddr T x f => ∃ y p, tt T = some y ∧ y.k = .struct ∧ ev env x = some p ∧ pFieldAddr y f p fun r => K (put nt o.dst env r) st
  | .field T x f => ∃ y cs r, tt T = some y ∧ y.k = .struct ∧ ev env x = some (.agg cs) ∧ fldOf y f cs = some r ∧ K (put nt o.dst env r) st
  | .indexAddr T x i => ∃ y e ye xs t k n z, tt T = some y ∧ y.k = .slice e ∧ tt e = some ye ∧ ev env x = some (.list ye.size xs t) ∧ ev env i = some (.int k n) ∧ 0 ≤ n ∧ xs[n.toNat]? = some z ∧ K (put nt o.dst env (.elem z)) st
  | .index T x i => ∃ y l k n c, tt T = some y ∧ y.k = .str ∧ ev env x = some (.str l) ∧ ev env i = some (.int k n) ∧ 0 ≤ n ∧ l[n.toNat]? = some c ∧ K (put nt o.dst env (.int .u8 (c.toNat : Int))) st
  | .extract t i => ∃ cs x, ev env t = some (.tup cs) ∧ cs[i]? = some x ∧ K (put nt o.dst env x) st
  | .call c => match c.callee with
    | .value f => ∃ fn fs cs ags, ev env f = some (.clo (.func fn) fs cs) ∧ evs env c.args.toList = some ags ∧ PC P fn (fs ++ ags ++ cs) st fun r st' => K (put nt o.dst env r) st'
    | .builtin .len => ∃ T x y a, c.argTypes = #[T] ∧ c.args = #[x] ∧ tt T = some y ∧ ev env x = some a ∧ (match y.k, a with
      | .str, .str l => K (put nt o.dst env (.int .i64 (l.length : Int))) st
      | .slice _, .list _ xs _ => K (put nt o.dst env (.int .i64 (xs.length : Int))) st
      | _, _ => False)
    | .builtin .append => ∃ T s x y e ye xs ys k t, c.argTypes = #[T, T] ∧ c.args = #[s, x] ∧ tt T = some y ∧ y.k = .slice e ∧ tt e = some ye ∧ 0 < ye.size ∧ ev env s = some (.list ye.size xs (.own k)) ∧ ev env x = some (.list ye.size ys t) ∧
        st.len[k]? = some xs.length ∧ (xs.length + ys.length) * ye.bytes ≤ 140737488355328 ∧ xs.length + ys.length ≤ maxLen ∧ K (put nt o.dst env (.list ye.size (xs ++ ys) (.own k))) { st with len := st.len.set k (xs.length + ys.length) }
    | .builtin .max => ∃ x y k a b, c.args = #[x, y] ∧ ev env x = some (.int k a) ∧ ev env y = some (.int k b) ∧ K (put nt o.dst env (.int k (if b > a then b else a))) st
    | _ => False
  | _ => False
end Go.Proofs.YtpepmfhemjeocaaGreatDoor
end
