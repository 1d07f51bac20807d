/- Texts of this claim's author, joined: Sh, Sa, Va, Vb, Vc, Vd, Ve, Vf, Vg, Vh, Vt, Vi, Vj, Vk, Vl, Vm. -/
import Derived.Shelf.Strings.Builder1
import Derived.Shelf.Small.Strs
import Derived.Shelf.Strings.BuilderF
import Derived.Shelf.Strings.BuilderK
import Derived.Shelf.Strings.Search1
import Derived.Shelf.Strings.Prefix
import Derived.Shelf.Strings.BuilderCap
import Derived.Test.YtolhbjfaahcekaaProg
import Derived.WalkKit
import Derived.BigCall
import Derived.Lib.FrozenHead2
import Derived.Lib.OthersKept
import Derived.Calls
import Derived.Below
import Derived.Maps.AppendAt
import Derived.KernelRfl
import Derived.Deep.LoopGhost
import Derived.Laws.Cells
import Derived.Laws.CopyRow
import Derived.Laws.Tables
import Derived.Laws.Entries
import Derived.Laws.AppendOwn
import Derived.Great.BuildSlice
import Derived.Laws.Strings
import Derived.Laws.StructEq
import Derived.Lib.LazyBuf
import Derived.Laws.Pointers
section
/- Contracts of the library, laid by the shelf. -/
namespace Go.Proofs
open Go.Shelf
def Try.lays170_ren : Go.Shelf.Ren := ⟨fun | 170 => 57 | n => n, fun | 70 => 87 | 3 => 3 | 0 => 0 | 72 => 90 | 37 => 88 | 5 => 5 | n => n, fun | n => n⟩
theorem Try.lays170 : Go.Proofs.Lays.n170 Try.prog Try.lays170_ren := {
  mixed := by kernel_rfl
  f170 := Try.func57.trans (congrArg some (by kernel_rfl))
  t0 := Try.underlying0
  a0 := Try.isAgg0
  z0 := Try.sizeOf0
  v0 := Try.zeroValue0
  t3 := Try.underlying3
  a3 := Try.isAgg3
  z3 := Try.sizeOf3
  v3 := Try.zeroValue3
  t37 := Try.underlying88
  a37 := Try.isAgg88
  z37 := Try.sizeOf88
  v37 := Try.zeroValue88
  t70 := Try.underlying87
  a70 := Try.isAgg87
  z70 := Try.sizeOf87
  v70 := Try.zeroValue87
  t72 := Try.underlying90
  a72 := Try.isAgg90
  z72 := Try.sizeOf90
  v72 := Try.zeroValue90 }
open Go.RowKit in
theorem Try.Builder_Len (B b : Nat) (bs : List Value) (w : World) (h : Lib.IsBuilder 90 5 B b bs w) :
    Calls Try.prog 57 #[.pointer (some ⟨b, 0, none⟩)] w fun e w' => e = .returned (.int .i64 bs.length) ∧ w' = w := Any.Builder_Len Try.lays170 B b bs w h
def Try.lays169_ren : Go.Shelf.Ren := ⟨fun | 169 => 58 | n => n, fun | 70 => 87 | 9 => 9 | 0 => 0 | 72 => 90 | 37 => 88 | 127 => 106 | 3 => 3 | 5 => 5 | n => n, fun | n => n⟩
theorem Try.lays169 : Go.Proofs.Lays.n169 Try.prog Try.lays169_ren := {
  mixed := by kernel_rfl
  f169 := Try.func58.trans (congrArg some (by kernel_rfl))
  t0 := Try.underlying0
  a0 := Try.isAgg0
  z0 := Try.sizeOf0
  v0 := Try.zeroValue0
  t3 := Try.underlying3
  a3 := Try.isAgg3
  z3 := Try.sizeOf3
  v3 := Try.zeroValue3
  t9 := Try.underlying9
  a9 := Try.isAgg9
  z9 := Try.sizeOf9
  v9 := Try.zeroValue9
  t37 := Try.underlying88
  a37 := Try.isAgg88
  z37 := Try.sizeOf88
  v37 := Try.zeroValue88
  t70 := Try.underlying87
  a70 := Try.isAgg87
  z70 := Try.sizeOf87
  v70 := Try.zeroValue87
  t72 := Try.underlying90
  a72 := Try.isAgg90
  z72 := Try.sizeOf90
  v72 := Try.zeroValue90
  t127 := Try.underlying106
  a127 := Try.isAgg106
  z127 := Try.sizeOf106
  v127 := Try.zeroValue106 }
theorem Try.Builder_Extra_169 : Builder.Extra Try.prog Try.lays169_ren := {
  sizeBuilder := by kernel_rfl
  liesBuilder := by kernel_rfl
  t5 := Try.underlying5
  a5 := Try.isAgg5
  z5 := Try.sizeOf5
  v5 := Try.zeroValue5
  infoByte := by kernel_rfl
  cellsByte := by kernel_rfl
  sizeByte := by kernel_rfl
  neB5 := by decide }
open Go.RowKit in
theorem Try.Builder_String (B b : Nat) (l : List UInt8) (w : World) (h : Lib.IsBuilder 90 5 B b (Lib.byteCells l) w) (h0 : l ≠ []) :
    Calls Try.prog 58 #[.pointer (some ⟨b, 0, none⟩)] w fun e w' => e = .returned (.string ⟨l.toArray⟩) ∧ Below B w w' := Any.Builder_String Try.lays169 Try.Builder_Extra_169 B b l w h h0
open Go.RowKit in
theorem Try.Builder_String_empty (B b : Nat) (w : World) (h : Lib.IsBuilder 90 5 B b [] w) (hBw : B ≤ w.heap.size) :
    Calls Try.prog 58 #[.pointer (some ⟨b, 0, none⟩)] w fun e w' => e = .returned (.string ⟨#[]⟩) ∧ Below B w w' := Any.Builder_String_empty Try.lays169 Try.Builder_Extra_169 B b w h hBw
open Go.RowKit in
theorem Try.Builder_String_any (B b : Nat) (l : List UInt8) (w : World) (h : Lib.IsBuilder 90 5 B b (Lib.byteCells l) w) (hBw : B ≤ w.heap.size) :
    Calls Try.prog 58 #[.pointer (some ⟨b, 0, none⟩)] w fun e w' => e = .returned (.string ⟨l.toArray⟩) ∧ Below B w w' := Any.Builder_String_any Try.lays169 Try.Builder_Extra_169 B b l w h hBw
def Try.lays137_ren : Go.Shelf.Ren := ⟨fun | 137 => 54 | 217 => 69 | 266 => 72 | n => n, fun | 9 => 9 | 5 => 5 | 3 => 3 | n => n, fun | n => n⟩
theorem Try.lays137 : Go.Proofs.Lays.n137 Try.prog Try.lays137_ren := {
  mixed := by kernel_rfl
  f137 := Try.func54.trans (congrArg some (by kernel_rfl))
  f217 := Try.func69.trans (congrArg some (by kernel_rfl))
  f266 := Try.func72.trans (congrArg some (by kernel_rfl))
  t3 := Try.underlying3
  a3 := Try.isAgg3
  z3 := Try.sizeOf3
  v3 := Try.zeroValue3
  t5 := Try.underlying5
  a5 := Try.isAgg5
  z5 := Try.sizeOf5
  v5 := Try.zeroValue5
  t9 := Try.underlying9
  a9 := Try.isAgg9
  z9 := Try.sizeOf9
  v9 := Try.zeroValue9 }
open Go.RowKit in
theorem Try.strings_IndexByte (s : ByteArray) (c : Int) (w : World) :
    Calls Try.prog 54 #[.string s, .int .u8 c] w fun e w' => e = .returned (.int .i64 (Lib.indexByte s.data.toList c.toNat.toUInt8)) ∧ w' = w := Any.strings_IndexByte Try.lays137 s c w
open Go.RowKit in
theorem Try.Builder_Len_f (B b : Nat) (bs : List Value) (w : World) (h : Lib.IsBuilderF 90 5 B b bs w) :
    Calls Try.prog 57 #[.pointer (some ⟨b, 0, none⟩)] w fun e w' => e = .returned (.int .i64 bs.length) ∧ w' = w := Any.Builder_Len_f Try.lays170 B b bs w h
open Go.RowKit in
theorem Try.Builder_String_f (B b : Nat) (l : List UInt8) (w : World) (h : Lib.IsBuilderF 90 5 B b (Lib.byteCells l) w) (h0 : l ≠ []) :
    Calls Try.prog 58 #[.pointer (some ⟨b, 0, none⟩)] w fun e w' => e = .returned (.string ⟨l.toArray⟩) ∧ (Lib.IsBuilderF 90 5 B b (Lib.byteCells l) w' ∧ Below B w w') := Any.Builder_String_f Try.lays169 Try.Builder_Extra_169 B b l w h h0
open Go.RowKit in
theorem Try.Builder_String_empty_f (B b : Nat) (w : World) (h : Lib.IsBuilderF 90 5 B b [] w) (hBw : B ≤ w.heap.size) :
    Calls Try.prog 58 #[.pointer (some ⟨b, 0, none⟩)] w fun e w' => e = .returned (.string ⟨#[]⟩) ∧ (Lib.IsBuilderF 90 5 B b [] w' ∧ Below B w w') := Any.Builder_String_empty_f Try.lays169 Try.Builder_Extra_169 B b w h hBw
open Go.RowKit in
theorem Try.Builder_String_any_f (B b : Nat) (l : List UInt8) (w : World) (h : Lib.IsBuilderF 90 5 B b (Lib.byteCells l) w) (hBw : B ≤ w.heap.size) :
    Calls Try.prog 58 #[.pointer (some ⟨b, 0, none⟩)] w fun e w' => e = .returned (.string ⟨l.toArray⟩) ∧ (Lib.IsBuilderF 90 5 B b (Lib.byteCells l) w' ∧ Below B w w') := Any.Builder_String_any_f Try.lays169 Try.Builder_Extra_169 B b l w h hBw
open Go.RowKit in
theorem Try.Builder_String_k (B b : Nat) (l : List UInt8) (w : World) (h : Lib.IsBuilderF 90 5 B b (Lib.byteCells l) w) (h0 : l ≠ []) :
    Calls Try.prog 58 #[.pointer (some ⟨b, 0, none⟩)] w fun e w' => e = .returned (.string ⟨l.toArray⟩) ∧ (Lib.IsBuilderF 90 5 B b (Lib.byteCells l) w' ∧ Below B w w' ∧ Lib.OthersKept 5 (some b) w w') := Any.Builder_String_k Try.lays169 Try.Builder_Extra_169 B b l w h h0
open Go.RowKit in
theorem Try.Builder_String_empty_k (B b : Nat) (w : World) (h : Lib.IsBuilderF 90 5 B b [] w) (hBw : B ≤ w.heap.size) :
    Calls Try.prog 58 #[.pointer (some ⟨b, 0, none⟩)] w fun e w' => e = .returned (.string ⟨#[]⟩) ∧ (Lib.IsBuilderF 90 5 B b [] w' ∧ Below B w w' ∧ Lib.OthersKept 5 (some b) w w') := Any.Builder_String_empty_k Try.lays169 Try.Builder_Extra_169 B b w h hBw
open Go.RowKit in
theorem Try.Builder_String_any_k (B b : Nat) (l : List UInt8) (w : World) (h : Lib.IsBuilderF 90 5 B b (Lib.byteCells l) w) (hBw : B ≤ w.heap.size) :
    Calls Try.prog 58 #[.pointer (some ⟨b, 0, none⟩)] w fun e w' => e = .returned (.string ⟨l.toArray⟩) ∧ (Lib.IsBuilderF 90 5 B b (Lib.byteCells l) w' ∧ Below B w w' ∧ Lib.OthersKept 5 (some b) w w') := Any.Builder_String_any_k Try.lays169 Try.Builder_Extra_169 B b l w h hBw
def Try.lays217_ren : Go.Shelf.Ren := ⟨fun | 217 => 69 | 266 => 72 | n => n, fun | 9 => 9 | 5 => 5 | 3 => 3 | n => n, fun | n => n⟩
theorem Try.lays217 : Go.Proofs.Lays.n217 Try.prog Try.lays217_ren := {
  mixed := by kernel_rfl
  f217 := Try.func69.trans (congrArg some (by kernel_rfl))
  f266 := Try.func72.trans (congrArg some (by kernel_rfl))
  t3 := Try.underlying3
  a3 := Try.isAgg3
  z3 := Try.sizeOf3
  v3 := Try.zeroValue3
  t5 := Try.underlying5
  a5 := Try.isAgg5
  z5 := Try.sizeOf5
  v5 := Try.zeroValue5
  t9 := Try.underlying9
  a9 := Try.isAgg9
  z9 := Try.sizeOf9
  v9 := Try.zeroValue9 }
open Go.RowKit Go.Lib in
theorem Try.stringslite_IndexByte (s : ByteArray) (c : Int) (w : World) :
    Calls Try.prog 69 #[.string s, .int .u8 c] w fun e w' => e = .returned (.int .i64 (Lib.indexByte s.data.toList c.toNat.toUInt8)) ∧ w' = w := Any.stringslite_IndexByte Try.lays217 s c w
def Try.lays206_ren : Go.Shelf.Ren := ⟨fun | 206 => 53 | n => n, fun | 9 => 9 | 4 => 4 | 3 => 3 | n => n, fun | n => n⟩
theorem Try.lays206 : Go.Proofs.Lays.n206 Try.prog Try.lays206_ren := {
  mixed := by kernel_rfl
  f206 := Try.func53.trans (congrArg some (by kernel_rfl))
  t3 := Try.underlying3
  a3 := Try.isAgg3
  z3 := Try.sizeOf3
  v3 := Try.zeroValue3
  t4 := Try.underlying4
  a4 := Try.isAgg4
  z4 := Try.sizeOf4
  v4 := Try.zeroValue4
  t9 := Try.underlying9
  a9 := Try.isAgg9
  z9 := Try.sizeOf9
  v9 := Try.zeroValue9 }
open Go.RowKit Go.Lib in
theorem Try.stringslite_HasPrefix (s p : ByteArray) (w : World) :
    Calls Try.prog 53 #[.string s, .string p] w fun e w' => e = .returned (.bool (Lib.hasPrefix s.data.toList p.data.toList)) ∧ w' = w := Any.stringslite_HasPrefix Try.lays206 s p w
def Try.lays99_ren : Go.Shelf.Ren := ⟨fun | 99 => 29 | 206 => 53 | n => n, fun | 9 => 9 | 4 => 4 | 3 => 3 | n => n, fun | n => n⟩
theorem Try.lays99 : Go.Proofs.Lays.n99 Try.prog Try.lays99_ren := {
  mixed := by kernel_rfl
  f99 := Try.func29.trans (congrArg some (by kernel_rfl))
  f206 := Try.func53.trans (congrArg some (by kernel_rfl))
  t3 := Try.underlying3
  a3 := Try.isAgg3
  z3 := Try.sizeOf3
  v3 := Try.zeroValue3
  t4 := Try.underlying4
  a4 := Try.isAgg4
  z4 := Try.sizeOf4
  v4 := Try.zeroValue4
  t9 := Try.underlying9
  a9 := Try.isAgg9
  z9 := Try.sizeOf9
  v9 := Try.zeroValue9 }
open Go.RowKit Go.Lib in
theorem Try.strings_HasPrefix (s p : ByteArray) (w : World) :
    Calls Try.prog 29 #[.string s, .string p] w fun e w' => e = .returned (.bool (Lib.hasPrefix s.data.toList p.data.toList)) ∧ w' = w := Any.strings_HasPrefix Try.lays99 s p w
end Go.Proofs
end
section
/- strings.Builder at the machine: what writes to it. -/
set_option linter.unusedVariables false
set_option linter.unusedSimpArgs false
namespace Go.Proofs.Ytolhbjfaahcekaa
open Go Go.Proofs Go.RowKit

theorem sb_size : (Try.prog.info? 90).map (·.size) = some 2 := by kernel_rfl
theorem sb_lies : liesAt Try.prog Try.prog.depth 90 (2 / Try.prog.cellsOf 90) 0 90 1 = true := by kernel_rfl
theorem byte_info : (Try.prog.info? 5).map (fun i => (i.zero, i.size, i.bytes)) = some (some (.int .u8 0), 1, 1) := by kernel_rfl

set_option maxHeartbeats 1000000 in
set_option maxRecDepth 100000 in
theorem sb_check_used (b : Nat) (w : World) (h0 : w.cell? ⟨b, 0, none⟩ = some (.pointer (some ⟨b, 0, none⟩))) :
    Calls Try.prog 70 #[.pointer (some ⟨b, 0, none⟩)] w fun e w' => e = .returned (.tuple #[]) ∧ w' = w := by
  obtain ⟨j, hj, _⟩ := Option.map_eq_some_iff.1 sb_size
  go_enter Try.func70, Try.ntmps70
  go_wp2
  rw [Lib.run_neq_ptr_same w _ Try.underlying87 hj]
  go_wp2
  go_end0
  exact ⟨rfl, rfl⟩

set_option maxHeartbeats 1000000 in
set_option maxRecDepth 100000 in
theorem sb_check_fresh (b : Nat) (w : World) (h0 : w.cell? ⟨b, 0, none⟩ = some (.pointer none)) (hsh : w.shape? b = some (90, 2)) (hfz : w.frozen? ⟨b, 0, none⟩ = false) :
    Calls Try.prog 70 #[.pointer (some ⟨b, 0, none⟩)] w fun e w' => e = .returned (.tuple #[]) ∧ w' = w.setCell ⟨b, 0, none⟩ (.pointer (some ⟨b, 0, none⟩)) := by
  obtain ⟨j, hj, hjs⟩ := Option.map_eq_some_iff.1 sb_size
  go_enter Try.func70, Try.ntmps70
  go_wp2
  rw [Lib.run_to_unsafe w ⟨b, 0, none⟩ Try.underlying87 Try.underlying107 hj (by rw [hjs]; decide) hsh (Nat.zero_lt_succ 1)]
  simp only [Result.andThen]
  rw [Oper.upon_value]
  go_wp2
  rw [run_callFunc_extern Try.func73 (by kernel_rfl) (by kernel_rfl) (by kernel_rfl) (e := Extern.AbiNoEscape.same) (by kernel_rfl)]
  rw [Lib.run_noEscape]
  simp only [Result.andThen]
  rw [Oper.upon_value]
  go_wp2
  rw [Lib.run_from_unsafe w ⟨b, 0, none⟩ Try.underlying107 Try.underlying87 hj hsh sb_lies]
  simp only [Result.andThen]
  rw [Oper.upon_value]
  go_wp2
  go_end0
  exact ⟨rfl, rfl⟩

theorem sb_check (B b : Nat) (bs : List Value) (w : World) (h : Lib.IsBuilderF 90 5 B b bs w) :
    Calls Try.prog 70 #[.pointer (some ⟨b, 0, none⟩)] w fun e w' => e = .returned (.tuple #[]) ∧ (Lib.BuilderAtF 90 5 B b (.pointer (some ⟨b, 0, none⟩)) bs w' ∧ Below B w w') := by
  rcases h with h | h
  · refine (sb_check_fresh b w h.cell0 h.shape h.frozen0).mono ?_
    rintro e w' ⟨rfl, rfl⟩
    exact ⟨rfl, h.used _, (Below.refl B w).setCell (p := ⟨b, 0, none⟩) h.1 _⟩
  · refine (sb_check_used b w h.cell0).mono ?_
    rintro e w' ⟨rfl, rfl⟩
    exact ⟨rfl, h, Below.refl B _⟩

set_option maxHeartbeats 2000000 in
set_option maxRecDepth 100000 in
theorem sb_byte (B b : Nat) (bs : List Value) (c : Int) (w : World) (h : Lib.IsBuilderF 90 5 B b bs w) (hlen : bs.length + 1 ≤ 140737488355328) (hBw : B ≤ w.heap.size) :
    Calls Try.prog 56 #[.pointer (some ⟨b, 0, none⟩), .int .u8 c] w fun e w' => e = .returned .nilIface ∧ (Lib.BuilderAtF 90 5 B b (.pointer (some ⟨b, 0, none⟩)) (bs ++ [.int .u8 c]) w' ∧ Below B w w') := by
  obtain ⟨i0, hi, hz0, hz1, hz2⟩ := info_parts byte_info
  go_enter Try.func56, Try.ntmps56
  go_wp2_with (go_at_call 70; refine (sb_check B b bs _ h).mono ?_)
  rintro e w1 ⟨rfl, h1, hb1⟩
  obtain ⟨hB, v, hbk, hown, hne⟩ := h1
  have c0 : w1.cell? ⟨b, 0, none⟩ = some (.pointer (some ⟨b, 0, none⟩)) := by rw [Lib.cell_of_heap hbk]; rfl
  have c1 : w1.cell? ⟨b, 1, none⟩ = some v := by rw [Lib.cell_of_heap hbk]; rfl
  go_wp2_with (at_builtin; refine wpList_append_ownF _ rfl _ _ 88 rfl B 5 i0 (.int .u8 0) 1 1 Try.underlying88 hi hz0 hz1 hz2 rfl (by decide) _ _ _ rfl (hown.alloc _) ⟨w1.heap.size, 0, none⟩ 1 1 [.int .u8 c] rfl rfl ?c1 ?c2 ?c3 ?c4 ?c5 ?_)
  case c1 =>
    intro j u hj
    match j, hj with
    | 0, hj => simp at hj; subst hj; simp [Addr.add]
  case c2 => intro u hu; simp at hu; subst hu; rfl
  case c3 => unfold maxLen; omega
  case c4 => omega
  case c5 => have := hb1.size; simp; omega
  intro v' w2 hown' hgrow _
  have hlt : b < w1.heap.size := by
    rcases Nat.lt_or_ge b w1.heap.size with h' | h'
    · exact h'
    · simp [Array.getElem?_eq_none h'] at hbk
  have hb2 : w2.heap[b]? = some (.cells #[.pointer (some ⟨b, 0, none⟩), v] 90 (0, 0)) := by
    rw [hgrow.block b (by simp; omega) (fun e => hne e.symm), Lib.alloc_old w1 _ b hlt]
    exact hbk
  have d0 : w2.cell? ⟨b, 0, none⟩ = some (.pointer (some ⟨b, 0, none⟩)) := by rw [Lib.cell_of_heap hb2]; rfl
  have d1 : w2.cell? ⟨b, 1, none⟩ = some v := by rw [Lib.cell_of_heap hb2]; rfl
  have f1 : w2.frozen? ⟨b, 1, none⟩ = false := Lib.frozen_of_heap hb2 1
  obtain ⟨g, cap, rfl⟩ : ∃ g cap, v' = .slice (some ⟨g, 0, none⟩) (bs.length + 1) cap := by
    rcases hown'.2 with ⟨_, h0⟩ | ⟨g, cap, cur, fz, hv, _⟩
    · omega
    · exact ⟨g, cap, hv⟩
  go_wp2
  go_ret
  refine ⟨rfl, ?_, ?_⟩
  · exact Lib.BuilderAtF.put (T := 90) (e := 5) hB hb2 (bs' := bs ++ [.int .u8 c]) (by simpa using hown') (by decide)
  · exact ((hb1.alloc (by have := hb1.size; omega) _).grown hgrow (by have := hb1.size; simp; omega) (fun k hk => (hown.lt k hk).1)).setCell (p := ⟨b, 1, none⟩) hB _

set_option maxHeartbeats 2000000 in
set_option maxRecDepth 100000 in
theorem sb_string (B b : Nat) (bs : List Value) (s : ByteArray) (w : World) (h : Lib.IsBuilderF 90 5 B b bs w) (hlen : bs.length + s.size ≤ 140737488355328) (hBw : B ≤ w.heap.size) :
    Calls Try.prog 55 #[.pointer (some ⟨b, 0, none⟩), .string s] w fun e w' => e = .returned (.tuple #[.int .i64 s.size, .nilIface]) ∧ (Lib.BuilderAtF 90 5 B b (.pointer (some ⟨b, 0, none⟩)) (bs ++ Lib.strCells s) w' ∧ Below B w w') := by
  obtain ⟨i0, hi, hz0, hz1, hz2⟩ := info_parts byte_info
  go_enter Try.func55, Try.ntmps55
  go_wp2_with (go_at_call 70; refine (sb_check B b bs _ h).mono ?_)
  rintro e w1 ⟨rfl, h1, hb1⟩
  obtain ⟨hB, v, hbk, hown, hne⟩ := h1
  have c0 : w1.cell? ⟨b, 0, none⟩ = some (.pointer (some ⟨b, 0, none⟩)) := by rw [Lib.cell_of_heap hbk]; rfl
  have c1 : w1.cell? ⟨b, 1, none⟩ = some v := by rw [Lib.cell_of_heap hbk]; rfl
  go_wp2_with (at_builtin; refine Lib.wpList_append_own_stringF _ rfl _ _ 88 9 rfl B 5 i0 Try.underlying88 Try.underlying9 hi hz0 hz1 hz2 _ _ _ rfl hown s rfl ?c3 ?c4 ?c5 ?_)
  case c3 => unfold maxLen; omega
  case c4 => omega
  case c5 => have := hb1.size; omega
  intro v' w2 hown' hgrow _
  have hlt : b < w1.heap.size := by
    rcases Nat.lt_or_ge b w1.heap.size with h' | h'
    · exact h'
    · simp [Array.getElem?_eq_none h'] at hbk
  have hb2 : w2.heap[b]? = some (.cells #[.pointer (some ⟨b, 0, none⟩), v] 90 (0, 0)) := by
    rw [hgrow.block b hlt (fun e => hne e.symm)]
    exact hbk
  have d0 : w2.cell? ⟨b, 0, none⟩ = some (.pointer (some ⟨b, 0, none⟩)) := by rw [Lib.cell_of_heap hb2]; rfl
  have d1 : w2.cell? ⟨b, 1, none⟩ = some v := by rw [Lib.cell_of_heap hb2]; rfl
  have f1 : w2.frozen? ⟨b, 1, none⟩ = false := Lib.frozen_of_heap hb2 1
  obtain ⟨ao, n', cap, rfl⟩ : ∃ ao n' cap, v' = .slice ao n' cap := by
    rcases hown'.2 with ⟨hv, _⟩ | ⟨g, cap, cur, fz, hv, _⟩
    · exact ⟨_, _, _, hv⟩
    · exact ⟨_, _, _, hv⟩
  go_wp2
  go_ret2
  refine ⟨rfl, ?_, ?_⟩
  · exact Lib.BuilderAtF.put (T := 90) (e := 5) hB hb2 (bs' := bs ++ Lib.strCells s) (by simpa [Lib.strCells_length] using hown') (by decide)
  · exact (hb1.grown hgrow (by have := hb1.size; omega) (fun k hk => (hown.lt k hk).1)).setCell (p := ⟨b, 1, none⟩) hB _
end Go.Proofs.Ytolhbjfaahcekaa
end
section
/- Values of Go as trees, and what a value of the machine says of them: plain theorems on a world's blocks. Nothing of the program. -/
set_option linter.unusedVariables false
set_option linter.unusedSimpArgs false
namespace Go.Proofs.Ytolhbjfaahcekaa

/-- How a slice stands to its array: nil; no more to be said; the one that may be appended to (object k). -/
inductive Tk where
  | nil | no | own (k : Nat)

/-- A value as a tree. 'ref r o': a pointer to cell o of variable r. 'elem x': a pointer to cells that never change and hold x. -/
inductive PV where
  | int (k : IntKind) (n : Int)
  | bool (b : Bool)
  | str (l : List UInt8)
  | list (sz : Nat) (xs : List PV) (t : Tk)
  | ref (r off : Nat)
  | elem (x : PV)
  | agg (cs : List PV)
  | tup (cs : List PV)
  | clo (fn : Fn) (first cap : List PV)
  | val (v : Value)

def PV.cells : PV → List PV
  | .agg cs => cs
  | x => [x]

def cellsOf (xs : List PV) : List PV := xs.flatMap PV.cells
@[simp] theorem cellsOf_nil : cellsOf [] = [] := rfl
theorem cellsOf_cons (x : PV) (xs : List PV) : cellsOf (x :: xs) = x.cells ++ cellsOf xs := by simp [cellsOf]
theorem cellsOf_append (xs ys : List PV) : cellsOf (xs ++ ys) = cellsOf xs ++ cellsOf ys := by simp [cellsOf]

/-- A value of one cell. -/
def PV.isCell : PV → Bool
  | .agg _ | .tup _ => false
  | .val v => v.oneCell'
  | _ => true

/-- The ghost of a call: the world at its begin, the blocks there of variables and of objects that it may write; what never changes; where its variables lie; where each object lay when it had n elements (block, capacity, cells of an element). -/
structure Gh where
  w0 : World
  pub : Nat → Prop
  pob : Nat → Prop
  dat : Nat → List Value
  ref : List Nat
  hist : Nat → Nat → Option (Nat × Nat × Nat)

mutual
inductive Rep (G : Gh) : PV → Value → Prop
  | int (k : IntKind) (n : Int) : Rep G (.int k n) (.int k n)
  | bool (b : Bool) : Rep G (.bool b) (.bool b)
  | str (l : List UInt8) : Rep G (.str l) (.string ⟨l.toArray⟩)
  | none (sz : Nat) (t : Tk) : Rep G (.list sz [] t) (.slice none 0 0)
  | list (sz : Nat) (xs : List PV) (t : Tk) (b o c : Nat) (vs : List Value) (ht : t ≠ .nil) (hc : xs.length ≤ c) (hs : ∀ x ∈ xs, x.cells.length = sz)
      (h1 : ∀ x ∈ cellsOf xs, x.isCell = true) (hv : Reps G (cellsOf xs) vs) (hd : vs <+: (G.dat b).drop o)
      (hk : ∀ k, t = .own k → o = 0 ∧ G.hist k xs.length = some (b, c, sz)) : Rep G (.list sz xs t) (.slice (some ⟨b, o, .none⟩) xs.length c)
  | ref (r b off : Nat) (h : G.ref[r]? = some b) : Rep G (.ref r off) (.pointer (some ⟨b, off, .none⟩))
  | elem (x : PV) (b o : Nat) (vs : List Value) (h1 : ∀ y ∈ x.cells, y.isCell = true) (hv : Reps G x.cells vs) (hd : vs <+: (G.dat b).drop o) : Rep G (.elem x) (.pointer (some ⟨b, o, .none⟩))
  | agg (cs : List PV) (vs : List Value) (h1 : ∀ x ∈ cs, x.isCell = true) (hv : Reps G cs vs) : Rep G (.agg cs) (.agg vs.toArray)
  | tup (cs : List PV) (vs : List Value) (hv : Reps G cs vs) : Rep G (.tup cs) (.tuple vs.toArray)
  | clo (fn : Fn) (fs cs : List PV) (us vs : List Value) (hu : Reps G fs us) (hv : Reps G cs vs) : Rep G (.clo fn fs cs) (.func fn us.toArray vs.toArray)
  | val (v : Value) : Rep G (.val v) v
inductive Reps (G : Gh) : List PV → List Value → Prop
  | nil : Reps G [] []
  | cons (x : PV) (v : Value) (xs : List PV) (vs : List Value) (h : Rep G x v) (t : Reps G xs vs) : Reps G (x :: xs) (v :: vs)
end

theorem Reps.length {G : Gh} : ∀ {xs : List PV} {vs : List Value}, Reps G xs vs → xs.length = vs.length
  | _, _, .nil => rfl
  | _, _, .cons _ _ _ _ _ t => by simp [t.length]
theorem Reps.append {G : Gh} : ∀ {xs : List PV} {vs : List Value} {ys : List PV} {us : List Value}, Reps G xs vs → Reps G ys us → Reps G (xs ++ ys) (vs ++ us)
  | _, _, _, _, .nil, h => h
  | _, _, _, _, .cons _ _ _ _ h t, k => .cons _ _ _ _ h (t.append k)
theorem Reps.split {G : Gh} : ∀ {xs ys : List PV} {vs : List Value}, Reps G (xs ++ ys) vs → ∃ us ws, vs = us ++ ws ∧ Reps G xs us ∧ Reps G ys ws
  | [], _, vs, h => ⟨[], vs, rfl, .nil, h⟩
  | x :: xs, ys, _, .cons _ v _ vs h t => by
    obtain ⟨us, ws, rfl, h1, h2⟩ := Reps.split (xs := xs) t
    exact ⟨v :: us, ws, rfl, .cons _ _ _ _ h h1, h2⟩
theorem Reps.get {G : Gh} : ∀ {xs : List PV} {vs : List Value}, Reps G xs vs → ∀ (i : Nat) (x : PV), xs[i]? = some x → ∃ v, vs[i]? = some v ∧ Rep G x v
  | _, _, .nil, i, x, h => by simp at h
  | _, _, .cons y v ys vs h t, 0, x, e => by simp at e; subst e; exact ⟨v, by simp, h⟩
  | _, _, .cons y v ys vs h t, i + 1, x, e => by
    obtain ⟨u, hu, hr⟩ := t.get i x (by simpa using e)
    exact ⟨u, by simpa using hu, hr⟩
theorem Reps.take {G : Gh} {xs : List PV} {vs : List Value} (h : Reps G xs vs) (n : Nat) : Reps G (xs.take n) (vs.take n) := by
  induction n generalizing xs vs with
  | zero => simpa using Reps.nil
  | succ n ih => cases h with
    | nil => simpa using Reps.nil
    | cons x v xs vs h t => simpa using Reps.cons x v _ _ h (ih t)
theorem Reps.drop {G : Gh} {xs : List PV} {vs : List Value} (h : Reps G xs vs) (n : Nat) : Reps G (xs.drop n) (vs.drop n) := by
  induction n generalizing xs vs with
  | zero => simpa using h
  | succ n ih => cases h with
    | nil => simpa using Reps.nil
    | cons x v xs vs h t => simpa using ih t
theorem Reps.set {G : Gh} {xs : List PV} {vs : List Value} (h : Reps G xs vs) (i : Nat) {x : PV} {v : Value} (hx : Rep G x v) : Reps G (xs.set i x) (vs.set i v) := by
  induction i generalizing xs vs with
  | zero => cases h with
    | nil => simpa using Reps.nil
    | cons y u ys us h t => simpa using Reps.cons x v _ _ hx t
  | succ i ih => cases h with
    | nil => simpa using Reps.nil
    | cons y u ys us h t => simpa using Reps.cons y u _ _ h (ih t)
theorem Reps.mk {G : Gh} : ∀ {xs : List PV} {vs : List Value}, xs.length = vs.length → (∀ (i : Nat) (x : PV) (v : Value), xs[i]? = some x → vs[i]? = some v → Rep G x v) → Reps G xs vs
  | [], [], _, _ => .nil
  | x :: xs, v :: vs, hl, h => .cons _ _ _ _ (h 0 x v (by simp) (by simp)) (Reps.mk (by simpa using hl) fun i y u h1 h2 => h (i + 1) y u (by simpa using h1) (by simpa using h2))

/-! ### The cells of a value -/
theorem Rep.cell1 {G : Gh} {x : PV} {v : Value} (h : Rep G x v) (h1 : x.isCell = true) : v.oneCell' = true ∧ v.cells = #[v] ∧ x.cells = [x] := by
  cases h with
  | val => cases v <;> simp_all [PV.isCell, Value.oneCell', Value.cells, PV.cells]
  | agg => simp [PV.isCell] at h1
  | tup => simp [PV.isCell] at h1
  | _ => simp [Value.oneCell', Value.cells, PV.cells]
theorem Rep.cells {G : Gh} {x : PV} {v : Value} (h : Rep G x v) (h1 : ∀ y ∈ x.cells, y.isCell = true) : Reps G x.cells v.cells.toList := by
  by_cases hc : x.isCell = true
  · obtain ⟨_, hv, hx⟩ := h.cell1 hc
    rw [hv, hx]
    exact .cons _ _ _ _ h .nil
  · cases h with
    | agg cs vs h1 hr => simpa [PV.cells, Value.cells] using hr
    | val => simp [PV.cells] at h1; exact absurd h1 hc
    | tup cs vs hv => simp [PV.cells, PV.isCell] at h1
    | _ => simp [PV.isCell] at hc
/-- What is stored is flat. -/
theorem Rep.flat {G : Gh} {x : PV} {v : Value} (h : Rep G x v) (ht : ∀ cs, x ≠ .tup cs) (hv : ∀ u, x = .val u → u.oneCell' = true) : ∀ y ∈ x.cells, y.isCell = true := by
  cases h with
  | agg cs vs h1 hr => simpa [PV.cells] using h1
  | tup cs vs _ => exact absurd rfl (ht cs)
  | val => simp [PV.cells, PV.isCell]; exact hv v rfl
  | _ => simp [PV.cells, PV.isCell]

/-! ### Growth of the ghost -/
structure Gh.le (G G' : Gh) : Prop where
  w0 : G'.w0 = G.w0
  pub : G'.pub = G.pub
  pob : G'.pob = G.pob
  dat : ∀ b, G.dat b <+: G'.dat b
  old : ∀ b, b < G.w0.heap.size → ¬ G.pub b → ¬ G.pob b → G'.dat b = G.dat b
  ref : G.ref <+: G'.ref
  hist : ∀ k n x, G.hist k n = some x → G'.hist k n = some x
theorem Gh.le.refl (G : Gh) : G.le G := ⟨rfl, rfl, rfl, fun _ => List.prefix_rfl, fun _ _ _ _ => rfl, List.prefix_rfl, fun _ _ _ h => h⟩
theorem Gh.le.trans {G G' G'' : Gh} (h : G.le G') (k : G'.le G'') : G.le G'' :=
  ⟨k.w0.trans h.w0, k.pub.trans h.pub, k.pob.trans h.pob, fun b => (h.dat b).trans (k.dat b), fun b hb hp hq => (k.old b (by rw [h.w0]; exact hb) (by rw [h.pub]; exact hp) (by rw [h.pob]; exact hq)).trans (h.old b hb hp hq), h.ref.trans k.ref, fun a n x e => k.hist a n x (h.hist a n x e)⟩

theorem prefix_get {α : Type} {xs ys : List α} (h : xs <+: ys) {i : Nat} {x : α} (e : xs[i]? = some x) : ys[i]? = some x := by
  obtain ⟨t, rfl⟩ := h
  have : i < xs.length := by
    rcases Nat.lt_or_ge i xs.length with h | h
    · exact h
    · simp [List.getElem?_eq_none h] at e
  rw [List.getElem?_append_left this]; exact e
theorem prefix_drop {α : Type} {xs ys : List α} (h : xs <+: ys) (o : Nat) (ho : o ≤ xs.length) : xs.drop o <+: ys.drop o := by
  obtain ⟨t, rfl⟩ := h
  rw [List.drop_append_of_le_length ho]
  exact List.prefix_append _ _
theorem prefix_into {α : Type} {vs xs ys : List α} (h : xs <+: ys) {o : Nat} (hv : vs <+: xs.drop o) : vs <+: ys.drop o := by
  rcases Nat.lt_or_ge xs.length o with ho | ho
  · rw [List.drop_eq_nil_of_le (by omega)] at hv
    rw [List.prefix_nil.1 hv]
    exact List.nil_prefix
  · exact hv.trans (prefix_drop h o ho)

mutual
/-- Whatever is represented stays so when data, variables and objects are more. -/
theorem Rep.to {G G' : Gh} (hd : ∀ b, G.dat b <+: G'.dat b) (hr : ∀ (r b : Nat), G.ref[r]? = some b → G'.ref[r]? = some b) (hh : ∀ k n x, G.hist k n = some x → G'.hist k n = some x) : ∀ {x : PV} {v : Value}, Rep G x v → Rep G' x v
  | _, _, .int k n => .int k n
  | _, _, .bool b => .bool b
  | _, _, .str l => .str l
  | _, _, .none sz t => .none sz t
  | _, _, .list sz xs t b o c vs ht hc hs h1 hv hp hk => .list sz xs t b o c vs ht hc hs h1 (Reps.to hd hr hh hv) (prefix_into (hd b) hp) fun k e => ⟨(hk k e).1, hh _ _ _ (hk k e).2⟩
  | _, _, .ref r b off h => .ref r b off (hr r b h)
  | _, _, .elem x b o vs h1 hv hp => .elem x b o vs h1 (Reps.to hd hr hh hv) (prefix_into (hd b) hp)
  | _, _, .agg cs vs h1 hv => .agg cs vs h1 (Reps.to hd hr hh hv)
  | _, _, .tup cs vs hv => .tup cs vs (Reps.to hd hr hh hv)
  | _, _, .clo fn fs cs us vs hu hv => .clo fn fs cs us vs (Reps.to hd hr hh hu) (Reps.to hd hr hh hv)
  | _, _, .val v => .val v
theorem Reps.to {G G' : Gh} (hd : ∀ b, G.dat b <+: G'.dat b) (hr : ∀ (r b : Nat), G.ref[r]? = some b → G'.ref[r]? = some b) (hh : ∀ k n x, G.hist k n = some x → G'.hist k n = some x) : ∀ {xs : List PV} {vs : List Value}, Reps G xs vs → Reps G' xs vs
  | _, _, .nil => .nil
  | _, _, .cons x v xs vs h t => .cons x v xs vs (Rep.to hd hr hh h) (Reps.to hd hr hh t)
end
theorem Rep.mono {G G' : Gh} (h : G.le G') {x : PV} {v : Value} (r : Rep G x v) : Rep G' x v := Rep.to h.dat (fun _ _ e => prefix_get h.ref e) h.hist r
theorem Reps.mono {G G' : Gh} (h : G.le G') {xs : List PV} {vs : List Value} (r : Reps G xs vs) : Reps G' xs vs := Reps.to h.dat (fun _ _ e => prefix_get h.ref e) h.hist r

/-! ### The state: the variables' cells, the objects' lengths -/
structure St where
  box : List (List PV)
  len : List Nat

/-- Of what was there only what may be written has changed. -/
structure Kept (w0 : World) (pub pob : Nat → Prop) (w : World) : Prop where
  os : w.os = w0.os
  tape : w.tape = w0.tape
  output : w.output = w0.output
  size : w0.heap.size ≤ w.heap.size
  block : ∀ b, b < w0.heap.size → ¬ pub b → ¬ pob b → w.heap[b]? = w0.heap[b]?

/-- A block of cells, none of them frozen. -/
def World.row (w : World) (b : Nat) (vs : List Value) : Prop := ∃ T, w.heap[b]? = some (.cells vs.toArray T (0, 0))

structure Inv (G : Gh) (st : St) (w : World) : Prop where
  kept : Kept G.w0 G.pub G.pob w
  dat : ∀ b i x, (G.dat b)[i]? = some x → w.cell? ⟨b, i, none⟩ = some x
  rlen : G.ref.length = st.box.length
  box : ∀ (r b : Nat), G.ref[r]? = some b → (G.pub b ∨ G.w0.heap.size ≤ b) ∧ G.dat b = [] ∧ ∃ cs vs, st.box[r]? = some cs ∧ World.row w b vs ∧ Reps G cs vs ∧ ∀ x ∈ cs, x.isCell = true
  inj : G.ref.Nodup
  own : ∀ k n, st.len[k]? = some n → ∀ b c sz, G.hist k n = some (b, c, sz) →
    (G.pob b ∨ G.w0.heap.size ≤ b) ∧ b ∉ G.ref ∧ (G.dat b).length = n * sz ∧ ∃ vs, World.row w b vs ∧ vs.length = c * sz ∧ c ≤ maxLen
  apart : ∀ k k' n n' b c sz c' sz', st.len[k]? = some n → st.len[k']? = some n' → G.hist k n = some (b, c, sz) → G.hist k' n' = some (b, c', sz') → k = k'
  fresh : ∀ k n, (∀ m, st.len[k]? = some m → m < n) → G.hist k n = none
end Go.Proofs.Ytolhbjfaahcekaa
end
section
/- What a value may be taken for; which variables and objects it speaks of; a world's growth: plain theorems. -/
set_option linter.unusedVariables false
set_option linter.unusedSimpArgs false
namespace Go.Proofs.Ytolhbjfaahcekaa

/-! ### Taking a value for less -/
def Weak (x y : PV) : Prop := ∀ (G : Gh) (v : Value), Rep G x v → Rep G y v
@[simp] theorem Weak.refl (x : PV) : Weak x x := fun _ _ h => h
theorem Weak.nil (sz sz' : Nat) (t : Tk) : Weak (.list sz [] .nil) (.list sz' [] t) := by
  intro G v h
  cases h with
  | none => exact .none _ _
  | list _ _ _ b o c vs ht => exact absurd rfl ht
theorem Weak.no (sz : Nat) (xs : List PV) (t : Tk) : Weak (.list sz xs t) (.list sz xs .no) := by
  intro G v h
  cases h with
  | none => exact .none _ _
  | list _ _ _ b o c vs ht hc hs h1 hv hd hk => exact .list sz xs .no b o c vs (by simp) hc hs h1 hv hd (by simp)
inductive Weaks : List PV → List PV → Prop
  | nil : Weaks [] []
  | cons {x y : PV} {xs ys : List PV} (h : Weak x y) (t : Weaks xs ys) : Weaks (x :: xs) (y :: ys)
theorem Weaks.reps {xs ys : List PV} (h : Weaks xs ys) {G : Gh} {vs : List Value} (r : Reps G xs vs) : Reps G ys vs := by
  induction h generalizing vs with
  | nil => cases r; exact .nil
  | cons h t ih => cases r with
    | cons _ v _ vs r rs => exact .cons _ _ _ _ (h G v r) (ih rs)
@[simp] theorem weaks_nil : Weaks [] [] := .nil
@[simp] theorem weaks_cons {x y : PV} {xs ys : List PV} : Weaks (x :: xs) (y :: ys) ↔ Weak x y ∧ Weaks xs ys := ⟨fun | .cons h t => ⟨h, t⟩, fun ⟨h, t⟩ => .cons h t⟩
theorem Weaks.refl : ∀ xs : List PV, Weaks xs xs
  | [] => .nil
  | x :: xs => .cons (.refl x) (.refl xs)
theorem Weak.agg {xs ys : List PV} (h : Weaks xs ys) (hc : ∀ y ∈ ys, y.isCell = true) : Weak (.agg xs) (.agg ys) := by
  intro G v r
  cases r with
  | agg _ vs h1 hv => exact .agg ys vs hc (h.reps hv)

/-! ### Which variables and objects a value speaks of -/
mutual
def PV.clean (n m : Nat) : PV → Bool
  | .list _ xs t => (match t with | .own k => decide (k < m) | _ => true) && PVs.clean n m xs
  | .ref r _ => decide (r < n)
  | .elem x => PV.clean n m x
  | .agg cs => PVs.clean n m cs
  | .tup cs => PVs.clean n m cs
  | .clo _ fs cs => PVs.clean n m fs && PVs.clean n m cs
  | _ => true
def PVs.clean (n m : Nat) : List PV → Bool
  | [] => true
  | x :: xs => PV.clean n m x && PVs.clean n m xs
end
theorem PVs.clean_iff {n m : Nat} : ∀ {xs : List PV}, PVs.clean n m xs = true ↔ ∀ x ∈ xs, PV.clean n m x = true
  | [] => by simp [PVs.clean]
  | x :: xs => by simp [PVs.clean, PVs.clean_iff (xs := xs)]
theorem PVs.clean_append {n m : Nat} {xs ys : List PV} : PVs.clean n m (xs ++ ys) = (PVs.clean n m xs && PVs.clean n m ys) := by
  induction xs with
  | nil => simp [PVs.clean]
  | cons x xs ih => simp [PVs.clean, ih, Bool.and_assoc]
theorem PV.clean_cells {n m : Nat} (x : PV) : PVs.clean n m x.cells = PV.clean n m x := by
  cases x <;> simp [PV.cells, PVs.clean, PV.clean]
theorem PVs.clean_cellsOf {n m : Nat} : ∀ xs : List PV, PVs.clean n m (cellsOf xs) = PVs.clean n m xs
  | [] => rfl
  | x :: xs => by rw [cellsOf_cons, PVs.clean_append, PV.clean_cells, PVs.clean_cellsOf xs]; rfl

mutual
theorem Rep.cut {G G' : Gh} {n m : Nat} (hd : ∀ b, G.dat b <+: G'.dat b) (hr : ∀ (r b : Nat), r < n → G.ref[r]? = some b → G'.ref[r]? = some b) (hh : ∀ k i x, k < m → G.hist k i = some x → G'.hist k i = some x) :
    ∀ {x : PV} {v : Value}, Rep G x v → PV.clean n m x = true → Rep G' x v
  | _, _, .int k i, _ => .int k i
  | _, _, .bool b, _ => .bool b
  | _, _, .str l, _ => .str l
  | _, _, .none sz t, _ => .none sz t
  | _, _, .list sz xs t b o c vs ht hc hs h1 hv hp hk, h => .list sz xs t b o c vs ht hc hs h1 (Reps.cut hd hr hh hv (by simp only [PV.clean, Bool.and_eq_true] at h; rw [PVs.clean_cellsOf]; exact h.2)) (prefix_into (hd b) hp)
      fun k e => ⟨(hk k e).1, hh _ _ _ (by subst e; simp only [PV.clean, Bool.and_eq_true, decide_eq_true_eq] at h; exact h.1) (hk k e).2⟩
  | _, _, .ref r b off e, h => .ref r b off (hr r b (by simpa [PV.clean] using h) e)
  | _, _, .elem x b o vs h1 hv hp, h => .elem x b o vs h1 (Reps.cut hd hr hh hv (by rw [PV.clean_cells]; simpa [PV.clean] using h)) (prefix_into (hd b) hp)
  | _, _, .agg cs vs h1 hv, h => .agg cs vs h1 (Reps.cut hd hr hh hv (by simpa [PV.clean] using h))
  | _, _, .tup cs vs hv, h => .tup cs vs (Reps.cut hd hr hh hv (by simpa [PV.clean] using h))
  | _, _, .clo fn fs cs us vs hu hv, h => .clo fn fs cs us vs (Reps.cut hd hr hh hu (by simp only [PV.clean, Bool.and_eq_true] at h; exact h.1)) (Reps.cut hd hr hh hv (by simp only [PV.clean, Bool.and_eq_true] at h; exact h.2))
  | _, _, .val v, _ => .val v
theorem Reps.cut {G G' : Gh} {n m : Nat} (hd : ∀ b, G.dat b <+: G'.dat b) (hr : ∀ (r b : Nat), r < n → G.ref[r]? = some b → G'.ref[r]? = some b) (hh : ∀ k i x, k < m → G.hist k i = some x → G'.hist k i = some x) :
    ∀ {xs : List PV} {vs : List Value}, Reps G xs vs → PVs.clean n m xs = true → Reps G' xs vs
  | _, _, .nil, _ => .nil
  | _, _, .cons x v xs vs h t, c => .cons x v xs vs (Rep.cut hd hr hh h (by simp only [PVs.clean, Bool.and_eq_true] at c; exact c.1)) (Reps.cut hd hr hh t (by simp only [PVs.clean, Bool.and_eq_true] at c; exact c.2))
end

/-! ### Forgetting what was made on the way -/
def Gh.trunc (G : Gh) (n m : Nat) : Gh := { G with ref := G.ref.take n, hist := fun k i => if k < m then G.hist k i else none }
theorem take_get {α : Type} {xs : List α} {n i : Nat} {x : α} (h : (xs.take n)[i]? = some x) : i < n ∧ xs[i]? = some x := by
  rw [List.getElem?_take] at h
  split at h
  · exact ⟨by assumption, h⟩
  · simp at h
theorem Rep.trunc {G : Gh} {n m : Nat} {x : PV} {v : Value} (h : Rep G x v) (c : PV.clean n m x = true) : Rep (G.trunc n m) x v :=
  Rep.cut (G := G) (G' := G.trunc n m) (fun b => List.prefix_rfl) (fun r b hr e => by show (G.ref.take n)[r]? = some b; rw [List.getElem?_take, if_pos hr]; exact e) (fun k i y hk e => by simp only [Gh.trunc, if_pos hk]; exact e) h c
theorem Reps.trunc {G : Gh} {n m : Nat} {xs : List PV} {vs : List Value} (h : Reps G xs vs) (c : PVs.clean n m xs = true) : Reps (G.trunc n m) xs vs :=
  Reps.cut (G := G) (G' := G.trunc n m) (fun b => List.prefix_rfl) (fun r b hr e => by show (G.ref.take n)[r]? = some b; rw [List.getElem?_take, if_pos hr]; exact e) (fun k i y hk e => by simp only [Gh.trunc, if_pos hk]; exact e) h c

/-- The cells of variables, each taken for less. -/
inductive Boxes : List (List PV) → List (List PV) → Prop
  | nil : Boxes [] []
  | cons {x y : List PV} {xs ys : List (List PV)} (h : Weaks x y) (hc : ∀ c ∈ y, c.isCell = true) (t : Boxes xs ys) : Boxes (x :: xs) (y :: ys)
theorem Boxes.length {xs ys : List (List PV)} (h : Boxes xs ys) : xs.length = ys.length := by
  induction h with
  | nil => rfl
  | cons _ _ _ ih => simp [ih]
theorem Boxes.get {xs ys : List (List PV)} (h : Boxes xs ys) {i : Nat} {x : List PV} (e : xs[i]? = some x) : ∃ y, ys[i]? = some y ∧ Weaks x y ∧ ∀ c ∈ y, c.isCell = true := by
  induction h generalizing i with
  | nil => simp at e
  | cons h hc t ih => cases i with
    | zero => simp at e; subst e; exact ⟨_, by simp, h, hc⟩
    | succ i => obtain ⟨y, hy, hw⟩ := ih (by simpa using e); exact ⟨y, by simpa using hy, hw⟩
@[simp] theorem boxes_nil : Boxes [] [] := .nil
@[simp] theorem boxes_cons {x y : List PV} {xs ys : List (List PV)} : Boxes (x :: xs) (y :: ys) ↔ Weaks x y ∧ (∀ c ∈ y, c.isCell = true) ∧ Boxes xs ys := ⟨fun | .cons h hc t => ⟨h, hc, t⟩, fun ⟨h, hc, t⟩ => .cons h hc t⟩

/-- st is what is left of st' when all but its first variables and objects are forgotten. -/
structure Left (st' st : St) : Prop where
  box : Boxes (st'.box.take st.box.length) st.box
  len : st'.len.take st.len.length = st.len
  clean : ∀ cs ∈ st.box, PVs.clean st.box.length st.len.length cs = true

theorem Inv.trunc {G : Gh} {st' st : St} {w : World} (h : Inv G st' w) (l : Left st' st) : Inv (G.trunc st.box.length st.len.length) st w := by
  have hlen : ∀ (k n : Nat), st.len[k]? = some n → k < st.len.length ∧ st'.len[k]? = some n := by
    intro k n e
    rw [← l.len] at e
    exact take_get e
  have hhist : ∀ k i x, (G.trunc st.box.length st.len.length).hist k i = some x → k < st.len.length ∧ G.hist k i = some x := by
    intro k i x e
    simp only [Gh.trunc] at e
    split at e
    · exact ⟨by assumption, e⟩
    · cases e
  refine ⟨h.kept, h.dat, ?_, ?_, ?_, ?_, ?_, ?_⟩
  · have hl := l.box.length
    rw [List.length_take] at hl
    show (G.ref.take _).length = _
    rw [List.length_take, h.rlen]
    omega
  · intro r b e
    obtain ⟨hr, e⟩ := take_get e
    obtain ⟨h1, h2, cs, vs, h3, h4, h5, h6⟩ := h.box r b e
    have e3 : (st'.box.take st.box.length)[r]? = some cs := by rw [List.getElem?_take, if_pos hr]; exact h3
    obtain ⟨ds, hds, hw, hc⟩ := l.box.get e3
    exact ⟨h1, h2, ds, vs, hds, h4, Reps.trunc (hw.reps h5) (l.clean ds (List.mem_of_getElem? hds)), hc⟩
  · exact (List.take_sublist _ _).nodup h.inj
  · intro k n e b c sz e2
    obtain ⟨hk, e2⟩ := hhist _ _ _ e2
    obtain ⟨h1, h2, h3⟩ := h.own k n (hlen k n e).2 b c sz e2
    exact ⟨h1, fun hm => h2 (List.mem_of_mem_take hm), h3⟩
  · intro k k' n n' b c sz c' sz' e e' e2 e2'
    exact h.apart k k' n n' b c sz c' sz' (hlen _ _ e).2 (hlen _ _ e').2 (hhist _ _ _ e2).2 (hhist _ _ _ e2').2
  · intro k n e
    simp only [Gh.trunc]
    split
    · rename_i hk
      refine h.fresh k n fun q hq => e q ?_
      rw [← l.len, List.getElem?_take, if_pos hk]; exact hq
    · rfl
theorem Gh.le.trunc {G G' : Gh} {st : St} {w : World} {n m : Nat} (h : G.le G') (i : Inv G st w) (hn : st.box.length ≤ n) (hm : st.len.length ≤ m) : G.le (G'.trunc n m) := by
  refine ⟨h.w0, h.pub, h.pob, h.dat, h.old, ?_, ?_⟩
  · obtain ⟨t, ht⟩ := h.ref
    refine ⟨t.take (n - G.ref.length), ?_⟩
    show _ = G'.ref.take n
    have hl : G.ref.take n = G.ref := List.take_of_length_le (by rw [i.rlen]; exact hn)
    rw [← ht, List.take_append, hl]
  · intro k j x e
    have hk : k < m := by
      rcases Nat.lt_or_ge k m with hk | hk
      · exact hk
      · rw [i.fresh k j fun q hq => by rw [List.getElem?_eq_none (by omega)] at hq; cases hq] at e
        cases e
    simp only [Gh.trunc, if_pos hk]
    exact h.hist k j x e
end Go.Proofs.Ytolhbjfaahcekaa
end
section
/- A logic over values as trees: what a piece of code and what a call comes to. Each rule is a theorem on the machine. -/
set_option linter.unusedVariables false
set_option linter.unusedSimpArgs false
namespace Go.Proofs.Ytolhbjfaahcekaa

abbrev Env := List (Nat × PV)
def eget : Env → Nat → Option PV
  | [], _ => none
  | (j, x) :: r, i => if i = j then some x else eget r i

structure ARep (G : Gh) (nt : Nat) (env : Env) (a : Act) : Prop where
  defers : a.defers = []
  size : a.tmps.size = nt
  get : ∀ i x, eget env i = some x → ∃ v, a.tmps[i]? = some v ∧ Rep G x v
theorem ARep.mono {G G' : Gh} {nt : Nat} {env : Env} {a : Act} (h : G.le G') (r : ARep G nt env a) : ARep G' nt env a :=
  ⟨r.defers, r.size, fun i x e => let ⟨v, h1, h2⟩ := r.get i x e; ⟨v, h1, h2.mono h⟩⟩

/-- env is part of env', each value taken for less. -/
def Sub (env' : Env) : Env → Prop
  | [] => True
  | (i, x) :: r => (∃ y, eget env' i = some y ∧ Weak y x) ∧ Sub env' r
theorem Sub.get {env' : Env} : ∀ {env : Env}, Sub env' env → ∀ i x, eget env i = some x → ∃ y, eget env' i = some y ∧ Weak y x
  | [], _, i, x, e => by simp [eget] at e
  | (j, z) :: r, ⟨h, t⟩, i, x, e => by
    simp only [eget] at e
    split at e
    · rename_i hj; subst hj; injection e with e; subst e; exact h
    · exact Sub.get t i x e
theorem Sub.of_get {env' : Env} : ∀ {env : Env}, (∀ p ∈ env, ∃ y, eget env' p.1 = some y ∧ Weak y p.2) → Sub env' env
  | [], _ => trivial
  | (j, z) :: r, h => ⟨h (j, z) (by simp), Sub.of_get fun p hp => h p (by simp [hp])⟩
theorem ARep.sub {G : Gh} {nt : Nat} {env env' : Env} {a : Act} (r : ARep G nt env' a) (s : Sub env' env) : ARep G nt env a :=
  ⟨r.defers, r.size, fun i x e => let ⟨y, hy, hw⟩ := s.get i x e; let ⟨v, h1, h2⟩ := r.get i y hy; ⟨v, h1, hw _ _ h2⟩⟩
def Env.clean (n m : Nat) : Env → Bool
  | [] => true
  | (_, x) :: r => PV.clean n m x && Env.clean n m r
theorem Env.clean_get {n m : Nat} : ∀ {env : Env}, Env.clean n m env = true → ∀ i x, eget env i = some x → PV.clean n m x = true
  | [], _, i, x, e => by simp [eget] at e
  | (j, z) :: r, h, i, x, e => by
    simp only [Env.clean, Bool.and_eq_true] at h
    simp only [eget] at e
    split at e
    · injection e with e; subst e; exact h.1
    · exact Env.clean_get h.2 i x e
theorem ARep.trunc {G : Gh} {nt n m : Nat} {env : Env} {a : Act} (r : ARep G nt env a) (c : Env.clean n m env = true) : ARep (G.trunc n m) nt env a :=
  ⟨r.defers, r.size, fun i x e => let ⟨v, h1, h2⟩ := r.get i x e; ⟨v, h1, h2.trunc (Env.clean_get c i x e)⟩⟩

/-! ### What code comes to -/
def PostE (G : Gh) (nt : Nat) (Q : Exit → Env → St → Prop) (e : Exit) (a : Act) (w : World) : Prop :=
  ∃ G' env st, G.le G' ∧ Inv G' st w ∧ ARep G' nt env a ∧ Q e env st
def PW (P : Program) (nt : Nat) (c : Code) (Q : Exit → Env → St → Prop) (env : Env) (st : St) : Prop :=
  ∀ G a w, Inv G st w → ARep G nt env a → c.wp P (PostE G nt Q) a w
theorem PostE.le {G G' : Gh} {nt : Nat} {Q : Exit → Env → St → Prop} {e : Exit} {a : Act} {w : World} (h : G.le G') (p : PostE G' nt Q e a w) : PostE G nt Q e a w :=
  let ⟨G2, env, st, h1, h2⟩ := p; ⟨G2, env, st, h.trans h1, h2⟩
theorem PostE.mono {G : Gh} {nt : Nat} {Q Q' : Exit → Env → St → Prop} {e : Exit} {a : Act} {w : World} (p : PostE G nt Q e a w) (h : ∀ e env st, Q e env st → Q' e env st) : PostE G nt Q' e a w :=
  let ⟨G2, env, st, h1, h2, h3, h4⟩ := p; ⟨G2, env, st, h1, h2, h3, h _ _ _ h4⟩

section
variable {P : Program} {nt : Nat} {Q : Exit → Env → St → Prop} {env : Env} {st : St}
theorem PW.mono {c : Code} {Q' : Exit → Env → St → Prop} (h : PW P nt c Q env st) (hq : ∀ e env st, Q e env st → Q' e env st) : PW P nt c Q' env st :=
  fun G a w hi ha => wp_mono (h G a w hi ha) fun e a w p => p.mono hq
/-- Go on from what is left when some of it is forgotten. -/
theorem PW.forget {c : Code} (env' : Env) (st' : St) (hs : Sub env env') (hl : Left st st') (hc : Env.clean st'.box.length st'.len.length env' = true)
    (hb : st.box.length ≤ st'.box.length) (hm : st.len.length ≤ st'.len.length) (h : PW P nt c Q env' st') : PW P nt c Q env st := by
  intro G a w hi ha
  exact wp_mono (h _ a w (hi.trunc hl) ((ha.sub hs).trunc hc)) fun e a w p => p.le ((Gh.le.refl G).trunc hi hb hm)
/-- Go on from less of the temporaries. -/
theorem PW.less {c : Code} (env' : Env) (hs : Sub env env') (h : PW P nt c Q env' st) : PW P nt c Q env st :=
  fun G a w hi ha => h G a w hi (ha.sub hs)
theorem PW.skip (h : Q .normal env st) : PW P nt .skip Q env st := fun G a w hi ha => wp_skip ⟨G, env, st, .refl G, hi, ha, h⟩
theorem PW.label {l : Nat} (h : Q .normal env st) : PW P nt (.label l) Q env st := fun G a w hi ha => wp_label ⟨G, env, st, .refl G, hi, ha, h⟩
theorem PW.exit {id : Nat} (h : Q (.exit id) env st) : PW P nt (.exit id) Q env st := fun G a w hi ha => wp_exit ⟨G, env, st, .refl G, hi, ha, h⟩
theorem PW.ret (h : Q .ret env st) : PW P nt .ret Q env st := fun G a w hi ha => wp_ret ⟨G, env, st, .refl G, hi, ha, h⟩
/-- What stands behind: K if the code comes to its end, Q else. -/
def Then (K : Env → St → Prop) (Q : Exit → Env → St → Prop) : Exit → Env → St → Prop
  | .normal, env, st => K env st
  | e, env, st => Q e env st
theorem PW.seq {x y : Code} (h : PW P nt x (Then (PW P nt y Q) Q) env st) : PW P nt (.seq x y) Q env st := by
  intro G a w hi ha
  refine wp_seq (wp_mono (h G a w hi ha) fun e a w p => ?_)
  obtain ⟨G', env', st', h1, h2, h3, h4⟩ := p
  cases e with
  | normal => exact wp_mono (h4 G' a w h2 h3) fun e a w p => p.le h1
  | _ => exact ⟨G', env', st', h1, h2, h3, h4⟩
/-- The same, with a name for what stands behind. -/
theorem PW.seq_k {x y : Code} (h : ∀ K : Env → St → Prop, (∀ env st, PW P nt y Q env st → K env st) → PW P nt x (Then K Q) env st) : PW P nt (.seq x y) Q env st :=
  PW.seq (h _ fun _ _ h => h)
/-- The same, cut: what holds between. -/
theorem PW.cut {x y : Code} (K : Env → St → Prop) (h : PW P nt x (Then K Q) env st) (k : ∀ env st, K env st → PW P nt y Q env st) : PW P nt (.seq x y) Q env st :=
  PW.seq (h.mono fun e env st q => by cases e <;> first | exact k _ _ q | exact q)
def InBlock (id : Nat) (Q : Exit → Env → St → Prop) : Exit → Env → St → Prop
  | .exit id', env, st => if id' = id then Q .normal env st else Q (.exit id') env st
  | e, env, st => Q e env st
theorem PW.block {id : Nat} {c : Code} (h : PW P nt c (InBlock id Q) env st) : PW P nt (.block id c) Q env st := by
  intro G a w hi ha
  refine wp_block (wp_mono (h G a w hi ha) fun e a w p => ?_)
  obtain ⟨G', env', st', h1, h2, h3, h4⟩ := p
  cases e with
  | exit id' =>
    simp only [InBlock] at h4
    simp only [Exit.inBlock]
    split at h4
    · rename_i hid; rw [if_pos hid]; exact ⟨G', env', st', h1, h2, h3, h4⟩
    · rename_i hid; rw [if_neg hid]; exact ⟨G', env', st', h1, h2, h3, h4⟩
  | _ => exact ⟨G', env', st', h1, h2, h3, h4⟩

/-- An operand's value. -/
def ofC : Value → PV
  | .int k n => .int k n
  | .bool b => .bool b
  | .string s => .str s.data.toList
  | .slice none 0 0 => .list 0 [] .nil
  | v => .val v
theorem rep_ofC (G : Gh) (v : Value) : Rep G (ofC v) v := by
  unfold ofC
  split
  · exact .int _ _
  · exact .bool _
  · rename_i s; exact .str s.data.toList
  · exact .none _ _
  · exact .val _
def ev (env : Env) : Operand → Option PV
  | .tmp t => eget env t
  | .const v => some (ofC v)
  | .func f => some (.clo (.func f) [] [])
  | .global _ => none
theorem ARep.ev {G : Gh} {env : Env} {a : Act} (r : ARep G nt env a) {o : Operand} {x : PV} (h : ev env o = some x) : Rep G x (a.eval o) := by
  cases o with
  | tmp t =>
    obtain ⟨v, h1, h2⟩ := r.get t x h
    show Rep G x (a.tmps.getD t undef)
    rw [Array.getD_eq_getD_getElem?, h1]
    exact h2
  | const v => injection h with h; subst h; exact rep_ofC G v
  | func f => injection h with h; subst h; exact .clo _ [] [] [] [] .nil .nil
  | global g => cases h
theorem Rep.bool_inv {G : Gh} {b : Bool} {v : Value} (h : Rep G (.bool b) v) : v = .bool b := by cases h; rfl
theorem Rep.int_inv {G : Gh} {k : IntKind} {n : Int} {v : Value} (h : Rep G (.int k n) v) : v = .int k n := by cases h; rfl
theorem Rep.str_inv {G : Gh} {l : List UInt8} {v : Value} (h : Rep G (.str l) v) : v = .string ⟨l.toArray⟩ := by cases h; rfl
theorem Rep.val_inv {G : Gh} {u : Value} {v : Value} (h : Rep G (.val u) v) : v = u := by cases h; rfl
theorem PW.cond {c : Operand} {x y : Code} {b : Bool} (hc : Proofs.Ytolhbjfaahcekaa.ev env c = some (.bool b)) (h : PW P nt (if b then x else y) Q env st) : PW P nt (.cond c x y) Q env st :=
  fun G a w hi ha => wp_cond (ha.ev hc).bool_inv (h G a w hi ha)
theorem PW.cond_split {c : Operand} {x y : Code} {b : Bool} (hc : Proofs.Ytolhbjfaahcekaa.ev env c = some (.bool b)) (ht : b = true → PW P nt x Q env st) (hf : b = false → PW P nt y Q env st) : PW P nt (.cond c x y) Q env st := by
  refine PW.cond hc ?_
  cases b
  · exact hf rfl
  · exact ht rfl


/-- A loop: at every round's head 'I a' and 'S a' stand there, with 'C a'; μ falls. -/
theorem PW.loop {α : Type} {c : Code} (I : α → Env) (S : α → St) (C : α → Prop) (μ : α → Nat) (a0 : α) (h0 : C a0) (hs : Sub env (I a0)) (hst : S a0 = st) (hn : ∀ a, C a → (S a).box.length = st.box.length ∧ (S a).len.length = st.len.length)
    (hround : ∀ a, C a → PW P nt c (Then (fun env' st' => ∃ a', C a' ∧ μ a' < μ a ∧ Sub env' (I a') ∧ Left st' (S a') ∧ Env.clean st.box.length st.len.length (I a') = true) Q) (I a) (S a)) :
    PW P nt (.loop c) Q env st := by
  intro G ac w hi ha
  subst hst
  refine wp_loop_ghost (fun n ac w => ∃ a G', μ a = n ∧ C a ∧ G.le G' ∧ Inv G' (S a) w ∧ ARep G' nt (I a) ac) (μ a0) ⟨a0, G, rfl, h0, .refl G, hi, ha.sub hs⟩ ?_
  rintro n ac w ⟨a, G', rfl, hc, hle, hi', ha'⟩
  refine wp_mono (hround a hc G' ac w hi' ha') ?_
  rintro e ac2 w2 ⟨G2, env2, st2, h1, h2, h3, h4⟩
  cases e with
  | normal =>
    obtain ⟨a', hc', hm, hsub, hl, hcl⟩ := h4
    obtain ⟨hb, hlen⟩ := hn a' hc'
    exact ⟨μ a', hm, a', _, rfl, hc', (hle.trans h1).trunc hi (by omega) (by omega), h2.trunc hl, ((h3.sub hsub).trunc (by rw [hb, hlen]; exact hcl))⟩
  | _ => exact ⟨G2, env2, st2, hle.trans h1, h2, h3, h4⟩

/-! ### Calls -/
def Enters (P : Program) (f : FuncId) : Prop := ∃ fn, P.funcs[f]? = some fn ∧ (fn.name == "runtime.NumGoroutine") = false ∧ fn.body.isNone = false
/-- A call that returns, or an entry of the model's own that gives a value. -/
def Ran (P : Program) (f : FuncId) (vs : Array Value) (w : World) (p : Value → World → Prop) : Prop :=
  (Enters P f ∧ Calls P f vs w fun e w' => ∃ v, e = .returned v ∧ p v w') ∨ ∃ v w', (callFunc f vs).run P w = .ok (.value v) w' ∧ p v w'
theorem Ran.mono {f : FuncId} {vs : Array Value} {w : World} {p q : Value → World → Prop} (h : Ran P f vs w p) (k : ∀ v w', p v w' → q v w') : Ran P f vs w q := by
  rcases h with ⟨h1, h2⟩ | ⟨v, w', h1, h2⟩
  · exact .inl ⟨h1, h2.mono fun e w' ⟨v, e1, e2⟩ => ⟨v, e1, k v w' e2⟩⟩
  · exact .inr ⟨v, w', h1, k v w' h2⟩
def PC (P : Program) (f : FuncId) (args : List PV) (st : St) (R : PV → St → Prop) : Prop :=
  ∀ G w vs, Inv G st w → Reps G args vs → Ran P f vs.toArray w fun v w' => ∃ G' r st', G.le G' ∧ Inv G' st' w' ∧ Rep G' r v ∧ R r st' ∧ st.len.length ≤ st'.len.length
theorem PC.mono {f : FuncId} {args : List PV} {R R' : PV → St → Prop} (h : PC P f args st R) (k : ∀ r st', R r st' → R' r st') : PC P f args st R' :=
  fun G w vs hi hr => (h G w vs hi hr).mono fun v w' ⟨G', r, st', h2, h3, h4, h5⟩ => ⟨G', r, st', h2, h3, h4, k r st' h5.1, h5.2⟩
theorem PC.weak {f : FuncId} {args args' : List PV} {R : PV → St → Prop} (h : PC P f args' st R) (k : Weaks args args') : PC P f args st R :=
  fun G w vs hi hr => h G w vs hi (k.reps hr)

end
end Go.Proofs.Ytolhbjfaahcekaa
end
section
/- What the logic asks of types; loads, stores, new variables and data: theorems on the machine. -/
set_option linter.unusedVariables false
set_option linter.unusedSimpArgs false
namespace Go.Proofs.Ytolhbjfaahcekaa

inductive TK where
  | int (k : IntKind) | bool | str | slice (e : Nat) | struct | other (p : Option Nat)
structure TyI where
  size : Nat
  bytes : Nat
  ag : Bool
  flds : List (Nat × Nat × Bool)
  zero : List PV
  k : TK
  cmp : Bool
/-- Cells, each of the type's kind, compared one by one. -/
def eqCells : List PV → List PV → List PV → Option Bool
  | [], [], [] => some true
  | .int k _ :: z, .int k1 a :: xs, .int k2 b :: ys => if k1 = k ∧ k2 = k then (match eqCells z xs ys with
    | some r => some (a == b && r)
    | none => none) else none
  | .str _ :: z, .str a :: xs, .str b :: ys => match eqCells z xs ys with
    | some r => some (a == b && r)
    | none => none
  | .bool _ :: z, .bool a :: xs, .bool b :: ys => match eqCells z xs ys with
    | some r => some (a == b && r)
    | none => none
  | _, _, _ => none
theorem eqCells_int {k : IntKind} {n : Int} {z xs ys : List PV} {b : Bool} (h : eqCells (.int k n :: z) xs ys = some b) : ∃ a a' xs' ys' r, xs = .int k a :: xs' ∧ ys = .int k a' :: ys' ∧ eqCells z xs' ys' = some r ∧ b = (a == a' && r) := by
  unfold eqCells at h
  split at h <;> rename_i hh <;> first | (cases hh; done) | skip
  · cases hh
    split at h
    · rename_i hk
      obtain ⟨rfl, rfl⟩ := hk
      split at h
      · injection h with h
        exact ⟨_, _, _, _, _, rfl, rfl, by assumption, h.symm⟩
      · cases h
    · cases h
  · cases h
theorem eqCells_str {n : List UInt8} {z xs ys : List PV} {b : Bool} (h : eqCells (.str n :: z) xs ys = some b) : ∃ a a' xs' ys' r, xs = .str a :: xs' ∧ ys = .str a' :: ys' ∧ eqCells z xs' ys' = some r ∧ b = (a == a' && r) := by
  unfold eqCells at h
  split at h <;> rename_i hh <;> first | (cases hh; done) | skip
  · cases hh
    split at h
    · injection h with h
      exact ⟨_, _, _, _, _, rfl, rfl, by assumption, h.symm⟩
    · cases h
  · cases h
theorem eqCells_bool {n : Bool} {z xs ys : List PV} {b : Bool} (h : eqCells (.bool n :: z) xs ys = some b) : ∃ a a' xs' ys' r, xs = .bool a :: xs' ∧ ys = .bool a' :: ys' ∧ eqCells z xs' ys' = some r ∧ b = (a == a' && r) := by
  unfold eqCells at h
  split at h <;> rename_i hh <;> first | (cases hh; done) | skip
  · cases hh
    split at h
    · injection h with h
      exact ⟨_, _, _, _, _, rfl, rfl, by assumption, h.symm⟩
    · cases h
  · cases h
theorem eqCells_nil {xs ys : List PV} {b : Bool} (h : eqCells [] xs ys = some b) : xs = [] ∧ ys = [] ∧ b = true := by
  unfold eqCells at h
  split at h <;> rename_i hh <;> first | (cases hh; done) | skip
  · injection h with h
    exact ⟨rfl, rfl, h.symm⟩
  · cases h
theorem Reps.cons_inv {G : Gh} {x : PV} {xs : List PV} {vs : List Value} (h : Reps G (x :: xs) vs) : ∃ v us, vs = v :: us ∧ Rep G x v ∧ Reps G xs us := by
  cases h with
  | cons _ v _ us h1 h2 => exact ⟨v, us, rfl, h1, h2⟩
/-- What == of a type gives. -/
structure EqL (P : Program) (t : TypeId) (z : List PV) : Prop where
  guard : P.eqGuardType P.depth t = false
  eql : ∀ (G : Gh) (xs ys : List PV) (vs us : List Value) (b : Bool) (w : World), eqCells z xs ys = some b → Reps G xs vs → Reps G ys us → (Op.equalIn 10000 t (.agg vs.toArray) (.agg us.toArray)).run P w = .ok b w
def PV.toV : PV → Value
  | .int k n => .int k n
  | .bool b => .bool b
  | .str l => .string ⟨l.toArray⟩
  | .list _ _ _ => .slice none 0 0
  | .val v => v
  | _ => undef
def PV.simple : PV → Bool
  | .int _ _ | .bool _ | .str _ => true
  | .list _ [] .nil => true
  | .val v => v.oneCell'
  | _ => false
theorem rep_simple (G : Gh) {x : PV} (h : x.simple = true) : Rep G x x.toV ∧ x.isCell = true := by
  unfold PV.simple at h
  split at h <;> first | exact ⟨by constructor, by simp_all [PV.isCell]⟩ | simp at h
theorem reps_simple (G : Gh) : ∀ {xs : List PV}, xs.all PV.simple = true → Reps G xs (xs.map PV.toV) ∧ ∀ x ∈ xs, x.isCell = true
  | [], _ => ⟨.nil, by simp⟩
  | x :: xs, h => by
    simp only [List.all_cons, Bool.and_eq_true] at h
    obtain ⟨h1, h2⟩ := reps_simple G h.2
    exact ⟨.cons _ _ _ _ (rep_simple G h.1).1 h1, by simpa using ⟨(rep_simple G h.1).2, h2⟩⟩
def agB (P : Program) (t : TypeId) : Bool := match P.underlying t with | some (.struct _) | some (.array _ _) => true | _ => false
def fldB (P : Program) (t : TypeId) : List (Nat × Nat × Bool) := match P.underlying t with
  | some (.struct fs) => fs.toList.map fun f => (f.offset, ((P.info? f.type).map (·.size)).getD 0, agB P f.type)
  | _ => []
def fokB (P : Program) (t : TypeId) : Bool := match P.underlying t with
  | some (.struct fs) => fs.toList.all fun f => (P.info? f.type).isSome && (P.underlying f.type).isSome
  | _ => true
def TK.ok (P : Program) (t : TypeId) : TK → Prop
  | .int k => P.underlying t = some (.int k)
  | .bool => P.underlying t = some .bool
  | .str => P.underlying t = some .string
  | .slice e => P.underlying t = some (.slice e)
  | .struct => (match P.underlying t with | some (.struct _) => true | _ => false) = true
  | .other (some e) => P.underlying t = some (.pointer e)
  | .other none => True
structure TOk (P : Program) (t : TypeId) (y : TyI) : Prop where
  size : (P.info? t).map (fun i => (i.size, i.bytes)) = some (y.size, y.bytes)
  zero : ((P.info? t).bind (·.zero)).map (fun z => z.cells.toList) = some (y.zero.map PV.toV)
  simple : y.zero.all PV.simple = true
  zlen : y.zero.length = y.size
  und : y.k.ok P t
  isSm : (P.underlying t).isSome = true
  ag : agB P t = y.ag
  flds : fldB P t = y.flds
  fok : fokB P t = true
  eql : y.cmp = true → EqL P t y.zero

section
variable {P : Program} {t : TypeId} {y : TyI} (w : World)
theorem TOk.info (h : TOk P t y) : ∃ i z, P.info? t = some i ∧ i.size = y.size ∧ i.bytes = y.bytes ∧ i.zero = some z ∧ z.cells.toList = y.zero.map PV.toV := by
  have h1 := h.size
  have h2 := h.zero
  cases hi : P.info? t with
  | none => rw [hi] at h1; simp at h1
  | some i =>
    rw [hi] at h1 h2
    simp at h1 h2
    obtain ⟨z, hz, he⟩ := h2
    exact ⟨i, z, rfl, h1.1, h1.2, hz, he⟩
theorem TOk.run_sizeOf (h : TOk P t y) : (sizeOf t).run P w = .ok y.size w := by
  obtain ⟨i, z, hi, hs, _⟩ := h.info
  simp [sizeOf, typeInfo, hi, hs]
theorem TOk.run_zero (h : TOk P t y) : ∃ z, (zeroValue t).run P w = .ok z w ∧ z.cells.toList = y.zero.map PV.toV := by
  obtain ⟨i, z, hi, _, _, hz, he⟩ := h.info
  exact ⟨z, by simp [zeroValue, typeInfo, hi, hz], he⟩
theorem TOk.run_isAgg (h : TOk P t y) : (isAgg t).run P w = .ok y.ag w := by
  have h1 := h.ag
  have h2 := h.isSm
  unfold agB at h1
  cases hu : P.underlying t with
  | none => simp [hu] at h2
  | some d => rw [hu] at h1; rw [← h1]; cases d <;> simp [isAgg, underlying, hu]

theorem add_lit (b o n : Nat) : (⟨b, o, none⟩ : Addr).add n = ⟨b, o + n, none⟩ := by unfold Addr.add; split <;> simp_all

/-- Cells that read as a list, from an offset on. -/
theorem TOk.run_loadVar (h : TOk P t y) (b o : Nat) (vs : List Value) (hc : ∀ (j : Nat) (v : Value), vs[j]? = some v → w.cell? ⟨b, o + j, none⟩ = some v) (hl : vs.length = y.size) (hs : y.ag = false → y.size = 1) :
    ∃ v, (loadVar t ⟨b, o, none⟩).run P w = .ok v w ∧ ((y.ag = true ∧ v = .agg vs.toArray) ∨ (y.ag = false ∧ vs = [v])) := by
  cases ha : y.ag with
  | true =>
    refine ⟨.agg vs.toArray, ?_, .inl ⟨rfl, rfl⟩⟩
    have := run_loadCells_list (P := P) w ⟨b, o, none⟩ vs (fun j v e => by rw [add_lit]; exact hc j v e)
    rw [hl] at this
    simp [loadVar, h.run_isAgg, ha, h.run_sizeOf, this]
  | false =>
    rw [hs ha] at hl
    match vs, hl with
    | [v], _ =>
      refine ⟨v, ?_, .inr ⟨rfl, rfl⟩⟩
      have := hc 0 v rfl
      rw [Nat.add_zero] at this
      simp [loadVar, h.run_isAgg, ha, load, Sem.run, this]
end

/-! ### Loads -/
def PV.isAgg : PV → Bool
  | .agg _ => true
  | _ => false
/-- What a load of type y through p gives. -/
def ldPV (y : TyI) (st : St) : PV → Option PV
  | .ref r o => match st.box[r]? with
    | some cs => if o + y.size ≤ cs.length then (if y.ag then some (.agg ((cs.drop o).take y.size)) else if y.size = 1 then cs[o]? else none) else none
    | none => none
  | .elem x => if x.cells.length = y.size then (if x.isAgg = y.ag then (if x.isAgg then some x else if x.isCell then some x else none) else none) else none
  | _ => none
theorem row_cell {w : World} {b : Nat} {vs : List Value} (h : World.row w b vs) (i : Nat) : w.cell? ⟨b, i, none⟩ = vs[i]? := by
  obtain ⟨T, h⟩ := h
  simp [World.cell?, h]
theorem ld_ok {P : Program} {t : TypeId} {y : TyI} (hy : TOk P t y) {G : Gh} {st : St} {w : World} {p x : PV} {v : Value} (hi : Inv G st w) (hp : Rep G p v) (hl : ldPV y st p = some x) :
    ∃ u, (Instr.loadAt t v).run P w = .ok u w ∧ Rep G x u := by
  unfold ldPV at hl
  split at hl
  · -- a variable
    rename_i r o
    cases hp with
    | ref _ b _ hr =>
    obtain ⟨_, _, cs, vs, hcs, hrow, hreps, hcell⟩ := hi.box r b hr
    rw [hcs] at hl
    simp only at hl
    split at hl
    · rename_i hle
      have hlen := hreps.length
      have hsub : ∀ (j : Nat) (u : Value), ((vs.drop o).take y.size)[j]? = some u → w.cell? ⟨b, o + j, none⟩ = some u := by
        intro j u e
        obtain ⟨_, e⟩ := take_get e
        rw [row_cell hrow]
        simpa [List.getElem?_drop] using e
      have hl2 : ((vs.drop o).take y.size).length = y.size := by simp; omega
      split at hl
      · rename_i hag
        injection hl with hl
        subst hl
        obtain ⟨u, h1, h2⟩ := hy.run_loadVar w b o _ hsub hl2 (by simp [hag])
        rcases h2 with ⟨_, rfl⟩ | ⟨h2, _⟩
        · exact ⟨_, by simpa [Instr.loadAt, Instr.sureAddr] using h1, .agg _ _ (fun z hz => hcell z (List.mem_of_mem_drop (List.mem_of_mem_take hz))) ((hreps.drop o).take _)⟩
        · simp [hag] at h2
      · rename_i hag
        split at hl
        · rename_i h1s
          obtain ⟨u, h1, h2⟩ := hy.run_loadVar w b o _ hsub hl2 (fun _ => h1s)
          rcases h2 with ⟨h2, _⟩ | ⟨_, h2⟩
          · simp [h2] at hag
          · obtain ⟨u', hu', hrep⟩ := hreps.get o x hl
            have : (List.take y.size (List.drop o vs))[0]? = vs[o]? := by rw [h1s]; simp [List.getElem?_take]
            rw [h2, hu'] at this
            simp at this
            subst this
            exact ⟨u, by simpa [Instr.loadAt, Instr.sureAddr] using h1, hrep⟩
        · simp at hl
    · simp at hl
  · -- data
    rename_i z
    cases hp with
    | elem _ b o vs h1 hv hd =>
    split at hl
    · rename_i hsz
      have hlen := hv.length
      have hcell : ∀ (j : Nat) (u : Value), vs[j]? = some u → w.cell? ⟨b, o + j, none⟩ = some u := by
        intro j u e
        refine hi.dat b (o + j) u ?_
        have := prefix_get hd e
        simpa [List.getElem?_drop] using this
      split at hl
      · rename_i hag
        split at hl
        · rename_i hz
          injection hl with hl
          subst hl
          have hag' : y.ag = true := by rw [← hag]; exact hz
          obtain ⟨u, h2, h3⟩ := hy.run_loadVar w b o vs hcell (by omega) (by simp [hag'])
          rcases h3 with ⟨_, rfl⟩ | ⟨h3, _⟩
          · refine ⟨_, by simpa [Instr.loadAt, Instr.sureAddr] using h2, ?_⟩
            cases z <;> simp [PV.isAgg] at hz
            exact .agg _ _ (by simpa [PV.cells] using h1) (by simpa [PV.cells] using hv)
          · simp [hag'] at h3
        · rename_i hz
          split at hl
          · rename_i hcl
            injection hl with hl
            subst hl
            have hag' : y.ag = false := by rw [← hag]; simpa using hz
            have hcs : z.cells = [z] := by cases z <;> simp_all [PV.cells, PV.isAgg]
            rw [hcs] at hsz hv
            obtain ⟨u, h2, h3⟩ := hy.run_loadVar w b o vs hcell (by simp at hsz hlen; rw [hcs] at hlen; simp at hlen; omega) (fun _ => by simpa using hsz.symm)
            rcases h3 with ⟨h3, _⟩ | ⟨_, rfl⟩
            · simp [hag'] at h3
            · cases hv with
              | cons _ _ _ _ hv _ => exact ⟨u, by simpa [Instr.loadAt, Instr.sureAddr] using h2, hv⟩
          · simp at hl
      · simp at hl
    · simp at hl
  · simp at hl
end Go.Proofs.Ytolhbjfaahcekaa
end
section
/- Stores, new variables, new data, append: theorems on the machine. -/
set_option linter.unusedVariables false
set_option linter.unusedSimpArgs false
namespace Go.Proofs.Ytolhbjfaahcekaa

theorem Inv.ref_lt {G : Gh} {st : St} {w : World} (h : Inv G st w) {r b : Nat} (e : G.ref[r]? = some b) : b < w.heap.size := by
  obtain ⟨_, _, _, _, _, ⟨T, hT⟩, _⟩ := h.box r b e
  exact (Array.getElem?_eq_some_iff.1 hT).1
theorem Inv.dat_lt {G : Gh} {st : St} {w : World} (h : Inv G st w) {b i : Nat} {x : Value} (e : (G.dat b)[i]? = some x) : b < w.heap.size := by
  have := h.dat b i x e
  unfold World.cell? at this
  rcases Nat.lt_or_ge b w.heap.size with hb | hb
  · exact hb
  · simp [Array.getElem?_eq_none hb] at this
theorem Inv.dat_new {G : Gh} {st : St} {w : World} (h : Inv G st w) : G.dat w.heap.size = [] := by
  cases e : G.dat w.heap.size with
  | nil => rfl
  | cons x xs => have := h.dat_lt (b := w.heap.size) (i := 0) (x := x) (by rw [e]; rfl); omega
theorem nodup_inj {xs : List Nat} (h : xs.Nodup) {i j b : Nat} (hi : xs[i]? = some b) (hj : xs[j]? = some b) : i = j := by
  exact (List.getElem?_inj (List.getElem?_eq_some_iff.1 hi).1 h).1 (hi.trans hj.symm)

/-! ### A store -/
/-- A variable's cells, some of them written. -/
def splice (cs : List PV) (o : Nat) (xs : List PV) : List PV := cs.take o ++ xs ++ cs.drop (o + xs.length)
def stPV (y : TyI) (st : St) (p x : PV) : Option St :=
  match p with
  | .ref r o => match st.box[r]? with
    | some cs => if x.cells.length = y.size ∧ o + y.size ≤ cs.length ∧ x.cells.all PV.isCell then some { st with box := st.box.set r (splice cs o x.cells) } else none
    | none => none
  | _ => none
theorem Inv.setBox {G : Gh} {st : St} {w w' : World} (h : Inv G st w) {r b : Nat} (hr : G.ref[r]? = some b) {cs : List PV} {vs : List Value} (hv : Reps G cs vs) (hc : ∀ x ∈ cs, x.isCell = true)
    (hrow : World.row w' b vs) (hother : ∀ k, k ≠ b → w'.heap[k]? = w.heap[k]?) (hs : w'.heap.size = w.heap.size) (ho : w'.os = w.os) (ht : w'.tape = w.tape) (hp : w'.output = w.output) :
    Inv G { st with box := st.box.set r cs } w' := by
  have hbs := h.box r b hr
  refine ⟨⟨ho.trans h.kept.os, ht.trans h.kept.tape, hp.trans h.kept.output, by rw [hs]; exact h.kept.size, ?_⟩, ?_, by simpa using h.rlen, ?_, h.inj, ?_, h.apart, h.fresh⟩
  · intro k hk h1 h2
    rw [hother k]
    · exact h.kept.block k hk h1 h2
    · rintro rfl
      rcases hbs.1 with hb | hb
      · exact h1 hb
      · omega
  · intro k i x e
    have hkb : k ≠ b := by rintro rfl; rw [hbs.2.1] at e; simp at e
    rw [World.cell?_of_block (w := w) (by exact hother k hkb)]
    exact h.dat k i x e
  · intro r' b' hr'
    by_cases hrr : r' = r
    · subst hrr
      rw [hr] at hr'
      injection hr' with hb
      subst hb
      have hlt : r' < st.box.length := by rw [← h.rlen]; exact (List.getElem?_eq_some_iff.1 hr).1
      exact ⟨hbs.1, hbs.2.1, cs, vs, by simp [List.getElem?_set, hlt], hrow, hv, hc⟩
    · have hne : b' ≠ b := fun e => hrr (nodup_inj h.inj hr' (e ▸ hr))
      obtain ⟨h1, h2, cs', vs', h3, ⟨T, h4⟩, h5⟩ := h.box r' b' hr'
      exact ⟨h1, h2, cs', vs', by simp only [List.getElem?_set]; rw [if_neg (Ne.symm hrr)]; exact h3, ⟨T, by rw [hother b' hne]; exact h4⟩, h5⟩
  · intro k n e b' c sz e2
    obtain ⟨h1, h2, h3, vs', ⟨T, h4⟩, h5⟩ := h.own k n e b' c sz e2
    have hne : b' ≠ b := by rintro rfl; exact h2 (List.mem_of_getElem? hr)
    exact ⟨h1, h2, h3, vs', ⟨T, by rw [hother b' hne]; exact h4⟩, h5⟩
theorem splice_reps {G : Gh} {cs xs : List PV} {vs us : List Value} (h : Reps G cs vs) (k : Reps G xs us) (o : Nat) : Reps G (splice cs o xs) (vs.take o ++ us ++ vs.drop (o + us.length)) := by
  unfold splice
  rw [k.length]
  exact ((h.take o).append k).append (h.drop _)
theorem st_ok {P : Program} {t : TypeId} {y : TyI} (hy : TOk P t y) {G : Gh} {st st' : St} {w : World} {p x : PV} {v u : Value} (hi : Inv G st w) (hp : Rep G p v) (hx : Rep G x u) (hl : stPV y st p x = some st') :
    ∃ w', (Instr.storeAt t v u).run P w = .ok () w' ∧ Inv G st' w' := by
  unfold stPV at hl
  split at hl
  case h_2 => simp at hl
  rename_i r o
  cases hp with
  | ref _ b _ hr =>
  obtain ⟨_, _, cs, vs, hcs, ⟨T, hT⟩, hreps, hcell⟩ := hi.box r b hr
  rw [hcs] at hl
  simp only at hl
  split at hl
  case isFalse => simp at hl
  rename_i hle
  obtain ⟨hl1, hl2, hl3⟩ := hle
  injection hl with hl
  subst hl
  have hxc : ∀ z ∈ x.cells, z.isCell = true := by simpa using hl3
  have hu := hx.cells hxc
  have hul := hu.length
  have hvl := hreps.length
  have hu1 : ∀ z ∈ u.cells.toList, z.oneCell' = true := by
    intro z hz
    obtain ⟨j, hj⟩ := List.mem_iff_getElem?.1 hz
    have hj2 : j < x.cells.length := by rw [hul]; exact (List.getElem?_eq_some_iff.1 hj).1
    obtain ⟨z', hz', hrep⟩ := hu.get j _ (List.getElem?_eq_getElem hj2)
    rw [hj] at hz'
    injection hz' with hz'
    subst hz'
    exact (hrep.cell1 (hxc _ (List.getElem_mem hj2))).1
  have hsc := run_storeCells_at P b o T u.cells.toList 0 vs.toArray w hT (by simp at hul ⊢; omega) hu1
  have hsize : u.cells.size = y.size := by simp at hul; omega
  refine ⟨_, ?_, hi.setBox hr (splice_reps hreps hu o) ?_ ⟨T, setRow_heap w b _ _ T _ hT⟩ (fun k hk => setRow_other w b k _ hk) (by simp) rfl rfl rfl⟩
  · simp only [Instr.storeAt, Instr.sureAddr, storeVar, Sem.run_bind, Sem.run_pure, Result.andThen_ok, hy.run_sizeOf, hsize]
    simp only [ne_eq, not_true, if_false, Sem.run_pure, Result.andThen_ok]
    simpa using hsc
  · intro z hz
    simp only [splice, List.mem_append] at hz
    rcases hz with (hz | hz) | hz
    · exact hcell z (List.mem_of_mem_take hz)
    · exact hxc z hz
    · exact hcell z (List.mem_of_mem_drop hz)

/-! ### A new variable -/
theorem kept_push {w0 w : World} {p q : Nat → Prop} (h : Kept w0 p q w) (o : Obj) : Kept w0 p q { w with heap := w.heap.push o } := by
  refine ⟨h.os, h.tape, h.output, by have := h.size; simp; omega, fun b hb h1 h2 => ?_⟩
  show (w.heap.push o)[b]? = _
  rw [Array.getElem?_push, if_neg (by have := h.size; omega)]
  exact h.block b hb h1 h2
theorem push_old {w : World} (o : Obj) {k : Nat} (h : k < w.heap.size) : ({ w with heap := w.heap.push o } : World).heap[k]? = w.heap[k]? := by
  show (w.heap.push o)[k]? = _
  rw [Array.getElem?_push, if_neg (by omega)]
theorem row_lt {w : World} {b : Nat} {vs : List Value} (h : World.row w b vs) : b < w.heap.size := by
  obtain ⟨T, h⟩ := h
  exact (Array.getElem?_eq_some_iff.1 h).1
theorem row_push {w : World} {b : Nat} {vs : List Value} (h : World.row w b vs) (o : Obj) : World.row { w with heap := w.heap.push o } b vs := by
  have hlt := row_lt h
  obtain ⟨T, h⟩ := h
  exact ⟨T, by rw [push_old o hlt]; exact h⟩
theorem cell_push {w : World} {b i : Nat} {x : Value} (h : w.cell? ⟨b, i, none⟩ = some x) (o : Obj) : ({ w with heap := w.heap.push o } : World).cell? ⟨b, i, none⟩ = some x := by
  have hlt : b < w.heap.size := by
    unfold World.cell? at h
    rcases Nat.lt_or_ge b w.heap.size with hb | hb
    · exact hb
    · simp [Array.getElem?_eq_none hb] at h
  rw [World.cell?_of_block (w := w) (push_old o hlt)]
  exact h
def Gh.addRef (G : Gh) (b : Nat) : Gh := { G with ref := G.ref ++ [b] }
theorem Gh.le_addRef (G : Gh) (b : Nat) : G.le (G.addRef b) := ⟨rfl, rfl, rfl, fun _ => List.prefix_rfl, fun _ _ _ _ => rfl, List.prefix_append _ _, fun _ _ _ h => h⟩
theorem Inv.newBox {G : Gh} {st : St} {w : World} (h : Inv G st w) {cs : List PV} {vs : List Value} (hv : Reps G cs vs) (hc : ∀ x ∈ cs, x.isCell = true) (T : TypeId) :
    Inv (G.addRef w.heap.size) { st with box := st.box ++ [cs] } { w with heap := w.heap.push (.cells vs.toArray T) } := by
  have hle := G.le_addRef w.heap.size
  have hnew : ¬ w.heap.size ∈ G.ref := fun hm => by
    obtain ⟨r, hr⟩ := List.mem_iff_getElem?.1 hm
    have := h.ref_lt hr
    omega
  refine ⟨kept_push h.kept _, fun b i x e => cell_push (h.dat b i x e) _, ?_, ?_, ?_, ?_, h.apart, h.fresh⟩
  · show (G.ref ++ [_]).length = (st.box ++ [cs]).length
    simp [h.rlen]
  · intro r b e
    rcases Nat.lt_or_ge r G.ref.length with hr | hr
    · have e' : G.ref[r]? = some b := by rw [← e]; exact (List.getElem?_append_left hr).symm
      obtain ⟨h1, h2, cs', vs', h3, h4, h5, h6⟩ := h.box r b e'
      exact ⟨h1, h2, cs', vs', by show (st.box ++ [cs])[r]? = _; rw [List.getElem?_append_left (by rw [← h.rlen]; exact hr)]; exact h3, row_push h4 _, h5.mono hle, h6⟩
    · have e' : (G.ref ++ [w.heap.size])[r]? = some b := e
      rw [List.getElem?_append_right hr] at e'
      have hr0 : r = G.ref.length := by
        rcases Nat.eq_or_lt_of_le hr with h | h
        · exact h.symm
        · rw [List.getElem?_eq_none (by simp; omega)] at e'; cases e'
      subst hr0
      simp at e'
      subst e'
      refine ⟨.inr h.kept.size, h.dat_new, cs, vs, ?_, ⟨T, ?_⟩, hv.mono hle, hc⟩
      · show (st.box ++ [cs])[_]? = _
        rw [h.rlen]; simp
      · show (w.heap.push _)[w.heap.size]? = _
        simp
  · show (G.ref ++ [w.heap.size]).Nodup
    rw [List.nodup_append]
    exact ⟨h.inj, by simp, fun a ha b hb => by simp at hb; subst hb; rintro rfl; exact hnew ha⟩
  · intro k n e b c sz e2
    obtain ⟨h1, h2, h3, vs', h4, h5⟩ := h.own k n e b c sz e2
    refine ⟨h1, ?_, h3, vs', row_push h4 _, h5⟩
    show ¬ b ∈ G.ref ++ [w.heap.size]
    have := row_lt h4
    simp only [List.mem_append, List.mem_singleton, not_or]
    exact ⟨h2, by omega⟩
theorem addRef_get {G : Gh} {st : St} {w : World} (h : Inv G st w) (b : Nat) : (G.addRef b).ref[st.box.length]? = some b := by
  show (G.ref ++ [b])[_]? = _
  rw [← h.rlen]; simp

/-! ### New data -/
def Gh.addDat (G : Gh) (b : Nat) (vs : List Value) : Gh := { G with dat := fun k => if k = b then vs else G.dat k }
theorem Gh.le_addDat {G : Gh} {st : St} {w : World} (h : Inv G st w) (vs : List Value) : G.le (G.addDat w.heap.size vs) := by
  refine ⟨rfl, rfl, rfl, fun b => ?_, fun b hb _ _ => ?_, List.prefix_rfl, fun _ _ _ h => h⟩
  · simp only [Gh.addDat]
    split
    · rename_i e; subst e; rw [h.dat_new]; exact List.nil_prefix
    · exact List.prefix_rfl
  · simp only [Gh.addDat]
    rw [if_neg (by have := h.kept.size; omega)]
theorem Inv.newDat {G : Gh} {st : St} {w : World} (h : Inv G st w) (vs : List Value) (T : TypeId) (us : List Value) (hu : vs <+: us) : Inv (G.addDat w.heap.size vs) st { w with heap := w.heap.push (.cells us.toArray T) } := by
  have hle := Gh.le_addDat h vs
  refine ⟨kept_push h.kept _, ?_, h.rlen, ?_, h.inj, ?_, h.apart, h.fresh⟩
  · intro b i x e
    simp only [Gh.addDat] at e
    split at e
    · rename_i hb
      subst hb
      have : us[i]? = some x := prefix_get hu e
      simp [World.cell?, this]
    · exact cell_push (h.dat b i x e) _
  · intro r b e
    obtain ⟨h1, h2, cs', vs', h3, h4, h5, h6⟩ := h.box r b e
    have hb := row_lt h4
    refine ⟨h1, ?_, cs', vs', h3, row_push h4 _, h5.mono hle, h6⟩
    simp only [Gh.addDat]
    rw [if_neg (by omega)]; exact h2
  · intro k n e b c sz e2
    obtain ⟨h1, h2, h3, vs', h4, h5⟩ := h.own k n e b c sz e2
    have hb := row_lt h4
    refine ⟨h1, h2, ?_, vs', row_push h4 _, h5⟩
    simp only [Gh.addDat]
    rw [if_neg (by omega)]; exact h3
end Go.Proofs.Ytolhbjfaahcekaa
end
section
/- Objects that grow: append. -/
set_option linter.unusedVariables false
set_option linter.unusedSimpArgs false
namespace Go.Proofs.Ytolhbjfaahcekaa

theorem Inv.addLen {G : Gh} {st : St} {w : World} (h : Inv G st w) : Inv G { st with len := st.len ++ [0] } w := by
  have hold : ∀ (k n : Nat), (st.len ++ [0])[k]? = some n → (st.len[k]? = some n) ∨ (k = st.len.length ∧ n = 0) := by
    intro k n e
    rcases Nat.lt_or_ge k st.len.length with hk | hk
    · rw [List.getElem?_append_left hk] at e; exact .inl e
    · rw [List.getElem?_append_right hk] at e
      rcases Nat.eq_or_lt_of_le hk with hk' | hk'
      · subst hk'; simp at e; exact .inr ⟨rfl, e.symm⟩
      · rw [List.getElem?_eq_none (by simp; omega)] at e; cases e
  have hnone : ∀ i, G.hist st.len.length i = none := fun i => h.fresh _ i fun m hm => by simp at hm
  refine ⟨h.kept, h.dat, h.rlen, h.box, h.inj, ?_, ?_, ?_⟩
  · intro k n e b c sz e2
    rcases hold k n e with e | ⟨rfl, rfl⟩
    · exact h.own k n e b c sz e2
    · rw [hnone] at e2; cases e2
  · intro k k' n n' b c sz c' sz' e e' e2 e2'
    rcases hold k n e with e | ⟨rfl, rfl⟩
    · rcases hold k' n' e' with e' | ⟨rfl, rfl⟩
      · exact h.apart k k' n n' b c sz c' sz' e e' e2 e2'
      · rw [hnone] at e2'; cases e2'
    · rw [hnone] at e2; cases e2
  · intro k n e
    refine h.fresh k n fun m hm => e m ?_
    show (st.len ++ [0])[k]? = some m
    rw [List.getElem?_append_left (List.getElem?_eq_some_iff.1 hm).1]; exact hm

/-- Object k lies in block b now, with these elements' cells. -/
def Gh.to (G : Gh) (k n b c sz : Nat) (vs : List Value) : Gh :=
  { G with dat := fun j => if j = b then vs else G.dat j, hist := fun k' i => if k' = k ∧ i = n then some (b, c, sz) else G.hist k' i }
theorem Inv.grow {G : Gh} {st : St} {w w' : World} (h : Inv G st w) {k n n' b c sz : Nat} {vs us : List Value} (hk : st.len[k]? = some n) (hn : n ≤ n') (hnew : G.hist k n' = none)
    (ho : w'.os = w.os) (ht : w'.tape = w.tape) (hp : w'.output = w.output) (hs : w.heap.size ≤ w'.heap.size) (hother : ∀ j, j < w.heap.size → j ≠ b → w'.heap[j]? = w.heap[j]?)
    (hb : b = w.heap.size ∨ ∃ c0 s0, G.hist k n = some (b, c0, s0)) (hrow : World.row w' b us) (hvs : vs <+: us) (hl : vs.length = n' * sz) (hus : us.length = c * sz) (hc : c ≤ maxLen) (hd : G.dat b <+: vs) :
    G.le (G.to k n' b c sz vs) ∧ Inv (G.to k n' b c sz vs) { st with len := st.len.set k n' } w' := by
  have hpb : G.pob b ∨ G.w0.heap.size ≤ b := by
    rcases hb with rfl | ⟨c0, s0, e⟩
    · exact .inr h.kept.size
    · exact (h.own k n hk b c0 s0 e).1
  have hbr : b ∉ G.ref := by
    rcases hb with rfl | ⟨c0, s0, e⟩
    · intro hm
      obtain ⟨r, hr⟩ := List.mem_iff_getElem?.1 hm
      have := h.ref_lt hr
      omega
    · exact (h.own k n hk b c0 s0 e).2.1
  have hle : G.le (G.to k n' b c sz vs) := by
    refine ⟨rfl, rfl, rfl, fun j => ?_, fun j hj h1 h2 => ?_, List.prefix_rfl, fun k' i x e => ?_⟩
    · simp only [Gh.to]; split
      · rename_i e; subst e; exact hd
      · exact List.prefix_rfl
    · simp only [Gh.to]; rw [if_neg]
      rintro rfl
      rcases hpb with hpb | hpb
      · exact h2 hpb
      · omega
    · simp only [Gh.to]; rw [if_neg]
      · exact e
      · rintro ⟨rfl, rfl⟩; rw [hnew] at e; cases e
  have hkl : k < st.len.length := (List.getElem?_eq_some_iff.1 hk).1
  have hlen : ∀ (k' m : Nat), (st.len.set k n')[k']? = some m → (k' = k ∧ m = n') ∨ (k' ≠ k ∧ st.len[k']? = some m) := by
    intro k' m e
    rw [List.getElem?_set] at e
    split at e
    · rename_i hkk; subst hkk; simp [hkl] at e; exact .inl ⟨rfl, e.symm⟩
    · rename_i hkk; exact .inr ⟨fun e => hkk e.symm, e⟩
  have hhist : ∀ (k' i : Nat) x, k' ≠ k → (G.to k n' b c sz vs).hist k' i = some x → G.hist k' i = some x := by
    intro k' i x hne e
    simp only [Gh.to] at e
    rw [if_neg (fun he => hne he.1)] at e
    exact e
  have hhk : (G.to k n' b c sz vs).hist k n' = some (b, c, sz) := by simp [Gh.to]
  have hap : ∀ (k' m b' c' s' : Nat), k' ≠ k → st.len[k']? = some m → G.hist k' m = some (b', c', s') → b' ≠ b := by
    intro k' m b' c' s' hne e e2
    rintro rfl
    rcases hb with rfl | ⟨c0, s0, e0⟩
    · obtain ⟨_, _, _, vs', h4, _⟩ := h.own k' m e _ _ _ e2
      have := row_lt h4
      omega
    · exact hne (h.apart k' k m n b' c' s' c0 s0 e hk e2 e0)
  refine ⟨hle, ⟨⟨ho.trans h.kept.os, ht.trans h.kept.tape, hp.trans h.kept.output, Nat.le_trans h.kept.size hs, ?_⟩, ?_, h.rlen, ?_, h.inj, ?_, ?_, ?_⟩⟩
  · intro j hj h1 h2
    rw [hother j (by have := h.kept.size; show j < _; have hj' : j < G.w0.heap.size := hj; omega)]
    · exact h.kept.block j hj h1 h2
    · rintro rfl
      rcases hpb with hpb | hpb
      · exact h2 hpb
      · have hj' : j < G.w0.heap.size := hj
        omega
  · intro j i x e
    simp only [Gh.to] at e
    split at e
    · rename_i hj
      subst hj
      rw [row_cell hrow]
      exact prefix_get hvs e
    · rename_i hj
      rw [World.cell?_of_block (w := w) (hother j (h.dat_lt e) hj)]
      exact h.dat j i x e
  · intro r b' e
    obtain ⟨h1, h2, cs, vs', h3, ⟨T, h4⟩, h5, h6⟩ := h.box r b' e
    have hne : b' ≠ b := by rintro rfl; exact hbr (List.mem_of_getElem? e)
    refine ⟨h1, ?_, cs, vs', h3, ⟨T, by rw [hother b' (h.ref_lt e) hne]; exact h4⟩, h5.mono hle, h6⟩
    simp only [Gh.to]; rw [if_neg hne]; exact h2
  · intro k' m e b' c' s' e2
    rcases hlen k' m e with ⟨rfl, rfl⟩ | ⟨hne, e⟩
    · rw [hhk] at e2
      injection e2 with e2
      simp only [Prod.mk.injEq] at e2
      obtain ⟨rfl, rfl, rfl⟩ := e2
      exact ⟨hpb, hbr, by simp only [Gh.to, if_true]; exact hl, us, hrow, hus, hc⟩
    · have e2' := hhist _ _ _ hne e2
      have hbb := hap k' m b' c' s' hne e e2'
      obtain ⟨h1, h2, h3, vs', h4, h5⟩ := h.own k' m e b' c' s' e2'
      have hlt := row_lt h4
      obtain ⟨T, h4⟩ := h4
      refine ⟨h1, h2, ?_, vs', ⟨T, by rw [hother b' hlt hbb]; exact h4⟩, h5⟩
      simp only [Gh.to]; rw [if_neg hbb]; exact h3
  · intro k1 k2 m1 m2 b' c1 s1 c2 s2 e1 e2 f1 f2
    rcases hlen k1 m1 e1 with ⟨rfl, rfl⟩ | ⟨hne1, d1⟩
    · rcases hlen k2 m2 e2 with ⟨rfl, rfl⟩ | ⟨hne2, d2⟩
      · rfl
      · rw [hhk] at f1
        injection f1 with f1
        simp only [Prod.mk.injEq] at f1
        exact absurd f1.1.symm (hap k2 m2 b' c2 s2 hne2 d2 (hhist _ _ _ hne2 f2))
    · rcases hlen k2 m2 e2 with ⟨rfl, rfl⟩ | ⟨hne2, d2⟩
      · rw [hhk] at f2
        injection f2 with f2
        simp only [Prod.mk.injEq] at f2
        exact absurd f2.1.symm (hap k1 m1 b' c1 s1 hne1 d1 (hhist _ _ _ hne1 f1))
      · exact h.apart k1 k2 m1 m2 b' c1 s1 c2 s2 d1 d2 (hhist _ _ _ hne1 f1) (hhist _ _ _ hne2 f2)
  · intro k' i e
    simp only [Gh.to]
    by_cases hkk : k' = k
    · subst hkk
      have := e n' (by simp [List.getElem?_set, hkl])
      rw [if_neg (by omega)]
      exact h.fresh k' i fun m hm => by rw [hk] at hm; injection hm with hm; omega
    · rw [if_neg (fun he => hkk he.1)]
      exact h.fresh k' i fun m hm => e m (by simp only [List.getElem?_set]; rw [if_neg (Ne.symm hkk)]; exact hm)

/-! ### append -/
theorem run_append_room' {P : Program} (w : World) (t ty e T : TypeId) (i : TypeInfo) (ht : P.underlying t = some (.slice e)) (hi : P.info? e = some i)
    (g sLen sCap : Nat) (cur : Array Value) (hg : w.heap[g]? = some (.cells cur T (0, 0)))
    (a : Addr) (m c : Nat) (news : List Value) (hl : news.length = m * i.size) (hnews : ∀ (j : Nat) u, news[j]? = some u → w.cell? (a.add j) = some u) (h1 : ∀ u ∈ news, u.oneCell' = true)
    (hroom : sLen + m ≤ sCap) (hfit : sLen * i.size + news.length ≤ cur.size) :
    (Builtin.append_ #[t, t] ty #[.slice (some ⟨g, 0, none⟩) sLen sCap, .slice (some a) m c]).run P w =
      .ok (.slice (some ⟨g, 0, none⟩) (sLen + m) sCap) (w.setRow g (cur.toList.take (sLen * i.size) ++ news ++ cur.toList.drop (sLen * i.size + news.length)).toArray) := by
  have hf := run_firstCells_some (P := P) w i.size m a m c news hl hnews
  have hst := run_storeCells_at P g (sLen * i.size) T news 0 cur w hg (by simpa using hfit) h1
  simp only [Nat.add_zero] at hst
  simp [Builtin.append_, run_underlying ht, sizeOf, typeInfo, hi, Builtin.lenOf, hroom, hf, Addr.add_lit, hst]
theorem run_append_zero {P : Program} (w : World) (t ty e : TypeId) (i : TypeInfo) (ht : P.underlying t = some (.slice e)) (hi : P.info? e = some i)
    (base xa : Option Addr) (n cap c : Nat) (hn : n ≤ cap) :
    (Builtin.append_ #[t, t] ty #[.slice base n cap, .slice xa 0 c]).run P w = .ok (.slice base n cap) w := by
  cases xa <;> cases base <;> simp [Builtin.append_, run_underlying ht, sizeOf, typeInfo, hi, Builtin.lenOf, hn, Builtin.firstCells, loadCells, loadCellsFrom, storeCells]

theorem Rep.list_inv {G : Gh} {sz : Nat} {xs : List PV} {t : Tk} {v : Value} (h : Rep G (.list sz xs t) v) :
    (xs = [] ∧ v = .slice Option.none 0 0) ∨ ∃ b o c vs, t ≠ .nil ∧ v = .slice (some ⟨b, o, Option.none⟩) xs.length c ∧ xs.length ≤ c ∧ (∀ x ∈ xs, x.cells.length = sz) ∧ (∀ x ∈ cellsOf xs, x.isCell = true) ∧ Reps G (cellsOf xs) vs ∧ vs <+: (G.dat b).drop o ∧
      ∀ k, t = .own k → o = 0 ∧ G.hist k xs.length = some (b, c, sz) := by
  cases h with
  | none => exact .inl ⟨rfl, rfl⟩
  | list _ _ _ b o c vs ht hc hs h1 hv hd hk => exact .inr ⟨b, o, c, vs, ht, rfl, hc, hs, h1, hv, hd, hk⟩
theorem cellsOf_length {sz : Nat} : ∀ {xs : List PV}, (∀ x ∈ xs, x.cells.length = sz) → (cellsOf xs).length = xs.length * sz
  | [], _ => by simp
  | x :: xs, h => by
    rw [cellsOf_cons, List.length_append, cellsOf_length (fun y hy => h y (by simp [hy])), h x (by simp), List.length_cons, Nat.add_mul]
    omega
theorem reps_oneCell {G : Gh} {xs : List PV} {vs : List Value} (h : Reps G xs vs) (h1 : ∀ x ∈ xs, x.isCell = true) : ∀ v ∈ vs, v.oneCell' = true := by
  intro v hv
  obtain ⟨j, hj⟩ := List.mem_iff_getElem?.1 hv
  have hj2 : j < xs.length := by rw [h.length]; exact (List.getElem?_eq_some_iff.1 hj).1
  obtain ⟨u, hu, hr⟩ := h.get j _ (List.getElem?_eq_getElem hj2)
  rw [hj] at hu
  injection hu with hu
  subst hu
  exact (hr.cell1 (h1 _ (List.getElem_mem hj2))).1
/-- The cells of what is read. -/
theorem Inv.dat_cells {G : Gh} {st : St} {w : World} (hi : Inv G st w) {b o : Nat} {vs : List Value} (hd : vs <+: (G.dat b).drop o) (j : Nat) (u : Value) (e : vs[j]? = some u) : w.cell? ((⟨b, o, none⟩ : Addr).add j) = some u := by
  rw [add_lit]
  refine hi.dat b (o + j) u ?_
  have := prefix_get hd e
  simpa [List.getElem?_drop] using this

theorem append_ok {P : Program} {t e ty : TypeId} {yt ye : TyI} (ht : TOk P t yt) (hk : yt.k = .slice e) (he : TOk P e ye) (h0 : 0 < ye.size) {G : Gh} {st : St} {w : World} (hi : Inv G st w)
    {k : Nat} {xs ys : List PV} {tk : Tk} {v u : Value} (hv : Rep G (.list ye.size xs (.own k)) v) (hu : Rep G (.list ye.size ys tk) u) (hlen : st.len[k]? = some xs.length)
    (hfit : (xs.length + ys.length) * ye.bytes ≤ 140737488355328) (hmax : xs.length + ys.length ≤ maxLen) :
    ∃ v' w' G', (Builtin.append_ #[t, t] ty #[v, u]).run P w = .ok v' w' ∧ G.le G' ∧ Inv G' { st with len := st.len.set k (xs.length + ys.length) } w' ∧ Rep G' (.list ye.size (xs ++ ys) (.own k)) v' := by
  have hu' : P.underlying t = some (.slice e) := by have := ht.und; rw [hk] at this; exact this
  obtain ⟨i, z, hinfo, hsz, hby, hz, hzc⟩ := he.info
  have hzs : z.cells.size = ye.size := by
    have := congrArg List.length hzc
    simp at this
    rw [this, he.zlen]
  have hkl : k < st.len.length := (List.getElem?_eq_some_iff.1 hlen).1
  have hmx : xs.length + ys.length ≤ 9223372036854775807 := by simp only [maxLen] at hmax; omega
  -- nothing is appended
  have hzero : ys = [] → ∃ v' w' G', (Builtin.append_ #[t, t] ty #[v, u]).run P w = .ok v' w' ∧ G.le G' ∧ Inv G' { st with len := st.len.set k (xs.length + ys.length) } w' ∧ Rep G' (.list ye.size (xs ++ ys) (.own k)) v' := by
    rintro rfl
    have hst : ({ st with len := st.len.set k (xs.length + ([] : List PV).length) } : St) = st := by
      cases st
      simp only [List.length_nil, Nat.add_zero, St.mk.injEq, true_and]
      apply List.ext_getElem?
      intro j
      rw [List.getElem?_set]
      split
      · rename_i hj; subst hj; simp only at hlen hkl ⊢; rw [hlen]
      · rfl
    obtain ⟨xa, c, rfl⟩ : ∃ xa c, u = .slice xa 0 c := by
      rcases hu.list_inv with ⟨_, rfl⟩ | ⟨b, o, c, vs, _, rfl, _⟩
      · exact ⟨_, _, rfl⟩
      · exact ⟨_, _, rfl⟩
    have hv' : ∃ base cap, v = .slice base xs.length cap ∧ xs.length ≤ cap := by
      rcases hv.list_inv with ⟨rfl, rfl⟩ | ⟨b, o, c, vs, _, rfl, hc, _⟩
      · exact ⟨none, 0, rfl, Nat.le_refl _⟩
      · exact ⟨_, _, rfl, hc⟩
    obtain ⟨base, cap, rfl, hcap⟩ := hv'
    exact ⟨_, w, G, run_append_zero w t ty e i hu' hinfo base xa _ cap c hcap, .refl G, by rw [hst]; exact hi, by simpa using hv⟩
  by_cases hys : ys = []
  · exact hzero hys
  have hm0 : 0 < ys.length := by
    cases ys with
    | nil => exact absurd rfl hys
    | cons => simp
  rcases hu.list_inv with ⟨h, _⟩ | ⟨ub, uo, uc, us, _, rfl, huc, hus, hu1, hur, hud, _⟩
  · exact absurd h hys
  have hul : us.length = ys.length * i.size := by rw [← hur.length, cellsOf_length hus, hsz]
  have hcells := hi.dat_cells hud
  have huone := reps_oneCell hur hu1
  -- what growing leaves
  have grown : ∀ (vs : List Value), Reps G (cellsOf xs) vs → (∀ x ∈ xs, x.cells.length = ye.size) → (∀ x ∈ cellsOf xs, x.isCell = true) → ∀ old, old < xs.length + ys.length →
      ∃ G', G.le G' ∧ Inv G' { st with len := st.len.set k (xs.length + ys.length) } (w.drew.alloc (.cells (vs.toArray ++ us.toArray ++ Builtin.zeroCells z.cells (grownCap w (xs.length + ys.length) old e - (xs.length + ys.length))) e)) ∧
        Rep G' (.list ye.size (xs ++ ys) (.own k)) (.slice (some ⟨w.heap.size, 0, none⟩) (xs.length + ys.length) (grownCap w (xs.length + ys.length) old e)) := by
    intro vs hvr hxs hx1 old hold
    have hge := grownCap_ge w (xs.length + ys.length) old e
    have hcm := grownCap_le_maxLen w (xs.length + ys.length) old e hmax
    have hvl : vs.length = xs.length * ye.size := by rw [← hvr.length, cellsOf_length hxs]
    have hnone : G.hist k (xs.length + ys.length) = none := hi.fresh k _ fun m hm => by rw [hlen] at hm; injection hm with hm; omega
    obtain ⟨hle, hinv⟩ := hi.grow (w' := w.drew.alloc (.cells (vs.toArray ++ us.toArray ++ Builtin.zeroCells z.cells (grownCap w (xs.length + ys.length) old e - (xs.length + ys.length))) e)) (k := k) (n := xs.length) (n' := xs.length + ys.length) (b := w.heap.size) (c := grownCap w (xs.length + ys.length) old e) (sz := ye.size)
      (vs := vs ++ us) (us := vs ++ us ++ (Builtin.zeroCells z.cells (grownCap w (xs.length + ys.length) old e - (xs.length + ys.length))).toList) hlen (by omega) hnone rfl rfl rfl (by show w.heap.size ≤ (w.heap.push _).size; rw [Array.size_push]; omega) (fun j hj _ => by
        show (w.heap.push _)[j]? = _
        rw [Array.getElem?_push, if_neg (by omega)]) (.inl rfl) ⟨e, by
        show (w.heap.push _)[w.heap.size]? = _
        simp [Array.getElem?_push]⟩ (List.prefix_append _ _) (by rw [List.length_append, hvl, hul, hsz, Nat.add_mul]) (by
        simp only [List.length_append, hvl, hul, hsz, Array.length_toList, size_zeroCells, hzs, ← Nat.add_mul]
        congr 1
        omega) hcm (by rw [hi.dat_new]; exact List.nil_prefix)
    refine ⟨_, hle, hinv, ?_⟩
    have := Rep.list (G := G.to k (xs.length + ys.length) w.heap.size (grownCap w (xs.length + ys.length) old e) ye.size (vs ++ us)) ye.size (xs ++ ys) (.own k) w.heap.size 0 (grownCap w (xs.length + ys.length) old e) (vs ++ us) (by simp) (by simpa using hge)
      (by intro x hx; rcases List.mem_append.1 hx with hx | hx; exact hxs x hx; exact hus x hx) (by rw [cellsOf_append]; intro x hx; rcases List.mem_append.1 hx with hx | hx; exact hx1 x hx; exact hu1 x hx)
      (by rw [cellsOf_append]; exact (hvr.mono hle).append (hur.mono hle)) (by simp [Gh.to]) (by intro k' hk'; injection hk' with hk'; subst hk'; simp [Gh.to])
    simpa using this
  rcases hv.list_inv with ⟨rfl, rfl⟩ | ⟨b, o, c, vs, _, rfl, hc, hxs, hx1, hvr, hvd, hown⟩
  · -- onto nil
    obtain ⟨G', h1, h2, h3⟩ := grown [] .nil (by simp) (by simp) 0 (by simp; omega)
    have hr := run_append_nil (P := P) w t ty e i z hu' hinfo hz ⟨ub, uo, none⟩ ys.length uc us hul hcells hm0 (by simp at hmx; omega) (by
      have hb := hfit
      simp only [List.length_nil, Nat.zero_add] at hb
      rw [← hby] at hb
      omega)
    simp only [List.length_nil, Nat.zero_add, List.nil_append, Array.empty_append] at h2 h3 ⊢
    exact ⟨_, _, G', hr, h1, h2, h3⟩
  · obtain ⟨rfl, hhist⟩ := hown k rfl
    obtain ⟨_, hbr, hdl, cur, ⟨T, hT⟩, hcl, hcm⟩ := hi.own k _ hlen _ _ _ hhist
    have hvl : vs.length = xs.length * ye.size := by rw [← hvr.length, cellsOf_length hxs]
    have hvs : vs = G.dat b := by
      have hd : vs <+: G.dat b := by simpa using hvd
      exact hd.eq_of_length (by rw [hvl, hdl])
    by_cases hroom : xs.length + ys.length ≤ c
    · -- there is room
      have hfit2 : xs.length * i.size + us.length ≤ cur.toArray.size := by
        rw [hul, ← Nat.add_mul, hsz]
        simp only [List.size_toArray, hcl]
        exact Nat.mul_le_mul_right _ hroom
      have hr := run_append_room' w t ty e T i hu' hinfo b xs.length c cur.toArray hT ⟨ub, uo, none⟩ ys.length uc us hul hcells huone hroom hfit2
      have htake : cur.take (xs.length * ye.size) = vs := by
        have hp : vs <+: cur := by
          rw [hvs]
          refine List.prefix_iff_getElem?.2 fun j hj => ?_
          have := hi.dat b j (G.dat b)[j] (List.getElem?_eq_getElem hj)
          simpa [World.cell?, hT] using this
        obtain ⟨tl, rfl⟩ := hp
        rw [← hvl]
        simp
      have hnone : G.hist k (xs.length + ys.length) = none := hi.fresh k _ fun m hm => by rw [hlen] at hm; injection hm with hm; omega
      have hsz' : xs.length * i.size = xs.length * ye.size := by rw [hsz]
      obtain ⟨hle, hinv⟩ := hi.grow (w' := w.setRow b (cur.toArray.toList.take (xs.length * i.size) ++ us ++ cur.toArray.toList.drop (xs.length * i.size + us.length)).toArray) (k := k) (n := xs.length) (n' := xs.length + ys.length) (b := b) (c := c) (sz := ye.size)
        (vs := vs ++ us) (us := cur.take (xs.length * i.size) ++ us ++ cur.drop (xs.length * i.size + us.length)) hlen (by omega) hnone rfl rfl rfl (by simp) (fun j _ hj => setRow_other w b j _ hj) (.inr ⟨c, ye.size, hhist⟩)
        ⟨T, setRow_heap w b _ _ T _ hT⟩ (by rw [hsz', htake]; exact List.prefix_append _ _) (by rw [List.length_append, hvl, hul, hsz, Nat.add_mul]) (by
          simp only [List.size_toArray] at hfit2
          simp only [List.length_append, List.length_take, List.length_drop]
          omega) hcm (by rw [← hvs]; exact List.prefix_append _ _)
      refine ⟨_, _, _, hr, hle, hinv, ?_⟩
      have := Rep.list (G := G.to k (xs.length + ys.length) b c ye.size (vs ++ us)) ye.size (xs ++ ys) (.own k) b 0 c (vs ++ us) (by simp) (by simpa using hroom)
        (by intro x hx; rcases List.mem_append.1 hx with hx | hx; exact hxs x hx; exact hus x hx) (by rw [cellsOf_append]; intro x hx; rcases List.mem_append.1 hx with hx | hx; exact hx1 x hx; exact hu1 x hx)
        (by rw [cellsOf_append]; exact (hvr.mono hle).append (hur.mono hle)) (by simp [Gh.to]) (by intro k' hk'; injection hk' with hk'; subst hk'; simp [Gh.to])
      simpa using this
    · obtain ⟨G', h1, h2, h3⟩ := grown vs hvr hxs hx1 c (by omega)
      have hr := run_append_grow (P := P) w t ty e i z hu' hinfo hz ⟨b, 0, none⟩ xs.length c vs (by rw [hvl, hsz]) (hi.dat_cells hvd) ⟨ub, uo, none⟩ ys.length uc us hul hcells (by omega) (by omega) (growslice_fits (by omega) (by rw [hby]; exact hfit))
      exact ⟨_, _, G', hr, h1, h2, h3⟩
end Go.Proofs.Ytolhbjfaahcekaa
end
section
/- What each operation makes of the temporaries and of the state; and that the machine does so. -/
set_option linter.unusedVariables false
set_option linter.unusedSimpArgs false
namespace Go.Proofs.Ytolhbjfaahcekaa

abbrev TTab := TypeId → Option TyI
def TT (P : Program) (tt : TTab) : Prop := ∀ t y, tt t = some y → TOk P t y

def put (nt : Nat) (d : Option Tmp) (env : Env) (x : PV) : Env :=
  match d with
  | some d => if d < nt then (d, x) :: env else env
  | none => env
def evs (env : Env) : List Operand → Option (List PV)
  | [] => some []
  | o :: os => match ev env o, evs env os with
    | some x, some xs => some (x :: xs)
    | _, _ => none

def bitsPV (op : BinOp) (k : IntKind) (x y : Int) : Int :=
  let a := BitVec.ofInt k.bits x
  let b := BitVec.ofInt k.bits y
  match op with
  | .and => k.wrap (a &&& b).toNat
  | .or => k.wrap (a ||| b).toNat
  | .xor => k.wrap (a ^^^ b).toNat
  | _ => k.wrap (a &&& ~~~b).toNat
/-- A binary operation; K: what must hold of its value. -/
def pBin (op : BinOp) (x y : PV) (K : PV → Prop) : Prop :=
  match x, y with
  | .int k a, .int k' b =>
    match op with
    | .shl => 0 ≤ b ∧ K (.int k (k.wrap (a * 2 ^ min b.toNat k.bits)))
    | .shr => 0 ≤ b ∧ K (.int k (a.fdiv (2 ^ min b.toNat k.bits)))
    | .add => k = k' ∧ K (.int k (k.wrap (a + b)))
    | .sub => k = k' ∧ K (.int k (k.wrap (a - b)))
    | .mul => k = k' ∧ K (.int k (k.wrap (a * b)))
    | .quo => k = k' ∧ b ≠ 0 ∧ K (.int k (k.wrap (a.tdiv b)))
    | .rem => k = k' ∧ b ≠ 0 ∧ K (.int k (a.tmod b))
    | .eql => k = k' ∧ K (.bool (a == b))
    | .neq => k = k' ∧ K (.bool (a != b))
    | .lss => k = k' ∧ K (.bool (decide (a < b)))
    | .leq => k = k' ∧ K (.bool (decide (a ≤ b)))
    | .gtr => k = k' ∧ K (.bool (decide (a > b)))
    | .geq => k = k' ∧ K (.bool (decide (a ≥ b)))
    | op => k = k' ∧ K (.int k (bitsPV op k a b))
  | .str a, .str b =>
    match op with
    | .add => a.length + b.length ≤ 9223372036854775807 ∧ K (.str (a ++ b))
    | .eql => K (.bool (a == b))
    | .neq => K (.bool (!(a == b)))
    | .lss => K (.bool (Op.bytesLess a b))
    | .leq => K (.bool (Op.bytesLess a b || a == b))
    | .gtr => K (.bool (!(Op.bytesLess a b || a == b)))
    | .geq => K (.bool (!(Op.bytesLess a b)))
    | _ => False
  | _, _ => False
theorem toList_mk (l : List UInt8) : (⟨l.toArray⟩ : ByteArray).toList = l := by rw [ByteArray.toList_eq]
theorem size_mk (l : List UInt8) : (⟨l.toArray⟩ : ByteArray).size = l.length := rfl
theorem append_mk (a b : List UInt8) : (⟨a.toArray⟩ : ByteArray) ++ ⟨b.toArray⟩ = ⟨(a ++ b).toArray⟩ := by
  apply ByteArray.ext
  simp
theorem run_pBin {P : Program} {op : BinOp} {t : TypeId} {x y : PV} {K : PV → Prop} {G : Gh} {u v : Value} {w : World} (h : pBin op x y K) (hx : Rep G x u) (hy : Rep G y v) : ∃ r z, (binOp op t u v).run P w = .ok z w ∧ Rep G r z ∧ K r := by
  unfold pBin at h
  split at h
  · cases hx; cases hy
    rename_i k a k' b
    cases op
    case shl => exact ⟨_, _, by have h1 := Int.not_lt.2 h.1; simp [binOp, Op.shift, h1], .int _ _, h.2⟩
    case shr => exact ⟨_, _, by have h1 := Int.not_lt.2 h.1; simp [binOp, Op.shift, h1], .int _ _, h.2⟩
    case quo =>
      obtain ⟨rfl, h1, h2⟩ := h
      exact ⟨_, _, by simp [binOp, Op.intDiv, h1], .int _ _, h2⟩
    case rem =>
      obtain ⟨rfl, h1, h2⟩ := h
      exact ⟨_, _, by simp [binOp, Op.intDiv, h1], .int _ _, h2⟩
    all_goals
      obtain ⟨rfl, h2⟩ := h
      first
        | (refine ⟨_, _, ?_, .int _ _, h2⟩; first | (simp [binOp, Op.intArith]; done) | (simp [binOp, Op.intBits, bitsPV]; done))
        | (refine ⟨_, _, ?_, .bool _, h2⟩; simp [binOp, Op.intCmp]; done)
  · cases hx; cases hy
    rename_i a b
    cases op <;> simp only at h <;> first
      | exact h.elim
      | (refine ⟨_, _, ?_, .str _, h.2⟩; have h1 := h.1; simp [binOp, Op.stringOp, size_mk, append_mk, IntKind.max, IntKind.bits, IntKind.signed]; omega)
      | (refine ⟨_, _, ?_, .bool _, h⟩; simp [binOp, Op.stringOp, toList_mk]; done)
  · exact h.elim
end Go.Proofs.Ytolhbjfaahcekaa
end
section
/- What each operation makes of the temporaries and of the state: the rules; and that the machine does so. -/
set_option linter.unusedVariables false
set_option linter.unusedSimpArgs false
namespace Go.Proofs.Ytolhbjfaahcekaa

/-- Where a part lies. -/
def fillPV (flds : List (Nat × Nat × Bool)) (cs : List PV) : List (Nat × PV) → Option (List PV)
  | [] => some cs
  | (i, x) :: r => match flds[i]? with
    | some (o, n, _) => if x.cells.length = n ∧ o + n ≤ cs.length ∧ x.cells.all PV.isCell then fillPV flds (splice cs o x.cells) r else none
    | none => none
def evParts (env : Env) : List (Nat × Operand) → Option (List (Nat × PV))
  | [] => some []
  | (i, o) :: os => match ev env o, evParts env os with
    | some x, some xs => some ((i, x) :: xs)
    | _, _ => none
/-- Whole parts, in order, none left out. -/
def dense (n : Nat) : List (Nat × PV) → Option (List PV)
  | [] => some []
  | (i, x) :: r => if i = n then (dense (n + 1) r).map (x :: ·) else none
def fldOf (y : TyI) (f : Nat) (cs : List PV) : Option PV := match y.flds[f]? with
  | some (o, n, ag) => if o + n ≤ cs.length then (if ag then some (.agg ((cs.drop o).take n)) else cs[o]?) else none
  | none => none
def pCut (x : PV) (lo hi : Option PV) (K : PV → Prop) : Prop :=
  match x, lo, hi with
  | .str l, none, none => K (.str l)
  | .str l, some (.int _ a), none => 0 ≤ a ∧ a ≤ l.length ∧ K (.str (l.drop a.toNat))
  | .str l, none, some (.int _ b) => 0 ≤ b ∧ b ≤ l.length ∧ K (.str (l.take b.toNat))
  | .str l, some (.int _ a), some (.int _ b) => 0 ≤ a ∧ a ≤ b ∧ b ≤ l.length ∧ K (.str ((l.take b.toNat).drop a.toNat))
  | .list sz xs _, none, none => K (.list sz xs .no)
  | .list sz xs _, some (.int _ a), none => 0 ≤ a ∧ a ≤ xs.length ∧ K (.list sz (xs.drop a.toNat) .no)
  | .list sz xs _, none, some (.int _ b) => 0 ≤ b ∧ b ≤ xs.length ∧ K (.list sz (xs.take b.toNat) .no)
  | .list sz xs _, some (.int _ a), some (.int _ b) => 0 ≤ a ∧ a ≤ b ∧ b ≤ xs.length ∧ K (.list sz ((xs.take b.toNat).drop a.toNat) .no)
  | _, _, _ => False
def evo (env : Env) : Option Operand → Option (Option PV)
  | none => some none
  | some o => (ev env o).map some
def pConv (ys yd : TyI) (x : PV) (K : PV → Prop) : Prop :=
  match x, yd.k with
  | .int _ n, .int k => K (.int k (k.wrap n))
  | .str l, .str => K (.str l)
  | _, _ => False
def pFieldAddr (y : TyI) (f : Nat) (p : PV) (K : PV → Prop) : Prop :=
  match p, y.flds[f]? with
  | .ref r o, some (off, n, _) => n ≠ 0 ∧ K (.ref r (o + off))
  | .elem (.agg cs), some (off, n, true) => n ≠ 0 ∧ off + n ≤ cs.length ∧ K (.elem (.agg ((cs.drop off).take n)))
  | .elem (.agg cs), some (off, n, false) => n ≠ 0 ∧ ∃ c, cs[off]? = some c ∧ K (.elem c)
  | _, _ => False
def pNil : PV → Bool
  | .ref _ _ | .elem _ => true
  | .clo (.func _) _ _ => true
  | _ => false

/-- Is a value nil, where that is known? -/
def nilness : TK → PV → Option Bool
  | .slice _, .list _ [] .nil => some true
  | .slice _, .list _ (_ :: _) _ => some false
  | .other (some _), .ref _ _ => some false
  | .other (some _), .elem _ => some false
  | .other (some _), .val (.pointer none) => some true
  | _, _ => none
def isNilC : TK → PV → Bool
  | .slice _, .list _ [] .nil => true
  | .other (some _), .val (.pointer none) => true
  | _, _ => false
/-- == and != against nil. -/
def fNil (op : BinOp) (k : TK) (a b : PV) : Option Bool :=
  match isNilC k b with
  | true => match nilness k a with
    | some n => match op with
      | .eql => some n
      | .neq => some (!n)
      | _ => none
    | none => none
  | false => none
def owns (ow : List Nat) : Option Tmp → Bool
  | some d => ow.contains d
  | none => false
/-- What must hold for an operation to be carried out and K to hold behind it. ow: the temporaries whose slices will be appended to. -/
def pOp (P : Program) (tt : TTab) (ow : List Nat) (nt : Nat) (o : Oper) (env : Env) (st : St) (K : Env → St → Prop) : Prop :=
  match o.op with
  | .move x | .assign x => ∃ a, ev env x = some a ∧ K (put nt o.dst env a) st
  | .pick c a b => ∃ t, ev env c = some (.bool t) ∧ (match ev env a, ev env b with
    | some (.bool x), some (.bool y) => K (put nt o.dst env (.bool (bif t then x else y))) st
    | x, y => (t = true → ∃ z, x = some z ∧ K (put nt o.dst env z) st) ∧ (t = false → ∃ z, y = some z ∧ K (put nt o.dst env z) st))
  | .alloc T => ∃ y, tt T = some y ∧ K (put nt o.dst env (.ref st.box.length 0)) { st with box := st.box ++ [y.zero] }
  | .box T x => ∃ a, ev env x = some a ∧ a.cells.all PV.isCell = true ∧ K (put nt o.dst env (.ref st.box.length 0)) { st with box := st.box ++ [a.cells] }
  | .build T ps => ∃ y xs cs, tt T = some y ∧ y.k = .struct ∧ evParts env ps.toList = some xs ∧ fillPV y.flds y.zero xs = some cs ∧ K (put nt o.dst env (.agg cs)) st
  | .buildSlice T n ps => ∃ y e ye ps' xs, tt T = some y ∧ y.k = .slice e ∧ tt e = some ye ∧ evParts env ps.toList = some ps' ∧ dense 0 ps' = some xs ∧ xs.length = n ∧ 0 < ye.size ∧ n * ye.size ≤ 16777216 ∧
      (∀ x ∈ xs, x.cells.length = ye.size ∧ x.cells.all PV.isCell = true) ∧
      (if owns ow o.dst = true then K (put nt o.dst env (.list ye.size xs (.own st.len.length))) { st with len := st.len ++ [n] }
       else K (put nt o.dst env (.list ye.size xs .no)) st)
  | .load T a => ∃ p y x, ev env a = some p ∧ tt T = some y ∧ ldPV y st p = some x ∧ K (put nt o.dst env x) st
  | .store T a v => ∃ p y x st', ev env a = some p ∧ tt T = some y ∧ ev env v = some x ∧ stPV y st p x = some st' ∧ K (put nt o.dst env (.val undef)) st'
  | .nilCheck x => ∃ p, ev env x = some p ∧ pNil p = true ∧ K (put nt o.dst env p) st
  | .binOp op T x y _ => (∃ a b, ev env x = some a ∧ ev env y = some b ∧ pBin op a b fun r => K (put nt o.dst env r) st) ∨
      (∃ yt xs ys r, tt T = some yt ∧ yt.cmp = true ∧ ev env x = some (.agg xs) ∧ ev env y = some (.agg ys) ∧ eqCells yt.zero xs ys = some r ∧ (op = .eql ∧ K (put nt o.dst env (.bool r)) st ∨ op = .neq ∧ K (put nt o.dst env (.bool (!r))) st)) ∨
      (∃ a b yt r, ev env x = some a ∧ ev env y = some b ∧ tt T = some yt ∧ fNil op yt.k a b = some r ∧ K (put nt o.dst env (.bool r)) st)
  | .unOp op _ x => match op, ev env x with
    | .not, some (.bool b) => K (put nt o.dst env (.bool (!b))) st
    | .neg, some (.int k n) => K (put nt o.dst env (.int k (k.wrap (0 - n)))) st
    | _, _ => False
  | .convert s d x => ∃ ys yd a, tt s = some ys ∧ tt d = some yd ∧ ev env x = some a ∧ pConv ys yd a fun r => K (put nt o.dst env r) st
  | .makeFunc fn fs cs => ∃ us vs, evs env fs.toList = some us ∧ evs env cs.toList = some vs ∧ K (put nt o.dst env (.clo fn us vs)) st
  | .slice T x lo hi none => ∃ y a l h, tt T = some y ∧ (match y.k, a with | .str, .str _ => True | .slice _, .list sz _ _ => ∃ e ye, y.k = .slice e ∧ tt e = some ye ∧ ye.size = sz | _, _ => False) ∧ ev env x = some a ∧ evo env lo = some l ∧ evo env hi = some h ∧ pCut a l h fun r => K (put nt o.dst env r) st
  | .fieldAddr T x f => ∃ y p, tt T = some y ∧ y.k = .struct ∧ ev env x = some p ∧ pFieldAddr y f p fun r => K (put nt o.dst env r) st
  | .field T x f => ∃ y cs r, tt T = some y ∧ y.k = .struct ∧ ev env x = some (.agg cs) ∧ fldOf y f cs = some r ∧ K (put nt o.dst env r) st
  | .indexAddr T x i => ∃ y e ye xs t k n z, tt T = some y ∧ y.k = .slice e ∧ tt e = some ye ∧ ev env x = some (.list ye.size xs t) ∧ ev env i = some (.int k n) ∧ 0 ≤ n ∧ xs[n.toNat]? = some z ∧ K (put nt o.dst env (.elem z)) st
  | .index T x i => ∃ y l k n c, tt T = some y ∧ y.k = .str ∧ ev env x = some (.str l) ∧ ev env i = some (.int k n) ∧ 0 ≤ n ∧ l[n.toNat]? = some c ∧ K (put nt o.dst env (.int .u8 (c.toNat : Int))) st
  | .extract t i => ∃ cs x, ev env t = some (.tup cs) ∧ cs[i]? = some x ∧ K (put nt o.dst env x) st
  | .call c => match c.callee with
    | .value f => ∃ fn fs cs ags, ev env f = some (.clo (.func fn) fs cs) ∧ evs env c.args.toList = some ags ∧ PC P fn (fs ++ ags ++ cs) st fun r st' => K (put nt o.dst env r) st'
    | .builtin .len => ∃ T x y a, c.argTypes = #[T] ∧ c.args = #[x] ∧ tt T = some y ∧ ev env x = some a ∧ (match y.k, a with
      | .str, .str l => K (put nt o.dst env (.int .i64 (l.length : Int))) st
      | .slice _, .list _ xs _ => K (put nt o.dst env (.int .i64 (xs.length : Int))) st
      | _, _ => False)
    | .builtin .append => ∃ T s x y e ye xs ys k t, c.argTypes = #[T, T] ∧ c.args = #[s, x] ∧ tt T = some y ∧ y.k = .slice e ∧ tt e = some ye ∧ 0 < ye.size ∧ ev env s = some (.list ye.size xs (.own k)) ∧ ev env x = some (.list ye.size ys t) ∧
        st.len[k]? = some xs.length ∧ (xs.length + ys.length) * ye.bytes ≤ 140737488355328 ∧ xs.length + ys.length ≤ maxLen ∧ K (put nt o.dst env (.list ye.size (xs ++ ys) (.own k))) { st with len := st.len.set k (xs.length + ys.length) }
    | .builtin .max => ∃ x y k a b, c.args = #[x, y] ∧ ev env x = some (.int k a) ∧ ev env y = some (.int k b) ∧ K (put nt o.dst env (.int k (if b > a then b else a))) st
    | _ => False
  | _ => False
end Go.Proofs.Ytolhbjfaahcekaa
end
section
/- The types of the translation, as the logic asks for them. Written by a program of this claim's author. -/
set_option maxRecDepth 100000
namespace Go.Proofs.Ytolhbjfaahcekaa
def tab : TTab
  | 1 => some ⟨1, 8, false, [], [.val .nilFunc], .other none, false⟩
  | 2 => some ⟨1, 8, false, [], [.int .i64 0], .int .i64, false⟩
  | 3 => some ⟨1, 8, false, [], [.int .i64 0], .int .i64, false⟩
  | 4 => some ⟨1, 1, false, [], [.bool false], .bool, false⟩
  | 5 => some ⟨1, 1, false, [], [.int .u8 0], .int .u8, false⟩
  | 6 => some ⟨1, 1, false, [], [.int .u8 0], .int .u8, false⟩
  | 7 => some ⟨4, 24, true, [(0, 1, false), (1, 1, false), (2, 1, false), (3, 1, false)], [.int .i64 0, .int .i64 0, .bool false, .int .u8 0], .struct, false⟩
  | 8 => some ⟨4, 24, true, [(0, 1, false), (1, 1, false), (2, 1, false), (3, 1, false)], [.int .i64 0, .int .i64 0, .bool false, .int .u8 0], .struct, false⟩
  | 9 => some ⟨1, 16, false, [], [.str []], .str, false⟩
  | 10 => some ⟨1, 16, false, [], [.str []], .str, false⟩
  | 11 => some ⟨1, 16, false, [], [.str []], .str, false⟩
  | 12 => some ⟨1, 8, false, [], [.int .u64 0], .int .u64, false⟩
  | 13 => some ⟨2, 24, true, [(0, 1, false), (1, 1, false)], [.str [], .int .u64 0], .struct, false⟩
  | 14 => some ⟨2, 24, true, [(0, 1, false), (1, 1, false)], [.str [], .int .u64 0], .struct, false⟩
  | 15 => some ⟨1, 8, false, [], [.val (.pointer none)], .other (some 110), false⟩
  | 16 => some ⟨1, 8, false, [], [.val (.pointer none)], .other (some 113), false⟩
  | 17 => some ⟨1, 8, false, [], [.val (.pointer none)], .other (some 121), false⟩
  | 18 => some ⟨1, 8, true, [(0, 1, false)], [.val (.pointer none)], .struct, false⟩
  | 19 => some ⟨1, 8, true, [(0, 1, false)], [.val (.pointer none)], .struct, false⟩
  | 20 => some ⟨1, 16, false, [], [.val .nilIface], .other none, false⟩
  | 21 => some ⟨1, 4, false, [], [.int .i32 0], .int .i32, false⟩
  | 22 => some ⟨1, 8, false, [], [.val .nilFunc], .other none, false⟩
  | 23 => some ⟨3, 32, true, [(0, 1, false), (1, 1, false), (2, 1, false)], [.int .i64 0, .int .i64 0, .str []], .struct, false⟩
  | 24 => some ⟨3, 32, true, [(0, 1, false), (1, 1, false), (2, 1, false)], [.int .i64 0, .int .i64 0, .str []], .struct, true⟩
  | 25 => some ⟨1, 24, false, [], [.list 0 [] .nil], .slice 27, false⟩
  | 26 => some ⟨8, 104, true, [(0, 1, false), (1, 1, false), (2, 1, false), (3, 1, false), (4, 3, true), (7, 1, false)], [.int .i64 0, .int .i64 0, .str [], .str [], .int .i64 0, .int .i64 0, .str [], .list 0 [] .nil], .struct, false⟩
  | 27 => some ⟨8, 104, true, [(0, 1, false), (1, 1, false), (2, 1, false), (3, 1, false), (4, 3, true), (7, 1, false)], [.int .i64 0, .int .i64 0, .str [], .str [], .int .i64 0, .int .i64 0, .str [], .list 0 [] .nil], .struct, false⟩
  | 28 => some ⟨1, 8, false, [], [.int .i64 0], .int .i64, false⟩
  | 29 => some ⟨2, 16, true, [(0, 1, false), (1, 1, false)], [.int .i64 0, .int .i64 0], .struct, false⟩
  | 30 => some ⟨2, 16, true, [(0, 1, false), (1, 1, false)], [.int .i64 0, .int .i64 0], .struct, true⟩
  | 32 => some ⟨1, 8, false, [], [.val .nilFunc], .other none, false⟩
  | 33 => some ⟨1, 8, false, [], [.val .nilFunc], .other none, false⟩
  | 34 => some ⟨1, 8, false, [], [.val .nilFunc], .other none, false⟩
  | 35 => some ⟨1, 24, false, [], [.list 0 [] .nil], .slice 44, false⟩
  | 37 => some ⟨1, 8, false, [], [.val .nilFunc], .other none, false⟩
  | 38 => some ⟨1, 8, false, [], [.val .nilFunc], .other none, false⟩
  | 39 => some ⟨1, 24, false, [], [.list 0 [] .nil], .slice 75, false⟩
  | 40 => some ⟨1, 24, false, [], [.list 0 [] .nil], .slice 78, false⟩
  | 41 => some ⟨1, 24, false, [], [.list 0 [] .nil], .slice 81, false⟩
  | 42 => some ⟨1, 24, false, [], [.list 0 [] .nil], .slice 84, false⟩
  | 43 => some ⟨14, 264, true, [(0, 1, false), (1, 1, false), (2, 1, false), (3, 1, false), (4, 1, false), (5, 1, false), (6, 1, false), (7, 1, false), (8, 1, false), (9, 1, false), (10, 1, false), (11, 1, false), (12, 1, false), (13, 1, false)], [.int .i64 0, .str [], .list 0 [] .nil, .str [], .list 0 [] .nil, .list 0 [] .nil, .list 0 [] .nil, .str [], .list 0 [] .nil, .list 0 [] .nil, .list 0 [] .nil, .list 0 [] .nil, .bool false, .int .i64 0], .struct, false⟩
  | 44 => some ⟨14, 264, true, [(0, 1, false), (1, 1, false), (2, 1, false), (3, 1, false), (4, 1, false), (5, 1, false), (6, 1, false), (7, 1, false), (8, 1, false), (9, 1, false), (10, 1, false), (11, 1, false), (12, 1, false), (13, 1, false)], [.int .i64 0, .str [], .list 0 [] .nil, .str [], .list 0 [] .nil, .list 0 [] .nil, .list 0 [] .nil, .str [], .list 0 [] .nil, .list 0 [] .nil, .list 0 [] .nil, .list 0 [] .nil, .bool false, .int .i64 0], .struct, false⟩
  | 45 => some ⟨1, 24, false, [], [.list 0 [] .nil], .slice 58, false⟩
  | 47 => some ⟨1, 8, false, [], [.val .nilFunc], .other none, false⟩
  | 48 => some ⟨1, 8, false, [], [.val (.pointer none)], .other (some 50), false⟩
  | 49 => some ⟨4, 48, true, [(0, 1, false), (1, 1, false), (2, 2, true)], [.list 0 [] .nil, .int .i64 0, .int .i64 0, .int .i64 0], .struct, false⟩
  | 50 => some ⟨4, 48, true, [(0, 1, false), (1, 1, false), (2, 2, true)], [.list 0 [] .nil, .int .i64 0, .int .i64 0, .int .i64 0], .struct, false⟩
  | 51 => some ⟨1, 8, false, [], [.val .nilFunc], .other none, false⟩
  | 52 => some ⟨1, 8, false, [], [.val .nilFunc], .other none, false⟩
  | 53 => some ⟨1, 8, false, [], [.val .nilFunc], .other none, false⟩
  | 54 => some ⟨1, 8, false, [], [.val .nilFunc], .other none, false⟩
  | 55 => some ⟨1, 8, false, [], [.val .nilFunc], .other none, false⟩
  | 56 => some ⟨1, 8, false, [], [.val .nilFunc], .other none, false⟩
  | 57 => some ⟨4, 40, true, [(0, 1, false), (1, 1, false), (2, 1, false), (3, 1, false)], [.int .i64 0, .str [], .int .i64 0, .int .i64 0], .struct, false⟩
  | 58 => some ⟨4, 40, true, [(0, 1, false), (1, 1, false), (2, 1, false), (3, 1, false)], [.int .i64 0, .str [], .int .i64 0, .int .i64 0], .struct, false⟩
  | 60 => some ⟨1, 8, false, [], [.val .nilFunc], .other none, false⟩
  | 61 => some ⟨1, 8, false, [], [.val .nilFunc], .other none, false⟩
  | 62 => some ⟨1, 8, false, [], [.val .nilFunc], .other none, false⟩
  | 63 => some ⟨1, 8, false, [], [.val .nilFunc], .other none, false⟩
  | 64 => some ⟨1, 8, false, [], [.val .nilFunc], .other none, false⟩
  | 65 => some ⟨1, 8, false, [], [.val (.pointer none)], .other (some 44), false⟩
  | 66 => some ⟨1, 8, false, [], [.val .nilFunc], .other none, false⟩
  | 67 => some ⟨1, 8, false, [], [.val .nilFunc], .other none, false⟩
  | 68 => some ⟨1, 24, false, [], [.list 0 [] .nil], .slice 9, false⟩
  | 69 => some ⟨1, 8, false, [], [.val .nilFunc], .other none, false⟩
  | 71 => some ⟨1, 8, false, [], [.val .nilFunc], .other none, false⟩
  | 72 => some ⟨1, 8, false, [], [.val .nilFunc], .other none, false⟩
  | 73 => some ⟨1, 8, false, [], [.val .nilFunc], .other none, false⟩
  | 74 => some ⟨4, 32, true, [(0, 1, false), (1, 1, false), (2, 1, false), (3, 1, false)], [.str [], .int .i64 0, .bool false, .bool false], .struct, false⟩
  | 75 => some ⟨4, 32, true, [(0, 1, false), (1, 1, false), (2, 1, false), (3, 1, false)], [.str [], .int .i64 0, .bool false, .bool false], .struct, false⟩
  | 76 => some ⟨1, 8, false, [], [.val .nilFunc], .other none, false⟩
  | 77 => some ⟨1, 8, false, [], [.val .nilFunc], .other none, false⟩
  | 78 => some ⟨1, 24, false, [], [.list 0 [] .nil], .slice 24, false⟩
  | 79 => some ⟨1, 8, false, [], [.val .nilFunc], .other none, false⟩
  | 80 => some ⟨9, 120, true, [(0, 1, false), (1, 8, true)], [.str [], .int .i64 0, .int .i64 0, .str [], .str [], .int .i64 0, .int .i64 0, .str [], .list 0 [] .nil], .struct, false⟩
  | 81 => some ⟨9, 120, true, [(0, 1, false), (1, 8, true)], [.str [], .int .i64 0, .int .i64 0, .str [], .str [], .int .i64 0, .int .i64 0, .str [], .list 0 [] .nil], .struct, false⟩
  | 82 => some ⟨1, 8, false, [], [.val .nilFunc], .other none, false⟩
  | 83 => some ⟨2, 32, true, [(0, 1, false), (1, 1, false)], [.int .i64 0, .list 0 [] .nil], .struct, false⟩
  | 84 => some ⟨2, 32, true, [(0, 1, false), (1, 1, false)], [.int .i64 0, .list 0 [] .nil], .struct, false⟩
  | 85 => some ⟨1, 8, false, [], [.val .nilFunc], .other none, false⟩
  | 86 => some ⟨1, 8, false, [], [.val .nilFunc], .other none, false⟩
  | 87 => some ⟨1, 8, false, [], [.val (.pointer none)], .other (some 90), false⟩
  | 88 => some ⟨1, 24, false, [], [.list 0 [] .nil], .slice 5, false⟩
  | 89 => some ⟨2, 32, true, [(0, 1, false), (1, 1, false)], [.val (.pointer none), .list 0 [] .nil], .struct, false⟩
  | 90 => some ⟨2, 32, true, [(0, 1, false), (1, 1, false)], [.val (.pointer none), .list 0 [] .nil], .struct, false⟩
  | 91 => some ⟨1, 8, false, [], [.val .nilFunc], .other none, false⟩
  | 92 => some ⟨1, 16, false, [], [.val .nilIface], .other none, false⟩
  | 93 => some ⟨1, 16, false, [], [.val .nilIface], .other none, false⟩
  | 95 => some ⟨1, 8, false, [], [.val .nilFunc], .other none, false⟩
  | 96 => some ⟨1, 8, false, [], [.val .nilFunc], .other none, false⟩
  | 97 => some ⟨1, 8, false, [], [.val .nilFunc], .other none, false⟩
  | 98 => some ⟨1, 8, false, [], [.val .nilFunc], .other none, false⟩
  | 100 => some ⟨1, 8, false, [], [.val .nilFunc], .other none, false⟩
  | 101 => some ⟨1, 8, false, [], [.val .nilFunc], .other none, false⟩
  | 102 => some ⟨1, 8, false, [], [.val .nilFunc], .other none, false⟩
  | 103 => some ⟨1, 8, false, [], [.val .nilFunc], .other none, false⟩
  | 105 => some ⟨1, 8, false, [], [.val .nilFunc], .other none, false⟩
  | 106 => some ⟨1, 8, false, [], [.val (.pointer none)], .other (some 5), false⟩
  | 108 => some ⟨1, 8, false, [], [.val .nilFunc], .other none, false⟩
  | 109 => some ⟨4, 40, true, [(0, 1, false), (1, 1, false), (2, 1, false), (3, 1, false)], [.val (.pointer none), .val (.pointer none), .val (.pointer none), .str []], .struct, false⟩
  | 110 => some ⟨4, 40, true, [(0, 1, false), (1, 1, false), (2, 1, false), (3, 1, false)], [.val (.pointer none), .val (.pointer none), .val (.pointer none), .str []], .struct, false⟩
  | 112 => some ⟨0, 0, true, [(0, 0, true)], [], .struct, false⟩
  | 113 => some ⟨0, 0, true, [(0, 0, true)], [], .struct, false⟩
  | 114 => some ⟨1, 4, false, [], [.int .u32 0], .int .u32, false⟩
  | 115 => some ⟨1, 1, false, [], [.int .u8 0], .int .u8, false⟩
  | 116 => some ⟨1, 1, false, [], [.int .u8 0], .int .u8, false⟩
  | 117 => some ⟨1, 8, false, [], [.val .nilFunc], .other none, false⟩
  | 118 => some ⟨1, 4, false, [], [.int .i32 0], .int .i32, false⟩
  | 119 => some ⟨1, 4, false, [], [.int .i32 0], .int .i32, false⟩
  | 120 => some ⟨11, 48, true, [(0, 1, false), (1, 1, false), (2, 1, false), (3, 1, false), (4, 1, false), (5, 1, false), (6, 1, false), (7, 1, false), (8, 1, false), (9, 1, false), (10, 1, false)], [.int .u64 0, .int .u64 0, .int .u32 0, .int .u8 0, .int .u8 0, .int .u8 0, .int .u8 0, .val .nilFunc, .val (.pointer none), .int .i32 0, .int .i32 0], .struct, false⟩
  | 121 => some ⟨11, 48, true, [(0, 1, false), (1, 1, false), (2, 1, false), (3, 1, false), (4, 1, false), (5, 1, false), (6, 1, false), (7, 1, false), (8, 1, false), (9, 1, false), (10, 1, false)], [.int .u64 0, .int .u64 0, .int .u32 0, .int .u8 0, .int .u8 0, .int .u8 0, .int .u8 0, .val .nilFunc, .val (.pointer none), .int .i32 0, .int .i32 0], .struct, false⟩
  | _ => none
theorem tab1 : tab 1 = some ⟨1, 8, false, [], [.val .nilFunc], .other none, false⟩ := rfl
theorem tab2 : tab 2 = some ⟨1, 8, false, [], [.int .i64 0], .int .i64, false⟩ := rfl
theorem tab3 : tab 3 = some ⟨1, 8, false, [], [.int .i64 0], .int .i64, false⟩ := rfl
theorem tab4 : tab 4 = some ⟨1, 1, false, [], [.bool false], .bool, false⟩ := rfl
theorem tab5 : tab 5 = some ⟨1, 1, false, [], [.int .u8 0], .int .u8, false⟩ := rfl
theorem tab6 : tab 6 = some ⟨1, 1, false, [], [.int .u8 0], .int .u8, false⟩ := rfl
theorem tab7 : tab 7 = some ⟨4, 24, true, [(0, 1, false), (1, 1, false), (2, 1, false), (3, 1, false)], [.int .i64 0, .int .i64 0, .bool false, .int .u8 0], .struct, false⟩ := rfl
theorem tab8 : tab 8 = some ⟨4, 24, true, [(0, 1, false), (1, 1, false), (2, 1, false), (3, 1, false)], [.int .i64 0, .int .i64 0, .bool false, .int .u8 0], .struct, false⟩ := rfl
theorem tab9 : tab 9 = some ⟨1, 16, false, [], [.str []], .str, false⟩ := rfl
theorem tab10 : tab 10 = some ⟨1, 16, false, [], [.str []], .str, false⟩ := rfl
theorem tab11 : tab 11 = some ⟨1, 16, false, [], [.str []], .str, false⟩ := rfl
theorem tab12 : tab 12 = some ⟨1, 8, false, [], [.int .u64 0], .int .u64, false⟩ := rfl
theorem tab13 : tab 13 = some ⟨2, 24, true, [(0, 1, false), (1, 1, false)], [.str [], .int .u64 0], .struct, false⟩ := rfl
theorem tab14 : tab 14 = some ⟨2, 24, true, [(0, 1, false), (1, 1, false)], [.str [], .int .u64 0], .struct, false⟩ := rfl
theorem tab15 : tab 15 = some ⟨1, 8, false, [], [.val (.pointer none)], .other (some 110), false⟩ := rfl
theorem tab16 : tab 16 = some ⟨1, 8, false, [], [.val (.pointer none)], .other (some 113), false⟩ := rfl
theorem tab17 : tab 17 = some ⟨1, 8, false, [], [.val (.pointer none)], .other (some 121), false⟩ := rfl
theorem tab18 : tab 18 = some ⟨1, 8, true, [(0, 1, false)], [.val (.pointer none)], .struct, false⟩ := rfl
theorem tab19 : tab 19 = some ⟨1, 8, true, [(0, 1, false)], [.val (.pointer none)], .struct, false⟩ := rfl
theorem tab20 : tab 20 = some ⟨1, 16, false, [], [.val .nilIface], .other none, false⟩ := rfl
theorem tab21 : tab 21 = some ⟨1, 4, false, [], [.int .i32 0], .int .i32, false⟩ := rfl
theorem tab22 : tab 22 = some ⟨1, 8, false, [], [.val .nilFunc], .other none, false⟩ := rfl
theorem tab23 : tab 23 = some ⟨3, 32, true, [(0, 1, false), (1, 1, false), (2, 1, false)], [.int .i64 0, .int .i64 0, .str []], .struct, false⟩ := rfl
theorem tab24 : tab 24 = some ⟨3, 32, true, [(0, 1, false), (1, 1, false), (2, 1, false)], [.int .i64 0, .int .i64 0, .str []], .struct, true⟩ := rfl
theorem tab25 : tab 25 = some ⟨1, 24, false, [], [.list 0 [] .nil], .slice 27, false⟩ := rfl
theorem tab26 : tab 26 = some ⟨8, 104, true, [(0, 1, false), (1, 1, false), (2, 1, false), (3, 1, false), (4, 3, true), (7, 1, false)], [.int .i64 0, .int .i64 0, .str [], .str [], .int .i64 0, .int .i64 0, .str [], .list 0 [] .nil], .struct, false⟩ := rfl
theorem tab27 : tab 27 = some ⟨8, 104, true, [(0, 1, false), (1, 1, false), (2, 1, false), (3, 1, false), (4, 3, true), (7, 1, false)], [.int .i64 0, .int .i64 0, .str [], .str [], .int .i64 0, .int .i64 0, .str [], .list 0 [] .nil], .struct, false⟩ := rfl
theorem tab28 : tab 28 = some ⟨1, 8, false, [], [.int .i64 0], .int .i64, false⟩ := rfl
theorem tab29 : tab 29 = some ⟨2, 16, true, [(0, 1, false), (1, 1, false)], [.int .i64 0, .int .i64 0], .struct, false⟩ := rfl
theorem tab30 : tab 30 = some ⟨2, 16, true, [(0, 1, false), (1, 1, false)], [.int .i64 0, .int .i64 0], .struct, true⟩ := rfl
theorem tab32 : tab 32 = some ⟨1, 8, false, [], [.val .nilFunc], .other none, false⟩ := rfl
theorem tab33 : tab 33 = some ⟨1, 8, false, [], [.val .nilFunc], .other none, false⟩ := rfl
theorem tab34 : tab 34 = some ⟨1, 8, false, [], [.val .nilFunc], .other none, false⟩ := rfl
theorem tab35 : tab 35 = some ⟨1, 24, false, [], [.list 0 [] .nil], .slice 44, false⟩ := rfl
theorem tab37 : tab 37 = some ⟨1, 8, false, [], [.val .nilFunc], .other none, false⟩ := rfl
theorem tab38 : tab 38 = some ⟨1, 8, false, [], [.val .nilFunc], .other none, false⟩ := rfl
theorem tab39 : tab 39 = some ⟨1, 24, false, [], [.list 0 [] .nil], .slice 75, false⟩ := rfl
theorem tab40 : tab 40 = some ⟨1, 24, false, [], [.list 0 [] .nil], .slice 78, false⟩ := rfl
theorem tab41 : tab 41 = some ⟨1, 24, false, [], [.list 0 [] .nil], .slice 81, false⟩ := rfl
theorem tab42 : tab 42 = some ⟨1, 24, false, [], [.list 0 [] .nil], .slice 84, false⟩ := rfl
theorem tab43 : tab 43 = some ⟨14, 264, true, [(0, 1, false), (1, 1, false), (2, 1, false), (3, 1, false), (4, 1, false), (5, 1, false), (6, 1, false), (7, 1, false), (8, 1, false), (9, 1, false), (10, 1, false), (11, 1, false), (12, 1, false), (13, 1, false)], [.int .i64 0, .str [], .list 0 [] .nil, .str [], .list 0 [] .nil, .list 0 [] .nil, .list 0 [] .nil, .str [], .list 0 [] .nil, .list 0 [] .nil, .list 0 [] .nil, .list 0 [] .nil, .bool false, .int .i64 0], .struct, false⟩ := rfl
theorem tab44 : tab 44 = some ⟨14, 264, true, [(0, 1, false), (1, 1, false), (2, 1, false), (3, 1, false), (4, 1, false), (5, 1, false), (6, 1, false), (7, 1, false), (8, 1, false), (9, 1, false), (10, 1, false), (11, 1, false), (12, 1, false), (13, 1, false)], [.int .i64 0, .str [], .list 0 [] .nil, .str [], .list 0 [] .nil, .list 0 [] .nil, .list 0 [] .nil, .str [], .list 0 [] .nil, .list 0 [] .nil, .list 0 [] .nil, .list 0 [] .nil, .bool false, .int .i64 0], .struct, false⟩ := rfl
theorem tab45 : tab 45 = some ⟨1, 24, false, [], [.list 0 [] .nil], .slice 58, false⟩ := rfl
theorem tab47 : tab 47 = some ⟨1, 8, false, [], [.val .nilFunc], .other none, false⟩ := rfl
theorem tab48 : tab 48 = some ⟨1, 8, false, [], [.val (.pointer none)], .other (some 50), false⟩ := rfl
theorem tab49 : tab 49 = some ⟨4, 48, true, [(0, 1, false), (1, 1, false), (2, 2, true)], [.list 0 [] .nil, .int .i64 0, .int .i64 0, .int .i64 0], .struct, false⟩ := rfl
theorem tab50 : tab 50 = some ⟨4, 48, true, [(0, 1, false), (1, 1, false), (2, 2, true)], [.list 0 [] .nil, .int .i64 0, .int .i64 0, .int .i64 0], .struct, false⟩ := rfl
theorem tab51 : tab 51 = some ⟨1, 8, false, [], [.val .nilFunc], .other none, false⟩ := rfl
theorem tab52 : tab 52 = some ⟨1, 8, false, [], [.val .nilFunc], .other none, false⟩ := rfl
theorem tab53 : tab 53 = some ⟨1, 8, false, [], [.val .nilFunc], .other none, false⟩ := rfl
theorem tab54 : tab 54 = some ⟨1, 8, false, [], [.val .nilFunc], .other none, false⟩ := rfl
theorem tab55 : tab 55 = some ⟨1, 8, false, [], [.val .nilFunc], .other none, false⟩ := rfl
theorem tab56 : tab 56 = some ⟨1, 8, false, [], [.val .nilFunc], .other none, false⟩ := rfl
theorem tab57 : tab 57 = some ⟨4, 40, true, [(0, 1, false), (1, 1, false), (2, 1, false), (3, 1, false)], [.int .i64 0, .str [], .int .i64 0, .int .i64 0], .struct, false⟩ := rfl
theorem tab58 : tab 58 = some ⟨4, 40, true, [(0, 1, false), (1, 1, false), (2, 1, false), (3, 1, false)], [.int .i64 0, .str [], .int .i64 0, .int .i64 0], .struct, false⟩ := rfl
theorem tab60 : tab 60 = some ⟨1, 8, false, [], [.val .nilFunc], .other none, false⟩ := rfl
theorem tab61 : tab 61 = some ⟨1, 8, false, [], [.val .nilFunc], .other none, false⟩ := rfl
theorem tab62 : tab 62 = some ⟨1, 8, false, [], [.val .nilFunc], .other none, false⟩ := rfl
theorem tab63 : tab 63 = some ⟨1, 8, false, [], [.val .nilFunc], .other none, false⟩ := rfl
theorem tab64 : tab 64 = some ⟨1, 8, false, [], [.val .nilFunc], .other none, false⟩ := rfl
theorem tab65 : tab 65 = some ⟨1, 8, false, [], [.val (.pointer none)], .other (some 44), false⟩ := rfl
theorem tab66 : tab 66 = some ⟨1, 8, false, [], [.val .nilFunc], .other none, false⟩ := rfl
theorem tab67 : tab 67 = some ⟨1, 8, false, [], [.val .nilFunc], .other none, false⟩ := rfl
theorem tab68 : tab 68 = some ⟨1, 24, false, [], [.list 0 [] .nil], .slice 9, false⟩ := rfl
theorem tab69 : tab 69 = some ⟨1, 8, false, [], [.val .nilFunc], .other none, false⟩ := rfl
theorem tab71 : tab 71 = some ⟨1, 8, false, [], [.val .nilFunc], .other none, false⟩ := rfl
theorem tab72 : tab 72 = some ⟨1, 8, false, [], [.val .nilFunc], .other none, false⟩ := rfl
theorem tab73 : tab 73 = some ⟨1, 8, false, [], [.val .nilFunc], .other none, false⟩ := rfl
theorem tab74 : tab 74 = some ⟨4, 32, true, [(0, 1, false), (1, 1, false), (2, 1, false), (3, 1, false)], [.str [], .int .i64 0, .bool false, .bool false], .struct, false⟩ := rfl
theorem tab75 : tab 75 = some ⟨4, 32, true, [(0, 1, false), (1, 1, false), (2, 1, false), (3, 1, false)], [.str [], .int .i64 0, .bool false, .bool false], .struct, false⟩ := rfl
theorem tab76 : tab 76 = some ⟨1, 8, false, [], [.val .nilFunc], .other none, false⟩ := rfl
theorem tab77 : tab 77 = some ⟨1, 8, false, [], [.val .nilFunc], .other none, false⟩ := rfl
theorem tab78 : tab 78 = some ⟨1, 24, false, [], [.list 0 [] .nil], .slice 24, false⟩ := rfl
theorem tab79 : tab 79 = some ⟨1, 8, false, [], [.val .nilFunc], .other none, false⟩ := rfl
theorem tab80 : tab 80 = some ⟨9, 120, true, [(0, 1, false), (1, 8, true)], [.str [], .int .i64 0, .int .i64 0, .str [], .str [], .int .i64 0, .int .i64 0, .str [], .list 0 [] .nil], .struct, false⟩ := rfl
theorem tab81 : tab 81 = some ⟨9, 120, true, [(0, 1, false), (1, 8, true)], [.str [], .int .i64 0, .int .i64 0, .str [], .str [], .int .i64 0, .int .i64 0, .str [], .list 0 [] .nil], .struct, false⟩ := rfl
theorem tab82 : tab 82 = some ⟨1, 8, false, [], [.val .nilFunc], .other none, false⟩ := rfl
theorem tab83 : tab 83 = some ⟨2, 32, true, [(0, 1, false), (1, 1, false)], [.int .i64 0, .list 0 [] .nil], .struct, false⟩ := rfl
theorem tab84 : tab 84 = some ⟨2, 32, true, [(0, 1, false), (1, 1, false)], [.int .i64 0, .list 0 [] .nil], .struct, false⟩ := rfl
theorem tab85 : tab 85 = some ⟨1, 8, false, [], [.val .nilFunc], .other none, false⟩ := rfl
theorem tab86 : tab 86 = some ⟨1, 8, false, [], [.val .nilFunc], .other none, false⟩ := rfl
theorem tab87 : tab 87 = some ⟨1, 8, false, [], [.val (.pointer none)], .other (some 90), false⟩ := rfl
theorem tab88 : tab 88 = some ⟨1, 24, false, [], [.list 0 [] .nil], .slice 5, false⟩ := rfl
theorem tab89 : tab 89 = some ⟨2, 32, true, [(0, 1, false), (1, 1, false)], [.val (.pointer none), .list 0 [] .nil], .struct, false⟩ := rfl
theorem tab90 : tab 90 = some ⟨2, 32, true, [(0, 1, false), (1, 1, false)], [.val (.pointer none), .list 0 [] .nil], .struct, false⟩ := rfl
theorem tab91 : tab 91 = some ⟨1, 8, false, [], [.val .nilFunc], .other none, false⟩ := rfl
theorem tab92 : tab 92 = some ⟨1, 16, false, [], [.val .nilIface], .other none, false⟩ := rfl
theorem tab93 : tab 93 = some ⟨1, 16, false, [], [.val .nilIface], .other none, false⟩ := rfl
theorem tab95 : tab 95 = some ⟨1, 8, false, [], [.val .nilFunc], .other none, false⟩ := rfl
theorem tab96 : tab 96 = some ⟨1, 8, false, [], [.val .nilFunc], .other none, false⟩ := rfl
theorem tab97 : tab 97 = some ⟨1, 8, false, [], [.val .nilFunc], .other none, false⟩ := rfl
theorem tab98 : tab 98 = some ⟨1, 8, false, [], [.val .nilFunc], .other none, false⟩ := rfl
theorem tab100 : tab 100 = some ⟨1, 8, false, [], [.val .nilFunc], .other none, false⟩ := rfl
theorem tab101 : tab 101 = some ⟨1, 8, false, [], [.val .nilFunc], .other none, false⟩ := rfl
theorem tab102 : tab 102 = some ⟨1, 8, false, [], [.val .nilFunc], .other none, false⟩ := rfl
theorem tab103 : tab 103 = some ⟨1, 8, false, [], [.val .nilFunc], .other none, false⟩ := rfl
theorem tab105 : tab 105 = some ⟨1, 8, false, [], [.val .nilFunc], .other none, false⟩ := rfl
theorem tab106 : tab 106 = some ⟨1, 8, false, [], [.val (.pointer none)], .other (some 5), false⟩ := rfl
theorem tab108 : tab 108 = some ⟨1, 8, false, [], [.val .nilFunc], .other none, false⟩ := rfl
theorem tab109 : tab 109 = some ⟨4, 40, true, [(0, 1, false), (1, 1, false), (2, 1, false), (3, 1, false)], [.val (.pointer none), .val (.pointer none), .val (.pointer none), .str []], .struct, false⟩ := rfl
theorem tab110 : tab 110 = some ⟨4, 40, true, [(0, 1, false), (1, 1, false), (2, 1, false), (3, 1, false)], [.val (.pointer none), .val (.pointer none), .val (.pointer none), .str []], .struct, false⟩ := rfl
theorem tab112 : tab 112 = some ⟨0, 0, true, [(0, 0, true)], [], .struct, false⟩ := rfl
theorem tab113 : tab 113 = some ⟨0, 0, true, [(0, 0, true)], [], .struct, false⟩ := rfl
theorem tab114 : tab 114 = some ⟨1, 4, false, [], [.int .u32 0], .int .u32, false⟩ := rfl
theorem tab115 : tab 115 = some ⟨1, 1, false, [], [.int .u8 0], .int .u8, false⟩ := rfl
theorem tab116 : tab 116 = some ⟨1, 1, false, [], [.int .u8 0], .int .u8, false⟩ := rfl
theorem tab117 : tab 117 = some ⟨1, 8, false, [], [.val .nilFunc], .other none, false⟩ := rfl
theorem tab118 : tab 118 = some ⟨1, 4, false, [], [.int .i32 0], .int .i32, false⟩ := rfl
theorem tab119 : tab 119 = some ⟨1, 4, false, [], [.int .i32 0], .int .i32, false⟩ := rfl
theorem tab120 : tab 120 = some ⟨11, 48, true, [(0, 1, false), (1, 1, false), (2, 1, false), (3, 1, false), (4, 1, false), (5, 1, false), (6, 1, false), (7, 1, false), (8, 1, false), (9, 1, false), (10, 1, false)], [.int .u64 0, .int .u64 0, .int .u32 0, .int .u8 0, .int .u8 0, .int .u8 0, .int .u8 0, .val .nilFunc, .val (.pointer none), .int .i32 0, .int .i32 0], .struct, false⟩ := rfl
theorem tab121 : tab 121 = some ⟨11, 48, true, [(0, 1, false), (1, 1, false), (2, 1, false), (3, 1, false), (4, 1, false), (5, 1, false), (6, 1, false), (7, 1, false), (8, 1, false), (9, 1, false), (10, 1, false)], [.int .u64 0, .int .u64 0, .int .u32 0, .int .u8 0, .int .u8 0, .int .u8 0, .int .u8 0, .val .nilFunc, .val (.pointer none), .int .i32 0, .int .i32 0], .struct, false⟩ := rfl
theorem tok1 : TOk Try.prog 1 ⟨1, 8, false, [], [.val .nilFunc], .other none, false⟩ := ⟨by kernel_rfl, by kernel_rfl, rfl, rfl, trivial, by kernel_rfl, by kernel_rfl, by kernel_rfl, by kernel_rfl, (fun h => by cases h)⟩
theorem tok2 : TOk Try.prog 2 ⟨1, 8, false, [], [.int .i64 0], .int .i64, false⟩ := ⟨by kernel_rfl, by kernel_rfl, rfl, rfl, by show Try.prog.underlying 2 = some (.int .i64); kernel_rfl, by kernel_rfl, by kernel_rfl, by kernel_rfl, by kernel_rfl, (fun h => by cases h)⟩
theorem tok3 : TOk Try.prog 3 ⟨1, 8, false, [], [.int .i64 0], .int .i64, false⟩ := ⟨by kernel_rfl, by kernel_rfl, rfl, rfl, by show Try.prog.underlying 3 = some (.int .i64); kernel_rfl, by kernel_rfl, by kernel_rfl, by kernel_rfl, by kernel_rfl, (fun h => by cases h)⟩
theorem tok4 : TOk Try.prog 4 ⟨1, 1, false, [], [.bool false], .bool, false⟩ := ⟨by kernel_rfl, by kernel_rfl, rfl, rfl, by show Try.prog.underlying 4 = some (.bool); kernel_rfl, by kernel_rfl, by kernel_rfl, by kernel_rfl, by kernel_rfl, (fun h => by cases h)⟩
theorem tok5 : TOk Try.prog 5 ⟨1, 1, false, [], [.int .u8 0], .int .u8, false⟩ := ⟨by kernel_rfl, by kernel_rfl, rfl, rfl, by show Try.prog.underlying 5 = some (.int .u8); kernel_rfl, by kernel_rfl, by kernel_rfl, by kernel_rfl, by kernel_rfl, (fun h => by cases h)⟩
theorem tok6 : TOk Try.prog 6 ⟨1, 1, false, [], [.int .u8 0], .int .u8, false⟩ := ⟨by kernel_rfl, by kernel_rfl, rfl, rfl, by show Try.prog.underlying 6 = some (.int .u8); kernel_rfl, by kernel_rfl, by kernel_rfl, by kernel_rfl, by kernel_rfl, (fun h => by cases h)⟩
theorem tok7 : TOk Try.prog 7 ⟨4, 24, true, [(0, 1, false), (1, 1, false), (2, 1, false), (3, 1, false)], [.int .i64 0, .int .i64 0, .bool false, .int .u8 0], .struct, false⟩ := ⟨by kernel_rfl, by kernel_rfl, rfl, rfl, by show (match Try.prog.underlying 7 with | some (.struct _) => true | _ => false) = true; kernel_rfl, by kernel_rfl, by kernel_rfl, by kernel_rfl, by kernel_rfl, (fun h => by cases h)⟩
theorem tok8 : TOk Try.prog 8 ⟨4, 24, true, [(0, 1, false), (1, 1, false), (2, 1, false), (3, 1, false)], [.int .i64 0, .int .i64 0, .bool false, .int .u8 0], .struct, false⟩ := ⟨by kernel_rfl, by kernel_rfl, rfl, rfl, by show (match Try.prog.underlying 8 with | some (.struct _) => true | _ => false) = true; kernel_rfl, by kernel_rfl, by kernel_rfl, by kernel_rfl, by kernel_rfl, (fun h => by cases h)⟩
theorem tok9 : TOk Try.prog 9 ⟨1, 16, false, [], [.str []], .str, false⟩ := ⟨by kernel_rfl, by kernel_rfl, rfl, rfl, by show Try.prog.underlying 9 = some (.string); kernel_rfl, by kernel_rfl, by kernel_rfl, by kernel_rfl, by kernel_rfl, (fun h => by cases h)⟩
theorem tok10 : TOk Try.prog 10 ⟨1, 16, false, [], [.str []], .str, false⟩ := ⟨by kernel_rfl, by kernel_rfl, rfl, rfl, by show Try.prog.underlying 10 = some (.string); kernel_rfl, by kernel_rfl, by kernel_rfl, by kernel_rfl, by kernel_rfl, (fun h => by cases h)⟩
theorem tok11 : TOk Try.prog 11 ⟨1, 16, false, [], [.str []], .str, false⟩ := ⟨by kernel_rfl, by kernel_rfl, rfl, rfl, by show Try.prog.underlying 11 = some (.string); kernel_rfl, by kernel_rfl, by kernel_rfl, by kernel_rfl, by kernel_rfl, (fun h => by cases h)⟩
theorem tok12 : TOk Try.prog 12 ⟨1, 8, false, [], [.int .u64 0], .int .u64, false⟩ := ⟨by kernel_rfl, by kernel_rfl, rfl, rfl, by show Try.prog.underlying 12 = some (.int .u64); kernel_rfl, by kernel_rfl, by kernel_rfl, by kernel_rfl, by kernel_rfl, (fun h => by cases h)⟩
theorem tok13 : TOk Try.prog 13 ⟨2, 24, true, [(0, 1, false), (1, 1, false)], [.str [], .int .u64 0], .struct, false⟩ := ⟨by kernel_rfl, by kernel_rfl, rfl, rfl, by show (match Try.prog.underlying 13 with | some (.struct _) => true | _ => false) = true; kernel_rfl, by kernel_rfl, by kernel_rfl, by kernel_rfl, by kernel_rfl, (fun h => by cases h)⟩
theorem tok14 : TOk Try.prog 14 ⟨2, 24, true, [(0, 1, false), (1, 1, false)], [.str [], .int .u64 0], .struct, false⟩ := ⟨by kernel_rfl, by kernel_rfl, rfl, rfl, by show (match Try.prog.underlying 14 with | some (.struct _) => true | _ => false) = true; kernel_rfl, by kernel_rfl, by kernel_rfl, by kernel_rfl, by kernel_rfl, (fun h => by cases h)⟩
theorem tok15 : TOk Try.prog 15 ⟨1, 8, false, [], [.val (.pointer none)], .other (some 110), false⟩ := ⟨by kernel_rfl, by kernel_rfl, rfl, rfl, by show Try.prog.underlying 15 = some (.pointer (110)); kernel_rfl, by kernel_rfl, by kernel_rfl, by kernel_rfl, by kernel_rfl, (fun h => by cases h)⟩
theorem tok16 : TOk Try.prog 16 ⟨1, 8, false, [], [.val (.pointer none)], .other (some 113), false⟩ := ⟨by kernel_rfl, by kernel_rfl, rfl, rfl, by show Try.prog.underlying 16 = some (.pointer (113)); kernel_rfl, by kernel_rfl, by kernel_rfl, by kernel_rfl, by kernel_rfl, (fun h => by cases h)⟩
theorem tok17 : TOk Try.prog 17 ⟨1, 8, false, [], [.val (.pointer none)], .other (some 121), false⟩ := ⟨by kernel_rfl, by kernel_rfl, rfl, rfl, by show Try.prog.underlying 17 = some (.pointer (121)); kernel_rfl, by kernel_rfl, by kernel_rfl, by kernel_rfl, by kernel_rfl, (fun h => by cases h)⟩
theorem tok18 : TOk Try.prog 18 ⟨1, 8, true, [(0, 1, false)], [.val (.pointer none)], .struct, false⟩ := ⟨by kernel_rfl, by kernel_rfl, rfl, rfl, by show (match Try.prog.underlying 18 with | some (.struct _) => true | _ => false) = true; kernel_rfl, by kernel_rfl, by kernel_rfl, by kernel_rfl, by kernel_rfl, (fun h => by cases h)⟩
theorem tok19 : TOk Try.prog 19 ⟨1, 8, true, [(0, 1, false)], [.val (.pointer none)], .struct, false⟩ := ⟨by kernel_rfl, by kernel_rfl, rfl, rfl, by show (match Try.prog.underlying 19 with | some (.struct _) => true | _ => false) = true; kernel_rfl, by kernel_rfl, by kernel_rfl, by kernel_rfl, by kernel_rfl, (fun h => by cases h)⟩
theorem tok20 : TOk Try.prog 20 ⟨1, 16, false, [], [.val .nilIface], .other none, false⟩ := ⟨by kernel_rfl, by kernel_rfl, rfl, rfl, trivial, by kernel_rfl, by kernel_rfl, by kernel_rfl, by kernel_rfl, (fun h => by cases h)⟩
theorem tok21 : TOk Try.prog 21 ⟨1, 4, false, [], [.int .i32 0], .int .i32, false⟩ := ⟨by kernel_rfl, by kernel_rfl, rfl, rfl, by show Try.prog.underlying 21 = some (.int .i32); kernel_rfl, by kernel_rfl, by kernel_rfl, by kernel_rfl, by kernel_rfl, (fun h => by cases h)⟩
theorem tok22 : TOk Try.prog 22 ⟨1, 8, false, [], [.val .nilFunc], .other none, false⟩ := ⟨by kernel_rfl, by kernel_rfl, rfl, rfl, trivial, by kernel_rfl, by kernel_rfl, by kernel_rfl, by kernel_rfl, (fun h => by cases h)⟩
theorem tok23 : TOk Try.prog 23 ⟨3, 32, true, [(0, 1, false), (1, 1, false), (2, 1, false)], [.int .i64 0, .int .i64 0, .str []], .struct, false⟩ := ⟨by kernel_rfl, by kernel_rfl, rfl, rfl, by show (match Try.prog.underlying 23 with | some (.struct _) => true | _ => false) = true; kernel_rfl, by kernel_rfl, by kernel_rfl, by kernel_rfl, by kernel_rfl, (fun h => by cases h)⟩
theorem eqv24 (a0 b0 : Int) (a1 b1 : Int) (a2 b2 : List UInt8) (w : World) : (Op.equalIn 10000 24 (.agg #[.int .i64 a0, .int .i64 a1, .string ⟨a2.toArray⟩]) (.agg #[.int .i64 b0, .int .i64 b1, .string ⟨b2.toArray⟩])).run Try.prog w = .ok ((a0 == b0 && (a1 == b1 && (a2 == b2 && true)))) w := by
  have u3 := Try.underlying3
  have c3 := Try.isAgg3
  have z3 := Try.sizeOf3
  have u9 := Try.underlying9
  have c9 := Try.isAgg9
  have z9 := Try.sizeOf9
  have hS : Try.prog.underlying 24 = some (.struct (Try.prog.fieldsOf 24)) := by kernel_rfl
  rw [show (10000 : Nat) = 9999 + 1 from rfl, run_equalIn_agg w 9999 24 _ _ hS (by kernel_rfl)]
  simp only [Program.fieldsOf, Try.underlying24]
  go_simp
  by_cases h0 : a0 = b0 <;> by_cases h1 : a1 = b1 <;> by_cases h2 : a2 = b2 <;> simp [h0, h1, h2]
theorem eql24 : EqL Try.prog 24 [.int .i64 0, .int .i64 0, .str []] := by
  refine ⟨by kernel_rfl, ?_⟩
  intro G xs ys vs us b w g0 h10 h20
  obtain ⟨a0, b0, xs, ys, r0, rfl, rfl, g1, rfl⟩ := eqCells_int g0
  obtain ⟨a1, b1, xs, ys, r1, rfl, rfl, g2, rfl⟩ := eqCells_int g1
  obtain ⟨a2, b2, xs, ys, r2, rfl, rfl, g3, rfl⟩ := eqCells_str g2
  obtain ⟨rfl, rfl, rfl⟩ := eqCells_nil g3
  obtain ⟨p0, vs, rfl, ep0, h11⟩ := h10.cons_inv
  cases ep0.int_inv
  obtain ⟨q0, us, rfl, eq0, h21⟩ := h20.cons_inv
  cases eq0.int_inv
  obtain ⟨p1, vs, rfl, ep1, h12⟩ := h11.cons_inv
  cases ep1.int_inv
  obtain ⟨q1, us, rfl, eq1, h22⟩ := h21.cons_inv
  cases eq1.int_inv
  obtain ⟨p2, vs, rfl, ep2, h13⟩ := h12.cons_inv
  cases ep2.str_inv
  obtain ⟨q2, us, rfl, eq2, h23⟩ := h22.cons_inv
  cases eq2.str_inv
  cases h13
  cases h23
  exact eqv24 a0 b0 a1 b1 a2 b2 w
theorem tok24 : TOk Try.prog 24 ⟨3, 32, true, [(0, 1, false), (1, 1, false), (2, 1, false)], [.int .i64 0, .int .i64 0, .str []], .struct, true⟩ := ⟨by kernel_rfl, by kernel_rfl, rfl, rfl, by show (match Try.prog.underlying 24 with | some (.struct _) => true | _ => false) = true; kernel_rfl, by kernel_rfl, by kernel_rfl, by kernel_rfl, by kernel_rfl, fun _ => eql24⟩
theorem tok25 : TOk Try.prog 25 ⟨1, 24, false, [], [.list 0 [] .nil], .slice 27, false⟩ := ⟨by kernel_rfl, by kernel_rfl, rfl, rfl, by show Try.prog.underlying 25 = some (.slice 27); kernel_rfl, by kernel_rfl, by kernel_rfl, by kernel_rfl, by kernel_rfl, (fun h => by cases h)⟩
theorem tok26 : TOk Try.prog 26 ⟨8, 104, true, [(0, 1, false), (1, 1, false), (2, 1, false), (3, 1, false), (4, 3, true), (7, 1, false)], [.int .i64 0, .int .i64 0, .str [], .str [], .int .i64 0, .int .i64 0, .str [], .list 0 [] .nil], .struct, false⟩ := ⟨by kernel_rfl, by kernel_rfl, rfl, rfl, by show (match Try.prog.underlying 26 with | some (.struct _) => true | _ => false) = true; kernel_rfl, by kernel_rfl, by kernel_rfl, by kernel_rfl, by kernel_rfl, (fun h => by cases h)⟩
theorem tok27 : TOk Try.prog 27 ⟨8, 104, true, [(0, 1, false), (1, 1, false), (2, 1, false), (3, 1, false), (4, 3, true), (7, 1, false)], [.int .i64 0, .int .i64 0, .str [], .str [], .int .i64 0, .int .i64 0, .str [], .list 0 [] .nil], .struct, false⟩ := ⟨by kernel_rfl, by kernel_rfl, rfl, rfl, by show (match Try.prog.underlying 27 with | some (.struct _) => true | _ => false) = true; kernel_rfl, by kernel_rfl, by kernel_rfl, by kernel_rfl, by kernel_rfl, (fun h => by cases h)⟩
theorem tok28 : TOk Try.prog 28 ⟨1, 8, false, [], [.int .i64 0], .int .i64, false⟩ := ⟨by kernel_rfl, by kernel_rfl, rfl, rfl, by show Try.prog.underlying 28 = some (.int .i64); kernel_rfl, by kernel_rfl, by kernel_rfl, by kernel_rfl, by kernel_rfl, (fun h => by cases h)⟩
theorem tok29 : TOk Try.prog 29 ⟨2, 16, true, [(0, 1, false), (1, 1, false)], [.int .i64 0, .int .i64 0], .struct, false⟩ := ⟨by kernel_rfl, by kernel_rfl, rfl, rfl, by show (match Try.prog.underlying 29 with | some (.struct _) => true | _ => false) = true; kernel_rfl, by kernel_rfl, by kernel_rfl, by kernel_rfl, by kernel_rfl, (fun h => by cases h)⟩
theorem eqv30 (a0 b0 : Int) (a1 b1 : Int) (w : World) : (Op.equalIn 10000 30 (.agg #[.int .i64 a0, .int .i64 a1]) (.agg #[.int .i64 b0, .int .i64 b1])).run Try.prog w = .ok ((a0 == b0 && (a1 == b1 && true))) w := by
  have u3 := Try.underlying3
  have c3 := Try.isAgg3
  have z3 := Try.sizeOf3
  have u28 := Try.underlying28
  have c28 := Try.isAgg28
  have z28 := Try.sizeOf28
  have hS : Try.prog.underlying 30 = some (.struct (Try.prog.fieldsOf 30)) := by kernel_rfl
  rw [show (10000 : Nat) = 9999 + 1 from rfl, run_equalIn_agg w 9999 30 _ _ hS (by kernel_rfl)]
  simp only [Program.fieldsOf, Try.underlying30]
  go_simp
  by_cases h0 : a0 = b0 <;> by_cases h1 : a1 = b1 <;> simp [h0, h1]
theorem eql30 : EqL Try.prog 30 [.int .i64 0, .int .i64 0] := by
  refine ⟨by kernel_rfl, ?_⟩
  intro G xs ys vs us b w g0 h10 h20
  obtain ⟨a0, b0, xs, ys, r0, rfl, rfl, g1, rfl⟩ := eqCells_int g0
  obtain ⟨a1, b1, xs, ys, r1, rfl, rfl, g2, rfl⟩ := eqCells_int g1
  obtain ⟨rfl, rfl, rfl⟩ := eqCells_nil g2
  obtain ⟨p0, vs, rfl, ep0, h11⟩ := h10.cons_inv
  cases ep0.int_inv
  obtain ⟨q0, us, rfl, eq0, h21⟩ := h20.cons_inv
  cases eq0.int_inv
  obtain ⟨p1, vs, rfl, ep1, h12⟩ := h11.cons_inv
  cases ep1.int_inv
  obtain ⟨q1, us, rfl, eq1, h22⟩ := h21.cons_inv
  cases eq1.int_inv
  cases h12
  cases h22
  exact eqv30 a0 b0 a1 b1 w
theorem tok30 : TOk Try.prog 30 ⟨2, 16, true, [(0, 1, false), (1, 1, false)], [.int .i64 0, .int .i64 0], .struct, true⟩ := ⟨by kernel_rfl, by kernel_rfl, rfl, rfl, by show (match Try.prog.underlying 30 with | some (.struct _) => true | _ => false) = true; kernel_rfl, by kernel_rfl, by kernel_rfl, by kernel_rfl, by kernel_rfl, fun _ => eql30⟩
theorem tok32 : TOk Try.prog 32 ⟨1, 8, false, [], [.val .nilFunc], .other none, false⟩ := ⟨by kernel_rfl, by kernel_rfl, rfl, rfl, trivial, by kernel_rfl, by kernel_rfl, by kernel_rfl, by kernel_rfl, (fun h => by cases h)⟩
theorem tok33 : TOk Try.prog 33 ⟨1, 8, false, [], [.val .nilFunc], .other none, false⟩ := ⟨by kernel_rfl, by kernel_rfl, rfl, rfl, trivial, by kernel_rfl, by kernel_rfl, by kernel_rfl, by kernel_rfl, (fun h => by cases h)⟩
theorem tok34 : TOk Try.prog 34 ⟨1, 8, false, [], [.val .nilFunc], .other none, false⟩ := ⟨by kernel_rfl, by kernel_rfl, rfl, rfl, trivial, by kernel_rfl, by kernel_rfl, by kernel_rfl, by kernel_rfl, (fun h => by cases h)⟩
theorem tok35 : TOk Try.prog 35 ⟨1, 24, false, [], [.list 0 [] .nil], .slice 44, false⟩ := ⟨by kernel_rfl, by kernel_rfl, rfl, rfl, by show Try.prog.underlying 35 = some (.slice 44); kernel_rfl, by kernel_rfl, by kernel_rfl, by kernel_rfl, by kernel_rfl, (fun h => by cases h)⟩
theorem tok37 : TOk Try.prog 37 ⟨1, 8, false, [], [.val .nilFunc], .other none, false⟩ := ⟨by kernel_rfl, by kernel_rfl, rfl, rfl, trivial, by kernel_rfl, by kernel_rfl, by kernel_rfl, by kernel_rfl, (fun h => by cases h)⟩
theorem tok38 : TOk Try.prog 38 ⟨1, 8, false, [], [.val .nilFunc], .other none, false⟩ := ⟨by kernel_rfl, by kernel_rfl, rfl, rfl, trivial, by kernel_rfl, by kernel_rfl, by kernel_rfl, by kernel_rfl, (fun h => by cases h)⟩
theorem tok39 : TOk Try.prog 39 ⟨1, 24, false, [], [.list 0 [] .nil], .slice 75, false⟩ := ⟨by kernel_rfl, by kernel_rfl, rfl, rfl, by show Try.prog.underlying 39 = some (.slice 75); kernel_rfl, by kernel_rfl, by kernel_rfl, by kernel_rfl, by kernel_rfl, (fun h => by cases h)⟩
theorem tok40 : TOk Try.prog 40 ⟨1, 24, false, [], [.list 0 [] .nil], .slice 78, false⟩ := ⟨by kernel_rfl, by kernel_rfl, rfl, rfl, by show Try.prog.underlying 40 = some (.slice 78); kernel_rfl, by kernel_rfl, by kernel_rfl, by kernel_rfl, by kernel_rfl, (fun h => by cases h)⟩
theorem tok41 : TOk Try.prog 41 ⟨1, 24, false, [], [.list 0 [] .nil], .slice 81, false⟩ := ⟨by kernel_rfl, by kernel_rfl, rfl, rfl, by show Try.prog.underlying 41 = some (.slice 81); kernel_rfl, by kernel_rfl, by kernel_rfl, by kernel_rfl, by kernel_rfl, (fun h => by cases h)⟩
theorem tok42 : TOk Try.prog 42 ⟨1, 24, false, [], [.list 0 [] .nil], .slice 84, false⟩ := ⟨by kernel_rfl, by kernel_rfl, rfl, rfl, by show Try.prog.underlying 42 = some (.slice 84); kernel_rfl, by kernel_rfl, by kernel_rfl, by kernel_rfl, by kernel_rfl, (fun h => by cases h)⟩
theorem tok43 : TOk Try.prog 43 ⟨14, 264, true, [(0, 1, false), (1, 1, false), (2, 1, false), (3, 1, false), (4, 1, false), (5, 1, false), (6, 1, false), (7, 1, false), (8, 1, false), (9, 1, false), (10, 1, false), (11, 1, false), (12, 1, false), (13, 1, false)], [.int .i64 0, .str [], .list 0 [] .nil, .str [], .list 0 [] .nil, .list 0 [] .nil, .list 0 [] .nil, .str [], .list 0 [] .nil, .list 0 [] .nil, .list 0 [] .nil, .list 0 [] .nil, .bool false, .int .i64 0], .struct, false⟩ := ⟨by kernel_rfl, by kernel_rfl, rfl, rfl, by show (match Try.prog.underlying 43 with | some (.struct _) => true | _ => false) = true; kernel_rfl, by kernel_rfl, by kernel_rfl, by kernel_rfl, by kernel_rfl, (fun h => by cases h)⟩
theorem tok44 : TOk Try.prog 44 ⟨14, 264, true, [(0, 1, false), (1, 1, false), (2, 1, false), (3, 1, false), (4, 1, false), (5, 1, false), (6, 1, false), (7, 1, false), (8, 1, false), (9, 1, false), (10, 1, false), (11, 1, false), (12, 1, false), (13, 1, false)], [.int .i64 0, .str [], .list 0 [] .nil, .str [], .list 0 [] .nil, .list 0 [] .nil, .list 0 [] .nil, .str [], .list 0 [] .nil, .list 0 [] .nil, .list 0 [] .nil, .list 0 [] .nil, .bool false, .int .i64 0], .struct, false⟩ := ⟨by kernel_rfl, by kernel_rfl, rfl, rfl, by show (match Try.prog.underlying 44 with | some (.struct _) => true | _ => false) = true; kernel_rfl, by kernel_rfl, by kernel_rfl, by kernel_rfl, by kernel_rfl, (fun h => by cases h)⟩
theorem tok45 : TOk Try.prog 45 ⟨1, 24, false, [], [.list 0 [] .nil], .slice 58, false⟩ := ⟨by kernel_rfl, by kernel_rfl, rfl, rfl, by show Try.prog.underlying 45 = some (.slice 58); kernel_rfl, by kernel_rfl, by kernel_rfl, by kernel_rfl, by kernel_rfl, (fun h => by cases h)⟩
theorem tok47 : TOk Try.prog 47 ⟨1, 8, false, [], [.val .nilFunc], .other none, false⟩ := ⟨by kernel_rfl, by kernel_rfl, rfl, rfl, trivial, by kernel_rfl, by kernel_rfl, by kernel_rfl, by kernel_rfl, (fun h => by cases h)⟩
theorem tok48 : TOk Try.prog 48 ⟨1, 8, false, [], [.val (.pointer none)], .other (some 50), false⟩ := ⟨by kernel_rfl, by kernel_rfl, rfl, rfl, by show Try.prog.underlying 48 = some (.pointer (50)); kernel_rfl, by kernel_rfl, by kernel_rfl, by kernel_rfl, by kernel_rfl, (fun h => by cases h)⟩
theorem tok49 : TOk Try.prog 49 ⟨4, 48, true, [(0, 1, false), (1, 1, false), (2, 2, true)], [.list 0 [] .nil, .int .i64 0, .int .i64 0, .int .i64 0], .struct, false⟩ := ⟨by kernel_rfl, by kernel_rfl, rfl, rfl, by show (match Try.prog.underlying 49 with | some (.struct _) => true | _ => false) = true; kernel_rfl, by kernel_rfl, by kernel_rfl, by kernel_rfl, by kernel_rfl, (fun h => by cases h)⟩
theorem tok50 : TOk Try.prog 50 ⟨4, 48, true, [(0, 1, false), (1, 1, false), (2, 2, true)], [.list 0 [] .nil, .int .i64 0, .int .i64 0, .int .i64 0], .struct, false⟩ := ⟨by kernel_rfl, by kernel_rfl, rfl, rfl, by show (match Try.prog.underlying 50 with | some (.struct _) => true | _ => false) = true; kernel_rfl, by kernel_rfl, by kernel_rfl, by kernel_rfl, by kernel_rfl, (fun h => by cases h)⟩
theorem tok51 : TOk Try.prog 51 ⟨1, 8, false, [], [.val .nilFunc], .other none, false⟩ := ⟨by kernel_rfl, by kernel_rfl, rfl, rfl, trivial, by kernel_rfl, by kernel_rfl, by kernel_rfl, by kernel_rfl, (fun h => by cases h)⟩
theorem tok52 : TOk Try.prog 52 ⟨1, 8, false, [], [.val .nilFunc], .other none, false⟩ := ⟨by kernel_rfl, by kernel_rfl, rfl, rfl, trivial, by kernel_rfl, by kernel_rfl, by kernel_rfl, by kernel_rfl, (fun h => by cases h)⟩
theorem tok53 : TOk Try.prog 53 ⟨1, 8, false, [], [.val .nilFunc], .other none, false⟩ := ⟨by kernel_rfl, by kernel_rfl, rfl, rfl, trivial, by kernel_rfl, by kernel_rfl, by kernel_rfl, by kernel_rfl, (fun h => by cases h)⟩
theorem tok54 : TOk Try.prog 54 ⟨1, 8, false, [], [.val .nilFunc], .other none, false⟩ := ⟨by kernel_rfl, by kernel_rfl, rfl, rfl, trivial, by kernel_rfl, by kernel_rfl, by kernel_rfl, by kernel_rfl, (fun h => by cases h)⟩
theorem tok55 : TOk Try.prog 55 ⟨1, 8, false, [], [.val .nilFunc], .other none, false⟩ := ⟨by kernel_rfl, by kernel_rfl, rfl, rfl, trivial, by kernel_rfl, by kernel_rfl, by kernel_rfl, by kernel_rfl, (fun h => by cases h)⟩
theorem tok56 : TOk Try.prog 56 ⟨1, 8, false, [], [.val .nilFunc], .other none, false⟩ := ⟨by kernel_rfl, by kernel_rfl, rfl, rfl, trivial, by kernel_rfl, by kernel_rfl, by kernel_rfl, by kernel_rfl, (fun h => by cases h)⟩
theorem tok57 : TOk Try.prog 57 ⟨4, 40, true, [(0, 1, false), (1, 1, false), (2, 1, false), (3, 1, false)], [.int .i64 0, .str [], .int .i64 0, .int .i64 0], .struct, false⟩ := ⟨by kernel_rfl, by kernel_rfl, rfl, rfl, by show (match Try.prog.underlying 57 with | some (.struct _) => true | _ => false) = true; kernel_rfl, by kernel_rfl, by kernel_rfl, by kernel_rfl, by kernel_rfl, (fun h => by cases h)⟩
theorem tok58 : TOk Try.prog 58 ⟨4, 40, true, [(0, 1, false), (1, 1, false), (2, 1, false), (3, 1, false)], [.int .i64 0, .str [], .int .i64 0, .int .i64 0], .struct, false⟩ := ⟨by kernel_rfl, by kernel_rfl, rfl, rfl, by show (match Try.prog.underlying 58 with | some (.struct _) => true | _ => false) = true; kernel_rfl, by kernel_rfl, by kernel_rfl, by kernel_rfl, by kernel_rfl, (fun h => by cases h)⟩
theorem tok60 : TOk Try.prog 60 ⟨1, 8, false, [], [.val .nilFunc], .other none, false⟩ := ⟨by kernel_rfl, by kernel_rfl, rfl, rfl, trivial, by kernel_rfl, by kernel_rfl, by kernel_rfl, by kernel_rfl, (fun h => by cases h)⟩
theorem tok61 : TOk Try.prog 61 ⟨1, 8, false, [], [.val .nilFunc], .other none, false⟩ := ⟨by kernel_rfl, by kernel_rfl, rfl, rfl, trivial, by kernel_rfl, by kernel_rfl, by kernel_rfl, by kernel_rfl, (fun h => by cases h)⟩
theorem tok62 : TOk Try.prog 62 ⟨1, 8, false, [], [.val .nilFunc], .other none, false⟩ := ⟨by kernel_rfl, by kernel_rfl, rfl, rfl, trivial, by kernel_rfl, by kernel_rfl, by kernel_rfl, by kernel_rfl, (fun h => by cases h)⟩
theorem tok63 : TOk Try.prog 63 ⟨1, 8, false, [], [.val .nilFunc], .other none, false⟩ := ⟨by kernel_rfl, by kernel_rfl, rfl, rfl, trivial, by kernel_rfl, by kernel_rfl, by kernel_rfl, by kernel_rfl, (fun h => by cases h)⟩
theorem tok64 : TOk Try.prog 64 ⟨1, 8, false, [], [.val .nilFunc], .other none, false⟩ := ⟨by kernel_rfl, by kernel_rfl, rfl, rfl, trivial, by kernel_rfl, by kernel_rfl, by kernel_rfl, by kernel_rfl, (fun h => by cases h)⟩
theorem tok65 : TOk Try.prog 65 ⟨1, 8, false, [], [.val (.pointer none)], .other (some 44), false⟩ := ⟨by kernel_rfl, by kernel_rfl, rfl, rfl, by show Try.prog.underlying 65 = some (.pointer (44)); kernel_rfl, by kernel_rfl, by kernel_rfl, by kernel_rfl, by kernel_rfl, (fun h => by cases h)⟩
theorem tok66 : TOk Try.prog 66 ⟨1, 8, false, [], [.val .nilFunc], .other none, false⟩ := ⟨by kernel_rfl, by kernel_rfl, rfl, rfl, trivial, by kernel_rfl, by kernel_rfl, by kernel_rfl, by kernel_rfl, (fun h => by cases h)⟩
theorem tok67 : TOk Try.prog 67 ⟨1, 8, false, [], [.val .nilFunc], .other none, false⟩ := ⟨by kernel_rfl, by kernel_rfl, rfl, rfl, trivial, by kernel_rfl, by kernel_rfl, by kernel_rfl, by kernel_rfl, (fun h => by cases h)⟩
theorem tok68 : TOk Try.prog 68 ⟨1, 24, false, [], [.list 0 [] .nil], .slice 9, false⟩ := ⟨by kernel_rfl, by kernel_rfl, rfl, rfl, by show Try.prog.underlying 68 = some (.slice 9); kernel_rfl, by kernel_rfl, by kernel_rfl, by kernel_rfl, by kernel_rfl, (fun h => by cases h)⟩
theorem tok69 : TOk Try.prog 69 ⟨1, 8, false, [], [.val .nilFunc], .other none, false⟩ := ⟨by kernel_rfl, by kernel_rfl, rfl, rfl, trivial, by kernel_rfl, by kernel_rfl, by kernel_rfl, by kernel_rfl, (fun h => by cases h)⟩
theorem tok71 : TOk Try.prog 71 ⟨1, 8, false, [], [.val .nilFunc], .other none, false⟩ := ⟨by kernel_rfl, by kernel_rfl, rfl, rfl, trivial, by kernel_rfl, by kernel_rfl, by kernel_rfl, by kernel_rfl, (fun h => by cases h)⟩
theorem tok72 : TOk Try.prog 72 ⟨1, 8, false, [], [.val .nilFunc], .other none, false⟩ := ⟨by kernel_rfl, by kernel_rfl, rfl, rfl, trivial, by kernel_rfl, by kernel_rfl, by kernel_rfl, by kernel_rfl, (fun h => by cases h)⟩
theorem tok73 : TOk Try.prog 73 ⟨1, 8, false, [], [.val .nilFunc], .other none, false⟩ := ⟨by kernel_rfl, by kernel_rfl, rfl, rfl, trivial, by kernel_rfl, by kernel_rfl, by kernel_rfl, by kernel_rfl, (fun h => by cases h)⟩
theorem tok74 : TOk Try.prog 74 ⟨4, 32, true, [(0, 1, false), (1, 1, false), (2, 1, false), (3, 1, false)], [.str [], .int .i64 0, .bool false, .bool false], .struct, false⟩ := ⟨by kernel_rfl, by kernel_rfl, rfl, rfl, by show (match Try.prog.underlying 74 with | some (.struct _) => true | _ => false) = true; kernel_rfl, by kernel_rfl, by kernel_rfl, by kernel_rfl, by kernel_rfl, (fun h => by cases h)⟩
theorem tok75 : TOk Try.prog 75 ⟨4, 32, true, [(0, 1, false), (1, 1, false), (2, 1, false), (3, 1, false)], [.str [], .int .i64 0, .bool false, .bool false], .struct, false⟩ := ⟨by kernel_rfl, by kernel_rfl, rfl, rfl, by show (match Try.prog.underlying 75 with | some (.struct _) => true | _ => false) = true; kernel_rfl, by kernel_rfl, by kernel_rfl, by kernel_rfl, by kernel_rfl, (fun h => by cases h)⟩
theorem tok76 : TOk Try.prog 76 ⟨1, 8, false, [], [.val .nilFunc], .other none, false⟩ := ⟨by kernel_rfl, by kernel_rfl, rfl, rfl, trivial, by kernel_rfl, by kernel_rfl, by kernel_rfl, by kernel_rfl, (fun h => by cases h)⟩
theorem tok77 : TOk Try.prog 77 ⟨1, 8, false, [], [.val .nilFunc], .other none, false⟩ := ⟨by kernel_rfl, by kernel_rfl, rfl, rfl, trivial, by kernel_rfl, by kernel_rfl, by kernel_rfl, by kernel_rfl, (fun h => by cases h)⟩
theorem tok78 : TOk Try.prog 78 ⟨1, 24, false, [], [.list 0 [] .nil], .slice 24, false⟩ := ⟨by kernel_rfl, by kernel_rfl, rfl, rfl, by show Try.prog.underlying 78 = some (.slice 24); kernel_rfl, by kernel_rfl, by kernel_rfl, by kernel_rfl, by kernel_rfl, (fun h => by cases h)⟩
theorem tok79 : TOk Try.prog 79 ⟨1, 8, false, [], [.val .nilFunc], .other none, false⟩ := ⟨by kernel_rfl, by kernel_rfl, rfl, rfl, trivial, by kernel_rfl, by kernel_rfl, by kernel_rfl, by kernel_rfl, (fun h => by cases h)⟩
theorem tok80 : TOk Try.prog 80 ⟨9, 120, true, [(0, 1, false), (1, 8, true)], [.str [], .int .i64 0, .int .i64 0, .str [], .str [], .int .i64 0, .int .i64 0, .str [], .list 0 [] .nil], .struct, false⟩ := ⟨by kernel_rfl, by kernel_rfl, rfl, rfl, by show (match Try.prog.underlying 80 with | some (.struct _) => true | _ => false) = true; kernel_rfl, by kernel_rfl, by kernel_rfl, by kernel_rfl, by kernel_rfl, (fun h => by cases h)⟩
theorem tok81 : TOk Try.prog 81 ⟨9, 120, true, [(0, 1, false), (1, 8, true)], [.str [], .int .i64 0, .int .i64 0, .str [], .str [], .int .i64 0, .int .i64 0, .str [], .list 0 [] .nil], .struct, false⟩ := ⟨by kernel_rfl, by kernel_rfl, rfl, rfl, by show (match Try.prog.underlying 81 with | some (.struct _) => true | _ => false) = true; kernel_rfl, by kernel_rfl, by kernel_rfl, by kernel_rfl, by kernel_rfl, (fun h => by cases h)⟩
theorem tok82 : TOk Try.prog 82 ⟨1, 8, false, [], [.val .nilFunc], .other none, false⟩ := ⟨by kernel_rfl, by kernel_rfl, rfl, rfl, trivial, by kernel_rfl, by kernel_rfl, by kernel_rfl, by kernel_rfl, (fun h => by cases h)⟩
theorem tok83 : TOk Try.prog 83 ⟨2, 32, true, [(0, 1, false), (1, 1, false)], [.int .i64 0, .list 0 [] .nil], .struct, false⟩ := ⟨by kernel_rfl, by kernel_rfl, rfl, rfl, by show (match Try.prog.underlying 83 with | some (.struct _) => true | _ => false) = true; kernel_rfl, by kernel_rfl, by kernel_rfl, by kernel_rfl, by kernel_rfl, (fun h => by cases h)⟩
theorem tok84 : TOk Try.prog 84 ⟨2, 32, true, [(0, 1, false), (1, 1, false)], [.int .i64 0, .list 0 [] .nil], .struct, false⟩ := ⟨by kernel_rfl, by kernel_rfl, rfl, rfl, by show (match Try.prog.underlying 84 with | some (.struct _) => true | _ => false) = true; kernel_rfl, by kernel_rfl, by kernel_rfl, by kernel_rfl, by kernel_rfl, (fun h => by cases h)⟩
theorem tok85 : TOk Try.prog 85 ⟨1, 8, false, [], [.val .nilFunc], .other none, false⟩ := ⟨by kernel_rfl, by kernel_rfl, rfl, rfl, trivial, by kernel_rfl, by kernel_rfl, by kernel_rfl, by kernel_rfl, (fun h => by cases h)⟩
theorem tok86 : TOk Try.prog 86 ⟨1, 8, false, [], [.val .nilFunc], .other none, false⟩ := ⟨by kernel_rfl, by kernel_rfl, rfl, rfl, trivial, by kernel_rfl, by kernel_rfl, by kernel_rfl, by kernel_rfl, (fun h => by cases h)⟩
theorem tok87 : TOk Try.prog 87 ⟨1, 8, false, [], [.val (.pointer none)], .other (some 90), false⟩ := ⟨by kernel_rfl, by kernel_rfl, rfl, rfl, by show Try.prog.underlying 87 = some (.pointer (90)); kernel_rfl, by kernel_rfl, by kernel_rfl, by kernel_rfl, by kernel_rfl, (fun h => by cases h)⟩
theorem tok88 : TOk Try.prog 88 ⟨1, 24, false, [], [.list 0 [] .nil], .slice 5, false⟩ := ⟨by kernel_rfl, by kernel_rfl, rfl, rfl, by show Try.prog.underlying 88 = some (.slice 5); kernel_rfl, by kernel_rfl, by kernel_rfl, by kernel_rfl, by kernel_rfl, (fun h => by cases h)⟩
theorem tok89 : TOk Try.prog 89 ⟨2, 32, true, [(0, 1, false), (1, 1, false)], [.val (.pointer none), .list 0 [] .nil], .struct, false⟩ := ⟨by kernel_rfl, by kernel_rfl, rfl, rfl, by show (match Try.prog.underlying 89 with | some (.struct _) => true | _ => false) = true; kernel_rfl, by kernel_rfl, by kernel_rfl, by kernel_rfl, by kernel_rfl, (fun h => by cases h)⟩
theorem tok90 : TOk Try.prog 90 ⟨2, 32, true, [(0, 1, false), (1, 1, false)], [.val (.pointer none), .list 0 [] .nil], .struct, false⟩ := ⟨by kernel_rfl, by kernel_rfl, rfl, rfl, by show (match Try.prog.underlying 90 with | some (.struct _) => true | _ => false) = true; kernel_rfl, by kernel_rfl, by kernel_rfl, by kernel_rfl, by kernel_rfl, (fun h => by cases h)⟩
theorem tok91 : TOk Try.prog 91 ⟨1, 8, false, [], [.val .nilFunc], .other none, false⟩ := ⟨by kernel_rfl, by kernel_rfl, rfl, rfl, trivial, by kernel_rfl, by kernel_rfl, by kernel_rfl, by kernel_rfl, (fun h => by cases h)⟩
theorem tok92 : TOk Try.prog 92 ⟨1, 16, false, [], [.val .nilIface], .other none, false⟩ := ⟨by kernel_rfl, by kernel_rfl, rfl, rfl, trivial, by kernel_rfl, by kernel_rfl, by kernel_rfl, by kernel_rfl, (fun h => by cases h)⟩
theorem tok93 : TOk Try.prog 93 ⟨1, 16, false, [], [.val .nilIface], .other none, false⟩ := ⟨by kernel_rfl, by kernel_rfl, rfl, rfl, trivial, by kernel_rfl, by kernel_rfl, by kernel_rfl, by kernel_rfl, (fun h => by cases h)⟩
theorem tok95 : TOk Try.prog 95 ⟨1, 8, false, [], [.val .nilFunc], .other none, false⟩ := ⟨by kernel_rfl, by kernel_rfl, rfl, rfl, trivial, by kernel_rfl, by kernel_rfl, by kernel_rfl, by kernel_rfl, (fun h => by cases h)⟩
theorem tok96 : TOk Try.prog 96 ⟨1, 8, false, [], [.val .nilFunc], .other none, false⟩ := ⟨by kernel_rfl, by kernel_rfl, rfl, rfl, trivial, by kernel_rfl, by kernel_rfl, by kernel_rfl, by kernel_rfl, (fun h => by cases h)⟩
theorem tok97 : TOk Try.prog 97 ⟨1, 8, false, [], [.val .nilFunc], .other none, false⟩ := ⟨by kernel_rfl, by kernel_rfl, rfl, rfl, trivial, by kernel_rfl, by kernel_rfl, by kernel_rfl, by kernel_rfl, (fun h => by cases h)⟩
theorem tok98 : TOk Try.prog 98 ⟨1, 8, false, [], [.val .nilFunc], .other none, false⟩ := ⟨by kernel_rfl, by kernel_rfl, rfl, rfl, trivial, by kernel_rfl, by kernel_rfl, by kernel_rfl, by kernel_rfl, (fun h => by cases h)⟩
theorem tok100 : TOk Try.prog 100 ⟨1, 8, false, [], [.val .nilFunc], .other none, false⟩ := ⟨by kernel_rfl, by kernel_rfl, rfl, rfl, trivial, by kernel_rfl, by kernel_rfl, by kernel_rfl, by kernel_rfl, (fun h => by cases h)⟩
theorem tok101 : TOk Try.prog 101 ⟨1, 8, false, [], [.val .nilFunc], .other none, false⟩ := ⟨by kernel_rfl, by kernel_rfl, rfl, rfl, trivial, by kernel_rfl, by kernel_rfl, by kernel_rfl, by kernel_rfl, (fun h => by cases h)⟩
theorem tok102 : TOk Try.prog 102 ⟨1, 8, false, [], [.val .nilFunc], .other none, false⟩ := ⟨by kernel_rfl, by kernel_rfl, rfl, rfl, trivial, by kernel_rfl, by kernel_rfl, by kernel_rfl, by kernel_rfl, (fun h => by cases h)⟩
theorem tok103 : TOk Try.prog 103 ⟨1, 8, false, [], [.val .nilFunc], .other none, false⟩ := ⟨by kernel_rfl, by kernel_rfl, rfl, rfl, trivial, by kernel_rfl, by kernel_rfl, by kernel_rfl, by kernel_rfl, (fun h => by cases h)⟩
theorem tok105 : TOk Try.prog 105 ⟨1, 8, false, [], [.val .nilFunc], .other none, false⟩ := ⟨by kernel_rfl, by kernel_rfl, rfl, rfl, trivial, by kernel_rfl, by kernel_rfl, by kernel_rfl, by kernel_rfl, (fun h => by cases h)⟩
theorem tok106 : TOk Try.prog 106 ⟨1, 8, false, [], [.val (.pointer none)], .other (some 5), false⟩ := ⟨by kernel_rfl, by kernel_rfl, rfl, rfl, by show Try.prog.underlying 106 = some (.pointer (5)); kernel_rfl, by kernel_rfl, by kernel_rfl, by kernel_rfl, by kernel_rfl, (fun h => by cases h)⟩
theorem tok108 : TOk Try.prog 108 ⟨1, 8, false, [], [.val .nilFunc], .other none, false⟩ := ⟨by kernel_rfl, by kernel_rfl, rfl, rfl, trivial, by kernel_rfl, by kernel_rfl, by kernel_rfl, by kernel_rfl, (fun h => by cases h)⟩
theorem tok109 : TOk Try.prog 109 ⟨4, 40, true, [(0, 1, false), (1, 1, false), (2, 1, false), (3, 1, false)], [.val (.pointer none), .val (.pointer none), .val (.pointer none), .str []], .struct, false⟩ := ⟨by kernel_rfl, by kernel_rfl, rfl, rfl, by show (match Try.prog.underlying 109 with | some (.struct _) => true | _ => false) = true; kernel_rfl, by kernel_rfl, by kernel_rfl, by kernel_rfl, by kernel_rfl, (fun h => by cases h)⟩
theorem tok110 : TOk Try.prog 110 ⟨4, 40, true, [(0, 1, false), (1, 1, false), (2, 1, false), (3, 1, false)], [.val (.pointer none), .val (.pointer none), .val (.pointer none), .str []], .struct, false⟩ := ⟨by kernel_rfl, by kernel_rfl, rfl, rfl, by show (match Try.prog.underlying 110 with | some (.struct _) => true | _ => false) = true; kernel_rfl, by kernel_rfl, by kernel_rfl, by kernel_rfl, by kernel_rfl, (fun h => by cases h)⟩
theorem tok112 : TOk Try.prog 112 ⟨0, 0, true, [(0, 0, true)], [], .struct, false⟩ := ⟨by kernel_rfl, by kernel_rfl, rfl, rfl, by show (match Try.prog.underlying 112 with | some (.struct _) => true | _ => false) = true; kernel_rfl, by kernel_rfl, by kernel_rfl, by kernel_rfl, by kernel_rfl, (fun h => by cases h)⟩
theorem tok113 : TOk Try.prog 113 ⟨0, 0, true, [(0, 0, true)], [], .struct, false⟩ := ⟨by kernel_rfl, by kernel_rfl, rfl, rfl, by show (match Try.prog.underlying 113 with | some (.struct _) => true | _ => false) = true; kernel_rfl, by kernel_rfl, by kernel_rfl, by kernel_rfl, by kernel_rfl, (fun h => by cases h)⟩
theorem tok114 : TOk Try.prog 114 ⟨1, 4, false, [], [.int .u32 0], .int .u32, false⟩ := ⟨by kernel_rfl, by kernel_rfl, rfl, rfl, by show Try.prog.underlying 114 = some (.int .u32); kernel_rfl, by kernel_rfl, by kernel_rfl, by kernel_rfl, by kernel_rfl, (fun h => by cases h)⟩
theorem tok115 : TOk Try.prog 115 ⟨1, 1, false, [], [.int .u8 0], .int .u8, false⟩ := ⟨by kernel_rfl, by kernel_rfl, rfl, rfl, by show Try.prog.underlying 115 = some (.int .u8); kernel_rfl, by kernel_rfl, by kernel_rfl, by kernel_rfl, by kernel_rfl, (fun h => by cases h)⟩
theorem tok116 : TOk Try.prog 116 ⟨1, 1, false, [], [.int .u8 0], .int .u8, false⟩ := ⟨by kernel_rfl, by kernel_rfl, rfl, rfl, by show Try.prog.underlying 116 = some (.int .u8); kernel_rfl, by kernel_rfl, by kernel_rfl, by kernel_rfl, by kernel_rfl, (fun h => by cases h)⟩
theorem tok117 : TOk Try.prog 117 ⟨1, 8, false, [], [.val .nilFunc], .other none, false⟩ := ⟨by kernel_rfl, by kernel_rfl, rfl, rfl, trivial, by kernel_rfl, by kernel_rfl, by kernel_rfl, by kernel_rfl, (fun h => by cases h)⟩
theorem tok118 : TOk Try.prog 118 ⟨1, 4, false, [], [.int .i32 0], .int .i32, false⟩ := ⟨by kernel_rfl, by kernel_rfl, rfl, rfl, by show Try.prog.underlying 118 = some (.int .i32); kernel_rfl, by kernel_rfl, by kernel_rfl, by kernel_rfl, by kernel_rfl, (fun h => by cases h)⟩
theorem tok119 : TOk Try.prog 119 ⟨1, 4, false, [], [.int .i32 0], .int .i32, false⟩ := ⟨by kernel_rfl, by kernel_rfl, rfl, rfl, by show Try.prog.underlying 119 = some (.int .i32); kernel_rfl, by kernel_rfl, by kernel_rfl, by kernel_rfl, by kernel_rfl, (fun h => by cases h)⟩
theorem tok120 : TOk Try.prog 120 ⟨11, 48, true, [(0, 1, false), (1, 1, false), (2, 1, false), (3, 1, false), (4, 1, false), (5, 1, false), (6, 1, false), (7, 1, false), (8, 1, false), (9, 1, false), (10, 1, false)], [.int .u64 0, .int .u64 0, .int .u32 0, .int .u8 0, .int .u8 0, .int .u8 0, .int .u8 0, .val .nilFunc, .val (.pointer none), .int .i32 0, .int .i32 0], .struct, false⟩ := ⟨by kernel_rfl, by kernel_rfl, rfl, rfl, by show (match Try.prog.underlying 120 with | some (.struct _) => true | _ => false) = true; kernel_rfl, by kernel_rfl, by kernel_rfl, by kernel_rfl, by kernel_rfl, (fun h => by cases h)⟩
theorem tok121 : TOk Try.prog 121 ⟨11, 48, true, [(0, 1, false), (1, 1, false), (2, 1, false), (3, 1, false), (4, 1, false), (5, 1, false), (6, 1, false), (7, 1, false), (8, 1, false), (9, 1, false), (10, 1, false)], [.int .u64 0, .int .u64 0, .int .u32 0, .int .u8 0, .int .u8 0, .int .u8 0, .int .u8 0, .val .nilFunc, .val (.pointer none), .int .i32 0, .int .i32 0], .struct, false⟩ := ⟨by kernel_rfl, by kernel_rfl, rfl, rfl, by show (match Try.prog.underlying 121 with | some (.struct _) => true | _ => false) = true; kernel_rfl, by kernel_rfl, by kernel_rfl, by kernel_rfl, by kernel_rfl, (fun h => by cases h)⟩
theorem tab_ok : TT Try.prog tab := by
  intro t y h
  unfold tab at h
  split at h <;> first | (injection h with h; subst h; first | exact tok1 | exact tok2 | exact tok3 | exact tok4 | exact tok5 | exact tok6 | exact tok7 | exact tok8 | exact tok9 | exact tok10 | exact tok11 | exact tok12 | exact tok13 | exact tok14 | exact tok15 | exact tok16 | exact tok17 | exact tok18 | exact tok19 | exact tok20 | exact tok21 | exact tok22 | exact tok23 | exact tok24 | exact tok25 | exact tok26 | exact tok27 | exact tok28 | exact tok29 | exact tok30 | exact tok32 | exact tok33 | exact tok34 | exact tok35 | exact tok37 | exact tok38 | exact tok39 | exact tok40 | exact tok41 | exact tok42 | exact tok43 | exact tok44 | exact tok45 | exact tok47 | exact tok48 | exact tok49 | exact tok50 | exact tok51 | exact tok52 | exact tok53 | exact tok54 | exact tok55 | exact tok56 | exact tok57 | exact tok58 | exact tok60 | exact tok61 | exact tok62 | exact tok63 | exact tok64 | exact tok65 | exact tok66 | exact tok67 | exact tok68 | exact tok69 | exact tok71 | exact tok72 | exact tok73 | exact tok74 | exact tok75 | exact tok76 | exact tok77 | exact tok78 | exact tok79 | exact tok80 | exact tok81 | exact tok82 | exact tok83 | exact tok84 | exact tok85 | exact tok86 | exact tok87 | exact tok88 | exact tok89 | exact tok90 | exact tok91 | exact tok92 | exact tok93 | exact tok95 | exact tok96 | exact tok97 | exact tok98 | exact tok100 | exact tok101 | exact tok102 | exact tok103 | exact tok105 | exact tok106 | exact tok108 | exact tok109 | exact tok110 | exact tok112 | exact tok113 | exact tok114 | exact tok115 | exact tok116 | exact tok117 | exact tok118 | exact tok119 | exact tok120 | exact tok121) | cases h
attribute [go_sem] tab1 tab2 tab3 tab4 tab5 tab6 tab7 tab8 tab9 tab10 tab11 tab12 tab13 tab14 tab15 tab16 tab17 tab18 tab19 tab20 tab21 tab22 tab23 tab24 tab25 tab26 tab27 tab28 tab29 tab30 tab32 tab33 tab34 tab35 tab37 tab38 tab39 tab40 tab41 tab42 tab43 tab44 tab45 tab47 tab48 tab49 tab50 tab51 tab52 tab53 tab54 tab55 tab56 tab57 tab58 tab60 tab61 tab62 tab63 tab64 tab65 tab66 tab67 tab68 tab69 tab71 tab72 tab73 tab74 tab75 tab76 tab77 tab78 tab79 tab80 tab81 tab82 tab83 tab84 tab85 tab86 tab87 tab88 tab89 tab90 tab91 tab92 tab93 tab95 tab96 tab97 tab98 tab100 tab101 tab102 tab103 tab105 tab106 tab108 tab109 tab110 tab112 tab113 tab114 tab115 tab116 tab117 tab118 tab119 tab120 tab121
end Go.Proofs.Ytolhbjfaahcekaa
end
section
/- The machine does what the rules say: operation by operation. -/
set_option linter.unusedVariables false
set_option linter.unusedSimpArgs false
namespace Go.Proofs.Ytolhbjfaahcekaa

section
variable {P : Program} {tt : TTab} {nt : Nat} {o : Oper} {env : Env} {st : St} {G : Gh} {a : Act} {w : World}
theorem ARep.put (r : ARep G nt env a) {x : PV} {v : Value} (h : Rep G x v) (d : Option Tmp) : ARep G nt (put nt d env x) (a.put d v) := by
  cases d with
  | none => exact r
  | some d =>
    simp only [Proofs.Ytolhbjfaahcekaa.put, Act.put]
    refine ⟨r.defers, by simp [r.size], fun i y e => ?_⟩
    split at e
    · rename_i hd
      simp only [eget] at e
      split at e
      · rename_i hi
        subst hi
        injection e with e
        subst e
        exact ⟨v, by simp [Array.getElem?_setIfInBounds, r.size, hd], h⟩
      · rename_i hi
        obtain ⟨u, h1, h2⟩ := r.get i y e
        exact ⟨u, by simp only [Array.getElem?_setIfInBounds]; rw [if_neg (fun e => hi e.symm)]; exact h1, h2⟩
    · rename_i hd
      obtain ⟨u, h1, h2⟩ := r.get i y e
      refine ⟨u, ?_, h2⟩
      have : i ≠ d := by
        rintro rfl
        have := (Array.getElem?_eq_some_iff.1 h1).1
        rw [r.size] at this
        exact hd this
      simp only [Array.getElem?_setIfInBounds]
      rw [if_neg (Ne.symm this)]
      exact h1
theorem ARep.evs (r : ARep G nt env a) : ∀ {os : List Operand} {xs : List PV}, evs env os = some xs → Reps G xs (os.map a.eval)
  | [], xs, h => by injection h with h; subst h; exact .nil
  | o :: os, xs, h => by
    simp only [Proofs.Ytolhbjfaahcekaa.evs] at h
    split at h
    · rename_i x ys h1 h2
      injection h with h
      subst h
      exact .cons _ _ _ _ (r.ev h1) (ARep.evs r h2)
    · cases h
/-- What the rest asks. -/
def Goes (G : Gh) (nt : Nat) (K : Env → St → Prop) (next : Act → World → Prop) : Prop :=
  ∀ G' env' st' a' w', G.le G' → Inv G' st' w' → ARep G' nt env' a' → K env' st' → next a' w'
variable {K : Env → St → Prop} {next : Act → World → Prop} {Q : Exit → Act → World → Prop}
theorem wp_value {v : Value} {w' : World} {G' : Gh} {st' : St} {x : PV} (hr : (execOp a.eval o).run P w = .ok (.value v) w') (hle : G.le G') (hi : Inv G' st' w') (ha : ARep G nt env a) (hx : Rep G' x v) (hk : K (put nt o.dst env x) st')
    (hn : Goes G nt K next) : o.wp P a w next Q := by
  unfold Oper.wp
  rw [hr, Oper.upon_value]
  exact hn G' _ st' _ w' hle hi ((ha.mono hle).put hx o.dst) hk
theorem wp_skips {w' : World} {G' : Gh} {st' : St} (hr : (execOp a.eval o).run P w = .ok .skip w') (hle : G.le G') (hi : Inv G' st' w') (ha : ARep G nt env a) (hk : K (put nt o.dst env (.val undef)) st')
    (hn : Goes G nt K next) : o.wp P a w next Q := by
  unfold Oper.wp
  rw [hr, Oper.upon_skip]
  exact hn G' _ st' _ w' hle hi ((ha.mono hle).put (.val undef) o.dst) hk
theorem run_callFunc {f : FuncId} (h : Enters P f) (args : Array Value) (w : World) : (callFunc f args).run P w = .ok (.enter f args) w := by
  obtain ⟨fn, h1, h2, h3⟩ := h
  simp only [callFunc, Sem.run_bind, run_program, Result.andThen_ok, h1, h2, h3, Bool.false_eq_true, if_false, Sem.run_pure]
theorem wp_enters {f : FuncId} {args : List PV} {vs : List Value} (hr : (execOp a.eval o).run P w = (callFunc f vs.toArray).run P w) (hi : Inv G st w) (ha : ARep G nt env a) (hv : Reps G args vs)
    (hc : PC P f args st fun r st' => K (put nt o.dst env r) st') (hn : Goes G nt K next) : o.wp P a w next Q := by
  unfold Oper.wp
  rw [hr]
  rcases hc G w vs hi hv with ⟨h1, h2⟩ | ⟨v, w', h1, G', r, st', h2, h3, h4, h5, _⟩
  · rw [run_callFunc h1, Oper.upon_enter]
    refine h2.mono ?_
    rintro e w' ⟨v, rfl, G', r, st', h1, h2, h3, h4, _⟩
    exact hn G' _ st' _ w' h1 h2 ((ha.mono h1).put h3 o.dst) h4
  · rw [h1, Oper.upon_value]
    exact hn G' _ st' _ w' h2 h3 ((ha.mono h2).put h4 o.dst) h5

theorem foldl_set (cs : List Value) (vs : List Value) (o k : Nat) (h : o + k + vs.length ≤ cs.length) :
    ((vs.zipIdx k).foldl (fun (acc : Array Value) (x : Value × Nat) => acc.setIfInBounds (o + x.2) x.1) cs.toArray).toList = cs.take (o + k) ++ vs ++ cs.drop (o + k + vs.length) := by
  induction vs generalizing cs k with
  | nil => simp
  | cons v vs ih =>
    simp only [List.zipIdx_cons, List.foldl_cons]
    have hl : o + k < cs.length := by simp at h; omega
    have e : (cs.toArray.setIfInBounds (o + k) v) = (cs.set (o + k) v).toArray := by simp
    rw [e, ih (cs.set (o + k) v) (k + 1) (by simp at h ⊢; omega)]
    have h1 : (cs.set (o + k) v).take (o + (k + 1)) = cs.take (o + k) ++ [v] := by
      rw [show o + (k + 1) = (o + k) + 1 from by omega, List.take_succ_eq_append_getElem (by simpa using hl)]
      simp [List.take_set_of_le]
    have h2 : (cs.set (o + k) v).drop (o + (k + 1) + vs.length) = cs.drop (o + k + (v :: vs).length) := by
      rw [List.drop_set_of_lt (by omega)]
      congr 1
      simp
      omega
    rw [h1, h2]
    simp
theorem fill_ok {flds : List (Nat × Nat × Bool)} (place : Nat → Option (Nat × Nat)) (hp : ∀ i o n ag, flds[i]? = some (o, n, ag) → place i = some (o, n)) :
    ∀ (ps : List (Nat × PV)) (us : List (Nat × Value)) (cs cs' : List PV) (vs : List Value), ps.map (·.1) = us.map (·.1) → Reps G (ps.map (·.2)) (us.map (·.2)) → Reps G cs vs → (∀ x ∈ cs, x.isCell = true) → fillPV flds cs ps = some cs' →
      ∃ vs', Instr.fill place vs.toArray us = some vs'.toArray ∧ Reps G cs' vs' ∧ ∀ x ∈ cs', x.isCell = true
  | [], us, cs, cs', vs, hi, hr, hv, hc, h => by
    injection h with h
    subst h
    cases us with
    | nil => exact ⟨vs, rfl, hv, hc⟩
    | cons => simp at hi
  | (i, x) :: ps, us, cs, cs', vs, hi, hr, hv, hc, h => by
    cases us with
    | nil => simp at hi
    | cons u us =>
    obtain ⟨j, u⟩ := u
    simp only [List.map_cons, List.cons.injEq] at hi
    obtain ⟨rfl, hi⟩ := hi
    simp only [fillPV] at h
    split at h
    · rename_i o n ag hf
      split at h
      · rename_i hcond
        obtain ⟨h1, h2, h3⟩ := hcond
        cases hr with
        | cons _ _ _ _ hx hr =>
        have hxc : ∀ z ∈ x.cells, z.isCell = true := by simpa using h3
        have hu := hx.cells hxc
        have hul := hu.length
        have hvl := hv.length
        have hus : u.cells.size = n := by simp at hul; omega
        obtain ⟨vs', e1, e2, e3⟩ := fill_ok place hp ps us (splice cs o x.cells) cs' (vs.take o ++ u.cells.toList ++ vs.drop (o + u.cells.toList.length)) hi hr (splice_reps hv hu o) (by
          intro z hz
          simp only [splice, List.mem_append] at hz
          rcases hz with (hz | hz) | hz
          · exact hc z (List.mem_of_mem_take hz)
          · exact hxc z hz
          · exact hc z (List.mem_of_mem_drop hz)) h
        refine ⟨vs', ?_, e2, e3⟩
        have hfold := foldl_set vs u.cells.toList o 0 (by simp; omega)
        simp only [Nat.add_zero] at hfold
        rw [← e1]
        simp only [Instr.fill, hp i o n ag hf]
        rw [if_neg (by simp [hus]; omega)]
        congr 1
        apply Array.ext'
        rw [← hfold]
        congr 1
        rw [← Array.foldl_toList]
        congr 1
        simp
      · cases h
    · cases h

theorem evParts_ok (r : ARep G nt env a) : ∀ {ps : List (Nat × Operand)} {xs : List (Nat × PV)}, evParts env ps = some xs → xs.map (·.1) = (ps.map fun x => (x.1, a.eval x.2)).map (·.1) ∧ Reps G (xs.map (·.2)) ((ps.map fun x => (x.1, a.eval x.2)).map (·.2))
  | [], xs, h => by injection h with h; subst h; exact ⟨rfl, .nil⟩
  | (i, o) :: ps, xs, h => by
    simp only [evParts] at h
    split at h
    · rename_i x ys h1 h2
      injection h with h
      subst h
      obtain ⟨h3, h4⟩ := evParts_ok r h2
      exact ⟨by simp at h3 ⊢; exact h3, .cons _ _ _ _ (r.ev h1) h4⟩
    · cases h
theorem dense_ok : ∀ {n : Nat} {ps : List (Nat × PV)} {xs : List PV}, dense n ps = some xs → ps.map (·.1) = (xs.zipIdx n).map (·.2) ∧ ps.map (·.2) = xs
  | n, [], xs, h => by injection h with h; subst h; simp
  | n, (i, x) :: ps, xs, h => by
    simp only [dense] at h
    split at h
    · rename_i hi
      subst hi
      cases hd : dense (i + 1) ps with
      | none => rw [hd] at h; cases h
      | some ys =>
        rw [hd] at h
        injection h with h
        subst h
        obtain ⟨h1, h2⟩ := dense_ok hd
        exact ⟨by simp [h1], by simp [h2]⟩
    · cases h
theorem TK.struct_inv {y : TyI} {T : TypeId} (h : TOk P T y) (hk : y.k = .struct) : ∃ fs, P.underlying T = some (.struct fs) := by
  have := h.und
  rw [hk] at this
  simp only [TK.ok] at this
  split at this
  · exact ⟨_, by assumption⟩
  · cases this
theorem TOk.fld {y : TyI} {T : TypeId} (h : TOk P T y) {fs : Array Field} (hu : P.underlying T = some (.struct fs)) {f off n : Nat} {ag : Bool} (hf : y.flds[f]? = some (off, n, ag)) :
    ∃ fd, fs[f]? = some fd ∧ fd.offset = off ∧ (∃ i, P.info? fd.type = some i ∧ i.size = n) ∧ agB P fd.type = ag ∧ (P.underlying fd.type).isSome = true := by
  have h1 := h.flds
  have h2 := h.fok
  simp only [fldB, hu] at h1
  simp only [fokB, hu] at h2
  rw [← h1, List.getElem?_map, Array.getElem?_toList] at hf
  cases hfd : fs[f]? with
  | none => rw [hfd] at hf; simp at hf
  | some fd =>
    rw [hfd] at hf
    simp at hf
    have hm : fd ∈ fs.toList := by
      rw [← Array.getElem?_toList] at hfd
      exact List.mem_of_getElem? hfd
    have h3 := List.all_eq_true.1 h2 fd hm
    simp only [Bool.and_eq_true] at h3
    obtain ⟨i, hi⟩ := Option.isSome_iff_exists.1 h3.1
    rw [hi] at hf
    simp at hf
    exact ⟨fd, rfl, hf.1, ⟨i, hi, hf.2.1⟩, hf.2.2, h3.2⟩
theorem run_isAgg' {t : TypeId} (h : (P.underlying t).isSome = true) (w : World) : (isAgg t).run P w = .ok (agB P t) w := by
  obtain ⟨d, hd⟩ := Option.isSome_iff_exists.1 h
  simp only [agB, hd]
  cases d <;> simp [isAgg, underlying, hd]
theorem run_sizeOf' {t : TypeId} {i : TypeInfo} (h : P.info? t = some i) (w : World) : (sizeOf t).run P w = .ok i.size w := by simp [sizeOf, typeInfo, h]
theorem run_part' {t : TypeId} {i : TypeInfo} (h : P.info? t = some i) (hs : (P.underlying t).isSome = true) (cs : Array Value) (off : Nat) (w : World) :
    (agB P t = true → (part t cs off).run P w = .ok (.agg (cs.extract off (off + i.size))) w) ∧ (agB P t = false → ∀ v, cs[off]? = some v → (part t cs off).run P w = .ok v w) := by
  refine ⟨fun ha => ?_, fun ha v hv => ?_⟩
  · simp [part, run_isAgg' hs, ha, run_sizeOf' h]
  · simp [part, run_isAgg' hs, ha, hv]
end
end Go.Proofs.Ytolhbjfaahcekaa
end
section
/- The machine does what the rules say: all operations; regions. -/
set_option linter.unusedVariables false
set_option linter.unusedSimpArgs false
namespace Go.Proofs.Ytolhbjfaahcekaa

section
variable {P : Program} {tt : TTab} {nt : Nat} {o : Oper} {env : Env} {st : St} {G : Gh} {a : Act} {w : World}
variable {K : Env → St → Prop} {next : Act → World → Prop} {Q : Exit → Act → World → Prop}

theorem ok_alloc (ht : TT P tt) {T : TypeId} (ho : o.op = .alloc T) {y : TyI} (hy : tt T = some y) (hk : K (put nt o.dst env (.ref st.box.length 0)) { st with box := st.box ++ [y.zero] })
    (hi : Inv G st w) (ha : ARep G nt env a) (hn : Goes G nt K next) : o.wp P a w next Q := by
  have hy' := ht T y hy
  obtain ⟨z, hz, hzc⟩ := hy'.run_zero w
  obtain ⟨h1, h2⟩ := reps_simple G hy'.simple
  have hzv : z.cells = (y.zero.map PV.toV).toArray := by rw [← hzc]
  refine wp_value (v := .pointer (some ⟨w.heap.size, 0, none⟩)) (x := .ref st.box.length 0) ?_ (Gh.le_addRef G w.heap.size) (hi.newBox h1 h2 T) ha (.ref _ _ _ (addRef_get hi _)) hk hn
  unfold execOp
  simp only [ho]
  simp [Instr.alloc, hz, newVar, newRow, hzv]
theorem ok_box {T : TypeId} {x : Operand} (ho : o.op = .box T x) {p : PV} (hx : ev env x = some p) (hc : p.cells.all PV.isCell = true) (hk : K (put nt o.dst env (.ref st.box.length 0)) { st with box := st.box ++ [p.cells] })
    (hi : Inv G st w) (ha : ARep G nt env a) (hn : Goes G nt K next) : o.wp P a w next Q := by
  have hcl : ∀ y ∈ p.cells, y.isCell = true := by simpa using hc
  have hr := (ha.ev hx).cells hcl
  refine wp_value (v := .pointer (some ⟨w.heap.size, 0, none⟩)) (x := .ref st.box.length 0) ?_ (Gh.le_addRef G w.heap.size) (hi.newBox hr hcl T) ha (.ref _ _ _ (addRef_get hi _)) hk hn
  unfold execOp
  simp only [ho]
  simp [Instr.box, newVar, newRow]
theorem places_ok : ∀ (l : List Field), (l.all fun f => (P.info? f.type).isSome && (P.underlying f.type).isSome) = true →
    ∃ pl : List (Nat × Nat), l.mapM (fun f => (P.info? f.type).map fun i => (f.offset, i.size)) = some pl ∧
      ∀ (i o n : Nat) (ag : Bool), (l.map fun f => (f.offset, ((P.info? f.type).map (·.size)).getD 0, agB P f.type))[i]? = some (o, n, ag) → pl.toArray[i]? = some (o, n)
  | [], _ => ⟨[], by simp, by simp⟩
  | f :: l, h => by
    simp only [List.all_cons, Bool.and_eq_true] at h
    obtain ⟨pl, e1, e2⟩ := places_ok l h.2
    obtain ⟨j, hj⟩ := Option.isSome_iff_exists.1 h.1.1
    refine ⟨(f.offset, j.size) :: pl, by simp [List.mapM_cons, hj, e1], ?_⟩
    intro i o n ag h
    cases i with
    | zero => simp [hj] at h; simp [h.1, h.2.1]
    | succ i => simp only [List.map_cons, List.getElem?_cons_succ] at h; simpa using e2 i o n ag h
theorem ok_build (ht : TT P tt) {T : TypeId} {ps : Array (Nat × Operand)} (ho : o.op = .build T ps) {y : TyI} {xs : List (Nat × PV)} {cs : List PV} (hy : tt T = some y) (hs : y.k = .struct) (hp : evParts env ps.toList = some xs) (hf : fillPV y.flds y.zero xs = some cs)
    (hk : K (put nt o.dst env (.agg cs)) st) (hi : Inv G st w) (ha : ARep G nt env a) (hn : Goes G nt K next) : o.wp P a w next Q := by
  have hy' := ht T y hy
  obtain ⟨fs, hu⟩ := TK.struct_inv hy' hs
  obtain ⟨i, z, hinfo, hsz, _, hz, hzc⟩ := hy'.info
  obtain ⟨h1, h2⟩ := reps_simple G hy'.simple
  obtain ⟨h3, h4⟩ := evParts_ok ha hp
  -- where the fields lie
  have hfl := hy'.flds
  have hfok := hy'.fok
  simp only [fldB, hu] at hfl
  simp only [fokB, hu] at hfok
  obtain ⟨pl, hpl1, hpl2⟩ := places_ok fs.toList hfok
  rw [hfl] at hpl2
  obtain ⟨vs', e1, e2, e3⟩ := fill_ok (flds := y.flds) (fun i => pl.toArray[i]?) hpl2 xs (ps.toList.map fun x => (x.1, a.eval x.2)) y.zero cs (y.zero.map PV.toV) h3 h4 h1 h2 hf
  refine wp_value (v := .agg vs'.toArray) (x := .agg cs) ?_ (.refl G) hi ha (.agg _ _ e3 e2) hk hn
  unfold execOp
  simp only [ho]
  have hb : P.built T (ps.map fun (i, x) => (i, a.eval x)).toList = some vs'.toArray := by
    have hzv : z.cells = (y.zero.map PV.toV).toArray := by rw [← hzc]
    unfold Program.built
    simp only [hinfo, hu, hz]
    rw [hpl1]
    show Instr.fill (fun x => pl.toArray[x]?) z.cells _ = _
    rw [hzv, Array.toList_map]
    exact e1
  simp [run_build w T _ _ hb]
theorem evs_dense (ha : ARep G nt env a) {ps : List (Nat × Operand)} {ps' : List (Nat × PV)} {xs : List PV} (hp : evParts env ps = some ps') (hd : dense 0 ps' = some xs) :
    ∃ vs : List Value, (ps.map fun x => (x.1, a.eval x.2)) = (vs.zipIdx 0).map (fun x => (x.2, x.1)) ∧ Reps G xs vs := by
  obtain ⟨h1, h2⟩ := evParts_ok ha hp
  obtain ⟨h3, h4⟩ := dense_ok hd
  refine ⟨ps.map fun x => a.eval x.2, ?_, ?_⟩
  · have hl := congrArg List.length h1
    simp only [List.length_map] at hl
    have hxl : xs.length = ps.length := by rw [← h4]; simpa using hl
    apply List.ext_getElem?
    intro i
    rw [List.getElem?_map, List.getElem?_map, List.getElem?_zipIdx, List.getElem?_map]
    have e : ((ps.map fun x => (x.1, a.eval x.2)).map (·.1))[i]? = ((xs.zipIdx 0).map (·.2))[i]? := by rw [← h1, h3]
    simp only [List.getElem?_map, List.getElem?_zipIdx] at e
    cases hps : ps[i]? with
    | none => simp
    | some x =>
      rw [hps] at e
      have : i < xs.length := by rw [hxl]; exact (List.getElem?_eq_some_iff.1 hps).1
      rw [List.getElem?_eq_getElem this] at e
      simp at e
      simp [e]
  · rw [← h4]
    simpa [List.map_map, Function.comp_def] using h2
theorem flatMap_cells {xs : List PV} {vs : List Value} (h : Reps G xs vs) (hc : ∀ x ∈ xs, ∀ y ∈ x.cells, y.isCell = true) : Reps G (cellsOf xs) (vs.flatMap fun v => v.cells.toList) := by
  induction xs generalizing vs with
  | nil => cases h; exact .nil
  | cons x xs ih => cases h with
    | cons _ v _ vs h t =>
      rw [cellsOf_cons, List.flatMap_cons]
      exact (h.cells (hc x (by simp))).append (ih t fun y hy => hc y (by simp [hy]))
theorem ok_buildSlice (ht : TT P tt) {ow : List Nat} {T : TypeId} {n : Nat} {ps : Array (Nat × Operand)} (ho : o.op = .buildSlice T n ps) {y ye : TyI} {e : TypeId} {ps' : List (Nat × PV)} {xs : List PV} (hy : tt T = some y) (hs : y.k = .slice e) (hye : tt e = some ye)
    (hp : evParts env ps.toList = some ps') (hd : dense 0 ps' = some xs) (hl : xs.length = n) (h0 : 0 < ye.size) (hmax : n * ye.size ≤ 16777216) (hc : ∀ x ∈ xs, x.cells.length = ye.size ∧ x.cells.all PV.isCell = true)
    (hk : if owns ow o.dst = true then K (put nt o.dst env (.list ye.size xs (.own st.len.length))) { st with len := st.len ++ [n] } else K (put nt o.dst env (.list ye.size xs .no)) st)
    (hi : Inv G st w) (ha : ARep G nt env a) (hn : Goes G nt K next) : o.wp P a w next Q := by
  have hy' := ht T y hy
  have hye' := ht e ye hye
  obtain ⟨i, z, hinfo, hsz, hby, hz, hzc⟩ := hye'.info
  have hu : P.underlying T = some (.slice e) := by have := hy'.und; rw [hs] at this; exact this
  have hzs : z.cells.size = ye.size := by
    have := congrArg List.length hzc
    simp at this
    rw [this, hye'.zlen]
  obtain ⟨vs, hvs, hr⟩ := evs_dense ha hp hd
  have hcell : ∀ x ∈ xs, ∀ y ∈ x.cells, y.isCell = true := fun x hx => by simpa using (hc x hx).2
  have hflat := flatMap_cells hr hcell
  have hvl := hr.length
  have hvsz : ∀ v ∈ vs, v.cells.size = ye.size := by
    intro v hv
    obtain ⟨j, hj⟩ := List.mem_iff_getElem?.1 hv
    have hj2 : j < xs.length := by rw [hvl]; exact (List.getElem?_eq_some_iff.1 hj).1
    obtain ⟨u, hu, hru⟩ := hr.get j _ (List.getElem?_eq_getElem hj2)
    rw [hj] at hu
    injection hu with hu
    subst hu
    have := (hru.cells (hcell _ (List.getElem_mem hj2))).length
    rw [(hc _ (List.getElem_mem hj2)).1] at this
    simpa using this.symm
  have hcl : ∀ x ∈ cellsOf xs, x.isCell = true := by
    intro x hx
    simp only [cellsOf, List.mem_flatMap] at hx
    obtain ⟨y, hy, hx⟩ := hx
    exact hcell y hy x hx
  have hxs : ∀ x ∈ xs, x.cells.length = ye.size := fun x hx => (hc x hx).1
  have hfl : (vs.flatMap fun v => v.cells.toList).length = n * ye.size := by rw [← hflat.length, cellsOf_length hxs, hl]
  have hrun : (execOp a.eval o).run P w = .ok (.value (.slice (some ⟨w.heap.size, 0, none⟩) n n)) (w.alloc (.cells (vs.flatMap fun v => v.cells.toList).toArray e)) := by
    unfold execOp
    simp only [ho]
    by_cases hn0 : n = 0
    · subst hn0
      have hx0 : xs = [] := List.eq_nil_of_length_eq_zero hl
      subst hx0
      have hv0 : vs = [] := List.eq_nil_of_length_eq_zero (by simpa using hvl.symm)
      subst hv0
      have hps : ps = #[] := by
        have := congrArg List.length hvs
        simp at this
        exact this
      subst hps
      have hr0 : Array.range 0 = #[] := Array.eq_empty_of_size_eq_zero (by simp)
      simp [Instr.buildSlice, run_underlying hu, sizeOf, typeInfo, zeroValue, hinfo, Instr.fill, newRow, hr0]
    · have hfw := Great.fill_whole h0 vs ((Array.range (n * ye.size)).map (z.cells[· % z.cells.size]!)) hvsz (by simp; rw [← hl, hvl])
      have hparts : (ps.map fun (i, x) => (i, a.eval x)).toList = (vs.zipIdx 0).map fun x => (x.2, x.1) := by rw [Array.toList_map]; exact hvs
      have hpos : ¬ n * i.size = 0 := by rw [hsz]; exact Nat.ne_of_gt (Nat.mul_pos (by omega) h0)
      have := run_buildSlice w T e n (ps.map fun (i, x) => (i, a.eval x)) _ i z hu hinfo hz (by rw [hsz]; omega) hpos (by rw [hsz, hparts]; exact hfw)
      simp [this]
  have hdat := hi.newDat (vs.flatMap fun v => v.cells.toList) e _ List.prefix_rfl
  split at hk
  · -- it will be appended to
    have hi' := hi.addLen
    obtain ⟨hle, hinv⟩ := hi'.grow (w' := w.alloc (.cells (vs.flatMap fun v => v.cells.toList).toArray e)) (k := st.len.length) (n := 0) (n' := n) (b := w.heap.size) (c := n) (sz := ye.size) (vs := vs.flatMap fun v => v.cells.toList) (us := vs.flatMap fun v => v.cells.toList)
      (by simp) (by omega) (hi.fresh _ _ fun m hm => by simp at hm) rfl rfl rfl (by show w.heap.size ≤ (w.heap.push _).size; simp) (fun j hj _ => by
        show (w.heap.push _)[j]? = _
        rw [Array.getElem?_push, if_neg (by omega)]) (.inl rfl) ⟨e, by
        show (w.heap.push _)[w.heap.size]? = _
        simp⟩ List.prefix_rfl hfl hfl (by
        have : n ≤ n * ye.size := Nat.le_mul_of_pos_right _ h0
        simp only [maxLen]; omega) (by rw [hi.dat_new]; exact List.nil_prefix)
    have hst : ({ box := st.box, len := (st.len ++ [0]).set st.len.length n } : St) = { st with len := st.len ++ [n] } := by
      cases st
      simp
    simp only at hinv
    rw [hst] at hinv
    refine wp_value hrun hle hinv ha ?_ hk hn
    have := Rep.list (G := G.to st.len.length n w.heap.size n ye.size (vs.flatMap fun v => v.cells.toList)) ye.size xs (.own st.len.length) w.heap.size 0 n (vs.flatMap fun v => v.cells.toList) (by simp) (by omega) hxs hcl (hflat.mono hle) (by simp [Gh.to]) (by intro k' hk'; injection hk' with hk'; subst hk'; simp [Gh.to, hl])
    rw [hl] at this
    exact this
  · refine wp_value hrun (Gh.le_addDat hi _) hdat ha ?_ hk hn
    have := Rep.list (G := G.addDat w.heap.size (vs.flatMap fun v => v.cells.toList)) ye.size xs .no w.heap.size 0 n (vs.flatMap fun v => v.cells.toList) (by simp) (by omega) hxs hcl (hflat.mono (Gh.le_addDat hi _)) (by simp [Gh.addDat]) (by simp)
    rw [hl] at this
    exact this
end
end Go.Proofs.Ytolhbjfaahcekaa
end
section
/- The machine does what the rules say: every operation; a region in its text's order. -/
set_option linter.unusedVariables false
set_option linter.unusedSimpArgs false
namespace Go.Proofs.Ytolhbjfaahcekaa

section
variable {P : Program} {tt : TTab} {nt : Nat} {o : Oper} {env : Env} {st : St} {G : Gh} {a : Act} {w : World}
variable {K : Env → St → Prop} {next : Act → World → Prop} {Q : Exit → Act → World → Prop}

theorem run_lo {lo : Option PV} {l : Option Value} (h : ∀ x, lo = some x → ∃ v, l = some v ∧ Rep G x v) (h0 : lo = none → l = none) : (lo = none ∧ l = none) ∨ ∃ x v, lo = some x ∧ l = some v ∧ Rep G x v := by
  cases lo with
  | none => exact .inl ⟨rfl, h0 rfl⟩
  | some x => obtain ⟨v, h1, h2⟩ := h x rfl; exact .inr ⟨x, v, rfl, h1, h2⟩
theorem extract_mk (l : List UInt8) (a b : Nat) (h : a ≤ b) (hb : b ≤ l.length) : (⟨l.toArray⟩ : ByteArray).extract a b = ⟨((l.take b).drop a).toArray⟩ := by
  apply ByteArray.ext
  apply Array.ext'
  simp
  rw [List.take_drop]
  congr 2
  omega
theorem flatMap_take {xs : List PV} {sz : Nat} (h : ∀ x ∈ xs, x.cells.length = sz) : ∀ n, cellsOf (xs.take n) = (cellsOf xs).take (n * sz) := by
  induction xs with
  | nil => simp
  | cons x xs ih =>
    intro n
    cases n with
    | zero => simp
    | succ n =>
      have hx := h x (by simp)
      rw [List.take_succ_cons, cellsOf_cons, cellsOf_cons, ih (fun y hy => h y (by simp [hy])) n, List.take_append, hx, Nat.add_mul, Nat.one_mul]
      rw [List.take_of_length_le (l := x.cells) (by rw [hx]; omega)]
      congr 2
      omega
theorem flatMap_drop {xs : List PV} {sz : Nat} (h : ∀ x ∈ xs, x.cells.length = sz) : ∀ n, cellsOf (xs.drop n) = (cellsOf xs).drop (n * sz) := by
  induction xs with
  | nil => simp
  | cons x xs ih =>
    intro n
    cases n with
    | zero => simp
    | succ n =>
      have hx := h x (by simp)
      rw [List.drop_succ_cons, cellsOf_cons, ih (fun y hy => h y (by simp [hy])) n, List.drop_append, hx, Nat.add_mul, Nat.one_mul]
      rw [List.drop_of_length_le (l := x.cells) (by rw [hx]; omega)]
      simp
/-- A slice's cut. -/
theorem rep_cut {sz : Nat} {xs : List PV} {b o c : Nat} {vs : List Value} {l h : Nat} (hlh : l ≤ h) (hh : h ≤ xs.length) (hc : xs.length ≤ c) (hs : ∀ x ∈ xs, x.cells.length = sz) (h1 : ∀ x ∈ cellsOf xs, x.isCell = true) (hv : Reps G (cellsOf xs) vs)
    (hd : vs <+: (G.dat b).drop o) : Rep G (.list sz ((xs.take h).drop l) .no) (.slice (some (if c = l then ⟨b, o, none⟩ else (⟨b, o, none⟩ : Addr).add (l * sz))) (h - l) (c - l)) := by
  have hlen : ((xs.take h).drop l).length = h - l := by simp; omega
  have hmem : ∀ x ∈ (xs.take h).drop l, x ∈ xs := fun x hx => List.mem_of_mem_take (List.mem_of_mem_drop hx)
  have hcs : cellsOf ((xs.take h).drop l) = ((cellsOf xs).take (h * sz)).drop (l * sz) := by
    rw [flatMap_drop (sz := sz) (fun x hx => hs x (List.mem_of_mem_take hx)), flatMap_take hs]
  have hr : Reps G (cellsOf ((xs.take h).drop l)) ((vs.take (h * sz)).drop (l * sz)) := by rw [hcs]; exact (hv.take _).drop _
  have hcell : ∀ x ∈ cellsOf ((xs.take h).drop l), x.isCell = true := by
    rw [hcs]; intro x hx; exact h1 x (List.mem_of_mem_take (List.mem_of_mem_drop hx))
  have hsz : ∀ x ∈ (xs.take h).drop l, x.cells.length = sz := fun x hx => hs x (hmem x hx)
  by_cases hcl : c = l
  · have h0 : (xs.take h).drop l = [] := List.eq_nil_of_length_eq_zero (by omega)
    rw [if_pos hcl, h0, show h - l = 0 from by omega]
    exact Rep.list sz [] .no b o (c - l) [] (by simp) (by simp) (by simp) (by simp) .nil List.nil_prefix (by simp)
  · rw [if_neg hcl, add_lit]
    have hp : (vs.take (h * sz)).drop (l * sz) <+: (G.dat b).drop (o + l * sz) := by
      rw [← List.drop_drop]
      have h3 : (vs.take (h * sz)).drop (l * sz) <+: vs.drop (l * sz) := by
        rw [List.drop_take]
        exact List.take_prefix _ _
      refine h3.trans ?_
      rcases Nat.lt_or_ge vs.length (l * sz) with hlt | hge
      · rw [List.drop_eq_nil_of_le (by omega)]; exact List.nil_prefix
      · exact prefix_drop hd _ hge
    have := Rep.list (G := G) sz ((xs.take h).drop l) .no b (o + l * sz) (c - l) _ (by simp) (by rw [hlen]; omega) hsz hcell hr hp (by simp)
    rw [hlen] at this
    exact this
theorem evo_ok (ha : ARep G nt env a) {lo : Option Operand} {l : Option PV} (h : evo env lo = some l) : (l = none ∧ lo.map a.eval = none) ∨ ∃ x, l = some x ∧ ∃ v, lo.map a.eval = some v ∧ Rep G x v := by
  cases lo with
  | none => simp [evo] at h; exact .inl ⟨h.symm, rfl⟩
  | some o =>
    simp only [evo] at h
    cases he : ev env o with
    | none => rw [he] at h; simp at h
    | some x =>
      rw [he] at h
      simp at h
      exact .inr ⟨x, h.symm, _, rfl, ha.ev he⟩
theorem run_bound (k : IntKind) (n : Int) (y : Nat) (code : BoundsCode) (h0 : 0 ≤ n) (h1 : n ≤ y) (w : World) : (Instr.sliceBound (.int k n) y code).run P w = .ok n.toNat w := by
  simp [Instr.sliceBound, asIntOf, h0, h1]

theorem ok_slice (ht : TT P tt) {T : TypeId} {x : Operand} {lo hi : Option Operand} (ho : o.op = .slice T x lo hi none) {y : TyI} {p : PV} {l h : Option PV} (hy : tt T = some y)
    (hk : match y.k, p with | .str, .str _ => True | .slice _, .list sz _ _ => ∃ e ye, y.k = .slice e ∧ tt e = some ye ∧ ye.size = sz | _, _ => False) (hx : ev env x = some p) (hlo : evo env lo = some l) (hhi : evo env hi = some h)
    (hc : pCut p l h fun r => K (put nt o.dst env r) st) (hi' : Inv G st w) (ha : ARep G nt env a) (hn : Goes G nt K next) : o.wp P a w next Q := by
  have hy' := ht T y hy
  have hrx := ha.ev hx
  have el := evo_ok ha hlo
  have eh := evo_ok ha hhi
  have hexec : (execOp a.eval o).run P w = (do let r ← Instr.sliceAt T (a.eval x) (lo.map a.eval) (hi.map a.eval) none; pure (.value r) : Sem Next).run P w := by
    unfold execOp
    simp only [ho]
    rfl
  cases p <;> try (simp only [pCut] at hc; done)
  case str s =>
    have hu : P.underlying T = some .string := by
      cases hyk : y.k <;> rw [hyk] at hk <;> try exact hk.elim
      have := hy'.und; rw [hyk] at this; exact this
    have e1 := hrx.str_inv
    have hfin : ∀ l' h', (l' : Nat) ≤ h' → h' ≤ s.length → (Instr.sliceBounds false s.length s.length (lo.map a.eval) (hi.map a.eval) none).run P w = .ok (l', h', s.length) w → K (put nt o.dst env (.str ((s.take h').drop l'))) st → o.wp P a w next Q := by
      intro l' h' h1 h2 hb hk'
      refine wp_value (v := .string ⟨((s.take h').drop l').toArray⟩) (x := .str ((s.take h').drop l')) ?_ (.refl G) hi' ha (.str _) hk' hn
      rw [hexec]
      simp [Instr.sliceAt, run_underlying hu, Instr.slice, e1, size_mk, hb, extract_mk _ _ _ h1 h2]
    rcases el with ⟨rfl, el⟩ | ⟨xl, rfl, vl, el, rl⟩ <;> rcases eh with ⟨rfl, eh⟩ | ⟨xh, rfl, vh, eh, rh⟩
    · simp only [pCut] at hc
      exact hfin 0 s.length (by omega) (by omega) (by rw [el, eh]; simp [Instr.sliceBounds]) (by simpa using hc)
    · cases xh <;> try (simp only [pCut] at hc; done)
      rename_i k n
      simp only [pCut] at hc
      cases rh.int_inv
      exact hfin 0 n.toNat (by omega) (by omega) (by rw [el, eh]; simp [Instr.sliceBounds, run_bound k n s.length _ hc.1 hc.2.1]) (by simpa using hc.2.2)
    · cases xl <;> try (simp only [pCut] at hc; done)
      rename_i k n
      simp only [pCut] at hc
      cases rl.int_inv
      exact hfin n.toNat s.length (by omega) (by omega) (by rw [el, eh]; simp [Instr.sliceBounds, run_bound k n s.length _ hc.1 hc.2.1]) (by simpa using hc.2.2)
    · cases xl <;> cases xh <;> try (simp only [pCut] at hc; done)
      rename_i k n k' n'
      simp only [pCut] at hc
      cases rl.int_inv
      cases rh.int_inv
      exact hfin n.toNat n'.toNat (by omega) (by omega) (by rw [el, eh]; simp [Instr.sliceBounds, run_bound k' n' s.length _ (by omega) hc.2.2.1, run_bound k n n'.toNat _ hc.1 (by omega)]) (by simpa using hc.2.2.2)
  case list sz xs t =>
    obtain ⟨e, ye, hyk, hye, hsz⟩ : ∃ e ye, y.k = .slice e ∧ tt e = some ye ∧ ye.size = sz := by
      cases hyk : y.k <;> rw [hyk] at hk <;> try exact hk.elim
      exact hk
    have hu : P.underlying T = some (.slice e) := by have := hy'.und; rw [hyk] at this; exact this
    have hrs := (ht e ye hye).run_sizeOf w
    have hfin : ∀ l' h', (l' : Nat) ≤ h' → h' ≤ xs.length → (∀ c, xs.length ≤ c → (Instr.sliceBounds true xs.length c (lo.map a.eval) (hi.map a.eval) none).run P w = .ok (l', h', c) w) → K (put nt o.dst env (.list sz ((xs.take h').drop l') .no)) st → o.wp P a w next Q := by
      intro l' h' h1 h2 hb hk'
      rcases hrx.list_inv with ⟨rfl, e1⟩ | ⟨b, off, c, vs, _, e1, hcap, hs, hc1, hv, hd, _⟩
      · have hl0 : l' = 0 := by simp at h2; omega
        have hh0 : h' = 0 := by simpa using h2
        subst hl0 hh0
        refine wp_value (v := .slice none 0 0) (x := .list sz [] .no) ?_ (.refl G) hi' ha (.none _ _) (by simpa using hk') hn
        rw [hexec]
        have hb0 := hb 0 (by simp)
        simp only [List.length_nil] at hb0
        simp [Instr.sliceAt, run_underlying hu, Instr.slice, e1, hb0, hrs]
      · refine wp_value (x := .list sz ((xs.take h').drop l') .no) ?_ (.refl G) hi' ha (rep_cut h1 h2 hcap hs hc1 hv hd) hk' hn
        rw [hexec]
        simp only [Instr.sliceAt, Instr.slice, run_underlying hu, e1, hb c hcap, hrs, Sem.run_bind, Sem.run_pure, Result.andThen_ok, hsz]
        by_cases hcl : c = l' <;> simp [hcl]
    rcases el with ⟨rfl, el⟩ | ⟨xl, rfl, vl, el, rl⟩ <;> rcases eh with ⟨rfl, eh⟩ | ⟨xh, rfl, vh, eh, rh⟩
    · simp only [pCut] at hc
      exact hfin 0 xs.length (by omega) (by omega) (fun c hcc => by rw [el, eh]; simp [Instr.sliceBounds]) (by simpa using hc)
    · cases xh <;> try (simp only [pCut] at hc; done)
      rename_i k n
      simp only [pCut] at hc
      cases rh.int_inv
      exact hfin 0 n.toNat (by omega) (by omega) (fun c hcc => by rw [el, eh]; simp [Instr.sliceBounds, run_bound k n c _ hc.1 (by omega)]) (by simpa using hc.2.2)
    · cases xl <;> try (simp only [pCut] at hc; done)
      rename_i k n
      simp only [pCut] at hc
      cases rl.int_inv
      exact hfin n.toNat xs.length (by omega) (by omega) (fun c hcc => by rw [el, eh]; simp [Instr.sliceBounds, run_bound k n xs.length _ hc.1 hc.2.1]) (by simpa using hc.2.2)
    · cases xl <;> cases xh <;> try (simp only [pCut] at hc; done)
      rename_i k n k' n'
      simp only [pCut] at hc
      cases rl.int_inv
      cases rh.int_inv
      exact hfin n.toNat n'.toNat (by omega) (by omega) (fun c hcc => by rw [el, eh]; simp [Instr.sliceBounds, run_bound k' n' c _ (by omega) (by omega), run_bound k n n'.toNat _ hc.1 (by omega)]) (by simpa using hc.2.2.2)

theorem ok_fieldAddr (ht : TT P tt) {T : TypeId} {x : Operand} {f : Nat} (ho : o.op = .fieldAddr T x f) {y : TyI} {p : PV} (hy : tt T = some y) (hs : y.k = .struct) (hx : ev env x = some p)
    (hc : pFieldAddr y f p fun r => K (put nt o.dst env r) st) (hi : Inv G st w) (ha : ARep G nt env a) (hn : Goes G nt K next) : o.wp P a w next Q := by
  have hy' := ht T y hy
  obtain ⟨fs, hu⟩ := TK.struct_inv hy' hs
  have hrx := ha.ev hx
  have hrun : ∀ (b off o' n : Nat) (ag : Bool), a.eval x = .pointer (some ⟨b, off, none⟩) → y.flds[f]? = some (o', n, ag) → n ≠ 0 → (execOp a.eval o).run P w = .ok (.value (.pointer (some ⟨b, off + o', none⟩))) w := by
    intro b off o' n ag e1 e2 e3
    obtain ⟨fd, h1, h2, ⟨i, h3, h4⟩, _⟩ := hy'.fld hu e2
    unfold execOp
    simp only [ho]
    simp [Instr.fieldAt, run_underlying hu, h1, Instr.sureAddr, e1, fieldPlace, run_sizeOf' h3, h4, e3, h2, add_lit]
  unfold pFieldAddr at hc
  split at hc
  · rename_i r off o' n ag hf
    generalize hv : a.eval x = v at hrx
    cases hrx with
    | ref _ b _ hr => exact wp_value (hrun b off o' n ag hv hf hc.1) (.refl G) hi ha (.ref r b (off + o') hr) hc.2 hn
  · rename_i cs o' n hf
    generalize hv : a.eval x = v at hrx
    obtain ⟨hn0, hle, hk⟩ := hc
    cases hrx with
    | elem _ b off vs h1 hv2 hd =>
      refine wp_value (hrun b off o' n true hv hf hn0) (.refl G) hi ha (.elem _ b (off + o') ((vs.drop o').take n) ?_ ?_ ?_) hk hn
      · simp only [PV.cells]
        intro z hz
        exact h1 z (List.mem_of_mem_drop (List.mem_of_mem_take hz))
      · simp only [PV.cells] at hv2 ⊢
        exact (hv2.drop o').take n
      · rw [← List.drop_drop]
        refine (List.take_prefix _ _).trans (prefix_drop hd o' ?_)
        have := hv2.length
        simp only [PV.cells] at this
        omega
  · rename_i cs o' n hf
    generalize hv : a.eval x = v at hrx
    obtain ⟨hn0, c, hcs, hk⟩ := hc
    cases hrx with
    | elem _ b off vs h1 hv2 hd =>
      simp only [PV.cells] at hv2 h1
      obtain ⟨u, hu2, hru⟩ := hv2.get o' c hcs
      have hcc := h1 c (List.mem_of_getElem? hcs)
      have hc1 := (hru.cell1 hcc).2.2
      refine wp_value (hrun b off o' n false hv hf hn0) (.refl G) hi ha (.elem c b (off + o') [u] ?_ ?_ ?_) hk hn
      · rw [hc1]; simpa using hcc
      · rw [hc1]; exact .cons _ _ _ _ hru .nil
      · rw [← List.drop_drop]
        have hlt := (List.getElem?_eq_some_iff.1 hu2).1
        refine List.IsPrefix.trans ?_ (prefix_drop hd o' (by omega))
        refine ⟨vs.drop (o' + 1), ?_⟩
        have := (List.getElem?_eq_some_iff.1 hu2).2
        rw [← this]
        simp
  · exact hc.elim
theorem ok_field (ht : TT P tt) {T : TypeId} {x : Operand} {f : Nat} (ho : o.op = .field T x f) {y : TyI} {cs : List PV} {r : PV} (hy : tt T = some y) (hs : y.k = .struct) (hx : ev env x = some (.agg cs)) (hf : fldOf y f cs = some r)
    (hk : K (put nt o.dst env r) st) (hi : Inv G st w) (ha : ARep G nt env a) (hn : Goes G nt K next) : o.wp P a w next Q := by
  have hy' := ht T y hy
  obtain ⟨fs, hu⟩ := TK.struct_inv hy' hs
  have hrx := ha.ev hx
  unfold fldOf at hf
  split at hf
  case h_2 => cases hf
  rename_i off n ag hfl
  obtain ⟨fd, h1, h2, ⟨i, h3, h4⟩, h5, h6⟩ := hy'.fld hu hfl
  obtain ⟨hp1, hp2⟩ := run_part' h3 h6 (a.eval x).cells off w
  generalize hv : a.eval x = v at hrx hp1 hp2
  cases hrx with
  | agg _ vs hc hr =>
  simp only [Value.cells] at hp1 hp2
  have hvl := hr.length
  split at hf
  case isFalse => cases hf
  rename_i hle
  split at hf
  · rename_i hag
    injection hf with hf
    subst hf
    refine wp_value (v := .agg ((vs.drop off).take n).toArray) ?_ (.refl G) hi ha (.agg _ _ (fun z hz => hc z (List.mem_of_mem_drop (List.mem_of_mem_take hz))) ((hr.drop off).take n)) hk hn
    have := hp1 (by rw [h5]; exact hag)
    unfold execOp
    simp only [ho]
    simp [Instr.field, run_underlying hu, h1, asAgg, hv, h2, this, h4]
  · rename_i hag
    obtain ⟨u, hu2, hru⟩ := hr.get off r hf
    refine wp_value (v := u) ?_ (.refl G) hi ha hru hk hn
    have := hp2 (by rw [h5]; simpa using hag) u (by simpa using hu2)
    unfold execOp
    simp only [ho]
    simp [Instr.field, run_underlying hu, h1, asAgg, hv, h2, this]
theorem cells_at {xs : List PV} {sz : Nat} (h : ∀ x ∈ xs, x.cells.length = sz) {n : Nat} {z : PV} (hz : xs[n]? = some z) : z.cells <+: (cellsOf xs).drop (n * sz) := by
  rw [← flatMap_drop h]
  have hlt := (List.getElem?_eq_some_iff.1 hz).1
  have he : xs.drop n = z :: xs.drop (n + 1) := by
    rw [← (List.getElem?_eq_some_iff.1 hz).2]
    simp
  rw [he, cellsOf_cons]
  exact List.prefix_append _ _
theorem ok_indexAddr (ht : TT P tt) {T : TypeId} {x i : Operand} (ho : o.op = .indexAddr T x i) {y ye : TyI} {e : Nat} {xs : List PV} {t : Tk} {k : IntKind} {n : Int} {z : PV} (hy : tt T = some y) (hs : y.k = .slice e) (hye : tt e = some ye)
    (hx : ev env x = some (.list ye.size xs t)) (hii : ev env i = some (.int k n)) (h0 : 0 ≤ n) (hz : xs[n.toNat]? = some z)
    (hk : K (put nt o.dst env (.elem z)) st) (hi : Inv G st w) (ha : ARep G nt env a) (hn : Goes G nt K next) : o.wp P a w next Q := by
  have hy' := ht T y hy
  have hu : P.underlying T = some (.slice e) := by have := hy'.und; rw [hs] at this; exact this
  have hrs := (ht e ye hye).run_sizeOf w
  have hrx := ha.ev hx
  have hri := (ha.ev hii).int_inv
  have hlt : n.toNat < xs.length := (List.getElem?_eq_some_iff.1 hz).1
  rcases hrx.list_inv with ⟨rfl, _⟩ | ⟨b, off, c, vs, _, e1, hcap, hsz, hc1, hv, hd, _⟩
  · simp at hz
  · have hcl := cells_at hsz hz
    have hzm := List.mem_of_getElem? hz
    have hzc : ∀ q ∈ z.cells, q.isCell = true := fun q hq => hc1 q (List.mem_flatMap.2 ⟨z, hzm, hq⟩)
    have hlz : (vs.drop (n.toNat * ye.size)).take z.cells.length <+: (G.dat b).drop (off + n.toNat * ye.size) := by
      rw [← List.drop_drop]
      refine (List.take_prefix _ _).trans (prefix_drop hd _ ?_)
      have h1 := hv.length
      rw [cellsOf_length hsz] at h1
      have : n.toNat * ye.size ≤ xs.length * ye.size := Nat.mul_le_mul_right _ (by omega)
      omega
    have hrz : Reps G z.cells ((vs.drop (n.toNat * ye.size)).take z.cells.length) := by
      have := (hv.drop (n.toNat * ye.size)).take z.cells.length
      rwa [← List.prefix_iff_eq_take.1 hcl] at this
    refine wp_value ?_ (.refl G) hi ha (.elem z b (off + n.toNat * ye.size) _ hzc hrz hlz) hk hn
    unfold execOp
    simp only [ho]
    have hb : n < (xs.length : Int) := by omega
    simp [Instr.indexAt, hri, asIntOf, run_underlying hu, e1, h0, hb, hrs, add_lit]
theorem ok_index (ht : TT P tt) {T : TypeId} {x i : Operand} (ho : o.op = .index T x i) {y : TyI} {l : List UInt8} {k : IntKind} {n : Int} {c : UInt8} (hy : tt T = some y) (hs : y.k = .str)
    (hx : ev env x = some (.str l)) (hii : ev env i = some (.int k n)) (h0 : 0 ≤ n) (hz : l[n.toNat]? = some c)
    (hk : K (put nt o.dst env (.int .u8 (c.toNat : Int))) st) (hi : Inv G st w) (ha : ARep G nt env a) (hn : Goes G nt K next) : o.wp P a w next Q := by
  have hy' := ht T y hy
  have hu : P.underlying T = some .string := by have := hy'.und; rw [hs] at this; exact this
  have hrx := (ha.ev hx).str_inv
  have hri := (ha.ev hii).int_inv
  refine wp_value (v := .int .u8 (c.toNat : Int)) ?_ (.refl G) hi ha (.int _ _) hk hn
  have hlt := (List.getElem?_eq_some_iff.1 hz).1
  have hget : (⟨l.toArray⟩ : ByteArray)[n.toNat]? = some c := by
    rw [getElem?_pos _ _ (by simpa [size_mk] using hlt)]
    congr 1
    exact (List.getElem?_eq_some_iff.1 hz).2
  unfold execOp
  simp only [ho]
  simp only [Instr.index, hri, hrx, asIntOf, Sem.run_bind, Sem.run_pure, Result.andThen_ok, run_underlying hu, if_pos h0, hget]
end
end Go.Proofs.Ytolhbjfaahcekaa
end
section
/- Every operation; a region in its text's order; a function's body. -/
set_option linter.unusedVariables false
set_option linter.unusedSimpArgs false
namespace Go.Proofs.Ytolhbjfaahcekaa

section
variable {P : Program} {tt : TTab} {nt : Nat} {o : Oper} {env : Env} {st : St} {G : Gh} {a : Act} {w : World}
variable {K : Env → St → Prop} {next : Act → World → Prop} {Q : Exit → Act → World → Prop}

theorem ok_binOp {op : BinOp} {T Y : TypeId} {x y : Operand} (ho : o.op = .binOp op T x y Y) {p q : PV} (hx : ev env x = some p) (hy : ev env y = some q) (hb : pBin op p q fun r => K (put nt o.dst env r) st)
    (hi : Inv G st w) (ha : ARep G nt env a) (hn : Goes G nt K next) : o.wp P a w next Q := by
  have hrx := ha.ev hx
  have hry := ha.ev hy
  obtain ⟨r, z, h1, h2, h3⟩ := run_pBin (P := P) (t := T) (w := w) hb hrx hry
  refine wp_value (v := z) ?_ (.refl G) hi ha h2 h3 hn
  have hg : (eqGuard op T x y (a.eval x) (a.eval y)).run P w = .ok () w := by
    unfold pBin at hb
    split at hb
    · rw [hrx.int_inv, hry.int_inv]
      unfold eqGuard
      split <;> simp
    · rw [hrx.str_inv, hry.str_inv]
      unfold eqGuard
      split <;> simp
    · exact hb.elim
  unfold execOp
  simp only [ho, Sem.run_bind, hg, h1, Result.andThen_ok, Sem.run_pure]
theorem ok_eqAgg {op : BinOp} {T Y : TypeId} {x y : Operand} (ho : o.op = .binOp op T x y Y) {z xs ys : List PV} {r : Bool} (hl : EqL P T z) (hx : ev env x = some (.agg xs)) (hy : ev env y = some (.agg ys)) (he : eqCells z xs ys = some r)
    (hk : op = .eql ∧ K (put nt o.dst env (.bool r)) st ∨ op = .neq ∧ K (put nt o.dst env (.bool (!r))) st) (hi : Inv G st w) (ha : ARep G nt env a) (hn : Goes G nt K next) : o.wp P a w next Q := by
  have hrx := ha.ev hx
  have hry := ha.ev hy
  generalize hvx : a.eval x = vx at hrx
  generalize hvy : a.eval y = vy at hry
  cases hrx with
  | agg _ vs _ h1 =>
  cases hry with
  | agg _ us _ h2 =>
  have heq := hl.eql G xs ys vs us r w he h1 h2
  have hg : (eqGuard op T x y (.agg vs.toArray) (.agg us.toArray)).run P w = .ok () w := run_eqGuard_agg w op T x y _ _ hl.guard
  rcases hk with ⟨rfl, hk⟩ | ⟨rfl, hk⟩
  · refine wp_value (v := .bool r) ?_ (.refl G) hi ha (.bool r) hk hn
    unfold execOp
    simp only [ho, hvx, hvy, Sem.run_bind, hg, Result.andThen_ok, run_eql_struct, heq, Sem.run_pure]
  · refine wp_value (v := .bool (!r)) ?_ (.refl G) hi ha (.bool _) hk hn
    unfold execOp
    simp only [ho, hvx, hvy, Sem.run_bind, hg, Result.andThen_ok, run_neq_struct, heq, Sem.run_pure]
theorem nilness_slice {e : Nat} {n : Bool} {v : Value} : ∀ {a : PV}, nilness (.slice e) a = some n → Rep G a v → ∃ ad l c, v = .slice ad l c ∧ n = ad.isNone
  | .list sz [] .nil, h, hr => by
    cases h
    cases hr with
    | none => exact ⟨none, 0, 0, rfl, rfl⟩
    | list _ _ _ b o c vs ht => exact absurd rfl ht
  | .list sz (x :: xs) t, h, hr => by
    cases h
    cases hr
    exact ⟨_, _, _, rfl, rfl⟩
  | .list sz [] .no, h, _ => by cases h
  | .list sz [] (.own k), h, _ => by cases h
  | .int _ _, h, _ => by cases h
  | .bool _, h, _ => by cases h
  | .str _, h, _ => by cases h
  | .ref _ _, h, _ => by cases h
  | .elem _, h, _ => by cases h
  | .agg _, h, _ => by cases h
  | .tup _, h, _ => by cases h
  | .clo _ _ _, h, _ => by cases h
  | .val _, h, _ => by cases h
theorem nilness_ptr {e : Nat} {n : Bool} {v : Value} {a : PV} (h : nilness (.other (some e)) a = some n) (hr : Rep G a v) : ∃ ad, v = .pointer ad ∧ n = ad.isNone := by
  cases a with
  | ref r o => cases h; cases hr; exact ⟨_, rfl, rfl⟩
  | elem x => cases h; cases hr; exact ⟨_, rfl, rfl⟩
  | val u =>
    cases hr
    unfold nilness at h
    split at h <;> first | cases h; done | skip
    all_goals (rename_i h1; first | (cases h1; done) | (rename_i h2; cases h2; done) | skip)
    all_goals (cases h)
    all_goals first | (rename_i h3; cases h3; exact ⟨_, rfl, rfl⟩) | (exact ⟨_, rfl, rfl⟩) | simp_all
  | _ => cases h
theorem ok_nil {op : BinOp} {T Y : TypeId} {x y : Operand} (ho : o.op = .binOp op T x y Y) {yt : TyI} (ht : TOk P T yt) {p q : PV} {r : Bool} (hx : ev env x = some p) (hy : ev env y = some q) (hb : fNil op yt.k p q = some r)
    (hk : K (put nt o.dst env (.bool r)) st) (hi : Inv G st w) (ha : ARep G nt env a) (hn : Goes G nt K next) : o.wp P a w next Q := by
  have hrx := ha.ev hx
  have hry := ha.ev hy
  generalize hvx : a.eval x = vx at hrx
  generalize hvy : a.eval y = vy at hry
  have hrun : (eqGuard op T x y vx vy).run P w = .ok () w ∧ (binOp op T vx vy).run P w = .ok (.bool r) w := by
    have hu := ht.und
    unfold fNil at hb
    split at hb <;> try (cases hb; done)
    rename_i hc
    split at hb <;> try (cases hb; done)
    rename_i n hn'
    generalize yt.k = kk at hu hc hn'
    cases kk with
    | slice e =>
      have hvy' : vy = .slice none 0 0 := by
        cases q with
        | list sz xs t =>
          cases xs with
          | nil =>
            cases t with
            | nil =>
              cases hry with
              | none => rfl
              | list _ _ _ b o c vs ht' => exact absurd rfl ht'
            | _ => cases hc
          | cons => cases hc
        | _ => cases hc
      subst hvy'
      obtain ⟨ad, l, c, rfl, rfl⟩ := nilness_slice hn' hrx
      split at hb <;> cases hb
      · exact ⟨by simp [eqGuard], run_eql_slice_nil w T e ad l c hu⟩
      · exact ⟨by simp [eqGuard], run_neq_slice_nil w T e ad l c hu⟩
    | other oe =>
      obtain ⟨e, rfl⟩ : ∃ e, oe = some e := by
        cases oe with
        | none => cases q with
          | val u => cases u <;> cases hc
          | _ => cases hc
        | some e => exact ⟨e, rfl⟩
      have hvy' : vy = .pointer none := by
        cases q with
        | val u =>
          cases hry
          unfold isNilC at hc
          split at hc <;> first | (cases hc; done) | skip
          all_goals (first | rfl | simp_all)
        | _ => cases hc
      subst hvy'
      obtain ⟨ad, rfl, rfl⟩ := nilness_ptr hn' hrx
      have hp : P.underlying T = some (.pointer (P.pointee T)) := by
        have : P.underlying T = some (.pointer e) := hu
        rw [this]
        simp [Program.pointee, this]
      split at hb <;> cases hb
      · exact ⟨by simp [eqGuard], run_eql_pointer_nil w T ad hp⟩
      · exact ⟨by simp [eqGuard], run_neq_pointer_nil w T ad hp⟩
    | _ => cases hc
  refine wp_value (v := .bool r) ?_ (.refl G) hi ha (.bool r) hk hn
  unfold execOp
  simp only [ho, hvx, hvy, Sem.run_bind, hrun.1, hrun.2, Result.andThen_ok, Sem.run_pure]
theorem ok_max {c : Call} (ho : o.op = .call c) (hcb : c.callee = .builtin .max) {x y : Operand} {k : IntKind} {p q : Int} (hca : c.args = #[x, y]) (hx : ev env x = some (.int k p)) (hy : ev env y = some (.int k q))
    (hk : K (put nt o.dst env (.int k (if q > p then q else p))) st) (hi : Inv G st w) (ha : ARep G nt env a) (hn : Goes G nt K next) : o.wp P a w next Q := by
  refine wp_value (v := .int k (if q > p then q else p)) ?_ (.refl G) hi ha (.int _ _) hk hn
  unfold execOp
  simp only [ho, resolve, hcb, hca, Sem.run_bind, Sem.run_pure, Result.andThen_ok, invoke, builtin]
  have h1 := (ha.ev hx).int_inv
  have h2 := (ha.ev hy).int_inv
  simp [h1, h2, Builtin.max_, Builtin.max2]
theorem ok_append (ht : TT P tt) {c : Call} (ho : o.op = .call c) (hcb : c.callee = .builtin .append) {T : TypeId} {s x : Operand} {y ye : TyI} {e : TypeId} {xs ys : List PV} {k : Nat} {t : Tk} (hct : c.argTypes = #[T, T]) (hca : c.args = #[s, x])
    (hy : tt T = some y) (hs : y.k = .slice e) (hye : tt e = some ye) (h0 : 0 < ye.size) (hes : ev env s = some (.list ye.size xs (.own k))) (hex : ev env x = some (.list ye.size ys t)) (hl : st.len[k]? = some xs.length)
    (hfit : (xs.length + ys.length) * ye.bytes ≤ 140737488355328) (hmax : xs.length + ys.length ≤ maxLen) (hk : K (put nt o.dst env (.list ye.size (xs ++ ys) (.own k))) { st with len := st.len.set k (xs.length + ys.length) })
    (hi : Inv G st w) (ha : ARep G nt env a) (hn : Goes G nt K next) : o.wp P a w next Q := by
  obtain ⟨v', w', G', h1, h2, h3, h4⟩ := append_ok (ty := o.type) (ht T y hy) hs (ht e ye hye) h0 hi (ha.ev hes) (ha.ev hex) hl hfit hmax
  refine wp_value (v := v') ?_ h2 h3 ha h4 hk hn
  unfold execOp
  simp only [ho, resolve, hcb, hca, hct, Sem.run_bind, Sem.run_pure, Result.andThen_ok, invoke, builtin]
  simp [h1]

theorem pOp_ok (ht : TT P tt) {ow : List Nat} (h : pOp P tt ow nt o env st K) (hi : Inv G st w) (ha : ARep G nt env a) (hn : Goes G nt K next) : o.wp P a w next Q := by
  unfold pOp at h
  split at h
  · -- move
    rename_i x ho
    obtain ⟨p, h1, h2⟩ := h
    exact wp_value (v := a.eval x) (by unfold execOp; simp only [ho, Sem.run_pure]) (.refl G) hi ha (ha.ev h1) h2 hn
  · -- assign
    rename_i x ho
    obtain ⟨p, h1, h2⟩ := h
    exact wp_value (v := a.eval x) (by unfold execOp; simp only [ho, Sem.run_pure]) (.refl G) hi ha (ha.ev h1) h2 hn
  · -- pick
    rename_i c x y ho
    obtain ⟨t, h1, h2⟩ := h
    have hc := (ha.ev h1).bool_inv
    have hrun : (execOp a.eval o).run P w = .ok (.value (if t then a.eval x else a.eval y)) w := by
      unfold execOp
      simp only [ho, hc, asBool, Sem.run_bind, Sem.run_pure, Result.andThen_ok]
    split at h2
    · rename_i p q hx hy
      refine wp_value (x := .bool (bif t then p else q)) hrun (.refl G) hi ha ?_ h2 hn
      rw [(ha.ev hx).bool_inv, (ha.ev hy).bool_inv]
      cases t <;> exact .bool _
    · cases t with
      | true =>
        obtain ⟨z, hz, hk⟩ := h2.1 rfl
        exact wp_value hrun (.refl G) hi ha (ha.ev hz) hk hn
      | false =>
        obtain ⟨z, hz, hk⟩ := h2.2 rfl
        exact wp_value hrun (.refl G) hi ha (ha.ev hz) hk hn
  · rename_i T ho
    obtain ⟨y, h1, h2⟩ := h
    exact ok_alloc ht ho h1 h2 hi ha hn
  · rename_i T x ho
    obtain ⟨p, h1, h2, h3⟩ := h
    exact ok_box ho h1 h2 h3 hi ha hn
  · rename_i T ps ho
    obtain ⟨y, xs, cs, h1, h2, h3, h4, h5⟩ := h
    exact ok_build ht ho h1 h2 h3 h4 h5 hi ha hn
  · rename_i T n ps ho
    obtain ⟨y, e, ye, ps', xs, h1, h2, h3, h4, h5, h6, h7, h8, h9, h10⟩ := h
    exact ok_buildSlice ht ho h1 h2 h3 h4 h5 h6 h7 h8 h9 h10 hi ha hn
  · -- load
    rename_i T x ho
    obtain ⟨p, y, r, h1, h2, h3, h4⟩ := h
    obtain ⟨u, h5, h6⟩ := ld_ok (ht T y h2) hi (ha.ev h1) h3
    refine wp_value (v := u) ?_ (.refl G) hi ha h6 h4 hn
    unfold execOp
    simp only [ho, Sem.run_bind, h5, Result.andThen_ok, Sem.run_pure]
  · -- store
    rename_i T x v ho
    obtain ⟨p, y, r, st', h1, h2, h3, h4, h5⟩ := h
    obtain ⟨w', h6, h7⟩ := st_ok (ht T y h2) hi (ha.ev h1) (ha.ev h3) h4
    refine wp_skips ?_ (.refl G) h7 ha h5 hn
    unfold execOp
    simp only [ho, Sem.run_bind, h6, Result.andThen_ok, Sem.run_pure]
  · -- nilCheck
    rename_i x ho
    obtain ⟨p, h1, h2, h3⟩ := h
    have hr := ha.ev h1
    refine wp_value (v := a.eval x) ?_ (.refl G) hi ha hr h3 hn
    unfold execOp
    simp only [ho]
    generalize a.eval x = v at hr ⊢
    cases p <;> try (simp only [pNil] at h2; cases h2; done)
    · cases hr; simp
    · cases hr; simp
    · rename_i fn fs cs
      cases fn <;> try (simp only [pNil] at h2; cases h2; done)
      cases hr; simp
  · rename_i op T x y Y ho
    rcases h with ⟨p, q, h1, h2, h3⟩ | ⟨yt, xs, ys, r, h1, h2, h3, h4, h5, h6⟩ | ⟨p, q, yt, r, h1, h2, h3, h4, h5⟩
    · exact ok_binOp ho h1 h2 h3 hi ha hn
    · exact ok_eqAgg ho ((ht T yt h1).eql h2) h3 h4 h5 h6 hi ha hn
    · exact ok_nil ho (ht T yt h3) h1 h2 h4 h5 hi ha hn
  · -- unOp
    rename_i op T x ho
    split at h
    · rename_i b hx
      refine wp_value (v := .bool (!b)) ?_ (.refl G) hi ha (.bool _) h hn
      unfold execOp
      simp only [ho, (ha.ev hx).bool_inv, Op.unary, Sem.run_bind, Sem.run_pure, Result.andThen_ok]
    · rename_i k n hx
      refine wp_value (v := .int k (k.wrap (0 - n))) ?_ (.refl G) hi ha (.int _ _) h hn
      unfold execOp
      simp only [ho, (ha.ev hx).int_inv, Op.unary, Op.intArith, Sem.run_bind, Sem.run_pure, Result.andThen_ok]
    · exact h.elim
  · -- convert
    rename_i S D x ho
    obtain ⟨ys, yd, p, h1, h2, h3, h4⟩ := h
    have hr := ha.ev h3
    obtain ⟨ds, hds⟩ := Option.isSome_iff_exists.1 (ht S ys h1).isSm
    unfold pConv at h4
    split at h4
    · rename_i k n k' hk
      have hd : P.underlying D = some (.int k') := by have := (ht D yd h2).und; rw [hk] at this; exact this
      refine wp_value (v := .int k' (k'.wrap n)) ?_ (.refl G) hi ha (.int _ _) h4 hn
      unfold execOp
      simp only [ho, hr.int_inv, convert, run_underlying hds, run_underlying hd, Conv.intToInt, Sem.run_bind, Sem.run_pure, Result.andThen_ok]
    · rename_i l hk
      have hd : P.underlying D = some .string := by have := (ht D yd h2).und; rw [hk] at this; exact this
      refine wp_value (v := .string ⟨l.toArray⟩) ?_ (.refl G) hi ha (.str _) h4 hn
      unfold execOp
      simp only [ho, hr.str_inv, convert, run_underlying hds, run_underlying hd, Sem.run_bind, Sem.run_pure, Result.andThen_ok]
    · exact h4.elim
  · -- makeFunc
    rename_i fn fs cs ho
    obtain ⟨us, vs, h1, h2, h3⟩ := h
    refine wp_value (v := .func fn (fs.map a.eval) (cs.map a.eval)) ?_ (.refl G) hi ha ?_ h3 hn
    · unfold execOp
      simp only [ho, Instr.makeFunc, Sem.run_bind, Sem.run_pure, Result.andThen_ok]
    · have e1 : fs.map a.eval = (fs.toList.map a.eval).toArray := by rw [← Array.toList_map]
      have e2 : cs.map a.eval = (cs.toList.map a.eval).toArray := by rw [← Array.toList_map]
      rw [e1, e2]
      exact .clo fn us vs _ _ (ha.evs h1) (ha.evs h2)
  · rename_i T x lo hi' ho
    obtain ⟨y, p, l, hh, h1, h2, h3, h4, h5, h6⟩ := h
    exact ok_slice ht ho h1 h2 h3 h4 h5 h6 hi ha hn
  · rename_i T x f ho
    obtain ⟨y, p, h1, h2, h3, h4⟩ := h
    exact ok_fieldAddr ht ho h1 h2 h3 h4 hi ha hn
  · rename_i T x f ho
    obtain ⟨y, cs, r, h1, h2, h3, h4, h5⟩ := h
    exact ok_field ht ho h1 h2 h3 h4 h5 hi ha hn
  · rename_i T x i ho
    obtain ⟨y, e, ye, xs, t, k, n, z, h1, h2, h3, h4, h5, h6, h7, h8⟩ := h
    exact ok_indexAddr ht ho h1 h2 h3 h4 h5 h6 h7 h8 hi ha hn
  · rename_i T x i ho
    obtain ⟨y, l, k, n, c, h1, h2, h3, h4, h5, h6, h7⟩ := h
    exact ok_index ht ho h1 h2 h3 h4 h5 h6 h7 hi ha hn
  · -- extract
    rename_i t i ho
    obtain ⟨cs, x, h1, h2, h3⟩ := h
    have hr := ha.ev h1
    generalize hv : a.eval t = v at hr
    cases hr with
    | tup _ vs hr =>
    obtain ⟨u, hu, hru⟩ := hr.get i x h2
    refine wp_value (v := u) ?_ (.refl G) hi ha hru h3 hn
    unfold execOp
    have hu' : (vs.toArray)[i]? = some u := by simpa using hu
    simp only [ho, hv, Instr.extract, hu', Sem.run_bind, Sem.run_pure, Result.andThen_ok]
  · -- call
    rename_i c ho
    split at h
    · rename_i f hcf
      obtain ⟨fn, fs, cs, ags, h1, h2, h3⟩ := h
      have hr := ha.ev h1
      have hra := ha.evs h2
      generalize hv : a.eval f = v at hr
      cases hr with
      | clo _ _ _ us vs hu hc =>
      refine wp_enters (f := fn) (args := fs ++ ags ++ cs) (vs := us ++ c.args.toList.map a.eval ++ vs) ?_ hi ha ((hu.append hra).append hc) h3 hn
      unfold execOp
      simp only [ho, resolve, hcf, hv, Deferred.ofValue, Sem.run_bind, Sem.run_pure, Result.andThen_ok, invoke]
      congr 2
      apply Array.ext'
      simp
    · -- len
      rename_i hcl
      obtain ⟨T, x, y, p, h1, h2, h3, h4, h5⟩ := h
      have hr := ha.ev h4
      have hlen : ∀ n : Int, (Builtin.len_ #[T] o.type #[a.eval x]).run P w = .ok (.int .i64 n) w → K (put nt o.dst env (.int .i64 n)) st → o.wp P a w next Q := by
        intro n e1 e2
        refine wp_value (v := .int .i64 n) ?_ (.refl G) hi ha (.int _ _) e2 hn
        unfold execOp
        simp only [ho, resolve, hcl, h1, h2, Sem.run_bind, Sem.run_pure, Result.andThen_ok, invoke, builtin]
        simp [e1]
      split at h5
      · rename_i l hk
        have hu : P.underlying T = some .string := by have := (ht T y h3).und; rw [hk] at this; exact this
        exact hlen _ (by simp [Builtin.len_, run_underlying hu, hr.str_inv, goInt, size_mk]) h5
      · rename_i e sz xs t hk
        have hu : P.underlying T = some (.slice e) := by have := (ht T y h3).und; rw [hk] at this; exact this
        refine hlen _ ?_ h5
        rcases hr.list_inv with ⟨rfl, e1⟩ | ⟨b, off, cc, vs, _, e1, _⟩ <;> simp [Builtin.len_, run_underlying hu, e1, goInt]
      · exact h5.elim
    · rename_i hca
      obtain ⟨T, s, x, y, e, ye, xs, ys, k, t, h1, h2, h3, h4, h5, h6, h7, h8, h9, h10, h11, h12⟩ := h
      exact ok_append ht ho hca h1 h2 h3 h4 h5 h6 h7 h8 h9 h10 h11 h12 hi ha hn
    · rename_i hcm
      obtain ⟨x, y, k, p, q, h1, h2, h3, h4⟩ := h
      exact ok_max ho hcm h1 h2 h3 h4 hi ha hn
    · exact h.elim
  · exact h.elim
end
end Go.Proofs.Ytolhbjfaahcekaa
end
section
/- A region in its text's order; a function's body. -/
set_option linter.unusedVariables false
set_option linter.unusedSimpArgs false
namespace Go.Proofs.Ytolhbjfaahcekaa

def gdOf (ops : Array Oper) (j : Nat) : Option Tmp := (ops.toList[j]?).bind (·.dst)
def isCall : Op → Bool
  | .call c => match c.callee with
    | .value _ => true
    | _ => false
  | _ => false
/-- The operations from place n on. -/
def PO (P : Program) (nt : Nat) (ops : Array Oper) (n : Nat) (env : Env) (st : St) (K : Env → St → Prop) : Prop :=
  ∀ G a w (Q : Exit → Act → World → Prop), Inv G st w → ARep G nt env a → Goes G nt K (Q .normal) → wpOps P ops Q (List.range' n (ops.size - n)) a w
/-- What a guard finds: is the operation wanted? -/
def isBoolV : Value → Bool
  | .bool _ => true
  | _ => false
def gval (want : Bool) : PV → Option Bool
  | .bool b => some (b == want)
  | .val v => match isBoolV v with
    | true => none
    | false => some false
  | _ => none
theorem gval_undef (want : Bool) : gval want (.val undef) = some false := rfl
theorem gval_bool (want b : Bool) : gval want (.bool b) = some (b == want) := rfl
theorem gval_ok {G : Gh} {want r : Bool} {x : PV} {v : Value} (h : gval want x = some r) (hv : Rep G x v) : ((match v with | .bool b => some b | _ => none) == some want) = r := by
  unfold gval at h
  split at h
  · cases hv.bool_inv
    exact Option.some.inj h
  · split at h
    · cases h
    · rename_i hb
      cases hv
      cases h
      cases ‹Value› <;> first | rfl | cases hb
  · cases h
/-- Operations, one behind the other, up to a call. -/
def pOps (P : Program) (tt : TTab) (ow : List Nat) (nt : Nat) (ops : Array Oper) (n : Nat) : List Oper → Env → St → (Env → St → Prop) → Prop
  | [], env, st, K => K env st
  | o :: r, env, st, K => match o.guard with
    | none => if isCall o.op then pOp P tt ow nt o env st fun env st => PO P nt ops (n + 1) env st K else pOp P tt ow nt o env st fun env st => pOps P tt ow nt ops (n + 1) r env st K
    | some (j, want) => ∃ d x b, gdOf ops j = some d ∧ eget env d = some x ∧ gval want x = some b ∧
        (b = true → if isCall o.op then pOp P tt ow nt o env st fun env st => PO P nt ops (n + 1) env st K else pOp P tt ow nt o env st fun env st => pOps P tt ow nt ops (n + 1) r env st K) ∧
        (b = false → pOps P tt ow nt ops (n + 1) r (put nt o.dst env (.val undef)) st K)

section
variable {P : Program} {tt : TTab} {nt : Nat}
theorem pOps_ok (ht : TT P tt) {ow : List Nat} (ops : Array Oper) (K : Env → St → Prop) : ∀ (r : List Oper) (n : Nat), ops.toList.drop n = r → ∀ (env : Env) (st : St), pOps P tt ow nt ops n r env st K → PO P nt ops n env st K
  | [], n, he, env, st, h, G, a, w, Q, hi, ha, hq => by
    have hn : ops.size - n = 0 := by
      have := congrArg List.length he
      simp at this
      omega
    simp only [hn, List.range'_zero, wpOps]
    exact hq G env st a w (.refl G) hi ha h
  | o :: r, n, he, env, st, h, G, a, w, Q, hi, ha, hq => by
    have hlen := congrArg List.length he
    simp at hlen
    have hget : ops[n]? = some o := by
      rw [← Array.getElem?_toList]
      have : (ops.toList.drop n)[0]? = some o := by rw [he]; rfl
      simpa using this
    have hdrop : ops.toList.drop (n + 1) = r := by
      have : (ops.toList.drop n).drop 1 = r := by rw [he]; rfl
      rwa [List.drop_drop] at this
    have hsz : ops.size - n = (ops.size - (n + 1)) + 1 := by omega
    rw [hsz]
    simp only [List.range'_succ, wpOps, hget]
    have ih := pOps_ok ht (ow := ow) ops K r (n + 1) hdrop
    have hgoes : (if isCall o.op then pOp P tt ow nt o env st fun env st => PO P nt ops (n + 1) env st K else pOp P tt ow nt o env st fun env st => pOps P tt ow nt ops (n + 1) r env st K) → o.wp P a w (wpOps P ops Q (List.range' (n + 1) (ops.size - (n + 1)))) Q := by
      intro h2
      have h3 : pOp P tt ow nt o env st (fun env st => pOps P tt ow nt ops (n + 1) r env st K) ∨ pOp P tt ow nt o env st (fun env st => PO P nt ops (n + 1) env st K) := by
        split at h2
        · exact .inr h2
        · exact .inl h2
      rcases h3 with h3 | h3
      · refine pOp_ok ht h3 hi ha ?_
        intro G' env' st' a' w' k1 k2 k3 k4
        exact ih env' st' k4 G' a' w' Q k2 k3 fun G2 env2 st2 a2 w2 m1 m2 m3 m4 => hq G2 env2 st2 a2 w2 (k1.trans m1) m2 m3 m4
      · refine pOp_ok ht h3 hi ha ?_
        intro G' env' st' a' w' k1 k2 k3 k4
        exact k4 G' a' w' Q k2 k3 fun G2 env2 st2 a2 w2 m1 m2 m3 m4 => hq G2 env2 st2 a2 w2 (k1.trans m1) m2 m3 m4
    simp only [pOps] at h
    split at h
    · rename_i hg
      rw [if_pos (by simp [Region.wanted, hg])]
      exact .inl (hgoes h)
    · rename_i j want hg
      obtain ⟨d, x, b, h1, h2, h5, h3, h4⟩ := h
      have hw : Region.wanted o (yielded ops a.tmps) = b := by
        obtain ⟨v, hv1, hv2⟩ := ha.get d _ h2
        have hd : (ops[j]?).bind (·.dst) = some d := by rw [← Array.getElem?_toList]; exact h1
        have := gval_ok h5 hv2
        simp only [Region.wanted, hg, yielded, hd, Option.bind_some, hv1]
        rw [← this]
        cases v <;> rfl
      cases b with
      | true =>
        rw [if_pos hw]
        exact .inl (hgoes (h3 rfl))
      | false =>
        rw [if_neg (by rw [hw]; simp)]
        exact ih _ st (h4 rfl) G _ w Q hi (ha.put (.val undef) o.dst) hq
/-- Go on from place n. -/
theorem PO.run (ht : TT P tt) (ow : List Nat) {ops : Array Oper} {n : Nat} {env : Env} {st : St} {K : Env → St → Prop} (h : pOps P tt ow nt ops n (ops.toList.drop n) env st K) : PO P nt ops n env st K := pOps_ok ht ops K _ n rfl env st h
theorem PO.mono {ops : Array Oper} {n : Nat} {env : Env} {st : St} {K K' : Env → St → Prop} (h : PO P nt ops n env st K) (hk : ∀ env st, K env st → K' env st) : PO P nt ops n env st K' :=
  fun G a w Q hi ha hq => h G a w Q hi ha fun G' env' st' a' w' h1 h2 h3 h4 => hq G' env' st' a' w' h1 h2 h3 (hk _ _ h4)
/-- Go on from less of the temporaries. -/
theorem PO.less {ops : Array Oper} {n : Nat} {env : Env} {st : St} {K : Env → St → Prop} (env' : Env) (hs : Sub env env') (h : PO P nt ops n env' st K) : PO P nt ops n env st K :=
  fun G a w Q hi ha hq => h G a w Q hi (ha.sub hs) hq
/-- Go on from what is left when some of it is forgotten. -/
theorem PO.forget {ops : Array Oper} {n : Nat} {env : Env} {st : St} {K : Env → St → Prop} (env' : Env) (st' : St) (hs : Sub env env') (hl : Left st st') (hc : Env.clean st'.box.length st'.len.length env' = true)
    (hb : st.box.length ≤ st'.box.length) (hm : st.len.length ≤ st'.len.length) (h : PO P nt ops n env' st' K) : PO P nt ops n env st K :=
  fun G a w Q hi ha hq => h _ a w Q (hi.trunc hl) ((ha.sub hs).trunc hc) fun G' env2 st2 a2 w2 h1 h2 h3 h4 => hq G' env2 st2 a2 w2 (((Gh.le.refl G).trunc hi hb hm).trans h1) h2 h3 h4
theorem PW.ofPO {id : Nat} {ops : Array Oper} {Q : Exit → Env → St → Prop} {env : Env} {st : St} (h : PO P nt ops 0 env st (Q .normal)) : PW P nt (.region id ops false) Q env st := by
  intro G a w hi ha
  refine wp_region ?_
  have := h G a w (PostE G nt Q) hi ha fun G' env' st' a' w' h1 h2 h3 h4 => ⟨G', env', st', h1, h2, h3, h4⟩
  rw [List.range_eq_range']
  simpa using this
theorem PW.region (ht : TT P tt) (ow : List Nat) {id : Nat} {ops : Array Oper} {Q : Exit → Env → St → Prop} {env : Env} {st : St} (h : pOps P tt ow nt ops 0 ops.toList env st (Q .normal)) : PW P nt (.region id ops false) Q env st :=
  PW.ofPO (PO.run ht ow (by simpa using h))

/-! ### A function's body -/
def argsEnv (n : Nat) : List PV → Env
  | [] => []
  | x :: xs => (n, x) :: argsEnv (n + 1) xs
theorem argsEnv_get {n : Nat} : ∀ {xs : List PV} {i : Nat} {x : PV}, eget (argsEnv n xs) i = some x → n ≤ i ∧ xs[i - n]? = some x
  | [], i, x, h => by simp [argsEnv, eget] at h
  | y :: ys, i, x, h => by
    simp only [argsEnv, eget] at h
    split at h
    · rename_i hi; subst hi; injection h with h; subst h; simp
    · rename_i hi
      obtain ⟨h1, h2⟩ := argsEnv_get h
      refine ⟨by omega, ?_⟩
      rw [show i - n = (i - (n + 1)) + 1 from by omega]
      simpa using h2
def resOne (tt : TTab) (env : Env) (st : St) : ResultVar → Option PV
  | .tmp t => eget env t
  | .cell a t => match eget env a, tt t with
    | some p, some y => ldPV y st p
    | _, _ => none
def resAll (tt : TTab) (env : Env) (st : St) : List ResultVar → Option (List PV)
  | [] => some []
  | r :: rs => match resOne tt env st r, resAll tt env st rs with
    | some x, some xs => some (x :: xs)
    | _, _ => none
def resPV : List PV → PV
  | [x] => x
  | xs => .tup xs
def resSem (tmps : Array Value) : ResultVar → Sem Value
  | .tmp t => pure (tmps.getD t undef)
  | .cell b t => do loadVar t (← asAddr (tmps.getD b undef))
theorem results_eq (fn : Func) (tmps : Array Value) : results fn tmps = (do let vs ← fn.results.mapM (resSem tmps); pure (if h : vs.size = 1 then vs[0] else .tuple vs)) := by
  unfold results
  congr
theorem resOne_ok (ht : TT P tt) {env : Env} {st : St} {G : Gh} {a : Act} {w : World} (hi : Inv G st w) (ha : ARep G nt env a) {r : ResultVar} {x : PV} (h : resOne tt env st r = some x) :
    ∃ v, (resSem a.tmps r).run P w = .ok v w ∧ Rep G x v := by
  cases r with
  | tmp t =>
    obtain ⟨v, h1, h2⟩ := ha.get t x h
    exact ⟨v, by simp [resSem, Array.getD_eq_getD_getElem?, h1], h2⟩
  | cell b t =>
    simp only [resOne] at h
    split at h
    · rename_i p y hp hy
      obtain ⟨v, h1, h2⟩ := ha.get b p hp
      obtain ⟨u, h3, h4⟩ := ld_ok (ht t y hy) hi h2 h
      refine ⟨u, ?_, h4⟩
      have hpv : ∃ ad, v = .pointer (some ad) := by
        unfold ldPV at h
        split at h
        · cases h2; exact ⟨_, rfl⟩
        · cases h2; exact ⟨_, rfl⟩
        · cases h
      obtain ⟨ad, rfl⟩ := hpv
      simpa [resSem, Array.getD_eq_getD_getElem?, h1, asAddr, Instr.loadAt, Instr.sureAddr] using h3
    · cases h
theorem resAll_ok (ht : TT P tt) {env : Env} {st : St} {G : Gh} {a : Act} {w : World} (hi : Inv G st w) (ha : ARep G nt env a) : ∀ {rs : List ResultVar} {xs : List PV}, resAll tt env st rs = some xs →
    ∃ vs, (rs.mapM (resSem a.tmps)).run P w = .ok vs w ∧ Reps G xs vs
  | [], xs, h => by injection h with h; subst h; exact ⟨[], by simp, .nil⟩
  | r :: rs, xs, h => by
    simp only [resAll] at h
    split at h
    · rename_i x ys h1 h2
      injection h with h
      subst h
      obtain ⟨v, e1, e2⟩ := resOne_ok ht hi ha h1
      obtain ⟨vs, e3, e4⟩ := resAll_ok ht hi ha h2
      exact ⟨v :: vs, by simp only [List.mapM_cons, Sem.run_bind, e1, Result.andThen_ok, e3, Sem.run_pure], .cons _ _ _ _ e2 e4⟩
    · cases h
/-- What a body must come to, for R to hold of the call. -/
def Ends (tt : TTab) (rs : List ResultVar) (st0 : St) (R : PV → St → Prop) (e : Exit) (env : Env) (st : St) : Prop :=
  (e = .ret ∨ e = .normal) ∧ ∃ xs r st', resAll tt env st rs = some xs ∧ Weak (resPV xs) r ∧ Left st st' ∧ st0.box.length ≤ st'.box.length ∧ st0.len.length ≤ st'.len.length ∧ PV.clean st'.box.length st'.len.length r = true ∧ R r st'
theorem PC.intro (ht : TT P tt) {f : FuncId} {fn : Func} {c : Code} {args : List PV} {st : St} {R : PV → St → Prop} (hf : P.funcs[f]? = some fn) (hb : fn.body = some c) (hname : (fn.name == "runtime.NumGoroutine") = false) {n : Nat} (hnt : fn.ntmps = n) (hal : args.length ≤ n) {rs : List ResultVar} (hrs : fn.results.toList = rs)
    (h : PW P n c (Ends tt rs st R) (argsEnv 0 args) st) : PC P f args st R := by
  refine fun G w vs hi hv => .inl ⟨⟨fn, hf, hname, by simp [hb]⟩, ?_⟩
  subst hnt hrs
  refine calls_of_wp hf hb (wp_mono (h G _ w hi ?_) ?_)
  · refine ⟨rfl, ?_, ?_⟩
    · have := hv.length
      simp
      omega
    · intro i x e
      obtain ⟨_, e⟩ := argsEnv_get e
      obtain ⟨v, h1, h2⟩ := hv.get i x (by simpa using e)
      refine ⟨v, ?_, h2⟩
      have hlt := (List.getElem?_eq_some_iff.1 h1).1
      simp only [Array.getElem?_append]
      rw [if_pos (by simpa using hlt)]
      simpa using h1
  · rintro e a' w' ⟨G', env', st1, h1, h2, h3, he, xs, r, st', h4, h5, h6, h7, h8, h9, h10⟩
    obtain ⟨us, e1, e2⟩ := resAll_ok ht h2 h3 h4
    have hres : ∃ v, (results fn a'.tmps).run P w' = .ok v w' ∧ Rep G' (resPV xs) v := by
      have e1' : (fn.results.mapM (resSem a'.tmps)).run P w' = .ok us.toArray w' := by
        rw [Array.mapM_eq_mapM_toList, Sem.run_map, e1]
        rfl
      refine ⟨if h : us.toArray.size = 1 then us.toArray[0] else .tuple us.toArray, ?_, ?_⟩
      · rw [results_eq, Sem.run_bind, e1']
        rfl
      · cases e2 with
        | nil => exact .tup _ _ .nil
        | cons x v xs vs hx hxs => cases hxs with
          | nil => simpa [resPV] using hx
          | cons y u ys us hy hys =>
            simp only [resPV]
            rw [dif_neg (by simp)]
            exact .tup _ _ (.cons _ _ _ _ hx (.cons _ _ _ _ hy hys))
    obtain ⟨v, e3, e4⟩ := hres
    have hpost : a'.defers = [] ∧ ∃ v, (results fn a'.tmps).run P w' = .ok v w' ∧ ∃ u, Ending.returned v = .returned u ∧ ∃ G' r st', G.le G' ∧ Inv G' st' w' ∧ Rep G' r u ∧ R r st' ∧ st.len.length ≤ st'.len.length :=
      ⟨h3.defers, v, e3, v, rfl, _, r, st', h1.trunc hi h7 h8, h2.trunc h6, (h5 _ _ e4).trunc h9, h10, h8⟩
    rcases he with rfl | rfl
    · exact hpost
    · exact hpost

/-- A region, and what stands behind it under a name. -/
theorem PW.step (ht : TT P tt) (ow : List Nat) {id : Nat} {ops : Array Oper} {y : Code} {Q : Exit → Env → St → Prop} {env : Env} {st : St}
    (h : ∀ K : Env → St → Prop, (∀ env st, PW P nt y Q env st → K env st) → pOps P tt ow nt ops 0 ops.toList env st K) : PW P nt (.seq (.region id ops false) y) Q env st :=
  PW.seq_k fun K hK => PW.region ht ow (h K hK)
/-- A region, the last of its code. -/
theorem PW.last (ht : TT P tt) (ow : List Nat) {id : Nat} {ops : Array Oper} {Q : Exit → Env → St → Prop} {env : Env} {st : St}
    (h : ∀ K : Env → St → Prop, (∀ env st, Q .normal env st → K env st) → pOps P tt ow nt ops 0 ops.toList env st K) : PW P nt (.region id ops false) Q env st :=
  PW.region ht ow (h _ fun _ _ h => h)
theorem left_iff {st' st : St} : Left st' st ↔ Boxes (st'.box.take st.box.length) st.box ∧ st'.len.take st.len.length = st.len ∧ ∀ cs ∈ st.box, PVs.clean st.box.length st.len.length cs = true :=
  ⟨fun h => ⟨h.box, h.len, h.clean⟩, fun h => ⟨h.1, h.2.1, h.2.2⟩⟩
theorem clean_map {α : Type} {f : α → PV} {n m : Nat} (h : ∀ x, PV.clean n m (f x) = true) (l : List α) : PVs.clean n m (l.map f) = true :=
  PVs.clean_iff.2 fun x hx => by obtain ⟨y, _, rfl⟩ := List.mem_map.1 hx; exact h y
/-- At a body's end. -/
theorem Ends.ret {rs : List ResultVar} {st0 : St} {R : PV → St → Prop} {env : Env} {st : St} {xs : List PV} {r : PV} {st' : St} (h1 : resAll tt env st rs = some xs) (hr : R r st') (hw : Weak (resPV xs) r) (hl : Left st st')
    (hb : st0.box.length ≤ st'.box.length) (hm : st0.len.length ≤ st'.len.length) (hc : PV.clean st'.box.length st'.len.length r = true) : Ends tt rs st0 R .ret env st := ⟨.inl rfl, xs, r, st', h1, hw, hl, hb, hm, hc, hr⟩
theorem Ends.normal {rs : List ResultVar} {st0 : St} {R : PV → St → Prop} {env : Env} {st : St} {xs : List PV} {r : PV} {st' : St} (h1 : resAll tt env st rs = some xs) (hr : R r st') (hw : Weak (resPV xs) r) (hl : Left st st')
    (hb : st0.box.length ≤ st'.box.length) (hm : st0.len.length ≤ st'.len.length) (hc : PV.clean st'.box.length st'.len.length r = true) : Ends tt rs st0 R .normal env st := ⟨.inr rfl, xs, r, st', h1, hw, hl, hb, hm, hc, hr⟩
end
end Go.Proofs.Ytolhbjfaahcekaa
end
