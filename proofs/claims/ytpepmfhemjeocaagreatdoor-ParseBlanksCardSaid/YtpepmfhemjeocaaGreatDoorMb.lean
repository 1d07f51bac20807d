/- Texts of this claim's author, joined: Vt, Vi, Vj, Vk, Vl, Vm, Vn, Vo, Vp. -/
import Derived.Test.YtpepmfhemjeocaaGreatDoorMa
import Derived.Test.YtpepmfhemjeocaaGreatDoorProg
import Derived.KernelRfl
import Derived.Laws.StructEq
import Derived.Laws.Tables
import Derived.Lib.LazyBuf
import Derived.Laws.Pointers
section
/- The types of the translation, as the logic asks for them. Written by a program of this claim's author. -/
set_option maxRecDepth 100000
namespace Go.Proofs.YtpepmfhemjeocaaGreatDoor

def tabP0 : TTab
  | 1 => some ⟨1, 8, false, [], [.val .nilFunc], .other none, false⟩
  | 2 => some ⟨1, 8, false, [], [.int .i64 0], .int .i64, false⟩
  | 3 => some ⟨1, 8, false, [], [.int .i64 0], .int .i64, false⟩
  | 4 => some ⟨1, 1, false, [], [.bool false], .bool, false⟩
  | 5 => some ⟨1, 1, false, [], [.int .u8 0], .int .u8, false⟩
  | 6 => some ⟨1, 1, false, [], [.int .u8 0], .int .u8, false⟩
  | 7 => some ⟨4, 24, true, [(0, 1, false), (1, 1, false), (2, 1, false), (3, 1, false)], [.int .i64 0, .int .i64 0, .bool false, .int .u8 0], .struct, false⟩
  | 8 => some ⟨4, 24, true, [(0, 1, false), (1, 1, false), (2, 1, false), (3, 1, false)], [.int .i64 0, .int .i64 0, .bool false, .int .u8 0], .struct, false⟩
  | 9 => some ⟨1, 16, false, [], [.str []], .str, false⟩
  | 10 => some ⟨1, 16, false, [], [.str []], .str, false⟩
  | 11 => some ⟨1, 16, false, [], [.str []], .str, false⟩
  | 12 => some ⟨1, 8, false, [], [.int .u64 0], .int .u64, false⟩
  | 13 => some ⟨2, 24, true, [(0, 1, false), (1, 1, false)], [.str [], .int .u64 0], .struct, false⟩
  | 14 => some ⟨2, 24, true, [(0, 1, false), (1, 1, false)], [.str [], .int .u64 0], .struct, false⟩
  | 15 => some ⟨1, 8, false, [], [.val (.pointer none)], .other (some 202), false⟩
  | 16 => some ⟨1, 8, false, [], [.val (.pointer none)], .other (some 205), false⟩
  | 17 => some ⟨1, 8, false, [], [.val (.pointer none)], .other (some 212), false⟩
  | 18 => some ⟨1, 8, true, [(0, 1, false)], [.val (.pointer none)], .struct, false⟩
  | 19 => some ⟨1, 8, true, [(0, 1, false)], [.val (.pointer none)], .struct, false⟩
  | 20 => some ⟨1, 16, false, [], [.val .nilIface], .other none, false⟩
  | 21 => some ⟨1, 4, false, [], [.int .i32 0], .int .i32, false⟩
  | 22 => some ⟨3, 32, true, [(0, 1, false), (1, 1, false), (2, 1, false)], [.int .i64 0, .int .i64 0, .str []], .struct, false⟩
  | 23 => some ⟨3, 32, true, [(0, 1, false), (1, 1, false), (2, 1, false)], [.int .i64 0, .int .i64 0, .str []], .struct, true⟩
  | 24 => some ⟨1, 24, false, [], [.list 0 [] .nil], .slice 26, false⟩
  | 25 => some ⟨8, 104, true, [(0, 1, false), (1, 1, false), (2, 1, false), (3, 1, false), (4, 3, true), (7, 1, false)], [.int .i64 0, .int .i64 0, .str [], .str [], .int .i64 0, .int .i64 0, .str [], .list 0 [] .nil], .struct, false⟩
  | 26 => some ⟨8, 104, true, [(0, 1, false), (1, 1, false), (2, 1, false), (3, 1, false), (4, 3, true), (7, 1, false)], [.int .i64 0, .int .i64 0, .str [], .str [], .int .i64 0, .int .i64 0, .str [], .list 0 [] .nil], .struct, false⟩
  | 27 => some ⟨1, 8, false, [], [.val .nilFunc], .other none, false⟩
  | 28 => some ⟨1, 8, false, [], [.val .nilFunc], .other none, false⟩
  | 29 => some ⟨1, 8, false, [], [.val .nilFunc], .other none, false⟩
  | 30 => some ⟨1, 8, false, [], [.int .i64 0], .int .i64, false⟩
  | 32 => some ⟨1, 8, false, [], [.val .nilFunc], .other none, false⟩
  | 33 => some ⟨1, 8, false, [], [.val .nilFunc], .other none, false⟩
  | 34 => some ⟨1, 8, false, [], [.val .nilFunc], .other none, false⟩
  | 35 => some ⟨1, 24, false, [], [.list 0 [] .nil], .slice 42, false⟩
  | 36 => some ⟨1, 8, false, [], [.val .nilFunc], .other none, false⟩
  | 37 => some ⟨1, 24, false, [], [.list 0 [] .nil], .slice 145, false⟩
  | 38 => some ⟨1, 24, false, [], [.list 0 [] .nil], .slice 112, false⟩
  | 39 => some ⟨1, 24, false, [], [.list 0 [] .nil], .slice 71, false⟩
  | 40 => some ⟨1, 24, false, [], [.list 0 [] .nil], .slice 74, false⟩
  | 41 => some ⟨14, 264, true, [(0, 1, false), (1, 1, false), (2, 1, false), (3, 1, false), (4, 1, false), (5, 1, false), (6, 1, false), (7, 1, false), (8, 1, false), (9, 1, false), (10, 1, false), (11, 1, false), (12, 1, false), (13, 1, false)], [.int .i64 0, .str [], .list 0 [] .nil, .str [], .list 0 [] .nil, .list 0 [] .nil, .list 0 [] .nil, .str [], .list 0 [] .nil, .list 0 [] .nil, .list 0 [] .nil, .list 0 [] .nil, .bool false, .int .i64 0], .struct, false⟩
  | 42 => some ⟨14, 264, true, [(0, 1, false), (1, 1, false), (2, 1, false), (3, 1, false), (4, 1, false), (5, 1, false), (6, 1, false), (7, 1, false), (8, 1, false), (9, 1, false), (10, 1, false), (11, 1, false), (12, 1, false), (13, 1, false)], [.int .i64 0, .str [], .list 0 [] .nil, .str [], .list 0 [] .nil, .list 0 [] .nil, .list 0 [] .nil, .str [], .list 0 [] .nil, .list 0 [] .nil, .list 0 [] .nil, .list 0 [] .nil, .bool false, .int .i64 0], .struct, false⟩
  | 43 => some ⟨1, 8, false, [], [.val .nilFunc], .other none, false⟩
  | 44 => some ⟨1, 8, false, [], [.val .nilFunc], .other none, false⟩
  | 45 => some ⟨1, 8, false, [], [.val .nilFunc], .other none, false⟩
  | 46 => some ⟨1, 24, false, [], [.list 0 [] .nil], .slice 81, false⟩
  | 47 => some ⟨2, 16, true, [(0, 1, false), (1, 1, false)], [.int .i64 0, .int .i64 0], .struct, false⟩
  | 48 => some ⟨2, 16, true, [(0, 1, false), (1, 1, false)], [.int .i64 0, .int .i64 0], .struct, true⟩
  | 50 => some ⟨1, 8, false, [], [.val .nilFunc], .other none, false⟩
  | 51 => some ⟨1, 8, false, [], [.val .nilFunc], .other none, false⟩
  | 53 => some ⟨1, 8, false, [], [.val .nilFunc], .other none, false⟩
  | 55 => some ⟨1, 8, false, [], [.val .nilFunc], .other none, false⟩
  | 56 => some ⟨1, 8, false, [], [.val .nilFunc], .other none, false⟩
  | 57 => some ⟨1, 8, false, [], [.val .nilFunc], .other none, false⟩
  | 58 => some ⟨1, 8, false, [], [.val .nilFunc], .other none, false⟩
  | 59 => some ⟨1, 8, false, [], [.val (.pointer none)], .other (some 62), false⟩
  | 60 => some ⟨1, 24, false, [], [.list 0 [] .nil], .slice 81, false⟩
  | 61 => some ⟨3, 40, true, [(0, 1, false), (1, 1, false), (2, 1, false)], [.list 0 [] .nil, .int .i64 0, .int .i64 0], .struct, false⟩
  | 62 => some ⟨3, 40, true, [(0, 1, false), (1, 1, false), (2, 1, false)], [.list 0 [] .nil, .int .i64 0, .int .i64 0], .struct, false⟩
  | 63 => some ⟨1, 8, false, [], [.val .nilFunc], .other none, false⟩
  | 64 => some ⟨1, 8, false, [], [.val .nilFunc], .other none, false⟩
  | _ => none
def tabP1 : TTab
  | 65 => some ⟨1, 8, false, [], [.val (.pointer none)], .other (some 67), false⟩
  | 66 => some ⟨2, 32, true, [(0, 1, false), (1, 1, false)], [.list 0 [] .nil, .int .i64 0], .struct, false⟩
  | 67 => some ⟨2, 32, true, [(0, 1, false), (1, 1, false)], [.list 0 [] .nil, .int .i64 0], .struct, false⟩
  | 68 => some ⟨1, 8, false, [], [.val .nilFunc], .other none, false⟩
  | 69 => some ⟨1, 8, false, [], [.val .nilFunc], .other none, false⟩
  | 70 => some ⟨9, 120, true, [(0, 1, false), (1, 8, true)], [.str [], .int .i64 0, .int .i64 0, .str [], .str [], .int .i64 0, .int .i64 0, .str [], .list 0 [] .nil], .struct, false⟩
  | 71 => some ⟨9, 120, true, [(0, 1, false), (1, 8, true)], [.str [], .int .i64 0, .int .i64 0, .str [], .str [], .int .i64 0, .int .i64 0, .str [], .list 0 [] .nil], .struct, false⟩
  | 72 => some ⟨1, 8, false, [], [.val .nilFunc], .other none, false⟩
  | 73 => some ⟨2, 32, true, [(0, 1, false), (1, 1, false)], [.int .i64 0, .list 0 [] .nil], .struct, false⟩
  | 74 => some ⟨2, 32, true, [(0, 1, false), (1, 1, false)], [.int .i64 0, .list 0 [] .nil], .struct, false⟩
  | 75 => some ⟨1, 8, false, [], [.val .nilFunc], .other none, false⟩
  | 76 => some ⟨1, 8, false, [], [.val .nilFunc], .other none, false⟩
  | 77 => some ⟨1, 8, false, [], [.val .nilFunc], .other none, false⟩
  | 78 => some ⟨1, 24, false, [], [.list 0 [] .nil], .slice 9, false⟩
  | 79 => some ⟨1, 8, false, [], [.val .nilFunc], .other none, false⟩
  | 80 => some ⟨4, 40, true, [(0, 1, false), (1, 1, false), (2, 1, false), (3, 1, false)], [.int .i64 0, .str [], .int .i64 0, .int .i64 0], .struct, false⟩
  | 81 => some ⟨4, 40, true, [(0, 1, false), (1, 1, false), (2, 1, false), (3, 1, false)], [.int .i64 0, .str [], .int .i64 0, .int .i64 0], .struct, true⟩
  | 83 => some ⟨1, 8, false, [], [.val .nilFunc], .other none, false⟩
  | 84 => some ⟨1, 8, false, [], [.val .nilFunc], .other none, false⟩
  | 85 => some ⟨1, 8, false, [], [.val .nilFunc], .other none, false⟩
  | 86 => some ⟨1, 8, false, [], [.val (.pointer none)], .other (some 88), false⟩
  | 87 => some ⟨4, 48, true, [(0, 1, false), (1, 1, false), (2, 2, true)], [.list 0 [] .nil, .int .i64 0, .int .i64 0, .int .i64 0], .struct, false⟩
  | 88 => some ⟨4, 48, true, [(0, 1, false), (1, 1, false), (2, 2, true)], [.list 0 [] .nil, .int .i64 0, .int .i64 0, .int .i64 0], .struct, false⟩
  | 89 => some ⟨1, 8, false, [], [.val .nilFunc], .other none, false⟩
  | 90 => some ⟨1, 8, false, [], [.val .nilFunc], .other none, false⟩
  | 91 => some ⟨1, 8, false, [], [.val .nilFunc], .other none, false⟩
  | 92 => some ⟨1, 8, false, [], [.val .nilFunc], .other none, false⟩
  | 93 => some ⟨1, 8, false, [], [.val .nilFunc], .other none, false⟩
  | 94 => some ⟨1, 8, false, [], [.val .nilFunc], .other none, false⟩
  | 95 => some ⟨1, 8, false, [], [.val .nilFunc], .other none, false⟩
  | 96 => some ⟨1, 8, false, [], [.val .nilFunc], .other none, false⟩
  | 97 => some ⟨1, 8, false, [], [.val .nilFunc], .other none, false⟩
  | 98 => some ⟨1, 8, false, [], [.val .nilFunc], .other none, false⟩
  | 99 => some ⟨1, 8, false, [], [.val .nilFunc], .other none, false⟩
  | 100 => some ⟨1, 8, false, [], [.val .nilFunc], .other none, false⟩
  | 102 => some ⟨1, 8, false, [], [.val .nilFunc], .other none, false⟩
  | 103 => some ⟨1, 8, false, [], [.val .nilFunc], .other none, false⟩
  | 104 => some ⟨1, 8, false, [], [.val .nilFunc], .other none, false⟩
  | 105 => some ⟨1, 8, false, [], [.val .nilFunc], .other none, false⟩
  | 106 => some ⟨1, 8, false, [], [.val .nilFunc], .other none, false⟩
  | 107 => some ⟨1, 8, false, [], [.val (.pointer none)], .other (some 60), false⟩
  | 108 => some ⟨1, 8, false, [], [.val .nilFunc], .other none, false⟩
  | 109 => some ⟨1, 8, false, [], [.val .nilFunc], .other none, false⟩
  | 110 => some ⟨1, 8, false, [], [.val .nilFunc], .other none, false⟩
  | 111 => some ⟨1, 8, false, [], [.val .nilFunc], .other none, false⟩
  | 112 => some ⟨1, 24, false, [], [.list 0 [] .nil], .slice 23, false⟩
  | 113 => some ⟨1, 8, false, [], [.val .nilFunc], .other none, false⟩
  | 114 => some ⟨1, 8, false, [], [.val .nilFunc], .other none, false⟩
  | 115 => some ⟨1, 8, false, [], [.val .nilFunc], .other none, false⟩
  | 116 => some ⟨1, 8, false, [], [.val .nilFunc], .other none, false⟩
  | 118 => some ⟨1, 8, false, [], [.val .nilFunc], .other none, false⟩
  | 119 => some ⟨1, 8, false, [], [.val .nilFunc], .other none, false⟩
  | 120 => some ⟨1, 8, false, [], [.val .nilFunc], .other none, false⟩
  | 121 => some ⟨1, 8, false, [], [.val (.pointer none)], .other (some 124), false⟩
  | 122 => some ⟨1, 24, false, [], [.list 0 [] .nil], .slice 5, false⟩
  | 123 => some ⟨2, 32, true, [(0, 1, false), (1, 1, false)], [.val (.pointer none), .list 0 [] .nil], .struct, false⟩
  | 124 => some ⟨2, 32, true, [(0, 1, false), (1, 1, false)], [.val (.pointer none), .list 0 [] .nil], .struct, false⟩
  | 125 => some ⟨1, 16, false, [], [.val .nilIface], .other none, false⟩
  | 126 => some ⟨1, 16, false, [], [.val .nilIface], .other none, false⟩
  | 128 => some ⟨1, 8, false, [], [.val .nilFunc], .other none, false⟩
  | _ => none
def tabP2 : TTab
  | 129 => some ⟨1, 8, false, [], [.val .nilFunc], .other none, false⟩
  | 130 => some ⟨1, 8, false, [], [.val .nilFunc], .other none, false⟩
  | 131 => some ⟨1, 8, false, [], [.val .nilFunc], .other none, false⟩
  | 132 => some ⟨1, 8, false, [], [.val .nilFunc], .other none, false⟩
  | 133 => some ⟨1, 8, false, [], [.val (.pointer none)], .other (some 42), false⟩
  | 134 => some ⟨1, 8, false, [], [.val .nilFunc], .other none, false⟩
  | 135 => some ⟨1, 8, false, [], [.val .nilFunc], .other none, false⟩
  | 136 => some ⟨1, 8, false, [], [.val .nilFunc], .other none, false⟩
  | 137 => some ⟨1, 8, false, [], [.val .nilFunc], .other none, false⟩
  | 138 => some ⟨1, 8, false, [], [.val .nilFunc], .other none, false⟩
  | 139 => some ⟨1, 8, false, [], [.val .nilFunc], .other none, false⟩
  | 140 => some ⟨1, 8, false, [], [.val .nilFunc], .other none, false⟩
  | 141 => some ⟨1, 8, false, [], [.val .nilFunc], .other none, false⟩
  | 142 => some ⟨1, 8, false, [], [.val .nilFunc], .other none, false⟩
  | 143 => some ⟨1, 8, false, [], [.val .nilFunc], .other none, false⟩
  | 144 => some ⟨4, 32, true, [(0, 1, false), (1, 1, false), (2, 1, false), (3, 1, false)], [.str [], .int .i64 0, .bool false, .bool false], .struct, false⟩
  | 145 => some ⟨4, 32, true, [(0, 1, false), (1, 1, false), (2, 1, false), (3, 1, false)], [.str [], .int .i64 0, .bool false, .bool false], .struct, true⟩
  | 146 => some ⟨1, 8, false, [], [.val .nilFunc], .other none, false⟩
  | 147 => some ⟨1, 8, false, [], [.val .nilFunc], .other none, false⟩
  | 148 => some ⟨1, 8, false, [], [.val .nilFunc], .other none, false⟩
  | 149 => some ⟨1, 8, false, [], [.val .nilFunc], .other none, false⟩
  | 150 => some ⟨1, 8, false, [], [.val .nilFunc], .other none, false⟩
  | 151 => some ⟨1, 8, false, [], [.val .nilFunc], .other none, false⟩
  | 152 => some ⟨1, 8, false, [], [.val .nilFunc], .other none, false⟩
  | 153 => some ⟨1, 8, false, [], [.val .nilFunc], .other none, false⟩
  | 155 => some ⟨1, 8, false, [], [.val .nilFunc], .other none, false⟩
  | 156 => some ⟨1, 8, false, [], [.val .nilFunc], .other none, false⟩
  | 157 => some ⟨1, 8, false, [], [.val (.pointer none)], .other (some 5), false⟩
  | 158 => some ⟨1, 8, false, [], [.val .nilFunc], .other none, false⟩
  | 159 => some ⟨1, 8, false, [], [.val .nilFunc], .other none, false⟩
  | 160 => some ⟨1, 8, false, [], [.val .nilFunc], .other none, false⟩
  | 161 => some ⟨1, 8, false, [], [.val .nilFunc], .other none, false⟩
  | 162 => some ⟨1, 8, false, [], [.val .nilFunc], .other none, false⟩
  | 163 => some ⟨1, 8, false, [], [.val .nilFunc], .other none, false⟩
  | 164 => some ⟨1, 8, false, [], [.val .nilFunc], .other none, false⟩
  | 165 => some ⟨1, 8, false, [], [.val .nilFunc], .other none, false⟩
  | 166 => some ⟨1, 8, false, [], [.val .nilFunc], .other none, false⟩
  | 167 => some ⟨1, 8, false, [], [.val .nilFunc], .other none, false⟩
  | 168 => some ⟨1, 8, false, [], [.val .nilFunc], .other none, false⟩
  | 170 => some ⟨1, 8, false, [], [.val .nilFunc], .other none, false⟩
  | 172 => some ⟨1, 8, false, [], [.val .nilFunc], .other none, false⟩
  | 173 => some ⟨1, 8, false, [], [.val .nilFunc], .other none, false⟩
  | 175 => some ⟨1, 8, false, [], [.val .nilFunc], .other none, false⟩
  | 176 => some ⟨1, 8, false, [], [.val .nilFunc], .other none, false⟩
  | 177 => some ⟨1, 8, false, [], [.val .nilFunc], .other none, false⟩
  | 179 => some ⟨1, 8, false, [], [.int .u64 0], .int .u64, false⟩
  | 180 => some ⟨1, 8, false, [], [.val .nilFunc], .other none, false⟩
  | 181 => some ⟨1, 8, false, [], [.val .nilFunc], .other none, false⟩
  | 183 => some ⟨1, 8, false, [], [.val .nilFunc], .other none, false⟩
  | 184 => some ⟨1, 8, false, [], [.val .nilFunc], .other none, false⟩
  | 185 => some ⟨1, 8, false, [], [.val .nilFunc], .other none, false⟩
  | 187 => some ⟨1, 4, false, [], [.int .u32 0], .int .u32, false⟩
  | 189 => some ⟨1, 8, false, [], [.val .nilFunc], .other none, false⟩
  | 190 => some ⟨1, 8, false, [], [.int .u64 0], .int .u64, false⟩
  | 191 => some ⟨1, 8, false, [], [.val .nilFunc], .other none, false⟩
  | 193 => some ⟨2, 2, true, [(0, 1, false), (1, 1, false)], [.int .u8 0, .int .u8 0], .struct, false⟩
  | 194 => some ⟨2, 2, true, [(0, 1, false), (1, 1, false)], [.int .u8 0, .int .u8 0], .struct, false⟩
  | 196 => some ⟨1, 8, false, [], [.val .nilFunc], .other none, false⟩
  | 198 => some ⟨1, 8, false, [], [.val .nilFunc], .other none, false⟩
  | 201 => some ⟨4, 40, true, [(0, 1, false), (1, 1, false), (2, 1, false), (3, 1, false)], [.val (.pointer none), .val (.pointer none), .val (.pointer none), .str []], .struct, false⟩
  | _ => none
def tabP3 : TTab
  | 202 => some ⟨4, 40, true, [(0, 1, false), (1, 1, false), (2, 1, false), (3, 1, false)], [.val (.pointer none), .val (.pointer none), .val (.pointer none), .str []], .struct, false⟩
  | 204 => some ⟨0, 0, true, [(0, 0, true)], [], .struct, false⟩
  | 205 => some ⟨0, 0, true, [(0, 0, true)], [], .struct, false⟩
  | 206 => some ⟨1, 1, false, [], [.int .u8 0], .int .u8, false⟩
  | 207 => some ⟨1, 1, false, [], [.int .u8 0], .int .u8, false⟩
  | 208 => some ⟨1, 8, false, [], [.val .nilFunc], .other none, false⟩
  | 209 => some ⟨1, 4, false, [], [.int .i32 0], .int .i32, false⟩
  | 210 => some ⟨1, 4, false, [], [.int .i32 0], .int .i32, false⟩
  | 211 => some ⟨11, 48, true, [(0, 1, false), (1, 1, false), (2, 1, false), (3, 1, false), (4, 1, false), (5, 1, false), (6, 1, false), (7, 1, false), (8, 1, false), (9, 1, false), (10, 1, false)], [.int .u64 0, .int .u64 0, .int .u32 0, .int .u8 0, .int .u8 0, .int .u8 0, .int .u8 0, .val .nilFunc, .val (.pointer none), .int .i32 0, .int .i32 0], .struct, false⟩
  | 212 => some ⟨11, 48, true, [(0, 1, false), (1, 1, false), (2, 1, false), (3, 1, false), (4, 1, false), (5, 1, false), (6, 1, false), (7, 1, false), (8, 1, false), (9, 1, false), (10, 1, false)], [.int .u64 0, .int .u64 0, .int .u32 0, .int .u8 0, .int .u8 0, .int .u8 0, .int .u8 0, .val .nilFunc, .val (.pointer none), .int .i32 0, .int .i32 0], .struct, false⟩
  | _ => none
def orT (a b : TTab) : TTab := fun t => match a t with | some y => some y | none => b t
def tab : TTab := orT tabP0 (orT tabP1 (orT tabP2 (orT tabP3 fun _ => none)))
theorem tab1 : tab 1 = some ⟨1, 8, false, [], [.val .nilFunc], .other none, false⟩ := rfl
theorem tab2 : tab 2 = some ⟨1, 8, false, [], [.int .i64 0], .int .i64, false⟩ := rfl
theorem tab3 : tab 3 = some ⟨1, 8, false, [], [.int .i64 0], .int .i64, false⟩ := rfl
theorem tab4 : tab 4 = some ⟨1, 1, false, [], [.bool false], .bool, false⟩ := rfl
theorem tab5 : tab 5 = some ⟨1, 1, false, [], [.int .u8 0], .int .u8, false⟩ := rfl
theorem tab6 : tab 6 = some ⟨1, 1, false, [], [.int .u8 0], .int .u8, false⟩ := rfl
theorem tab7 : tab 7 = some ⟨4, 24, true, [(0, 1, false), (1, 1, false), (2, 1, false), (3, 1, false)], [.int .i64 0, .int .i64 0, .bool false, .int .u8 0], .struct, false⟩ := rfl
theorem tab8 : tab 8 = some ⟨4, 24, true, [(0, 1, false), (1, 1, false), (2, 1, false), (3, 1, false)], [.int .i64 0, .int .i64 0, .bool false, .int .u8 0], .struct, false⟩ := rfl
theorem tab9 : tab 9 = some ⟨1, 16, false, [], [.str []], .str, false⟩ := rfl
theorem tab10 : tab 10 = some ⟨1, 16, false, [], [.str []], .str, false⟩ := rfl
theorem tab11 : tab 11 = some ⟨1, 16, false, [], [.str []], .str, false⟩ := rfl
theorem tab12 : tab 12 = some ⟨1, 8, false, [], [.int .u64 0], .int .u64, false⟩ := rfl
theorem tab13 : tab 13 = some ⟨2, 24, true, [(0, 1, false), (1, 1, false)], [.str [], .int .u64 0], .struct, false⟩ := rfl
theorem tab14 : tab 14 = some ⟨2, 24, true, [(0, 1, false), (1, 1, false)], [.str [], .int .u64 0], .struct, false⟩ := rfl
theorem tab15 : tab 15 = some ⟨1, 8, false, [], [.val (.pointer none)], .other (some 202), false⟩ := rfl
theorem tab16 : tab 16 = some ⟨1, 8, false, [], [.val (.pointer none)], .other (some 205), false⟩ := rfl
theorem tab17 : tab 17 = some ⟨1, 8, false, [], [.val (.pointer none)], .other (some 212), false⟩ := rfl
theorem tab18 : tab 18 = some ⟨1, 8, true, [(0, 1, false)], [.val (.pointer none)], .struct, false⟩ := rfl
theorem tab19 : tab 19 = some ⟨1, 8, true, [(0, 1, false)], [.val (.pointer none)], .struct, false⟩ := rfl
theorem tab20 : tab 20 = some ⟨1, 16, false, [], [.val .nilIface], .other none, false⟩ := rfl
theorem tab21 : tab 21 = some ⟨1, 4, false, [], [.int .i32 0], .int .i32, false⟩ := rfl
theorem tab22 : tab 22 = some ⟨3, 32, true, [(0, 1, false), (1, 1, false), (2, 1, false)], [.int .i64 0, .int .i64 0, .str []], .struct, false⟩ := rfl
theorem tab23 : tab 23 = some ⟨3, 32, true, [(0, 1, false), (1, 1, false), (2, 1, false)], [.int .i64 0, .int .i64 0, .str []], .struct, true⟩ := rfl
theorem tab24 : tab 24 = some ⟨1, 24, false, [], [.list 0 [] .nil], .slice 26, false⟩ := rfl
theorem tab25 : tab 25 = some ⟨8, 104, true, [(0, 1, false), (1, 1, false), (2, 1, false), (3, 1, false), (4, 3, true), (7, 1, false)], [.int .i64 0, .int .i64 0, .str [], .str [], .int .i64 0, .int .i64 0, .str [], .list 0 [] .nil], .struct, false⟩ := rfl
theorem tab26 : tab 26 = some ⟨8, 104, true, [(0, 1, false), (1, 1, false), (2, 1, false), (3, 1, false), (4, 3, true), (7, 1, false)], [.int .i64 0, .int .i64 0, .str [], .str [], .int .i64 0, .int .i64 0, .str [], .list 0 [] .nil], .struct, false⟩ := rfl
theorem tab27 : tab 27 = some ⟨1, 8, false, [], [.val .nilFunc], .other none, false⟩ := rfl
theorem tab28 : tab 28 = some ⟨1, 8, false, [], [.val .nilFunc], .other none, false⟩ := rfl
theorem tab29 : tab 29 = some ⟨1, 8, false, [], [.val .nilFunc], .other none, false⟩ := rfl
theorem tab30 : tab 30 = some ⟨1, 8, false, [], [.int .i64 0], .int .i64, false⟩ := rfl
theorem tab32 : tab 32 = some ⟨1, 8, false, [], [.val .nilFunc], .other none, false⟩ := rfl
theorem tab33 : tab 33 = some ⟨1, 8, false, [], [.val .nilFunc], .other none, false⟩ := rfl
theorem tab34 : tab 34 = some ⟨1, 8, false, [], [.val .nilFunc], .other none, false⟩ := rfl
theorem tab35 : tab 35 = some ⟨1, 24, false, [], [.list 0 [] .nil], .slice 42, false⟩ := rfl
theorem tab36 : tab 36 = some ⟨1, 8, false, [], [.val .nilFunc], .other none, false⟩ := rfl
theorem tab37 : tab 37 = some ⟨1, 24, false, [], [.list 0 [] .nil], .slice 145, false⟩ := rfl
theorem tab38 : tab 38 = some ⟨1, 24, false, [], [.list 0 [] .nil], .slice 112, false⟩ := rfl
theorem tab39 : tab 39 = some ⟨1, 24, false, [], [.list 0 [] .nil], .slice 71, false⟩ := rfl
theorem tab40 : tab 40 = some ⟨1, 24, false, [], [.list 0 [] .nil], .slice 74, false⟩ := rfl
theorem tab41 : tab 41 = some ⟨14, 264, true, [(0, 1, false), (1, 1, false), (2, 1, false), (3, 1, false), (4, 1, false), (5, 1, false), (6, 1, false), (7, 1, false), (8, 1, false), (9, 1, false), (10, 1, false), (11, 1, false), (12, 1, false), (13, 1, false)], [.int .i64 0, .str [], .list 0 [] .nil, .str [], .list 0 [] .nil, .list 0 [] .nil, .list 0 [] .nil, .str [], .list 0 [] .nil, .list 0 [] .nil, .list 0 [] .nil, .list 0 [] .nil, .bool false, .int .i64 0], .struct, false⟩ := rfl
theorem tab42 : tab 42 = some ⟨14, 264, true, [(0, 1, false), (1, 1, false), (2, 1, false), (3, 1, false), (4, 1, false), (5, 1, false), (6, 1, false), (7, 1, false), (8, 1, false), (9, 1, false), (10, 1, false), (11, 1, false), (12, 1, false), (13, 1, false)], [.int .i64 0, .str [], .list 0 [] .nil, .str [], .list 0 [] .nil, .list 0 [] .nil, .list 0 [] .nil, .str [], .list 0 [] .nil, .list 0 [] .nil, .list 0 [] .nil, .list 0 [] .nil, .bool false, .int .i64 0], .struct, false⟩ := rfl
theorem tab43 : tab 43 = some ⟨1, 8, false, [], [.val .nilFunc], .other none, false⟩ := rfl
theorem tab44 : tab 44 = some ⟨1, 8, false, [], [.val .nilFunc], .other none, false⟩ := rfl
theorem tab45 : tab 45 = some ⟨1, 8, false, [], [.val .nilFunc], .other none, false⟩ := rfl
theorem tab46 : tab 46 = some ⟨1, 24, false, [], [.list 0 [] .nil], .slice 81, false⟩ := rfl
theorem tab47 : tab 47 = some ⟨2, 16, true, [(0, 1, false), (1, 1, false)], [.int .i64 0, .int .i64 0], .struct, false⟩ := rfl
theorem tab48 : tab 48 = some ⟨2, 16, true, [(0, 1, false), (1, 1, false)], [.int .i64 0, .int .i64 0], .struct, true⟩ := rfl
theorem tab50 : tab 50 = some ⟨1, 8, false, [], [.val .nilFunc], .other none, false⟩ := rfl
theorem tab51 : tab 51 = some ⟨1, 8, false, [], [.val .nilFunc], .other none, false⟩ := rfl
theorem tab53 : tab 53 = some ⟨1, 8, false, [], [.val .nilFunc], .other none, false⟩ := rfl
theorem tab55 : tab 55 = some ⟨1, 8, false, [], [.val .nilFunc], .other none, false⟩ := rfl
theorem tab56 : tab 56 = some ⟨1, 8, false, [], [.val .nilFunc], .other none, false⟩ := rfl
theorem tab57 : tab 57 = some ⟨1, 8, false, [], [.val .nilFunc], .other none, false⟩ := rfl
theorem tab58 : tab 58 = some ⟨1, 8, false, [], [.val .nilFunc], .other none, false⟩ := rfl
theorem tab59 : tab 59 = some ⟨1, 8, false, [], [.val (.pointer none)], .other (some 62), false⟩ := rfl
theorem tab60 : tab 60 = some ⟨1, 24, false, [], [.list 0 [] .nil], .slice 81, false⟩ := rfl
theorem tab61 : tab 61 = some ⟨3, 40, true, [(0, 1, false), (1, 1, false), (2, 1, false)], [.list 0 [] .nil, .int .i64 0, .int .i64 0], .struct, false⟩ := rfl
theorem tab62 : tab 62 = some ⟨3, 40, true, [(0, 1, false), (1, 1, false), (2, 1, false)], [.list 0 [] .nil, .int .i64 0, .int .i64 0], .struct, false⟩ := rfl
theorem tab63 : tab 63 = some ⟨1, 8, false, [], [.val .nilFunc], .other none, false⟩ := rfl
theorem tab64 : tab 64 = some ⟨1, 8, false, [], [.val .nilFunc], .other none, false⟩ := rfl
theorem tab65 : tab 65 = some ⟨1, 8, false, [], [.val (.pointer none)], .other (some 67), false⟩ := rfl
theorem tab66 : tab 66 = some ⟨2, 32, true, [(0, 1, false), (1, 1, false)], [.list 0 [] .nil, .int .i64 0], .struct, false⟩ := rfl
theorem tab67 : tab 67 = some ⟨2, 32, true, [(0, 1, false), (1, 1, false)], [.list 0 [] .nil, .int .i64 0], .struct, false⟩ := rfl
theorem tab68 : tab 68 = some ⟨1, 8, false, [], [.val .nilFunc], .other none, false⟩ := rfl
theorem tab69 : tab 69 = some ⟨1, 8, false, [], [.val .nilFunc], .other none, false⟩ := rfl
theorem tab70 : tab 70 = some ⟨9, 120, true, [(0, 1, false), (1, 8, true)], [.str [], .int .i64 0, .int .i64 0, .str [], .str [], .int .i64 0, .int .i64 0, .str [], .list 0 [] .nil], .struct, false⟩ := rfl
theorem tab71 : tab 71 = some ⟨9, 120, true, [(0, 1, false), (1, 8, true)], [.str [], .int .i64 0, .int .i64 0, .str [], .str [], .int .i64 0, .int .i64 0, .str [], .list 0 [] .nil], .struct, false⟩ := rfl
theorem tab72 : tab 72 = some ⟨1, 8, false, [], [.val .nilFunc], .other none, false⟩ := rfl
theorem tab73 : tab 73 = some ⟨2, 32, true, [(0, 1, false), (1, 1, false)], [.int .i64 0, .list 0 [] .nil], .struct, false⟩ := rfl
theorem tab74 : tab 74 = some ⟨2, 32, true, [(0, 1, false), (1, 1, false)], [.int .i64 0, .list 0 [] .nil], .struct, false⟩ := rfl
theorem tab75 : tab 75 = some ⟨1, 8, false, [], [.val .nilFunc], .other none, false⟩ := rfl
theorem tab76 : tab 76 = some ⟨1, 8, false, [], [.val .nilFunc], .other none, false⟩ := rfl
theorem tab77 : tab 77 = some ⟨1, 8, false, [], [.val .nilFunc], .other none, false⟩ := rfl
theorem tab78 : tab 78 = some ⟨1, 24, false, [], [.list 0 [] .nil], .slice 9, false⟩ := rfl
theorem tab79 : tab 79 = some ⟨1, 8, false, [], [.val .nilFunc], .other none, false⟩ := rfl
theorem tab80 : tab 80 = some ⟨4, 40, true, [(0, 1, false), (1, 1, false), (2, 1, false), (3, 1, false)], [.int .i64 0, .str [], .int .i64 0, .int .i64 0], .struct, false⟩ := rfl
theorem tab81 : tab 81 = some ⟨4, 40, true, [(0, 1, false), (1, 1, false), (2, 1, false), (3, 1, false)], [.int .i64 0, .str [], .int .i64 0, .int .i64 0], .struct, true⟩ := rfl
theorem tab83 : tab 83 = some ⟨1, 8, false, [], [.val .nilFunc], .other none, false⟩ := rfl
theorem tab84 : tab 84 = some ⟨1, 8, false, [], [.val .nilFunc], .other none, false⟩ := rfl
theorem tab85 : tab 85 = some ⟨1, 8, false, [], [.val .nilFunc], .other none, false⟩ := rfl
theorem tab86 : tab 86 = some ⟨1, 8, false, [], [.val (.pointer none)], .other (some 88), false⟩ := rfl
theorem tab87 : tab 87 = some ⟨4, 48, true, [(0, 1, false), (1, 1, false), (2, 2, true)], [.list 0 [] .nil, .int .i64 0, .int .i64 0, .int .i64 0], .struct, false⟩ := rfl
theorem tab88 : tab 88 = some ⟨4, 48, true, [(0, 1, false), (1, 1, false), (2, 2, true)], [.list 0 [] .nil, .int .i64 0, .int .i64 0, .int .i64 0], .struct, false⟩ := rfl
theorem tab89 : tab 89 = some ⟨1, 8, false, [], [.val .nilFunc], .other none, false⟩ := rfl
theorem tab90 : tab 90 = some ⟨1, 8, false, [], [.val .nilFunc], .other none, false⟩ := rfl
theorem tab91 : tab 91 = some ⟨1, 8, false, [], [.val .nilFunc], .other none, false⟩ := rfl
theorem tab92 : tab 92 = some ⟨1, 8, false, [], [.val .nilFunc], .other none, false⟩ := rfl
theorem tab93 : tab 93 = some ⟨1, 8, false, [], [.val .nilFunc], .other none, false⟩ := rfl
theorem tab94 : tab 94 = some ⟨1, 8, false, [], [.val .nilFunc], .other none, false⟩ := rfl
theorem tab95 : tab 95 = some ⟨1, 8, false, [], [.val .nilFunc], .other none, false⟩ := rfl
theorem tab96 : tab 96 = some ⟨1, 8, false, [], [.val .nilFunc], .other none, false⟩ := rfl
theorem tab97 : tab 97 = some ⟨1, 8, false, [], [.val .nilFunc], .other none, false⟩ := rfl
theorem tab98 : tab 98 = some ⟨1, 8, false, [], [.val .nilFunc], .other none, false⟩ := rfl
theorem tab99 : tab 99 = some ⟨1, 8, false, [], [.val .nilFunc], .other none, false⟩ := rfl
theorem tab100 : tab 100 = some ⟨1, 8, false, [], [.val .nilFunc], .other none, false⟩ := rfl
theorem tab102 : tab 102 = some ⟨1, 8, false, [], [.val .nilFunc], .other none, false⟩ := rfl
theorem tab103 : tab 103 = some ⟨1, 8, false, [], [.val .nilFunc], .other none, false⟩ := rfl
theorem tab104 : tab 104 = some ⟨1, 8, false, [], [.val .nilFunc], .other none, false⟩ := rfl
theorem tab105 : tab 105 = some ⟨1, 8, false, [], [.val .nilFunc], .other none, false⟩ := rfl
theorem tab106 : tab 106 = some ⟨1, 8, false, [], [.val .nilFunc], .other none, false⟩ := rfl
theorem tab107 : tab 107 = some ⟨1, 8, false, [], [.val (.pointer none)], .other (some 60), false⟩ := rfl
theorem tab108 : tab 108 = some ⟨1, 8, false, [], [.val .nilFunc], .other none, false⟩ := rfl
theorem tab109 : tab 109 = some ⟨1, 8, false, [], [.val .nilFunc], .other none, false⟩ := rfl
theorem tab110 : tab 110 = some ⟨1, 8, false, [], [.val .nilFunc], .other none, false⟩ := rfl
theorem tab111 : tab 111 = some ⟨1, 8, false, [], [.val .nilFunc], .other none, false⟩ := rfl
theorem tab112 : tab 112 = some ⟨1, 24, false, [], [.list 0 [] .nil], .slice 23, false⟩ := rfl
theorem tab113 : tab 113 = some ⟨1, 8, false, [], [.val .nilFunc], .other none, false⟩ := rfl
theorem tab114 : tab 114 = some ⟨1, 8, false, [], [.val .nilFunc], .other none, false⟩ := rfl
theorem tab115 : tab 115 = some ⟨1, 8, false, [], [.val .nilFunc], .other none, false⟩ := rfl
theorem tab116 : tab 116 = some ⟨1, 8, false, [], [.val .nilFunc], .other none, false⟩ := rfl
theorem tab118 : tab 118 = some ⟨1, 8, false, [], [.val .nilFunc], .other none, false⟩ := rfl
theorem tab119 : tab 119 = some ⟨1, 8, false, [], [.val .nilFunc], .other none, false⟩ := rfl
theorem tab120 : tab 120 = some ⟨1, 8, false, [], [.val .nilFunc], .other none, false⟩ := rfl
theorem tab121 : tab 121 = some ⟨1, 8, false, [], [.val (.pointer none)], .other (some 124), false⟩ := rfl
theorem tab122 : tab 122 = some ⟨1, 24, false, [], [.list 0 [] .nil], .slice 5, false⟩ := rfl
theorem tab123 : tab 123 = some ⟨2, 32, true, [(0, 1, false), (1, 1, false)], [.val (.pointer none), .list 0 [] .nil], .struct, false⟩ := rfl
theorem tab124 : tab 124 = some ⟨2, 32, true, [(0, 1, false), (1, 1, false)], [.val (.pointer none), .list 0 [] .nil], .struct, false⟩ := rfl
theorem tab125 : tab 125 = some ⟨1, 16, false, [], [.val .nilIface], .other none, false⟩ := rfl
theorem tab126 : tab 126 = some ⟨1, 16, false, [], [.val .nilIface], .other none, false⟩ := rfl
theorem tab128 : tab 128 = some ⟨1, 8, false, [], [.val .nilFunc], .other none, false⟩ := rfl
theorem tab129 : tab 129 = some ⟨1, 8, false, [], [.val .nilFunc], .other none, false⟩ := rfl
theorem tab130 : tab 130 = some ⟨1, 8, false, [], [.val .nilFunc], .other none, false⟩ := rfl
theorem tab131 : tab 131 = some ⟨1, 8, false, [], [.val .nilFunc], .other none, false⟩ := rfl
theorem tab132 : tab 132 = some ⟨1, 8, false, [], [.val .nilFunc], .other none, false⟩ := rfl
theorem tab133 : tab 133 = some ⟨1, 8, false, [], [.val (.pointer none)], .other (some 42), false⟩ := rfl
theorem tab134 : tab 134 = some ⟨1, 8, false, [], [.val .nilFunc], .other none, false⟩ := rfl
theorem tab135 : tab 135 = some ⟨1, 8, false, [], [.val .nilFunc], .other none, false⟩ := rfl
theorem tab136 : tab 136 = some ⟨1, 8, false, [], [.val .nilFunc], .other none, false⟩ := rfl
theorem tab137 : tab 137 = some ⟨1, 8, false, [], [.val .nilFunc], .other none, false⟩ := rfl
theorem tab138 : tab 138 = some ⟨1, 8, false, [], [.val .nilFunc], .other none, false⟩ := rfl
theorem tab139 : tab 139 = some ⟨1, 8, false, [], [.val .nilFunc], .other none, false⟩ := rfl
theorem tab140 : tab 140 = some ⟨1, 8, false, [], [.val .nilFunc], .other none, false⟩ := rfl
theorem tab141 : tab 141 = some ⟨1, 8, false, [], [.val .nilFunc], .other none, false⟩ := rfl
theorem tab142 : tab 142 = some ⟨1, 8, false, [], [.val .nilFunc], .other none, false⟩ := rfl
theorem tab143 : tab 143 = some ⟨1, 8, false, [], [.val .nilFunc], .other none, false⟩ := rfl
theorem tab144 : tab 144 = some ⟨4, 32, true, [(0, 1, false), (1, 1, false), (2, 1, false), (3, 1, false)], [.str [], .int .i64 0, .bool false, .bool false], .struct, false⟩ := rfl
theorem tab145 : tab 145 = some ⟨4, 32, true, [(0, 1, false), (1, 1, false), (2, 1, false), (3, 1, false)], [.str [], .int .i64 0, .bool false, .bool false], .struct, true⟩ := rfl
theorem tab146 : tab 146 = some ⟨1, 8, false, [], [.val .nilFunc], .other none, false⟩ := rfl
theorem tab147 : tab 147 = some ⟨1, 8, false, [], [.val .nilFunc], .other none, false⟩ := rfl
theorem tab148 : tab 148 = some ⟨1, 8, false, [], [.val .nilFunc], .other none, false⟩ := rfl
theorem tab149 : tab 149 = some ⟨1, 8, false, [], [.val .nilFunc], .other none, false⟩ := rfl
theorem tab150 : tab 150 = some ⟨1, 8, false, [], [.val .nilFunc], .other none, false⟩ := rfl
theorem tab151 : tab 151 = some ⟨1, 8, false, [], [.val .nilFunc], .other none, false⟩ := rfl
theorem tab152 : tab 152 = some ⟨1, 8, false, [], [.val .nilFunc], .other none, false⟩ := rfl
theorem tab153 : tab 153 = some ⟨1, 8, false, [], [.val .nilFunc], .other none, false⟩ := rfl
theorem tab155 : tab 155 = some ⟨1, 8, false, [], [.val .nilFunc], .other none, false⟩ := rfl
theorem tab156 : tab 156 = some ⟨1, 8, false, [], [.val .nilFunc], .other none, false⟩ := rfl
theorem tab157 : tab 157 = some ⟨1, 8, false, [], [.val (.pointer none)], .other (some 5), false⟩ := rfl
theorem tab158 : tab 158 = some ⟨1, 8, false, [], [.val .nilFunc], .other none, false⟩ := rfl
theorem tab159 : tab 159 = some ⟨1, 8, false, [], [.val .nilFunc], .other none, false⟩ := rfl
theorem tab160 : tab 160 = some ⟨1, 8, false, [], [.val .nilFunc], .other none, false⟩ := rfl
theorem tab161 : tab 161 = some ⟨1, 8, false, [], [.val .nilFunc], .other none, false⟩ := rfl
theorem tab162 : tab 162 = some ⟨1, 8, false, [], [.val .nilFunc], .other none, false⟩ := rfl
theorem tab163 : tab 163 = some ⟨1, 8, false, [], [.val .nilFunc], .other none, false⟩ := rfl
theorem tab164 : tab 164 = some ⟨1, 8, false, [], [.val .nilFunc], .other none, false⟩ := rfl
theorem tab165 : tab 165 = some ⟨1, 8, false, [], [.val .nilFunc], .other none, false⟩ := rfl
theorem tab166 : tab 166 = some ⟨1, 8, false, [], [.val .nilFunc], .other none, false⟩ := rfl
theorem tab167 : tab 167 = some ⟨1, 8, false, [], [.val .nilFunc], .other none, false⟩ := rfl
theorem tab168 : tab 168 = some ⟨1, 8, false, [], [.val .nilFunc], .other none, false⟩ := rfl
theorem tab170 : tab 170 = some ⟨1, 8, false, [], [.val .nilFunc], .other none, false⟩ := rfl
theorem tab172 : tab 172 = some ⟨1, 8, false, [], [.val .nilFunc], .other none, false⟩ := rfl
theorem tab173 : tab 173 = some ⟨1, 8, false, [], [.val .nilFunc], .other none, false⟩ := rfl
theorem tab175 : tab 175 = some ⟨1, 8, false, [], [.val .nilFunc], .other none, false⟩ := rfl
theorem tab176 : tab 176 = some ⟨1, 8, false, [], [.val .nilFunc], .other none, false⟩ := rfl
theorem tab177 : tab 177 = some ⟨1, 8, false, [], [.val .nilFunc], .other none, false⟩ := rfl
theorem tab179 : tab 179 = some ⟨1, 8, false, [], [.int .u64 0], .int .u64, false⟩ := rfl
theorem tab180 : tab 180 = some ⟨1, 8, false, [], [.val .nilFunc], .other none, false⟩ := rfl
theorem tab181 : tab 181 = some ⟨1, 8, false, [], [.val .nilFunc], .other none, false⟩ := rfl
theorem tab183 : tab 183 = some ⟨1, 8, false, [], [.val .nilFunc], .other none, false⟩ := rfl
theorem tab184 : tab 184 = some ⟨1, 8, false, [], [.val .nilFunc], .other none, false⟩ := rfl
theorem tab185 : tab 185 = some ⟨1, 8, false, [], [.val .nilFunc], .other none, false⟩ := rfl
theorem tab187 : tab 187 = some ⟨1, 4, false, [], [.int .u32 0], .int .u32, false⟩ := rfl
theorem tab189 : tab 189 = some ⟨1, 8, false, [], [.val .nilFunc], .other none, false⟩ := rfl
theorem tab190 : tab 190 = some ⟨1, 8, false, [], [.int .u64 0], .int .u64, false⟩ := rfl
theorem tab191 : tab 191 = some ⟨1, 8, false, [], [.val .nilFunc], .other none, false⟩ := rfl
theorem tab193 : tab 193 = some ⟨2, 2, true, [(0, 1, false), (1, 1, false)], [.int .u8 0, .int .u8 0], .struct, false⟩ := rfl
theorem tab194 : tab 194 = some ⟨2, 2, true, [(0, 1, false), (1, 1, false)], [.int .u8 0, .int .u8 0], .struct, false⟩ := rfl
theorem tab196 : tab 196 = some ⟨1, 8, false, [], [.val .nilFunc], .other none, false⟩ := rfl
theorem tab198 : tab 198 = some ⟨1, 8, false, [], [.val .nilFunc], .other none, false⟩ := rfl
theorem tab201 : tab 201 = some ⟨4, 40, true, [(0, 1, false), (1, 1, false), (2, 1, false), (3, 1, false)], [.val (.pointer none), .val (.pointer none), .val (.pointer none), .str []], .struct, false⟩ := rfl
theorem tab202 : tab 202 = some ⟨4, 40, true, [(0, 1, false), (1, 1, false), (2, 1, false), (3, 1, false)], [.val (.pointer none), .val (.pointer none), .val (.pointer none), .str []], .struct, false⟩ := rfl
theorem tab204 : tab 204 = some ⟨0, 0, true, [(0, 0, true)], [], .struct, false⟩ := rfl
theorem tab205 : tab 205 = some ⟨0, 0, true, [(0, 0, true)], [], .struct, false⟩ := rfl
theorem tab206 : tab 206 = some ⟨1, 1, false, [], [.int .u8 0], .int .u8, false⟩ := rfl
theorem tab207 : tab 207 = some ⟨1, 1, false, [], [.int .u8 0], .int .u8, false⟩ := rfl
theorem tab208 : tab 208 = some ⟨1, 8, false, [], [.val .nilFunc], .other none, false⟩ := rfl
theorem tab209 : tab 209 = some ⟨1, 4, false, [], [.int .i32 0], .int .i32, false⟩ := rfl
theorem tab210 : tab 210 = some ⟨1, 4, false, [], [.int .i32 0], .int .i32, false⟩ := rfl
theorem tab211 : tab 211 = some ⟨11, 48, true, [(0, 1, false), (1, 1, false), (2, 1, false), (3, 1, false), (4, 1, false), (5, 1, false), (6, 1, false), (7, 1, false), (8, 1, false), (9, 1, false), (10, 1, false)], [.int .u64 0, .int .u64 0, .int .u32 0, .int .u8 0, .int .u8 0, .int .u8 0, .int .u8 0, .val .nilFunc, .val (.pointer none), .int .i32 0, .int .i32 0], .struct, false⟩ := rfl
theorem tab212 : tab 212 = some ⟨11, 48, true, [(0, 1, false), (1, 1, false), (2, 1, false), (3, 1, false), (4, 1, false), (5, 1, false), (6, 1, false), (7, 1, false), (8, 1, false), (9, 1, false), (10, 1, false)], [.int .u64 0, .int .u64 0, .int .u32 0, .int .u8 0, .int .u8 0, .int .u8 0, .int .u8 0, .val .nilFunc, .val (.pointer none), .int .i32 0, .int .i32 0], .struct, false⟩ := rfl
theorem tok1 : TOk Tryz.prog 1 ⟨1, 8, false, [], [.val .nilFunc], .other none, false⟩ := ⟨by kernel_rfl, by kernel_rfl, rfl, rfl, trivial, by kernel_rfl, by kernel_rfl, by kernel_rfl, by kernel_rfl, (fun h => by cases h)⟩
theorem tok2 : TOk Tryz.prog 2 ⟨1, 8, false, [], [.int .i64 0], .int .i64, false⟩ := ⟨by kernel_rfl, by kernel_rfl, rfl, rfl, by show Tryz.prog.underlying 2 = some (.int .i64); kernel_rfl, by kernel_rfl, by kernel_rfl, by kernel_rfl, by kernel_rfl, (fun h => by cases h)⟩
theorem tok3 : TOk Tryz.prog 3 ⟨1, 8, false, [], [.int .i64 0], .int .i64, false⟩ := ⟨by kernel_rfl, by kernel_rfl, rfl, rfl, by show Tryz.prog.underlying 3 = some (.int .i64); kernel_rfl, by kernel_rfl, by kernel_rfl, by kernel_rfl, by kernel_rfl, (fun h => by cases h)⟩
theorem tok4 : TOk Tryz.prog 4 ⟨1, 1, false, [], [.bool false], .bool, false⟩ := ⟨by kernel_rfl, by kernel_rfl, rfl, rfl, by show Tryz.prog.underlying 4 = some (.bool); kernel_rfl, by kernel_rfl, by kernel_rfl, by kernel_rfl, by kernel_rfl, (fun h => by cases h)⟩
theorem tok5 : TOk Tryz.prog 5 ⟨1, 1, false, [], [.int .u8 0], .int .u8, false⟩ := ⟨by kernel_rfl, by kernel_rfl, rfl, rfl, by show Tryz.prog.underlying 5 = some (.int .u8); kernel_rfl, by kernel_rfl, by kernel_rfl, by kernel_rfl, by kernel_rfl, (fun h => by cases h)⟩
theorem tok6 : TOk Tryz.prog 6 ⟨1, 1, false, [], [.int .u8 0], .int .u8, false⟩ := ⟨by kernel_rfl, by kernel_rfl, rfl, rfl, by show Tryz.prog.underlying 6 = some (.int .u8); kernel_rfl, by kernel_rfl, by kernel_rfl, by kernel_rfl, by kernel_rfl, (fun h => by cases h)⟩
theorem tok7 : TOk Tryz.prog 7 ⟨4, 24, true, [(0, 1, false), (1, 1, false), (2, 1, false), (3, 1, false)], [.int .i64 0, .int .i64 0, .bool false, .int .u8 0], .struct, false⟩ := ⟨by kernel_rfl, by kernel_rfl, rfl, rfl, by show (match Tryz.prog.underlying 7 with | some (.struct _) => true | _ => false) = true; kernel_rfl, by kernel_rfl, by kernel_rfl, by kernel_rfl, by kernel_rfl, (fun h => by cases h)⟩
theorem tok8 : TOk Tryz.prog 8 ⟨4, 24, true, [(0, 1, false), (1, 1, false), (2, 1, false), (3, 1, false)], [.int .i64 0, .int .i64 0, .bool false, .int .u8 0], .struct, false⟩ := ⟨by kernel_rfl, by kernel_rfl, rfl, rfl, by show (match Tryz.prog.underlying 8 with | some (.struct _) => true | _ => false) = true; kernel_rfl, by kernel_rfl, by kernel_rfl, by kernel_rfl, by kernel_rfl, (fun h => by cases h)⟩
theorem tok9 : TOk Tryz.prog 9 ⟨1, 16, false, [], [.str []], .str, false⟩ := ⟨by kernel_rfl, by kernel_rfl, rfl, rfl, by show Tryz.prog.underlying 9 = some (.string); kernel_rfl, by kernel_rfl, by kernel_rfl, by kernel_rfl, by kernel_rfl, (fun h => by cases h)⟩
theorem tok10 : TOk Tryz.prog 10 ⟨1, 16, false, [], [.str []], .str, false⟩ := ⟨by kernel_rfl, by kernel_rfl, rfl, rfl, by show Tryz.prog.underlying 10 = some (.string); kernel_rfl, by kernel_rfl, by kernel_rfl, by kernel_rfl, by kernel_rfl, (fun h => by cases h)⟩
theorem tok11 : TOk Tryz.prog 11 ⟨1, 16, false, [], [.str []], .str, false⟩ := ⟨by kernel_rfl, by kernel_rfl, rfl, rfl, by show Tryz.prog.underlying 11 = some (.string); kernel_rfl, by kernel_rfl, by kernel_rfl, by kernel_rfl, by kernel_rfl, (fun h => by cases h)⟩
theorem tok12 : TOk Tryz.prog 12 ⟨1, 8, false, [], [.int .u64 0], .int .u64, false⟩ := ⟨by kernel_rfl, by kernel_rfl, rfl, rfl, by show Tryz.prog.underlying 12 = some (.int .u64); kernel_rfl, by kernel_rfl, by kernel_rfl, by kernel_rfl, by kernel_rfl, (fun h => by cases h)⟩
theorem tok13 : TOk Tryz.prog 13 ⟨2, 24, true, [(0, 1, false), (1, 1, false)], [.str [], .int .u64 0], .struct, false⟩ := ⟨by kernel_rfl, by kernel_rfl, rfl, rfl, by show (match Tryz.prog.underlying 13 with | some (.struct _) => true | _ => false) = true; kernel_rfl, by kernel_rfl, by kernel_rfl, by kernel_rfl, by kernel_rfl, (fun h => by cases h)⟩
theorem tok14 : TOk Tryz.prog 14 ⟨2, 24, true, [(0, 1, false), (1, 1, false)], [.str [], .int .u64 0], .struct, false⟩ := ⟨by kernel_rfl, by kernel_rfl, rfl, rfl, by show (match Tryz.prog.underlying 14 with | some (.struct _) => true | _ => false) = true; kernel_rfl, by kernel_rfl, by kernel_rfl, by kernel_rfl, by kernel_rfl, (fun h => by cases h)⟩
theorem tok15 : TOk Tryz.prog 15 ⟨1, 8, false, [], [.val (.pointer none)], .other (some 202), false⟩ := ⟨by kernel_rfl, by kernel_rfl, rfl, rfl, by show Tryz.prog.underlying 15 = some (.pointer (202)); kernel_rfl, by kernel_rfl, by kernel_rfl, by kernel_rfl, by kernel_rfl, (fun h => by cases h)⟩
theorem tok16 : TOk Tryz.prog 16 ⟨1, 8, false, [], [.val (.pointer none)], .other (some 205), false⟩ := ⟨by kernel_rfl, by kernel_rfl, rfl, rfl, by show Tryz.prog.underlying 16 = some (.pointer (205)); kernel_rfl, by kernel_rfl, by kernel_rfl, by kernel_rfl, by kernel_rfl, (fun h => by cases h)⟩
theorem tok17 : TOk Tryz.prog 17 ⟨1, 8, false, [], [.val (.pointer none)], .other (some 212), false⟩ := ⟨by kernel_rfl, by kernel_rfl, rfl, rfl, by show Tryz.prog.underlying 17 = some (.pointer (212)); kernel_rfl, by kernel_rfl, by kernel_rfl, by kernel_rfl, by kernel_rfl, (fun h => by cases h)⟩
theorem tok18 : TOk Tryz.prog 18 ⟨1, 8, true, [(0, 1, false)], [.val (.pointer none)], .struct, false⟩ := ⟨by kernel_rfl, by kernel_rfl, rfl, rfl, by show (match Tryz.prog.underlying 18 with | some (.struct _) => true | _ => false) = true; kernel_rfl, by kernel_rfl, by kernel_rfl, by kernel_rfl, by kernel_rfl, (fun h => by cases h)⟩
theorem tok19 : TOk Tryz.prog 19 ⟨1, 8, true, [(0, 1, false)], [.val (.pointer none)], .struct, false⟩ := ⟨by kernel_rfl, by kernel_rfl, rfl, rfl, by show (match Tryz.prog.underlying 19 with | some (.struct _) => true | _ => false) = true; kernel_rfl, by kernel_rfl, by kernel_rfl, by kernel_rfl, by kernel_rfl, (fun h => by cases h)⟩
theorem tok20 : TOk Tryz.prog 20 ⟨1, 16, false, [], [.val .nilIface], .other none, false⟩ := ⟨by kernel_rfl, by kernel_rfl, rfl, rfl, trivial, by kernel_rfl, by kernel_rfl, by kernel_rfl, by kernel_rfl, (fun h => by cases h)⟩
theorem tok21 : TOk Tryz.prog 21 ⟨1, 4, false, [], [.int .i32 0], .int .i32, false⟩ := ⟨by kernel_rfl, by kernel_rfl, rfl, rfl, by show Tryz.prog.underlying 21 = some (.int .i32); kernel_rfl, by kernel_rfl, by kernel_rfl, by kernel_rfl, by kernel_rfl, (fun h => by cases h)⟩
theorem tok22 : TOk Tryz.prog 22 ⟨3, 32, true, [(0, 1, false), (1, 1, false), (2, 1, false)], [.int .i64 0, .int .i64 0, .str []], .struct, false⟩ := ⟨by kernel_rfl, by kernel_rfl, rfl, rfl, by show (match Tryz.prog.underlying 22 with | some (.struct _) => true | _ => false) = true; kernel_rfl, by kernel_rfl, by kernel_rfl, by kernel_rfl, by kernel_rfl, (fun h => by cases h)⟩
theorem eqv23 (a0 b0 : Int) (a1 b1 : Int) (a2 b2 : List UInt8) (w : World) : (Op.equalIn 10000 23 (.agg #[.int .i64 a0, .int .i64 a1, .string ⟨a2.toArray⟩]) (.agg #[.int .i64 b0, .int .i64 b1, .string ⟨b2.toArray⟩])).run Tryz.prog w = .ok ((a0 == b0 && (a1 == b1 && (a2 == b2 && true)))) w := by
  have u3 := Tryz.underlying3
  have c3 := Tryz.isAgg3
  have z3 := Tryz.sizeOf3
  have u9 := Tryz.underlying9
  have c9 := Tryz.isAgg9
  have z9 := Tryz.sizeOf9
  have hS : Tryz.prog.underlying 23 = some (.struct (Tryz.prog.fieldsOf 23)) := by kernel_rfl
  rw [show (10000 : Nat) = 9999 + 1 from rfl, run_equalIn_agg w 9999 23 _ _ hS (by kernel_rfl)]
  simp only [Program.fieldsOf, Tryz.underlying23]
  go_simp
  by_cases h0 : a0 = b0 <;> by_cases h1 : a1 = b1 <;> by_cases h2 : a2 = b2 <;> simp [h0, h1, h2]
theorem eql23 : EqL Tryz.prog 23 [.int .i64 0, .int .i64 0, .str []] := by
  refine ⟨by kernel_rfl, ?_⟩
  intro G xs ys vs us b w g0 h10 h20
  obtain ⟨a0, b0, xs, ys, r0, rfl, rfl, g1, rfl⟩ := eqCells_int g0
  obtain ⟨a1, b1, xs, ys, r1, rfl, rfl, g2, rfl⟩ := eqCells_int g1
  obtain ⟨a2, b2, xs, ys, r2, rfl, rfl, g3, rfl⟩ := eqCells_str g2
  obtain ⟨rfl, rfl, rfl⟩ := eqCells_nil g3
  obtain ⟨p0, vs, rfl, ep0, h11⟩ := h10.cons_inv
  cases ep0.int_inv
  obtain ⟨q0, us, rfl, eq0, h21⟩ := h20.cons_inv
  cases eq0.int_inv
  obtain ⟨p1, vs, rfl, ep1, h12⟩ := h11.cons_inv
  cases ep1.int_inv
  obtain ⟨q1, us, rfl, eq1, h22⟩ := h21.cons_inv
  cases eq1.int_inv
  obtain ⟨p2, vs, rfl, ep2, h13⟩ := h12.cons_inv
  cases ep2.str_inv
  obtain ⟨q2, us, rfl, eq2, h23⟩ := h22.cons_inv
  cases eq2.str_inv
  cases h13
  cases h23
  exact eqv23 a0 b0 a1 b1 a2 b2 w
theorem tok23 : TOk Tryz.prog 23 ⟨3, 32, true, [(0, 1, false), (1, 1, false), (2, 1, false)], [.int .i64 0, .int .i64 0, .str []], .struct, true⟩ := ⟨by kernel_rfl, by kernel_rfl, rfl, rfl, by show (match Tryz.prog.underlying 23 with | some (.struct _) => true | _ => false) = true; kernel_rfl, by kernel_rfl, by kernel_rfl, by kernel_rfl, by kernel_rfl, fun _ => eql23⟩
theorem tok24 : TOk Tryz.prog 24 ⟨1, 24, false, [], [.list 0 [] .nil], .slice 26, false⟩ := ⟨by kernel_rfl, by kernel_rfl, rfl, rfl, by show Tryz.prog.underlying 24 = some (.slice 26); kernel_rfl, by kernel_rfl, by kernel_rfl, by kernel_rfl, by kernel_rfl, (fun h => by cases h)⟩
theorem tok25 : TOk Tryz.prog 25 ⟨8, 104, true, [(0, 1, false), (1, 1, false), (2, 1, false), (3, 1, false), (4, 3, true), (7, 1, false)], [.int .i64 0, .int .i64 0, .str [], .str [], .int .i64 0, .int .i64 0, .str [], .list 0 [] .nil], .struct, false⟩ := ⟨by kernel_rfl, by kernel_rfl, rfl, rfl, by show (match Tryz.prog.underlying 25 with | some (.struct _) => true | _ => false) = true; kernel_rfl, by kernel_rfl, by kernel_rfl, by kernel_rfl, by kernel_rfl, (fun h => by cases h)⟩
theorem tok26 : TOk Tryz.prog 26 ⟨8, 104, true, [(0, 1, false), (1, 1, false), (2, 1, false), (3, 1, false), (4, 3, true), (7, 1, false)], [.int .i64 0, .int .i64 0, .str [], .str [], .int .i64 0, .int .i64 0, .str [], .list 0 [] .nil], .struct, false⟩ := ⟨by kernel_rfl, by kernel_rfl, rfl, rfl, by show (match Tryz.prog.underlying 26 with | some (.struct _) => true | _ => false) = true; kernel_rfl, by kernel_rfl, by kernel_rfl, by kernel_rfl, by kernel_rfl, (fun h => by cases h)⟩
theorem tok27 : TOk Tryz.prog 27 ⟨1, 8, false, [], [.val .nilFunc], .other none, false⟩ := ⟨by kernel_rfl, by kernel_rfl, rfl, rfl, trivial, by kernel_rfl, by kernel_rfl, by kernel_rfl, by kernel_rfl, (fun h => by cases h)⟩
theorem tok28 : TOk Tryz.prog 28 ⟨1, 8, false, [], [.val .nilFunc], .other none, false⟩ := ⟨by kernel_rfl, by kernel_rfl, rfl, rfl, trivial, by kernel_rfl, by kernel_rfl, by kernel_rfl, by kernel_rfl, (fun h => by cases h)⟩
theorem tok29 : TOk Tryz.prog 29 ⟨1, 8, false, [], [.val .nilFunc], .other none, false⟩ := ⟨by kernel_rfl, by kernel_rfl, rfl, rfl, trivial, by kernel_rfl, by kernel_rfl, by kernel_rfl, by kernel_rfl, (fun h => by cases h)⟩
theorem tok30 : TOk Tryz.prog 30 ⟨1, 8, false, [], [.int .i64 0], .int .i64, false⟩ := ⟨by kernel_rfl, by kernel_rfl, rfl, rfl, by show Tryz.prog.underlying 30 = some (.int .i64); kernel_rfl, by kernel_rfl, by kernel_rfl, by kernel_rfl, by kernel_rfl, (fun h => by cases h)⟩
theorem tok32 : TOk Tryz.prog 32 ⟨1, 8, false, [], [.val .nilFunc], .other none, false⟩ := ⟨by kernel_rfl, by kernel_rfl, rfl, rfl, trivial, by kernel_rfl, by kernel_rfl, by kernel_rfl, by kernel_rfl, (fun h => by cases h)⟩
theorem tok33 : TOk Tryz.prog 33 ⟨1, 8, false, [], [.val .nilFunc], .other none, false⟩ := ⟨by kernel_rfl, by kernel_rfl, rfl, rfl, trivial, by kernel_rfl, by kernel_rfl, by kernel_rfl, by kernel_rfl, (fun h => by cases h)⟩
theorem tok34 : TOk Tryz.prog 34 ⟨1, 8, false, [], [.val .nilFunc], .other none, false⟩ := ⟨by kernel_rfl, by kernel_rfl, rfl, rfl, trivial, by kernel_rfl, by kernel_rfl, by kernel_rfl, by kernel_rfl, (fun h => by cases h)⟩
theorem tok35 : TOk Tryz.prog 35 ⟨1, 24, false, [], [.list 0 [] .nil], .slice 42, false⟩ := ⟨by kernel_rfl, by kernel_rfl, rfl, rfl, by show Tryz.prog.underlying 35 = some (.slice 42); kernel_rfl, by kernel_rfl, by kernel_rfl, by kernel_rfl, by kernel_rfl, (fun h => by cases h)⟩
theorem tok36 : TOk Tryz.prog 36 ⟨1, 8, false, [], [.val .nilFunc], .other none, false⟩ := ⟨by kernel_rfl, by kernel_rfl, rfl, rfl, trivial, by kernel_rfl, by kernel_rfl, by kernel_rfl, by kernel_rfl, (fun h => by cases h)⟩
theorem tok37 : TOk Tryz.prog 37 ⟨1, 24, false, [], [.list 0 [] .nil], .slice 145, false⟩ := ⟨by kernel_rfl, by kernel_rfl, rfl, rfl, by show Tryz.prog.underlying 37 = some (.slice 145); kernel_rfl, by kernel_rfl, by kernel_rfl, by kernel_rfl, by kernel_rfl, (fun h => by cases h)⟩
theorem tok38 : TOk Tryz.prog 38 ⟨1, 24, false, [], [.list 0 [] .nil], .slice 112, false⟩ := ⟨by kernel_rfl, by kernel_rfl, rfl, rfl, by show Tryz.prog.underlying 38 = some (.slice 112); kernel_rfl, by kernel_rfl, by kernel_rfl, by kernel_rfl, by kernel_rfl, (fun h => by cases h)⟩
theorem tok39 : TOk Tryz.prog 39 ⟨1, 24, false, [], [.list 0 [] .nil], .slice 71, false⟩ := ⟨by kernel_rfl, by kernel_rfl, rfl, rfl, by show Tryz.prog.underlying 39 = some (.slice 71); kernel_rfl, by kernel_rfl, by kernel_rfl, by kernel_rfl, by kernel_rfl, (fun h => by cases h)⟩
theorem tok40 : TOk Tryz.prog 40 ⟨1, 24, false, [], [.list 0 [] .nil], .slice 74, false⟩ := ⟨by kernel_rfl, by kernel_rfl, rfl, rfl, by show Tryz.prog.underlying 40 = some (.slice 74); kernel_rfl, by kernel_rfl, by kernel_rfl, by kernel_rfl, by kernel_rfl, (fun h => by cases h)⟩
theorem tok41 : TOk Tryz.prog 41 ⟨14, 264, true, [(0, 1, false), (1, 1, false), (2, 1, false), (3, 1, false), (4, 1, false), (5, 1, false), (6, 1, false), (7, 1, false), (8, 1, false), (9, 1, false), (10, 1, false), (11, 1, false), (12, 1, false), (13, 1, false)], [.int .i64 0, .str [], .list 0 [] .nil, .str [], .list 0 [] .nil, .list 0 [] .nil, .list 0 [] .nil, .str [], .list 0 [] .nil, .list 0 [] .nil, .list 0 [] .nil, .list 0 [] .nil, .bool false, .int .i64 0], .struct, false⟩ := ⟨by kernel_rfl, by kernel_rfl, rfl, rfl, by show (match Tryz.prog.underlying 41 with | some (.struct _) => true | _ => false) = true; kernel_rfl, by kernel_rfl, by kernel_rfl, by kernel_rfl, by kernel_rfl, (fun h => by cases h)⟩
theorem tok42 : TOk Tryz.prog 42 ⟨14, 264, true, [(0, 1, false), (1, 1, false), (2, 1, false), (3, 1, false), (4, 1, false), (5, 1, false), (6, 1, false), (7, 1, false), (8, 1, false), (9, 1, false), (10, 1, false), (11, 1, false), (12, 1, false), (13, 1, false)], [.int .i64 0, .str [], .list 0 [] .nil, .str [], .list 0 [] .nil, .list 0 [] .nil, .list 0 [] .nil, .str [], .list 0 [] .nil, .list 0 [] .nil, .list 0 [] .nil, .list 0 [] .nil, .bool false, .int .i64 0], .struct, false⟩ := ⟨by kernel_rfl, by kernel_rfl, rfl, rfl, by show (match Tryz.prog.underlying 42 with | some (.struct _) => true | _ => false) = true; kernel_rfl, by kernel_rfl, by kernel_rfl, by kernel_rfl, by kernel_rfl, (fun h => by cases h)⟩
theorem tok43 : TOk Tryz.prog 43 ⟨1, 8, false, [], [.val .nilFunc], .other none, false⟩ := ⟨by kernel_rfl, by kernel_rfl, rfl, rfl, trivial, by kernel_rfl, by kernel_rfl, by kernel_rfl, by kernel_rfl, (fun h => by cases h)⟩
theorem tok44 : TOk Tryz.prog 44 ⟨1, 8, false, [], [.val .nilFunc], .other none, false⟩ := ⟨by kernel_rfl, by kernel_rfl, rfl, rfl, trivial, by kernel_rfl, by kernel_rfl, by kernel_rfl, by kernel_rfl, (fun h => by cases h)⟩
theorem tok45 : TOk Tryz.prog 45 ⟨1, 8, false, [], [.val .nilFunc], .other none, false⟩ := ⟨by kernel_rfl, by kernel_rfl, rfl, rfl, trivial, by kernel_rfl, by kernel_rfl, by kernel_rfl, by kernel_rfl, (fun h => by cases h)⟩
theorem tok46 : TOk Tryz.prog 46 ⟨1, 24, false, [], [.list 0 [] .nil], .slice 81, false⟩ := ⟨by kernel_rfl, by kernel_rfl, rfl, rfl, by show Tryz.prog.underlying 46 = some (.slice 81); kernel_rfl, by kernel_rfl, by kernel_rfl, by kernel_rfl, by kernel_rfl, (fun h => by cases h)⟩
theorem tok47 : TOk Tryz.prog 47 ⟨2, 16, true, [(0, 1, false), (1, 1, false)], [.int .i64 0, .int .i64 0], .struct, false⟩ := ⟨by kernel_rfl, by kernel_rfl, rfl, rfl, by show (match Tryz.prog.underlying 47 with | some (.struct _) => true | _ => false) = true; kernel_rfl, by kernel_rfl, by kernel_rfl, by kernel_rfl, by kernel_rfl, (fun h => by cases h)⟩
theorem eqv48 (a0 b0 : Int) (a1 b1 : Int) (w : World) : (Op.equalIn 10000 48 (.agg #[.int .i64 a0, .int .i64 a1]) (.agg #[.int .i64 b0, .int .i64 b1])).run Tryz.prog w = .ok ((a0 == b0 && (a1 == b1 && true))) w := by
  have u3 := Tryz.underlying3
  have c3 := Tryz.isAgg3
  have z3 := Tryz.sizeOf3
  have u30 := Tryz.underlying30
  have c30 := Tryz.isAgg30
  have z30 := Tryz.sizeOf30
  have hS : Tryz.prog.underlying 48 = some (.struct (Tryz.prog.fieldsOf 48)) := by kernel_rfl
  rw [show (10000 : Nat) = 9999 + 1 from rfl, run_equalIn_agg w 9999 48 _ _ hS (by kernel_rfl)]
  simp only [Program.fieldsOf, Tryz.underlying48]
  go_simp
  by_cases h0 : a0 = b0 <;> by_cases h1 : a1 = b1 <;> simp [h0, h1]
theorem eql48 : EqL Tryz.prog 48 [.int .i64 0, .int .i64 0] := by
  refine ⟨by kernel_rfl, ?_⟩
  intro G xs ys vs us b w g0 h10 h20
  obtain ⟨a0, b0, xs, ys, r0, rfl, rfl, g1, rfl⟩ := eqCells_int g0
  obtain ⟨a1, b1, xs, ys, r1, rfl, rfl, g2, rfl⟩ := eqCells_int g1
  obtain ⟨rfl, rfl, rfl⟩ := eqCells_nil g2
  obtain ⟨p0, vs, rfl, ep0, h11⟩ := h10.cons_inv
  cases ep0.int_inv
  obtain ⟨q0, us, rfl, eq0, h21⟩ := h20.cons_inv
  cases eq0.int_inv
  obtain ⟨p1, vs, rfl, ep1, h12⟩ := h11.cons_inv
  cases ep1.int_inv
  obtain ⟨q1, us, rfl, eq1, h22⟩ := h21.cons_inv
  cases eq1.int_inv
  cases h12
  cases h22
  exact eqv48 a0 b0 a1 b1 w
theorem tok48 : TOk Tryz.prog 48 ⟨2, 16, true, [(0, 1, false), (1, 1, false)], [.int .i64 0, .int .i64 0], .struct, true⟩ := ⟨by kernel_rfl, by kernel_rfl, rfl, rfl, by show (match Tryz.prog.underlying 48 with | some (.struct _) => true | _ => false) = true; kernel_rfl, by kernel_rfl, by kernel_rfl, by kernel_rfl, by kernel_rfl, fun _ => eql48⟩
theorem tok50 : TOk Tryz.prog 50 ⟨1, 8, false, [], [.val .nilFunc], .other none, false⟩ := ⟨by kernel_rfl, by kernel_rfl, rfl, rfl, trivial, by kernel_rfl, by kernel_rfl, by kernel_rfl, by kernel_rfl, (fun h => by cases h)⟩
theorem tok51 : TOk Tryz.prog 51 ⟨1, 8, false, [], [.val .nilFunc], .other none, false⟩ := ⟨by kernel_rfl, by kernel_rfl, rfl, rfl, trivial, by kernel_rfl, by kernel_rfl, by kernel_rfl, by kernel_rfl, (fun h => by cases h)⟩
theorem tok53 : TOk Tryz.prog 53 ⟨1, 8, false, [], [.val .nilFunc], .other none, false⟩ := ⟨by kernel_rfl, by kernel_rfl, rfl, rfl, trivial, by kernel_rfl, by kernel_rfl, by kernel_rfl, by kernel_rfl, (fun h => by cases h)⟩
theorem tok55 : TOk Tryz.prog 55 ⟨1, 8, false, [], [.val .nilFunc], .other none, false⟩ := ⟨by kernel_rfl, by kernel_rfl, rfl, rfl, trivial, by kernel_rfl, by kernel_rfl, by kernel_rfl, by kernel_rfl, (fun h => by cases h)⟩
theorem tok56 : TOk Tryz.prog 56 ⟨1, 8, false, [], [.val .nilFunc], .other none, false⟩ := ⟨by kernel_rfl, by kernel_rfl, rfl, rfl, trivial, by kernel_rfl, by kernel_rfl, by kernel_rfl, by kernel_rfl, (fun h => by cases h)⟩
theorem tok57 : TOk Tryz.prog 57 ⟨1, 8, false, [], [.val .nilFunc], .other none, false⟩ := ⟨by kernel_rfl, by kernel_rfl, rfl, rfl, trivial, by kernel_rfl, by kernel_rfl, by kernel_rfl, by kernel_rfl, (fun h => by cases h)⟩
theorem tok58 : TOk Tryz.prog 58 ⟨1, 8, false, [], [.val .nilFunc], .other none, false⟩ := ⟨by kernel_rfl, by kernel_rfl, rfl, rfl, trivial, by kernel_rfl, by kernel_rfl, by kernel_rfl, by kernel_rfl, (fun h => by cases h)⟩
theorem tok59 : TOk Tryz.prog 59 ⟨1, 8, false, [], [.val (.pointer none)], .other (some 62), false⟩ := ⟨by kernel_rfl, by kernel_rfl, rfl, rfl, by show Tryz.prog.underlying 59 = some (.pointer (62)); kernel_rfl, by kernel_rfl, by kernel_rfl, by kernel_rfl, by kernel_rfl, (fun h => by cases h)⟩
theorem tok60 : TOk Tryz.prog 60 ⟨1, 24, false, [], [.list 0 [] .nil], .slice 81, false⟩ := ⟨by kernel_rfl, by kernel_rfl, rfl, rfl, by show Tryz.prog.underlying 60 = some (.slice 81); kernel_rfl, by kernel_rfl, by kernel_rfl, by kernel_rfl, by kernel_rfl, (fun h => by cases h)⟩
theorem tok61 : TOk Tryz.prog 61 ⟨3, 40, true, [(0, 1, false), (1, 1, false), (2, 1, false)], [.list 0 [] .nil, .int .i64 0, .int .i64 0], .struct, false⟩ := ⟨by kernel_rfl, by kernel_rfl, rfl, rfl, by show (match Tryz.prog.underlying 61 with | some (.struct _) => true | _ => false) = true; kernel_rfl, by kernel_rfl, by kernel_rfl, by kernel_rfl, by kernel_rfl, (fun h => by cases h)⟩
theorem tok62 : TOk Tryz.prog 62 ⟨3, 40, true, [(0, 1, false), (1, 1, false), (2, 1, false)], [.list 0 [] .nil, .int .i64 0, .int .i64 0], .struct, false⟩ := ⟨by kernel_rfl, by kernel_rfl, rfl, rfl, by show (match Tryz.prog.underlying 62 with | some (.struct _) => true | _ => false) = true; kernel_rfl, by kernel_rfl, by kernel_rfl, by kernel_rfl, by kernel_rfl, (fun h => by cases h)⟩
theorem tok63 : TOk Tryz.prog 63 ⟨1, 8, false, [], [.val .nilFunc], .other none, false⟩ := ⟨by kernel_rfl, by kernel_rfl, rfl, rfl, trivial, by kernel_rfl, by kernel_rfl, by kernel_rfl, by kernel_rfl, (fun h => by cases h)⟩
theorem tok64 : TOk Tryz.prog 64 ⟨1, 8, false, [], [.val .nilFunc], .other none, false⟩ := ⟨by kernel_rfl, by kernel_rfl, rfl, rfl, trivial, by kernel_rfl, by kernel_rfl, by kernel_rfl, by kernel_rfl, (fun h => by cases h)⟩
theorem tok65 : TOk Tryz.prog 65 ⟨1, 8, false, [], [.val (.pointer none)], .other (some 67), false⟩ := ⟨by kernel_rfl, by kernel_rfl, rfl, rfl, by show Tryz.prog.underlying 65 = some (.pointer (67)); kernel_rfl, by kernel_rfl, by kernel_rfl, by kernel_rfl, by kernel_rfl, (fun h => by cases h)⟩
theorem tok66 : TOk Tryz.prog 66 ⟨2, 32, true, [(0, 1, false), (1, 1, false)], [.list 0 [] .nil, .int .i64 0], .struct, false⟩ := ⟨by kernel_rfl, by kernel_rfl, rfl, rfl, by show (match Tryz.prog.underlying 66 with | some (.struct _) => true | _ => false) = true; kernel_rfl, by kernel_rfl, by kernel_rfl, by kernel_rfl, by kernel_rfl, (fun h => by cases h)⟩
theorem tok67 : TOk Tryz.prog 67 ⟨2, 32, true, [(0, 1, false), (1, 1, false)], [.list 0 [] .nil, .int .i64 0], .struct, false⟩ := ⟨by kernel_rfl, by kernel_rfl, rfl, rfl, by show (match Tryz.prog.underlying 67 with | some (.struct _) => true | _ => false) = true; kernel_rfl, by kernel_rfl, by kernel_rfl, by kernel_rfl, by kernel_rfl, (fun h => by cases h)⟩
theorem tok68 : TOk Tryz.prog 68 ⟨1, 8, false, [], [.val .nilFunc], .other none, false⟩ := ⟨by kernel_rfl, by kernel_rfl, rfl, rfl, trivial, by kernel_rfl, by kernel_rfl, by kernel_rfl, by kernel_rfl, (fun h => by cases h)⟩
theorem tok69 : TOk Tryz.prog 69 ⟨1, 8, false, [], [.val .nilFunc], .other none, false⟩ := ⟨by kernel_rfl, by kernel_rfl, rfl, rfl, trivial, by kernel_rfl, by kernel_rfl, by kernel_rfl, by kernel_rfl, (fun h => by cases h)⟩
theorem tok70 : TOk Tryz.prog 70 ⟨9, 120, true, [(0, 1, false), (1, 8, true)], [.str [], .int .i64 0, .int .i64 0, .str [], .str [], .int .i64 0, .int .i64 0, .str [], .list 0 [] .nil], .struct, false⟩ := ⟨by kernel_rfl, by kernel_rfl, rfl, rfl, by show (match Tryz.prog.underlying 70 with | some (.struct _) => true | _ => false) = true; kernel_rfl, by kernel_rfl, by kernel_rfl, by kernel_rfl, by kernel_rfl, (fun h => by cases h)⟩
theorem tok71 : TOk Tryz.prog 71 ⟨9, 120, true, [(0, 1, false), (1, 8, true)], [.str [], .int .i64 0, .int .i64 0, .str [], .str [], .int .i64 0, .int .i64 0, .str [], .list 0 [] .nil], .struct, false⟩ := ⟨by kernel_rfl, by kernel_rfl, rfl, rfl, by show (match Tryz.prog.underlying 71 with | some (.struct _) => true | _ => false) = true; kernel_rfl, by kernel_rfl, by kernel_rfl, by kernel_rfl, by kernel_rfl, (fun h => by cases h)⟩
theorem tok72 : TOk Tryz.prog 72 ⟨1, 8, false, [], [.val .nilFunc], .other none, false⟩ := ⟨by kernel_rfl, by kernel_rfl, rfl, rfl, trivial, by kernel_rfl, by kernel_rfl, by kernel_rfl, by kernel_rfl, (fun h => by cases h)⟩
theorem tok73 : TOk Tryz.prog 73 ⟨2, 32, true, [(0, 1, false), (1, 1, false)], [.int .i64 0, .list 0 [] .nil], .struct, false⟩ := ⟨by kernel_rfl, by kernel_rfl, rfl, rfl, by show (match Tryz.prog.underlying 73 with | some (.struct _) => true | _ => false) = true; kernel_rfl, by kernel_rfl, by kernel_rfl, by kernel_rfl, by kernel_rfl, (fun h => by cases h)⟩
theorem tok74 : TOk Tryz.prog 74 ⟨2, 32, true, [(0, 1, false), (1, 1, false)], [.int .i64 0, .list 0 [] .nil], .struct, false⟩ := ⟨by kernel_rfl, by kernel_rfl, rfl, rfl, by show (match Tryz.prog.underlying 74 with | some (.struct _) => true | _ => false) = true; kernel_rfl, by kernel_rfl, by kernel_rfl, by kernel_rfl, by kernel_rfl, (fun h => by cases h)⟩
theorem tok75 : TOk Tryz.prog 75 ⟨1, 8, false, [], [.val .nilFunc], .other none, false⟩ := ⟨by kernel_rfl, by kernel_rfl, rfl, rfl, trivial, by kernel_rfl, by kernel_rfl, by kernel_rfl, by kernel_rfl, (fun h => by cases h)⟩
theorem tok76 : TOk Tryz.prog 76 ⟨1, 8, false, [], [.val .nilFunc], .other none, false⟩ := ⟨by kernel_rfl, by kernel_rfl, rfl, rfl, trivial, by kernel_rfl, by kernel_rfl, by kernel_rfl, by kernel_rfl, (fun h => by cases h)⟩
theorem tok77 : TOk Tryz.prog 77 ⟨1, 8, false, [], [.val .nilFunc], .other none, false⟩ := ⟨by kernel_rfl, by kernel_rfl, rfl, rfl, trivial, by kernel_rfl, by kernel_rfl, by kernel_rfl, by kernel_rfl, (fun h => by cases h)⟩
theorem tok78 : TOk Tryz.prog 78 ⟨1, 24, false, [], [.list 0 [] .nil], .slice 9, false⟩ := ⟨by kernel_rfl, by kernel_rfl, rfl, rfl, by show Tryz.prog.underlying 78 = some (.slice 9); kernel_rfl, by kernel_rfl, by kernel_rfl, by kernel_rfl, by kernel_rfl, (fun h => by cases h)⟩
theorem tok79 : TOk Tryz.prog 79 ⟨1, 8, false, [], [.val .nilFunc], .other none, false⟩ := ⟨by kernel_rfl, by kernel_rfl, rfl, rfl, trivial, by kernel_rfl, by kernel_rfl, by kernel_rfl, by kernel_rfl, (fun h => by cases h)⟩
theorem tok80 : TOk Tryz.prog 80 ⟨4, 40, true, [(0, 1, false), (1, 1, false), (2, 1, false), (3, 1, false)], [.int .i64 0, .str [], .int .i64 0, .int .i64 0], .struct, false⟩ := ⟨by kernel_rfl, by kernel_rfl, rfl, rfl, by show (match Tryz.prog.underlying 80 with | some (.struct _) => true | _ => false) = true; kernel_rfl, by kernel_rfl, by kernel_rfl, by kernel_rfl, by kernel_rfl, (fun h => by cases h)⟩
theorem eqv81 (a0 b0 : Int) (a1 b1 : List UInt8) (a2 b2 : Int) (a3 b3 : Int) (w : World) : (Op.equalIn 10000 81 (.agg #[.int .i64 a0, .string ⟨a1.toArray⟩, .int .i64 a2, .int .i64 a3]) (.agg #[.int .i64 b0, .string ⟨b1.toArray⟩, .int .i64 b2, .int .i64 b3])).run Tryz.prog w = .ok ((a0 == b0 && (a1 == b1 && (a2 == b2 && (a3 == b3 && true))))) w := by
  have u3 := Tryz.underlying3
  have c3 := Tryz.isAgg3
  have z3 := Tryz.sizeOf3
  have u9 := Tryz.underlying9
  have c9 := Tryz.isAgg9
  have z9 := Tryz.sizeOf9
  have hS : Tryz.prog.underlying 81 = some (.struct (Tryz.prog.fieldsOf 81)) := by kernel_rfl
  rw [show (10000 : Nat) = 9999 + 1 from rfl, run_equalIn_agg w 9999 81 _ _ hS (by kernel_rfl)]
  simp only [Program.fieldsOf, Tryz.underlying81]
  go_simp
  by_cases h0 : a0 = b0 <;> by_cases h1 : a1 = b1 <;> by_cases h2 : a2 = b2 <;> by_cases h3 : a3 = b3 <;> simp [h0, h1, h2, h3]
theorem eql81 : EqL Tryz.prog 81 [.int .i64 0, .str [], .int .i64 0, .int .i64 0] := by
  refine ⟨by kernel_rfl, ?_⟩
  intro G xs ys vs us b w g0 h10 h20
  obtain ⟨a0, b0, xs, ys, r0, rfl, rfl, g1, rfl⟩ := eqCells_int g0
  obtain ⟨a1, b1, xs, ys, r1, rfl, rfl, g2, rfl⟩ := eqCells_str g1
  obtain ⟨a2, b2, xs, ys, r2, rfl, rfl, g3, rfl⟩ := eqCells_int g2
  obtain ⟨a3, b3, xs, ys, r3, rfl, rfl, g4, rfl⟩ := eqCells_int g3
  obtain ⟨rfl, rfl, rfl⟩ := eqCells_nil g4
  obtain ⟨p0, vs, rfl, ep0, h11⟩ := h10.cons_inv
  cases ep0.int_inv
  obtain ⟨q0, us, rfl, eq0, h21⟩ := h20.cons_inv
  cases eq0.int_inv
  obtain ⟨p1, vs, rfl, ep1, h12⟩ := h11.cons_inv
  cases ep1.str_inv
  obtain ⟨q1, us, rfl, eq1, h22⟩ := h21.cons_inv
  cases eq1.str_inv
  obtain ⟨p2, vs, rfl, ep2, h13⟩ := h12.cons_inv
  cases ep2.int_inv
  obtain ⟨q2, us, rfl, eq2, h23⟩ := h22.cons_inv
  cases eq2.int_inv
  obtain ⟨p3, vs, rfl, ep3, h14⟩ := h13.cons_inv
  cases ep3.int_inv
  obtain ⟨q3, us, rfl, eq3, h24⟩ := h23.cons_inv
  cases eq3.int_inv
  cases h14
  cases h24
  exact eqv81 a0 b0 a1 b1 a2 b2 a3 b3 w
theorem tok81 : TOk Tryz.prog 81 ⟨4, 40, true, [(0, 1, false), (1, 1, false), (2, 1, false), (3, 1, false)], [.int .i64 0, .str [], .int .i64 0, .int .i64 0], .struct, true⟩ := ⟨by kernel_rfl, by kernel_rfl, rfl, rfl, by show (match Tryz.prog.underlying 81 with | some (.struct _) => true | _ => false) = true; kernel_rfl, by kernel_rfl, by kernel_rfl, by kernel_rfl, by kernel_rfl, fun _ => eql81⟩
theorem tok83 : TOk Tryz.prog 83 ⟨1, 8, false, [], [.val .nilFunc], .other none, false⟩ := ⟨by kernel_rfl, by kernel_rfl, rfl, rfl, trivial, by kernel_rfl, by kernel_rfl, by kernel_rfl, by kernel_rfl, (fun h => by cases h)⟩
theorem tok84 : TOk Tryz.prog 84 ⟨1, 8, false, [], [.val .nilFunc], .other none, false⟩ := ⟨by kernel_rfl, by kernel_rfl, rfl, rfl, trivial, by kernel_rfl, by kernel_rfl, by kernel_rfl, by kernel_rfl, (fun h => by cases h)⟩
theorem tok85 : TOk Tryz.prog 85 ⟨1, 8, false, [], [.val .nilFunc], .other none, false⟩ := ⟨by kernel_rfl, by kernel_rfl, rfl, rfl, trivial, by kernel_rfl, by kernel_rfl, by kernel_rfl, by kernel_rfl, (fun h => by cases h)⟩
theorem tok86 : TOk Tryz.prog 86 ⟨1, 8, false, [], [.val (.pointer none)], .other (some 88), false⟩ := ⟨by kernel_rfl, by kernel_rfl, rfl, rfl, by show Tryz.prog.underlying 86 = some (.pointer (88)); kernel_rfl, by kernel_rfl, by kernel_rfl, by kernel_rfl, by kernel_rfl, (fun h => by cases h)⟩
theorem tok87 : TOk Tryz.prog 87 ⟨4, 48, true, [(0, 1, false), (1, 1, false), (2, 2, true)], [.list 0 [] .nil, .int .i64 0, .int .i64 0, .int .i64 0], .struct, false⟩ := ⟨by kernel_rfl, by kernel_rfl, rfl, rfl, by show (match Tryz.prog.underlying 87 with | some (.struct _) => true | _ => false) = true; kernel_rfl, by kernel_rfl, by kernel_rfl, by kernel_rfl, by kernel_rfl, (fun h => by cases h)⟩
theorem tok88 : TOk Tryz.prog 88 ⟨4, 48, true, [(0, 1, false), (1, 1, false), (2, 2, true)], [.list 0 [] .nil, .int .i64 0, .int .i64 0, .int .i64 0], .struct, false⟩ := ⟨by kernel_rfl, by kernel_rfl, rfl, rfl, by show (match Tryz.prog.underlying 88 with | some (.struct _) => true | _ => false) = true; kernel_rfl, by kernel_rfl, by kernel_rfl, by kernel_rfl, by kernel_rfl, (fun h => by cases h)⟩
theorem tok89 : TOk Tryz.prog 89 ⟨1, 8, false, [], [.val .nilFunc], .other none, false⟩ := ⟨by kernel_rfl, by kernel_rfl, rfl, rfl, trivial, by kernel_rfl, by kernel_rfl, by kernel_rfl, by kernel_rfl, (fun h => by cases h)⟩
theorem tok90 : TOk Tryz.prog 90 ⟨1, 8, false, [], [.val .nilFunc], .other none, false⟩ := ⟨by kernel_rfl, by kernel_rfl, rfl, rfl, trivial, by kernel_rfl, by kernel_rfl, by kernel_rfl, by kernel_rfl, (fun h => by cases h)⟩
theorem tok91 : TOk Tryz.prog 91 ⟨1, 8, false, [], [.val .nilFunc], .other none, false⟩ := ⟨by kernel_rfl, by kernel_rfl, rfl, rfl, trivial, by kernel_rfl, by kernel_rfl, by kernel_rfl, by kernel_rfl, (fun h => by cases h)⟩
theorem tok92 : TOk Tryz.prog 92 ⟨1, 8, false, [], [.val .nilFunc], .other none, false⟩ := ⟨by kernel_rfl, by kernel_rfl, rfl, rfl, trivial, by kernel_rfl, by kernel_rfl, by kernel_rfl, by kernel_rfl, (fun h => by cases h)⟩
theorem tok93 : TOk Tryz.prog 93 ⟨1, 8, false, [], [.val .nilFunc], .other none, false⟩ := ⟨by kernel_rfl, by kernel_rfl, rfl, rfl, trivial, by kernel_rfl, by kernel_rfl, by kernel_rfl, by kernel_rfl, (fun h => by cases h)⟩
theorem tok94 : TOk Tryz.prog 94 ⟨1, 8, false, [], [.val .nilFunc], .other none, false⟩ := ⟨by kernel_rfl, by kernel_rfl, rfl, rfl, trivial, by kernel_rfl, by kernel_rfl, by kernel_rfl, by kernel_rfl, (fun h => by cases h)⟩
theorem tok95 : TOk Tryz.prog 95 ⟨1, 8, false, [], [.val .nilFunc], .other none, false⟩ := ⟨by kernel_rfl, by kernel_rfl, rfl, rfl, trivial, by kernel_rfl, by kernel_rfl, by kernel_rfl, by kernel_rfl, (fun h => by cases h)⟩
theorem tok96 : TOk Tryz.prog 96 ⟨1, 8, false, [], [.val .nilFunc], .other none, false⟩ := ⟨by kernel_rfl, by kernel_rfl, rfl, rfl, trivial, by kernel_rfl, by kernel_rfl, by kernel_rfl, by kernel_rfl, (fun h => by cases h)⟩
theorem tok97 : TOk Tryz.prog 97 ⟨1, 8, false, [], [.val .nilFunc], .other none, false⟩ := ⟨by kernel_rfl, by kernel_rfl, rfl, rfl, trivial, by kernel_rfl, by kernel_rfl, by kernel_rfl, by kernel_rfl, (fun h => by cases h)⟩
theorem tok98 : TOk Tryz.prog 98 ⟨1, 8, false, [], [.val .nilFunc], .other none, false⟩ := ⟨by kernel_rfl, by kernel_rfl, rfl, rfl, trivial, by kernel_rfl, by kernel_rfl, by kernel_rfl, by kernel_rfl, (fun h => by cases h)⟩
theorem tok99 : TOk Tryz.prog 99 ⟨1, 8, false, [], [.val .nilFunc], .other none, false⟩ := ⟨by kernel_rfl, by kernel_rfl, rfl, rfl, trivial, by kernel_rfl, by kernel_rfl, by kernel_rfl, by kernel_rfl, (fun h => by cases h)⟩
theorem tok100 : TOk Tryz.prog 100 ⟨1, 8, false, [], [.val .nilFunc], .other none, false⟩ := ⟨by kernel_rfl, by kernel_rfl, rfl, rfl, trivial, by kernel_rfl, by kernel_rfl, by kernel_rfl, by kernel_rfl, (fun h => by cases h)⟩
theorem tok102 : TOk Tryz.prog 102 ⟨1, 8, false, [], [.val .nilFunc], .other none, false⟩ := ⟨by kernel_rfl, by kernel_rfl, rfl, rfl, trivial, by kernel_rfl, by kernel_rfl, by kernel_rfl, by kernel_rfl, (fun h => by cases h)⟩
theorem tok103 : TOk Tryz.prog 103 ⟨1, 8, false, [], [.val .nilFunc], .other none, false⟩ := ⟨by kernel_rfl, by kernel_rfl, rfl, rfl, trivial, by kernel_rfl, by kernel_rfl, by kernel_rfl, by kernel_rfl, (fun h => by cases h)⟩
theorem tok104 : TOk Tryz.prog 104 ⟨1, 8, false, [], [.val .nilFunc], .other none, false⟩ := ⟨by kernel_rfl, by kernel_rfl, rfl, rfl, trivial, by kernel_rfl, by kernel_rfl, by kernel_rfl, by kernel_rfl, (fun h => by cases h)⟩
theorem tok105 : TOk Tryz.prog 105 ⟨1, 8, false, [], [.val .nilFunc], .other none, false⟩ := ⟨by kernel_rfl, by kernel_rfl, rfl, rfl, trivial, by kernel_rfl, by kernel_rfl, by kernel_rfl, by kernel_rfl, (fun h => by cases h)⟩
theorem tok106 : TOk Tryz.prog 106 ⟨1, 8, false, [], [.val .nilFunc], .other none, false⟩ := ⟨by kernel_rfl, by kernel_rfl, rfl, rfl, trivial, by kernel_rfl, by kernel_rfl, by kernel_rfl, by kernel_rfl, (fun h => by cases h)⟩
theorem tok107 : TOk Tryz.prog 107 ⟨1, 8, false, [], [.val (.pointer none)], .other (some 60), false⟩ := ⟨by kernel_rfl, by kernel_rfl, rfl, rfl, by show Tryz.prog.underlying 107 = some (.pointer (60)); kernel_rfl, by kernel_rfl, by kernel_rfl, by kernel_rfl, by kernel_rfl, (fun h => by cases h)⟩
theorem tok108 : TOk Tryz.prog 108 ⟨1, 8, false, [], [.val .nilFunc], .other none, false⟩ := ⟨by kernel_rfl, by kernel_rfl, rfl, rfl, trivial, by kernel_rfl, by kernel_rfl, by kernel_rfl, by kernel_rfl, (fun h => by cases h)⟩
theorem tok109 : TOk Tryz.prog 109 ⟨1, 8, false, [], [.val .nilFunc], .other none, false⟩ := ⟨by kernel_rfl, by kernel_rfl, rfl, rfl, trivial, by kernel_rfl, by kernel_rfl, by kernel_rfl, by kernel_rfl, (fun h => by cases h)⟩
theorem tok110 : TOk Tryz.prog 110 ⟨1, 8, false, [], [.val .nilFunc], .other none, false⟩ := ⟨by kernel_rfl, by kernel_rfl, rfl, rfl, trivial, by kernel_rfl, by kernel_rfl, by kernel_rfl, by kernel_rfl, (fun h => by cases h)⟩
theorem tok111 : TOk Tryz.prog 111 ⟨1, 8, false, [], [.val .nilFunc], .other none, false⟩ := ⟨by kernel_rfl, by kernel_rfl, rfl, rfl, trivial, by kernel_rfl, by kernel_rfl, by kernel_rfl, by kernel_rfl, (fun h => by cases h)⟩
theorem tok112 : TOk Tryz.prog 112 ⟨1, 24, false, [], [.list 0 [] .nil], .slice 23, false⟩ := ⟨by kernel_rfl, by kernel_rfl, rfl, rfl, by show Tryz.prog.underlying 112 = some (.slice 23); kernel_rfl, by kernel_rfl, by kernel_rfl, by kernel_rfl, by kernel_rfl, (fun h => by cases h)⟩
theorem tok113 : TOk Tryz.prog 113 ⟨1, 8, false, [], [.val .nilFunc], .other none, false⟩ := ⟨by kernel_rfl, by kernel_rfl, rfl, rfl, trivial, by kernel_rfl, by kernel_rfl, by kernel_rfl, by kernel_rfl, (fun h => by cases h)⟩
theorem tok114 : TOk Tryz.prog 114 ⟨1, 8, false, [], [.val .nilFunc], .other none, false⟩ := ⟨by kernel_rfl, by kernel_rfl, rfl, rfl, trivial, by kernel_rfl, by kernel_rfl, by kernel_rfl, by kernel_rfl, (fun h => by cases h)⟩
theorem tok115 : TOk Tryz.prog 115 ⟨1, 8, false, [], [.val .nilFunc], .other none, false⟩ := ⟨by kernel_rfl, by kernel_rfl, rfl, rfl, trivial, by kernel_rfl, by kernel_rfl, by kernel_rfl, by kernel_rfl, (fun h => by cases h)⟩
theorem tok116 : TOk Tryz.prog 116 ⟨1, 8, false, [], [.val .nilFunc], .other none, false⟩ := ⟨by kernel_rfl, by kernel_rfl, rfl, rfl, trivial, by kernel_rfl, by kernel_rfl, by kernel_rfl, by kernel_rfl, (fun h => by cases h)⟩
theorem tok118 : TOk Tryz.prog 118 ⟨1, 8, false, [], [.val .nilFunc], .other none, false⟩ := ⟨by kernel_rfl, by kernel_rfl, rfl, rfl, trivial, by kernel_rfl, by kernel_rfl, by kernel_rfl, by kernel_rfl, (fun h => by cases h)⟩
theorem tok119 : TOk Tryz.prog 119 ⟨1, 8, false, [], [.val .nilFunc], .other none, false⟩ := ⟨by kernel_rfl, by kernel_rfl, rfl, rfl, trivial, by kernel_rfl, by kernel_rfl, by kernel_rfl, by kernel_rfl, (fun h => by cases h)⟩
theorem tok120 : TOk Tryz.prog 120 ⟨1, 8, false, [], [.val .nilFunc], .other none, false⟩ := ⟨by kernel_rfl, by kernel_rfl, rfl, rfl, trivial, by kernel_rfl, by kernel_rfl, by kernel_rfl, by kernel_rfl, (fun h => by cases h)⟩
theorem tok121 : TOk Tryz.prog 121 ⟨1, 8, false, [], [.val (.pointer none)], .other (some 124), false⟩ := ⟨by kernel_rfl, by kernel_rfl, rfl, rfl, by show Tryz.prog.underlying 121 = some (.pointer (124)); kernel_rfl, by kernel_rfl, by kernel_rfl, by kernel_rfl, by kernel_rfl, (fun h => by cases h)⟩
theorem tok122 : TOk Tryz.prog 122 ⟨1, 24, false, [], [.list 0 [] .nil], .slice 5, false⟩ := ⟨by kernel_rfl, by kernel_rfl, rfl, rfl, by show Tryz.prog.underlying 122 = some (.slice 5); kernel_rfl, by kernel_rfl, by kernel_rfl, by kernel_rfl, by kernel_rfl, (fun h => by cases h)⟩
theorem tok123 : TOk Tryz.prog 123 ⟨2, 32, true, [(0, 1, false), (1, 1, false)], [.val (.pointer none), .list 0 [] .nil], .struct, false⟩ := ⟨by kernel_rfl, by kernel_rfl, rfl, rfl, by show (match Tryz.prog.underlying 123 with | some (.struct _) => true | _ => false) = true; kernel_rfl, by kernel_rfl, by kernel_rfl, by kernel_rfl, by kernel_rfl, (fun h => by cases h)⟩
theorem tok124 : TOk Tryz.prog 124 ⟨2, 32, true, [(0, 1, false), (1, 1, false)], [.val (.pointer none), .list 0 [] .nil], .struct, false⟩ := ⟨by kernel_rfl, by kernel_rfl, rfl, rfl, by show (match Tryz.prog.underlying 124 with | some (.struct _) => true | _ => false) = true; kernel_rfl, by kernel_rfl, by kernel_rfl, by kernel_rfl, by kernel_rfl, (fun h => by cases h)⟩
theorem tok125 : TOk Tryz.prog 125 ⟨1, 16, false, [], [.val .nilIface], .other none, false⟩ := ⟨by kernel_rfl, by kernel_rfl, rfl, rfl, trivial, by kernel_rfl, by kernel_rfl, by kernel_rfl, by kernel_rfl, (fun h => by cases h)⟩
theorem tok126 : TOk Tryz.prog 126 ⟨1, 16, false, [], [.val .nilIface], .other none, false⟩ := ⟨by kernel_rfl, by kernel_rfl, rfl, rfl, trivial, by kernel_rfl, by kernel_rfl, by kernel_rfl, by kernel_rfl, (fun h => by cases h)⟩
theorem tok128 : TOk Tryz.prog 128 ⟨1, 8, false, [], [.val .nilFunc], .other none, false⟩ := ⟨by kernel_rfl, by kernel_rfl, rfl, rfl, trivial, by kernel_rfl, by kernel_rfl, by kernel_rfl, by kernel_rfl, (fun h => by cases h)⟩
theorem tok129 : TOk Tryz.prog 129 ⟨1, 8, false, [], [.val .nilFunc], .other none, false⟩ := ⟨by kernel_rfl, by kernel_rfl, rfl, rfl, trivial, by kernel_rfl, by kernel_rfl, by kernel_rfl, by kernel_rfl, (fun h => by cases h)⟩
theorem tok130 : TOk Tryz.prog 130 ⟨1, 8, false, [], [.val .nilFunc], .other none, false⟩ := ⟨by kernel_rfl, by kernel_rfl, rfl, rfl, trivial, by kernel_rfl, by kernel_rfl, by kernel_rfl, by kernel_rfl, (fun h => by cases h)⟩
theorem tok131 : TOk Tryz.prog 131 ⟨1, 8, false, [], [.val .nilFunc], .other none, false⟩ := ⟨by kernel_rfl, by kernel_rfl, rfl, rfl, trivial, by kernel_rfl, by kernel_rfl, by kernel_rfl, by kernel_rfl, (fun h => by cases h)⟩
theorem tok132 : TOk Tryz.prog 132 ⟨1, 8, false, [], [.val .nilFunc], .other none, false⟩ := ⟨by kernel_rfl, by kernel_rfl, rfl, rfl, trivial, by kernel_rfl, by kernel_rfl, by kernel_rfl, by kernel_rfl, (fun h => by cases h)⟩
theorem tok133 : TOk Tryz.prog 133 ⟨1, 8, false, [], [.val (.pointer none)], .other (some 42), false⟩ := ⟨by kernel_rfl, by kernel_rfl, rfl, rfl, by show Tryz.prog.underlying 133 = some (.pointer (42)); kernel_rfl, by kernel_rfl, by kernel_rfl, by kernel_rfl, by kernel_rfl, (fun h => by cases h)⟩
theorem tok134 : TOk Tryz.prog 134 ⟨1, 8, false, [], [.val .nilFunc], .other none, false⟩ := ⟨by kernel_rfl, by kernel_rfl, rfl, rfl, trivial, by kernel_rfl, by kernel_rfl, by kernel_rfl, by kernel_rfl, (fun h => by cases h)⟩
theorem tok135 : TOk Tryz.prog 135 ⟨1, 8, false, [], [.val .nilFunc], .other none, false⟩ := ⟨by kernel_rfl, by kernel_rfl, rfl, rfl, trivial, by kernel_rfl, by kernel_rfl, by kernel_rfl, by kernel_rfl, (fun h => by cases h)⟩
theorem tok136 : TOk Tryz.prog 136 ⟨1, 8, false, [], [.val .nilFunc], .other none, false⟩ := ⟨by kernel_rfl, by kernel_rfl, rfl, rfl, trivial, by kernel_rfl, by kernel_rfl, by kernel_rfl, by kernel_rfl, (fun h => by cases h)⟩
theorem tok137 : TOk Tryz.prog 137 ⟨1, 8, false, [], [.val .nilFunc], .other none, false⟩ := ⟨by kernel_rfl, by kernel_rfl, rfl, rfl, trivial, by kernel_rfl, by kernel_rfl, by kernel_rfl, by kernel_rfl, (fun h => by cases h)⟩
theorem tok138 : TOk Tryz.prog 138 ⟨1, 8, false, [], [.val .nilFunc], .other none, false⟩ := ⟨by kernel_rfl, by kernel_rfl, rfl, rfl, trivial, by kernel_rfl, by kernel_rfl, by kernel_rfl, by kernel_rfl, (fun h => by cases h)⟩
theorem tok139 : TOk Tryz.prog 139 ⟨1, 8, false, [], [.val .nilFunc], .other none, false⟩ := ⟨by kernel_rfl, by kernel_rfl, rfl, rfl, trivial, by kernel_rfl, by kernel_rfl, by kernel_rfl, by kernel_rfl, (fun h => by cases h)⟩
theorem tok140 : TOk Tryz.prog 140 ⟨1, 8, false, [], [.val .nilFunc], .other none, false⟩ := ⟨by kernel_rfl, by kernel_rfl, rfl, rfl, trivial, by kernel_rfl, by kernel_rfl, by kernel_rfl, by kernel_rfl, (fun h => by cases h)⟩
theorem tok141 : TOk Tryz.prog 141 ⟨1, 8, false, [], [.val .nilFunc], .other none, false⟩ := ⟨by kernel_rfl, by kernel_rfl, rfl, rfl, trivial, by kernel_rfl, by kernel_rfl, by kernel_rfl, by kernel_rfl, (fun h => by cases h)⟩
theorem tok142 : TOk Tryz.prog 142 ⟨1, 8, false, [], [.val .nilFunc], .other none, false⟩ := ⟨by kernel_rfl, by kernel_rfl, rfl, rfl, trivial, by kernel_rfl, by kernel_rfl, by kernel_rfl, by kernel_rfl, (fun h => by cases h)⟩
theorem tok143 : TOk Tryz.prog 143 ⟨1, 8, false, [], [.val .nilFunc], .other none, false⟩ := ⟨by kernel_rfl, by kernel_rfl, rfl, rfl, trivial, by kernel_rfl, by kernel_rfl, by kernel_rfl, by kernel_rfl, (fun h => by cases h)⟩
theorem tok144 : TOk Tryz.prog 144 ⟨4, 32, true, [(0, 1, false), (1, 1, false), (2, 1, false), (3, 1, false)], [.str [], .int .i64 0, .bool false, .bool false], .struct, false⟩ := ⟨by kernel_rfl, by kernel_rfl, rfl, rfl, by show (match Tryz.prog.underlying 144 with | some (.struct _) => true | _ => false) = true; kernel_rfl, by kernel_rfl, by kernel_rfl, by kernel_rfl, by kernel_rfl, (fun h => by cases h)⟩
theorem eqv145 (a0 b0 : List UInt8) (a1 b1 : Int) (a2 b2 : Bool) (a3 b3 : Bool) (w : World) : (Op.equalIn 10000 145 (.agg #[.string ⟨a0.toArray⟩, .int .i64 a1, .bool a2, .bool a3]) (.agg #[.string ⟨b0.toArray⟩, .int .i64 b1, .bool b2, .bool b3])).run Tryz.prog w = .ok ((a0 == b0 && (a1 == b1 && (a2 == b2 && (a3 == b3 && true))))) w := by
  have u3 := Tryz.underlying3
  have c3 := Tryz.isAgg3
  have z3 := Tryz.sizeOf3
  have u4 := Tryz.underlying4
  have c4 := Tryz.isAgg4
  have z4 := Tryz.sizeOf4
  have u9 := Tryz.underlying9
  have c9 := Tryz.isAgg9
  have z9 := Tryz.sizeOf9
  have hS : Tryz.prog.underlying 145 = some (.struct (Tryz.prog.fieldsOf 145)) := by kernel_rfl
  rw [show (10000 : Nat) = 9999 + 1 from rfl, run_equalIn_agg w 9999 145 _ _ hS (by kernel_rfl)]
  simp only [Program.fieldsOf, Tryz.underlying145]
  go_simp
  by_cases h0 : a0 = b0 <;> by_cases h1 : a1 = b1 <;> by_cases h2 : a2 = b2 <;> by_cases h3 : a3 = b3 <;> simp [h0, h1, h2, h3]
theorem eql145 : EqL Tryz.prog 145 [.str [], .int .i64 0, .bool false, .bool false] := by
  refine ⟨by kernel_rfl, ?_⟩
  intro G xs ys vs us b w g0 h10 h20
  obtain ⟨a0, b0, xs, ys, r0, rfl, rfl, g1, rfl⟩ := eqCells_str g0
  obtain ⟨a1, b1, xs, ys, r1, rfl, rfl, g2, rfl⟩ := eqCells_int g1
  obtain ⟨a2, b2, xs, ys, r2, rfl, rfl, g3, rfl⟩ := eqCells_bool g2
  obtain ⟨a3, b3, xs, ys, r3, rfl, rfl, g4, rfl⟩ := eqCells_bool g3
  obtain ⟨rfl, rfl, rfl⟩ := eqCells_nil g4
  obtain ⟨p0, vs, rfl, ep0, h11⟩ := h10.cons_inv
  cases ep0.str_inv
  obtain ⟨q0, us, rfl, eq0, h21⟩ := h20.cons_inv
  cases eq0.str_inv
  obtain ⟨p1, vs, rfl, ep1, h12⟩ := h11.cons_inv
  cases ep1.int_inv
  obtain ⟨q1, us, rfl, eq1, h22⟩ := h21.cons_inv
  cases eq1.int_inv
  obtain ⟨p2, vs, rfl, ep2, h13⟩ := h12.cons_inv
  cases ep2.bool_inv
  obtain ⟨q2, us, rfl, eq2, h23⟩ := h22.cons_inv
  cases eq2.bool_inv
  obtain ⟨p3, vs, rfl, ep3, h14⟩ := h13.cons_inv
  cases ep3.bool_inv
  obtain ⟨q3, us, rfl, eq3, h24⟩ := h23.cons_inv
  cases eq3.bool_inv
  cases h14
  cases h24
  exact eqv145 a0 b0 a1 b1 a2 b2 a3 b3 w
theorem tok145 : TOk Tryz.prog 145 ⟨4, 32, true, [(0, 1, false), (1, 1, false), (2, 1, false), (3, 1, false)], [.str [], .int .i64 0, .bool false, .bool false], .struct, true⟩ := ⟨by kernel_rfl, by kernel_rfl, rfl, rfl, by show (match Tryz.prog.underlying 145 with | some (.struct _) => true | _ => false) = true; kernel_rfl, by kernel_rfl, by kernel_rfl, by kernel_rfl, by kernel_rfl, fun _ => eql145⟩
theorem tok146 : TOk Tryz.prog 146 ⟨1, 8, false, [], [.val .nilFunc], .other none, false⟩ := ⟨by kernel_rfl, by kernel_rfl, rfl, rfl, trivial, by kernel_rfl, by kernel_rfl, by kernel_rfl, by kernel_rfl, (fun h => by cases h)⟩
theorem tok147 : TOk Tryz.prog 147 ⟨1, 8, false, [], [.val .nilFunc], .other none, false⟩ := ⟨by kernel_rfl, by kernel_rfl, rfl, rfl, trivial, by kernel_rfl, by kernel_rfl, by kernel_rfl, by kernel_rfl, (fun h => by cases h)⟩
theorem tok148 : TOk Tryz.prog 148 ⟨1, 8, false, [], [.val .nilFunc], .other none, false⟩ := ⟨by kernel_rfl, by kernel_rfl, rfl, rfl, trivial, by kernel_rfl, by kernel_rfl, by kernel_rfl, by kernel_rfl, (fun h => by cases h)⟩
theorem tok149 : TOk Tryz.prog 149 ⟨1, 8, false, [], [.val .nilFunc], .other none, false⟩ := ⟨by kernel_rfl, by kernel_rfl, rfl, rfl, trivial, by kernel_rfl, by kernel_rfl, by kernel_rfl, by kernel_rfl, (fun h => by cases h)⟩
theorem tok150 : TOk Tryz.prog 150 ⟨1, 8, false, [], [.val .nilFunc], .other none, false⟩ := ⟨by kernel_rfl, by kernel_rfl, rfl, rfl, trivial, by kernel_rfl, by kernel_rfl, by kernel_rfl, by kernel_rfl, (fun h => by cases h)⟩
theorem tok151 : TOk Tryz.prog 151 ⟨1, 8, false, [], [.val .nilFunc], .other none, false⟩ := ⟨by kernel_rfl, by kernel_rfl, rfl, rfl, trivial, by kernel_rfl, by kernel_rfl, by kernel_rfl, by kernel_rfl, (fun h => by cases h)⟩
theorem tok152 : TOk Tryz.prog 152 ⟨1, 8, false, [], [.val .nilFunc], .other none, false⟩ := ⟨by kernel_rfl, by kernel_rfl, rfl, rfl, trivial, by kernel_rfl, by kernel_rfl, by kernel_rfl, by kernel_rfl, (fun h => by cases h)⟩
theorem tok153 : TOk Tryz.prog 153 ⟨1, 8, false, [], [.val .nilFunc], .other none, false⟩ := ⟨by kernel_rfl, by kernel_rfl, rfl, rfl, trivial, by kernel_rfl, by kernel_rfl, by kernel_rfl, by kernel_rfl, (fun h => by cases h)⟩
theorem tok155 : TOk Tryz.prog 155 ⟨1, 8, false, [], [.val .nilFunc], .other none, false⟩ := ⟨by kernel_rfl, by kernel_rfl, rfl, rfl, trivial, by kernel_rfl, by kernel_rfl, by kernel_rfl, by kernel_rfl, (fun h => by cases h)⟩
theorem tok156 : TOk Tryz.prog 156 ⟨1, 8, false, [], [.val .nilFunc], .other none, false⟩ := ⟨by kernel_rfl, by kernel_rfl, rfl, rfl, trivial, by kernel_rfl, by kernel_rfl, by kernel_rfl, by kernel_rfl, (fun h => by cases h)⟩
theorem tok157 : TOk Tryz.prog 157 ⟨1, 8, false, [], [.val (.pointer none)], .other (some 5), false⟩ := ⟨by kernel_rfl, by kernel_rfl, rfl, rfl, by show Tryz.prog.underlying 157 = some (.pointer (5)); kernel_rfl, by kernel_rfl, by kernel_rfl, by kernel_rfl, by kernel_rfl, (fun h => by cases h)⟩
theorem tok158 : TOk Tryz.prog 158 ⟨1, 8, false, [], [.val .nilFunc], .other none, false⟩ := ⟨by kernel_rfl, by kernel_rfl, rfl, rfl, trivial, by kernel_rfl, by kernel_rfl, by kernel_rfl, by kernel_rfl, (fun h => by cases h)⟩
theorem tok159 : TOk Tryz.prog 159 ⟨1, 8, false, [], [.val .nilFunc], .other none, false⟩ := ⟨by kernel_rfl, by kernel_rfl, rfl, rfl, trivial, by kernel_rfl, by kernel_rfl, by kernel_rfl, by kernel_rfl, (fun h => by cases h)⟩
theorem tok160 : TOk Tryz.prog 160 ⟨1, 8, false, [], [.val .nilFunc], .other none, false⟩ := ⟨by kernel_rfl, by kernel_rfl, rfl, rfl, trivial, by kernel_rfl, by kernel_rfl, by kernel_rfl, by kernel_rfl, (fun h => by cases h)⟩
theorem tok161 : TOk Tryz.prog 161 ⟨1, 8, false, [], [.val .nilFunc], .other none, false⟩ := ⟨by kernel_rfl, by kernel_rfl, rfl, rfl, trivial, by kernel_rfl, by kernel_rfl, by kernel_rfl, by kernel_rfl, (fun h => by cases h)⟩
theorem tok162 : TOk Tryz.prog 162 ⟨1, 8, false, [], [.val .nilFunc], .other none, false⟩ := ⟨by kernel_rfl, by kernel_rfl, rfl, rfl, trivial, by kernel_rfl, by kernel_rfl, by kernel_rfl, by kernel_rfl, (fun h => by cases h)⟩
theorem tok163 : TOk Tryz.prog 163 ⟨1, 8, false, [], [.val .nilFunc], .other none, false⟩ := ⟨by kernel_rfl, by kernel_rfl, rfl, rfl, trivial, by kernel_rfl, by kernel_rfl, by kernel_rfl, by kernel_rfl, (fun h => by cases h)⟩
theorem tok164 : TOk Tryz.prog 164 ⟨1, 8, false, [], [.val .nilFunc], .other none, false⟩ := ⟨by kernel_rfl, by kernel_rfl, rfl, rfl, trivial, by kernel_rfl, by kernel_rfl, by kernel_rfl, by kernel_rfl, (fun h => by cases h)⟩
theorem tok165 : TOk Tryz.prog 165 ⟨1, 8, false, [], [.val .nilFunc], .other none, false⟩ := ⟨by kernel_rfl, by kernel_rfl, rfl, rfl, trivial, by kernel_rfl, by kernel_rfl, by kernel_rfl, by kernel_rfl, (fun h => by cases h)⟩
theorem tok166 : TOk Tryz.prog 166 ⟨1, 8, false, [], [.val .nilFunc], .other none, false⟩ := ⟨by kernel_rfl, by kernel_rfl, rfl, rfl, trivial, by kernel_rfl, by kernel_rfl, by kernel_rfl, by kernel_rfl, (fun h => by cases h)⟩
theorem tok167 : TOk Tryz.prog 167 ⟨1, 8, false, [], [.val .nilFunc], .other none, false⟩ := ⟨by kernel_rfl, by kernel_rfl, rfl, rfl, trivial, by kernel_rfl, by kernel_rfl, by kernel_rfl, by kernel_rfl, (fun h => by cases h)⟩
theorem tok168 : TOk Tryz.prog 168 ⟨1, 8, false, [], [.val .nilFunc], .other none, false⟩ := ⟨by kernel_rfl, by kernel_rfl, rfl, rfl, trivial, by kernel_rfl, by kernel_rfl, by kernel_rfl, by kernel_rfl, (fun h => by cases h)⟩
theorem tok170 : TOk Tryz.prog 170 ⟨1, 8, false, [], [.val .nilFunc], .other none, false⟩ := ⟨by kernel_rfl, by kernel_rfl, rfl, rfl, trivial, by kernel_rfl, by kernel_rfl, by kernel_rfl, by kernel_rfl, (fun h => by cases h)⟩
theorem tok172 : TOk Tryz.prog 172 ⟨1, 8, false, [], [.val .nilFunc], .other none, false⟩ := ⟨by kernel_rfl, by kernel_rfl, rfl, rfl, trivial, by kernel_rfl, by kernel_rfl, by kernel_rfl, by kernel_rfl, (fun h => by cases h)⟩
theorem tok173 : TOk Tryz.prog 173 ⟨1, 8, false, [], [.val .nilFunc], .other none, false⟩ := ⟨by kernel_rfl, by kernel_rfl, rfl, rfl, trivial, by kernel_rfl, by kernel_rfl, by kernel_rfl, by kernel_rfl, (fun h => by cases h)⟩
theorem tok175 : TOk Tryz.prog 175 ⟨1, 8, false, [], [.val .nilFunc], .other none, false⟩ := ⟨by kernel_rfl, by kernel_rfl, rfl, rfl, trivial, by kernel_rfl, by kernel_rfl, by kernel_rfl, by kernel_rfl, (fun h => by cases h)⟩
theorem tok176 : TOk Tryz.prog 176 ⟨1, 8, false, [], [.val .nilFunc], .other none, false⟩ := ⟨by kernel_rfl, by kernel_rfl, rfl, rfl, trivial, by kernel_rfl, by kernel_rfl, by kernel_rfl, by kernel_rfl, (fun h => by cases h)⟩
theorem tok177 : TOk Tryz.prog 177 ⟨1, 8, false, [], [.val .nilFunc], .other none, false⟩ := ⟨by kernel_rfl, by kernel_rfl, rfl, rfl, trivial, by kernel_rfl, by kernel_rfl, by kernel_rfl, by kernel_rfl, (fun h => by cases h)⟩
theorem tok179 : TOk Tryz.prog 179 ⟨1, 8, false, [], [.int .u64 0], .int .u64, false⟩ := ⟨by kernel_rfl, by kernel_rfl, rfl, rfl, by show Tryz.prog.underlying 179 = some (.int .u64); kernel_rfl, by kernel_rfl, by kernel_rfl, by kernel_rfl, by kernel_rfl, (fun h => by cases h)⟩
theorem tok180 : TOk Tryz.prog 180 ⟨1, 8, false, [], [.val .nilFunc], .other none, false⟩ := ⟨by kernel_rfl, by kernel_rfl, rfl, rfl, trivial, by kernel_rfl, by kernel_rfl, by kernel_rfl, by kernel_rfl, (fun h => by cases h)⟩
theorem tok181 : TOk Tryz.prog 181 ⟨1, 8, false, [], [.val .nilFunc], .other none, false⟩ := ⟨by kernel_rfl, by kernel_rfl, rfl, rfl, trivial, by kernel_rfl, by kernel_rfl, by kernel_rfl, by kernel_rfl, (fun h => by cases h)⟩
theorem tok183 : TOk Tryz.prog 183 ⟨1, 8, false, [], [.val .nilFunc], .other none, false⟩ := ⟨by kernel_rfl, by kernel_rfl, rfl, rfl, trivial, by kernel_rfl, by kernel_rfl, by kernel_rfl, by kernel_rfl, (fun h => by cases h)⟩
theorem tok184 : TOk Tryz.prog 184 ⟨1, 8, false, [], [.val .nilFunc], .other none, false⟩ := ⟨by kernel_rfl, by kernel_rfl, rfl, rfl, trivial, by kernel_rfl, by kernel_rfl, by kernel_rfl, by kernel_rfl, (fun h => by cases h)⟩
theorem tok185 : TOk Tryz.prog 185 ⟨1, 8, false, [], [.val .nilFunc], .other none, false⟩ := ⟨by kernel_rfl, by kernel_rfl, rfl, rfl, trivial, by kernel_rfl, by kernel_rfl, by kernel_rfl, by kernel_rfl, (fun h => by cases h)⟩
theorem tok187 : TOk Tryz.prog 187 ⟨1, 4, false, [], [.int .u32 0], .int .u32, false⟩ := ⟨by kernel_rfl, by kernel_rfl, rfl, rfl, by show Tryz.prog.underlying 187 = some (.int .u32); kernel_rfl, by kernel_rfl, by kernel_rfl, by kernel_rfl, by kernel_rfl, (fun h => by cases h)⟩
theorem tok189 : TOk Tryz.prog 189 ⟨1, 8, false, [], [.val .nilFunc], .other none, false⟩ := ⟨by kernel_rfl, by kernel_rfl, rfl, rfl, trivial, by kernel_rfl, by kernel_rfl, by kernel_rfl, by kernel_rfl, (fun h => by cases h)⟩
theorem tok190 : TOk Tryz.prog 190 ⟨1, 8, false, [], [.int .u64 0], .int .u64, false⟩ := ⟨by kernel_rfl, by kernel_rfl, rfl, rfl, by show Tryz.prog.underlying 190 = some (.int .u64); kernel_rfl, by kernel_rfl, by kernel_rfl, by kernel_rfl, by kernel_rfl, (fun h => by cases h)⟩
theorem tok191 : TOk Tryz.prog 191 ⟨1, 8, false, [], [.val .nilFunc], .other none, false⟩ := ⟨by kernel_rfl, by kernel_rfl, rfl, rfl, trivial, by kernel_rfl, by kernel_rfl, by kernel_rfl, by kernel_rfl, (fun h => by cases h)⟩
theorem tok193 : TOk Tryz.prog 193 ⟨2, 2, true, [(0, 1, false), (1, 1, false)], [.int .u8 0, .int .u8 0], .struct, false⟩ := ⟨by kernel_rfl, by kernel_rfl, rfl, rfl, by show (match Tryz.prog.underlying 193 with | some (.struct _) => true | _ => false) = true; kernel_rfl, by kernel_rfl, by kernel_rfl, by kernel_rfl, by kernel_rfl, (fun h => by cases h)⟩
theorem tok194 : TOk Tryz.prog 194 ⟨2, 2, true, [(0, 1, false), (1, 1, false)], [.int .u8 0, .int .u8 0], .struct, false⟩ := ⟨by kernel_rfl, by kernel_rfl, rfl, rfl, by show (match Tryz.prog.underlying 194 with | some (.struct _) => true | _ => false) = true; kernel_rfl, by kernel_rfl, by kernel_rfl, by kernel_rfl, by kernel_rfl, (fun h => by cases h)⟩
theorem tok196 : TOk Tryz.prog 196 ⟨1, 8, false, [], [.val .nilFunc], .other none, false⟩ := ⟨by kernel_rfl, by kernel_rfl, rfl, rfl, trivial, by kernel_rfl, by kernel_rfl, by kernel_rfl, by kernel_rfl, (fun h => by cases h)⟩
theorem tok198 : TOk Tryz.prog 198 ⟨1, 8, false, [], [.val .nilFunc], .other none, false⟩ := ⟨by kernel_rfl, by kernel_rfl, rfl, rfl, trivial, by kernel_rfl, by kernel_rfl, by kernel_rfl, by kernel_rfl, (fun h => by cases h)⟩
theorem tok201 : TOk Tryz.prog 201 ⟨4, 40, true, [(0, 1, false), (1, 1, false), (2, 1, false), (3, 1, false)], [.val (.pointer none), .val (.pointer none), .val (.pointer none), .str []], .struct, false⟩ := ⟨by kernel_rfl, by kernel_rfl, rfl, rfl, by show (match Tryz.prog.underlying 201 with | some (.struct _) => true | _ => false) = true; kernel_rfl, by kernel_rfl, by kernel_rfl, by kernel_rfl, by kernel_rfl, (fun h => by cases h)⟩
theorem tok202 : TOk Tryz.prog 202 ⟨4, 40, true, [(0, 1, false), (1, 1, false), (2, 1, false), (3, 1, false)], [.val (.pointer none), .val (.pointer none), .val (.pointer none), .str []], .struct, false⟩ := ⟨by kernel_rfl, by kernel_rfl, rfl, rfl, by show (match Tryz.prog.underlying 202 with | some (.struct _) => true | _ => false) = true; kernel_rfl, by kernel_rfl, by kernel_rfl, by kernel_rfl, by kernel_rfl, (fun h => by cases h)⟩
theorem tok204 : TOk Tryz.prog 204 ⟨0, 0, true, [(0, 0, true)], [], .struct, false⟩ := ⟨by kernel_rfl, by kernel_rfl, rfl, rfl, by show (match Tryz.prog.underlying 204 with | some (.struct _) => true | _ => false) = true; kernel_rfl, by kernel_rfl, by kernel_rfl, by kernel_rfl, by kernel_rfl, (fun h => by cases h)⟩
theorem tok205 : TOk Tryz.prog 205 ⟨0, 0, true, [(0, 0, true)], [], .struct, false⟩ := ⟨by kernel_rfl, by kernel_rfl, rfl, rfl, by show (match Tryz.prog.underlying 205 with | some (.struct _) => true | _ => false) = true; kernel_rfl, by kernel_rfl, by kernel_rfl, by kernel_rfl, by kernel_rfl, (fun h => by cases h)⟩
theorem tok206 : TOk Tryz.prog 206 ⟨1, 1, false, [], [.int .u8 0], .int .u8, false⟩ := ⟨by kernel_rfl, by kernel_rfl, rfl, rfl, by show Tryz.prog.underlying 206 = some (.int .u8); kernel_rfl, by kernel_rfl, by kernel_rfl, by kernel_rfl, by kernel_rfl, (fun h => by cases h)⟩
theorem tok207 : TOk Tryz.prog 207 ⟨1, 1, false, [], [.int .u8 0], .int .u8, false⟩ := ⟨by kernel_rfl, by kernel_rfl, rfl, rfl, by show Tryz.prog.underlying 207 = some (.int .u8); kernel_rfl, by kernel_rfl, by kernel_rfl, by kernel_rfl, by kernel_rfl, (fun h => by cases h)⟩
theorem tok208 : TOk Tryz.prog 208 ⟨1, 8, false, [], [.val .nilFunc], .other none, false⟩ := ⟨by kernel_rfl, by kernel_rfl, rfl, rfl, trivial, by kernel_rfl, by kernel_rfl, by kernel_rfl, by kernel_rfl, (fun h => by cases h)⟩
theorem tok209 : TOk Tryz.prog 209 ⟨1, 4, false, [], [.int .i32 0], .int .i32, false⟩ := ⟨by kernel_rfl, by kernel_rfl, rfl, rfl, by show Tryz.prog.underlying 209 = some (.int .i32); kernel_rfl, by kernel_rfl, by kernel_rfl, by kernel_rfl, by kernel_rfl, (fun h => by cases h)⟩
theorem tok210 : TOk Tryz.prog 210 ⟨1, 4, false, [], [.int .i32 0], .int .i32, false⟩ := ⟨by kernel_rfl, by kernel_rfl, rfl, rfl, by show Tryz.prog.underlying 210 = some (.int .i32); kernel_rfl, by kernel_rfl, by kernel_rfl, by kernel_rfl, by kernel_rfl, (fun h => by cases h)⟩
theorem tok211 : TOk Tryz.prog 211 ⟨11, 48, true, [(0, 1, false), (1, 1, false), (2, 1, false), (3, 1, false), (4, 1, false), (5, 1, false), (6, 1, false), (7, 1, false), (8, 1, false), (9, 1, false), (10, 1, false)], [.int .u64 0, .int .u64 0, .int .u32 0, .int .u8 0, .int .u8 0, .int .u8 0, .int .u8 0, .val .nilFunc, .val (.pointer none), .int .i32 0, .int .i32 0], .struct, false⟩ := ⟨by kernel_rfl, by kernel_rfl, rfl, rfl, by show (match Tryz.prog.underlying 211 with | some (.struct _) => true | _ => false) = true; kernel_rfl, by kernel_rfl, by kernel_rfl, by kernel_rfl, by kernel_rfl, (fun h => by cases h)⟩
theorem tok212 : TOk Tryz.prog 212 ⟨11, 48, true, [(0, 1, false), (1, 1, false), (2, 1, false), (3, 1, false), (4, 1, false), (5, 1, false), (6, 1, false), (7, 1, false), (8, 1, false), (9, 1, false), (10, 1, false)], [.int .u64 0, .int .u64 0, .int .u32 0, .int .u8 0, .int .u8 0, .int .u8 0, .int .u8 0, .val .nilFunc, .val (.pointer none), .int .i32 0, .int .i32 0], .struct, false⟩ := ⟨by kernel_rfl, by kernel_rfl, rfl, rfl, by show (match Tryz.prog.underlying 212 with | some (.struct _) => true | _ => false) = true; kernel_rfl, by kernel_rfl, by kernel_rfl, by kernel_rfl, by kernel_rfl, (fun h => by cases h)⟩
theorem tabP0_ok : TT Tryz.prog tabP0 := by
  intro t y h
  unfold tabP0 at h
  split at h
  · injection h with h; subst h; exact tok1
  · injection h with h; subst h; exact tok2
  · injection h with h; subst h; exact tok3
  · injection h with h; subst h; exact tok4
  · injection h with h; subst h; exact tok5
  · injection h with h; subst h; exact tok6
  · injection h with h; subst h; exact tok7
  · injection h with h; subst h; exact tok8
  · injection h with h; subst h; exact tok9
  · injection h with h; subst h; exact tok10
  · injection h with h; subst h; exact tok11
  · injection h with h; subst h; exact tok12
  · injection h with h; subst h; exact tok13
  · injection h with h; subst h; exact tok14
  · injection h with h; subst h; exact tok15
  · injection h with h; subst h; exact tok16
  · injection h with h; subst h; exact tok17
  · injection h with h; subst h; exact tok18
  · injection h with h; subst h; exact tok19
  · injection h with h; subst h; exact tok20
  · injection h with h; subst h; exact tok21
  · injection h with h; subst h; exact tok22
  · injection h with h; subst h; exact tok23
  · injection h with h; subst h; exact tok24
  · injection h with h; subst h; exact tok25
  · injection h with h; subst h; exact tok26
  · injection h with h; subst h; exact tok27
  · injection h with h; subst h; exact tok28
  · injection h with h; subst h; exact tok29
  · injection h with h; subst h; exact tok30
  · injection h with h; subst h; exact tok32
  · injection h with h; subst h; exact tok33
  · injection h with h; subst h; exact tok34
  · injection h with h; subst h; exact tok35
  · injection h with h; subst h; exact tok36
  · injection h with h; subst h; exact tok37
  · injection h with h; subst h; exact tok38
  · injection h with h; subst h; exact tok39
  · injection h with h; subst h; exact tok40
  · injection h with h; subst h; exact tok41
  · injection h with h; subst h; exact tok42
  · injection h with h; subst h; exact tok43
  · injection h with h; subst h; exact tok44
  · injection h with h; subst h; exact tok45
  · injection h with h; subst h; exact tok46
  · injection h with h; subst h; exact tok47
  · injection h with h; subst h; exact tok48
  · injection h with h; subst h; exact tok50
  · injection h with h; subst h; exact tok51
  · injection h with h; subst h; exact tok53
  · injection h with h; subst h; exact tok55
  · injection h with h; subst h; exact tok56
  · injection h with h; subst h; exact tok57
  · injection h with h; subst h; exact tok58
  · injection h with h; subst h; exact tok59
  · injection h with h; subst h; exact tok60
  · injection h with h; subst h; exact tok61
  · injection h with h; subst h; exact tok62
  · injection h with h; subst h; exact tok63
  · injection h with h; subst h; exact tok64
  · cases h
theorem tabP1_ok : TT Tryz.prog tabP1 := by
  intro t y h
  unfold tabP1 at h
  split at h
  · injection h with h; subst h; exact tok65
  · injection h with h; subst h; exact tok66
  · injection h with h; subst h; exact tok67
  · injection h with h; subst h; exact tok68
  · injection h with h; subst h; exact tok69
  · injection h with h; subst h; exact tok70
  · injection h with h; subst h; exact tok71
  · injection h with h; subst h; exact tok72
  · injection h with h; subst h; exact tok73
  · injection h with h; subst h; exact tok74
  · injection h with h; subst h; exact tok75
  · injection h with h; subst h; exact tok76
  · injection h with h; subst h; exact tok77
  · injection h with h; subst h; exact tok78
  · injection h with h; subst h; exact tok79
  · injection h with h; subst h; exact tok80
  · injection h with h; subst h; exact tok81
  · injection h with h; subst h; exact tok83
  · injection h with h; subst h; exact tok84
  · injection h with h; subst h; exact tok85
  · injection h with h; subst h; exact tok86
  · injection h with h; subst h; exact tok87
  · injection h with h; subst h; exact tok88
  · injection h with h; subst h; exact tok89
  · injection h with h; subst h; exact tok90
  · injection h with h; subst h; exact tok91
  · injection h with h; subst h; exact tok92
  · injection h with h; subst h; exact tok93
  · injection h with h; subst h; exact tok94
  · injection h with h; subst h; exact tok95
  · injection h with h; subst h; exact tok96
  · injection h with h; subst h; exact tok97
  · injection h with h; subst h; exact tok98
  · injection h with h; subst h; exact tok99
  · injection h with h; subst h; exact tok100
  · injection h with h; subst h; exact tok102
  · injection h with h; subst h; exact tok103
  · injection h with h; subst h; exact tok104
  · injection h with h; subst h; exact tok105
  · injection h with h; subst h; exact tok106
  · injection h with h; subst h; exact tok107
  · injection h with h; subst h; exact tok108
  · injection h with h; subst h; exact tok109
  · injection h with h; subst h; exact tok110
  · injection h with h; subst h; exact tok111
  · injection h with h; subst h; exact tok112
  · injection h with h; subst h; exact tok113
  · injection h with h; subst h; exact tok114
  · injection h with h; subst h; exact tok115
  · injection h with h; subst h; exact tok116
  · injection h with h; subst h; exact tok118
  · injection h with h; subst h; exact tok119
  · injection h with h; subst h; exact tok120
  · injection h with h; subst h; exact tok121
  · injection h with h; subst h; exact tok122
  · injection h with h; subst h; exact tok123
  · injection h with h; subst h; exact tok124
  · injection h with h; subst h; exact tok125
  · injection h with h; subst h; exact tok126
  · injection h with h; subst h; exact tok128
  · cases h
theorem tabP2_ok : TT Tryz.prog tabP2 := by
  intro t y h
  unfold tabP2 at h
  split at h
  · injection h with h; subst h; exact tok129
  · injection h with h; subst h; exact tok130
  · injection h with h; subst h; exact tok131
  · injection h with h; subst h; exact tok132
  · injection h with h; subst h; exact tok133
  · injection h with h; subst h; exact tok134
  · injection h with h; subst h; exact tok135
  · injection h with h; subst h; exact tok136
  · injection h with h; subst h; exact tok137
  · injection h with h; subst h; exact tok138
  · injection h with h; subst h; exact tok139
  · injection h with h; subst h; exact tok140
  · injection h with h; subst h; exact tok141
  · injection h with h; subst h; exact tok142
  · injection h with h; subst h; exact tok143
  · injection h with h; subst h; exact tok144
  · injection h with h; subst h; exact tok145
  · injection h with h; subst h; exact tok146
  · injection h with h; subst h; exact tok147
  · injection h with h; subst h; exact tok148
  · injection h with h; subst h; exact tok149
  · injection h with h; subst h; exact tok150
  · injection h with h; subst h; exact tok151
  · injection h with h; subst h; exact tok152
  · injection h with h; subst h; exact tok153
  · injection h with h; subst h; exact tok155
  · injection h with h; subst h; exact tok156
  · injection h with h; subst h; exact tok157
  · injection h with h; subst h; exact tok158
  · injection h with h; subst h; exact tok159
  · injection h with h; subst h; exact tok160
  · injection h with h; subst h; exact tok161
  · injection h with h; subst h; exact tok162
  · injection h with h; subst h; exact tok163
  · injection h with h; subst h; exact tok164
  · injection h with h; subst h; exact tok165
  · injection h with h; subst h; exact tok166
  · injection h with h; subst h; exact tok167
  · injection h with h; subst h; exact tok168
  · injection h with h; subst h; exact tok170
  · injection h with h; subst h; exact tok172
  · injection h with h; subst h; exact tok173
  · injection h with h; subst h; exact tok175
  · injection h with h; subst h; exact tok176
  · injection h with h; subst h; exact tok177
  · injection h with h; subst h; exact tok179
  · injection h with h; subst h; exact tok180
  · injection h with h; subst h; exact tok181
  · injection h with h; subst h; exact tok183
  · injection h with h; subst h; exact tok184
  · injection h with h; subst h; exact tok185
  · injection h with h; subst h; exact tok187
  · injection h with h; subst h; exact tok189
  · injection h with h; subst h; exact tok190
  · injection h with h; subst h; exact tok191
  · injection h with h; subst h; exact tok193
  · injection h with h; subst h; exact tok194
  · injection h with h; subst h; exact tok196
  · injection h with h; subst h; exact tok198
  · injection h with h; subst h; exact tok201
  · cases h
theorem tabP3_ok : TT Tryz.prog tabP3 := by
  intro t y h
  unfold tabP3 at h
  split at h
  · injection h with h; subst h; exact tok202
  · injection h with h; subst h; exact tok204
  · injection h with h; subst h; exact tok205
  · injection h with h; subst h; exact tok206
  · injection h with h; subst h; exact tok207
  · injection h with h; subst h; exact tok208
  · injection h with h; subst h; exact tok209
  · injection h with h; subst h; exact tok210
  · injection h with h; subst h; exact tok211
  · injection h with h; subst h; exact tok212
  · cases h
theorem orT_ok {P : Program} {a b : TTab} (ha : TT P a) (hb : TT P b) : TT P (orT a b) := by
  intro t y h
  unfold orT at h
  split at h
  · rename_i z hz; injection h with h; subst h; exact ha t _ hz
  · exact hb t y h
theorem tab_ok : TT Tryz.prog tab := orT_ok tabP0_ok (orT_ok tabP1_ok (orT_ok tabP2_ok (orT_ok tabP3_ok (fun t y h => by cases h))))
attribute [go_sem] tab1 tab2 tab3 tab4 tab5 tab6 tab7 tab8 tab9 tab10 tab11 tab12 tab13 tab14 tab15 tab16 tab17 tab18 tab19 tab20 tab21 tab22 tab23 tab24 tab25 tab26 tab27 tab28 tab29 tab30 tab32 tab33 tab34 tab35 tab36 tab37 tab38 tab39 tab40 tab41 tab42 tab43 tab44 tab45 tab46 tab47 tab48 tab50 tab51 tab53 tab55 tab56 tab57 tab58 tab59 tab60 tab61 tab62 tab63 tab64 tab65 tab66 tab67 tab68 tab69 tab70 tab71 tab72 tab73 tab74 tab75 tab76 tab77 tab78 tab79 tab80 tab81 tab83 tab84 tab85 tab86 tab87 tab88 tab89 tab90 tab91 tab92 tab93 tab94 tab95 tab96 tab97 tab98 tab99 tab100 tab102 tab103 tab104 tab105 tab106 tab107 tab108 tab109 tab110 tab111 tab112 tab113 tab114 tab115 tab116 tab118 tab119 tab120 tab121 tab122 tab123 tab124 tab125 tab126 tab128 tab129 tab130 tab131 tab132 tab133 tab134 tab135 tab136 tab137 tab138 tab139 tab140 tab141 tab142 tab143 tab144 tab145 tab146 tab147 tab148 tab149 tab150 tab151 tab152 tab153 tab155 tab156 tab157 tab158 tab159 tab160 tab161 tab162 tab163 tab164 tab165 tab166 tab167 tab168 tab170 tab172 tab173 tab175 tab176 tab177 tab179 tab180 tab181 tab183 tab184 tab185 tab187 tab189 tab190 tab191 tab193 tab194 tab196 tab198 tab201 tab202 tab204 tab205 tab206 tab207 tab208 tab209 tab210 tab211 tab212
end Go.Proofs.YtpepmfhemjeocaaGreatDoor
end
section
/- The machine does what the rules say: operation by operation. -/
set_option linter.unusedVariables false
set_option linter.unusedSimpArgs false
namespace Go.Proofs.YtpepmfhemjeocaaGreatDoor

section
variable {P : Program} {tt : TTab} {nt : Nat} {o : Oper} {env : Env} {st : St} {G : Gh} {a : Act} {w : World}
theorem ARep.put (r : ARep G nt env a) {x : PV} {v : Value} (h : Rep G x v) (d : Option Tmp) : ARep G nt (put nt d env x) (a.put d v) := by
  cases d with
  | none => exact r
  | some d =>
    simp only [Proofs.YtpepmfhemjeocaaGreatDoor.put, Act.put]
    refine ⟨r.defers, by simp [r.size], fun i y e => ?_⟩
    split at e
    · rename_i hd
      simp only [eget] at e
      split at e
      · rename_i hi
        subst hi
        injection e with e
        subst e
        exact ⟨v, by simp [Array.getElem?_setIfInBounds, r.size, hd], h⟩
      · rename_i hi
        obtain ⟨u, h1, h2⟩ := r.get i y e
        exact ⟨u, by simp only [Array.getElem?_setIfInBounds]; rw [if_neg (fun e => hi e.symm)]; exact h1, h2⟩
    · rename_i hd
      obtain ⟨u, h1, h2⟩ := r.get i y e
      refine ⟨u, ?_, h2⟩
      have : i ≠ d := by
        rintro rfl
        have := (Array.getElem?_eq_some_iff.1 h1).1
        rw [r.size] at this
        exact hd this
      simp only [Array.getElem?_setIfInBounds]
      rw [if_neg (Ne.symm this)]
      exact h1
theorem ARep.evs (r : ARep G nt env a) : ∀ {os : List Operand} {xs : List PV}, evs env os = some xs → Reps G xs (os.map a.eval)
  | [], xs, h => by injection h with h; subst h; exact .nil
  | o :: os, xs, h => by
    simp only [Proofs.YtpepmfhemjeocaaGreatDoor.evs] at h
    split at h
    · rename_i x ys h1 h2
      injection h with h
      subst h
      exact .cons _ _ _ _ (r.ev h1) (ARep.evs r h2)
    · cases h
/-- What the rest asks. -/
def Goes (G : Gh) (nt : Nat) (K : Env → St → Prop) (next : Act → World → Prop) : Prop :=
  ∀ G' env' st' a' w', G.le G' → Inv G' st' w' → ARep G' nt env' a' → K env' st' → next a' w'
variable {K : Env → St → Prop} {next : Act → World → Prop} {Q : Exit → Act → World → Prop}
theorem wp_value {v : Value} {w' : World} {G' : Gh} {st' : St} {x : PV} (hr : (execOp a.eval o).run P w = .ok (.value v) w') (hle : G.le G') (hi : Inv G' st' w') (ha : ARep G nt env a) (hx : Rep G' x v) (hk : K (put nt o.dst env x) st')
    (hn : Goes G nt K next) : o.wp P a w next Q := by
  unfold Oper.wp
  rw [hr, Oper.upon_value]
  exact hn G' _ st' _ w' hle hi ((ha.mono hle).put hx o.dst) hk
theorem wp_skips {w' : World} {G' : Gh} {st' : St} (hr : (execOp a.eval o).run P w = .ok .skip w') (hle : G.le G') (hi : Inv G' st' w') (ha : ARep G nt env a) (hk : K (put nt o.dst env (.val undef)) st')
    (hn : Goes G nt K next) : o.wp P a w next Q := by
  unfold Oper.wp
  rw [hr, Oper.upon_skip]
  exact hn G' _ st' _ w' hle hi ((ha.mono hle).put (.val undef) o.dst) hk
theorem run_callFunc {f : FuncId} (h : Enters P f) (args : Array Value) (w : World) : (callFunc f args).run P w = .ok (.enter f args) w := by
  obtain ⟨fn, h1, h2, h3⟩ := h
  simp only [callFunc, Sem.run_bind, run_program, Result.andThen_ok, h1, h2, h3, Bool.false_eq_true, if_false, Sem.run_pure]
theorem wp_enters {f : FuncId} {args : List PV} {vs : List Value} (hr : (execOp a.eval o).run P w = (callFunc f vs.toArray).run P w) (hi : Inv G st w) (ha : ARep G nt env a) (hv : Reps G args vs)
    (hc : PC P f args st fun r st' => K (put nt o.dst env r) st') (hn : Goes G nt K next) : o.wp P a w next Q := by
  unfold Oper.wp
  rw [hr]
  rcases hc G w vs hi hv with ⟨h1, h2⟩ | ⟨v, w', h1, G', r, st', h2, h3, h4, h5, _⟩
  · rw [run_callFunc h1, Oper.upon_enter]
    refine h2.mono ?_
    rintro e w' ⟨v, rfl, G', r, st', h1, h2, h3, h4, _⟩
    exact hn G' _ st' _ w' h1 h2 ((ha.mono h1).put h3 o.dst) h4
  · rw [h1, Oper.upon_value]
    exact hn G' _ st' _ w' h2 h3 ((ha.mono h2).put h4 o.dst) h5

theorem foldl_set (cs : List Value) (vs : List Value) (o k : Nat) (h : o + k + vs.length ≤ cs.length) :
    ((vs.zipIdx k).foldl (fun (acc : Array Value) (x : Value × Nat) => acc.setIfInBounds (o + x.2) x.1) cs.toArray).toList = cs.take (o + k) ++ vs ++ cs.drop (o + k + vs.length) := by
  induction vs generalizing cs k with
  | nil => simp
  | cons v vs ih =>
    simp only [List.zipIdx_cons, List.foldl_cons]
    have hl : o + k < cs.length := by simp at h; omega
    have e : (cs.toArray.setIfInBounds (o + k) v) = (cs.set (o + k) v).toArray := by simp
    rw [e, ih (cs.set (o + k) v) (k + 1) (by simp at h ⊢; omega)]
    have h1 : (cs.set (o + k) v).take (o + (k + 1)) = cs.take (o + k) ++ [v] := by
      rw [show o + (k + 1) = (o + k) + 1 from by omega, List.take_succ_eq_append_getElem (by simpa using hl)]
      simp [List.take_set_of_le]
    have h2 : (cs.set (o + k) v).drop (o + (k + 1) + vs.length) = cs.drop (o + k + (v :: vs).length) := by
      rw [List.drop_set_of_lt (by omega)]
      congr 1
      simp
      omega
    rw [h1, h2]
    simp
theorem fill_ok {flds : List (Nat × Nat × Bool)} (place : Nat → Option (Nat × Nat)) (hp : ∀ i o n ag, flds[i]? = some (o, n, ag) → place i = some (o, n)) :
    ∀ (ps : List (Nat × PV)) (us : List (Nat × Value)) (cs cs' : List PV) (vs : List Value), ps.map (·.1) = us.map (·.1) → Reps G (ps.map (·.2)) (us.map (·.2)) → Reps G cs vs → (∀ x ∈ cs, x.isCell = true) → fillPV flds cs ps = some cs' →
      ∃ vs', Instr.fill place vs.toArray us = some vs'.toArray ∧ Reps G cs' vs' ∧ ∀ x ∈ cs', x.isCell = true
  | [], us, cs, cs', vs, hi, hr, hv, hc, h => by
    injection h with h
    subst h
    cases us with
    | nil => exact ⟨vs, rfl, hv, hc⟩
    | cons => simp at hi
  | (i, x) :: ps, us, cs, cs', vs, hi, hr, hv, hc, h => by
    cases us with
    | nil => simp at hi
    | cons u us =>
    obtain ⟨j, u⟩ := u
    simp only [List.map_cons, List.cons.injEq] at hi
    obtain ⟨rfl, hi⟩ := hi
    simp only [fillPV] at h
    split at h
    · rename_i o n ag hf
      split at h
      · rename_i hcond
        obtain ⟨h1, h2, h3⟩ := hcond
        cases hr with
        | cons _ _ _ _ hx hr =>
        have hxc : ∀ z ∈ x.cells, z.isCell = true := by simpa using h3
        have hu := hx.cells hxc
        have hul := hu.length
        have hvl := hv.length
        have hus : u.cells.size = n := by simp at hul; omega
        obtain ⟨vs', e1, e2, e3⟩ := fill_ok place hp ps us (splice cs o x.cells) cs' (vs.take o ++ u.cells.toList ++ vs.drop (o + u.cells.toList.length)) hi hr (splice_reps hv hu o) (by
          intro z hz
          simp only [splice, List.mem_append] at hz
          rcases hz with (hz | hz) | hz
          · exact hc z (List.mem_of_mem_take hz)
          · exact hxc z hz
          · exact hc z (List.mem_of_mem_drop hz)) h
        refine ⟨vs', ?_, e2, e3⟩
        have hfold := foldl_set vs u.cells.toList o 0 (by simp; omega)
        simp only [Nat.add_zero] at hfold
        rw [← e1]
        simp only [Instr.fill, hp i o n ag hf]
        rw [if_neg (by simp [hus]; omega)]
        congr 1
        apply Array.ext'
        rw [← hfold]
        congr 1
        rw [← Array.foldl_toList]
        congr 1
        simp
      · cases h
    · cases h

theorem evParts_ok (r : ARep G nt env a) : ∀ {ps : List (Nat × Operand)} {xs : List (Nat × PV)}, evParts env ps = some xs → xs.map (·.1) = (ps.map fun x => (x.1, a.eval x.2)).map (·.1) ∧ Reps G (xs.map (·.2)) ((ps.map fun x => (x.1, a.eval x.2)).map (·.2))
  | [], xs, h => by injection h with h; subst h; exact ⟨rfl, .nil⟩
  | (i, o) :: ps, xs, h => by
    simp only [evParts] at h
    split at h
    · rename_i x ys h1 h2
      injection h with h
      subst h
      obtain ⟨h3, h4⟩ := evParts_ok r h2
      exact ⟨by simp at h3 ⊢; exact h3, .cons _ _ _ _ (r.ev h1) h4⟩
    · cases h
theorem dense_ok : ∀ {n : Nat} {ps : List (Nat × PV)} {xs : List PV}, dense n ps = some xs → ps.map (·.1) = (xs.zipIdx n).map (·.2) ∧ ps.map (·.2) = xs
  | n, [], xs, h => by injection h with h; subst h; simp
  | n, (i, x) :: ps, xs, h => by
    simp only [dense] at h
    split at h
    · rename_i hi
      subst hi
      cases hd : dense (i + 1) ps with
      | none => rw [hd] at h; cases h
      | some ys =>
        rw [hd] at h
        injection h with h
        subst h
        obtain ⟨h1, h2⟩ := dense_ok hd
        exact ⟨by simp [h1], by simp [h2]⟩
    · cases h
theorem TK.struct_inv {y : TyI} {T : TypeId} (h : TOk P T y) (hk : y.k = .struct) : ∃ fs, P.underlying T = some (.struct fs) := by
  have := h.und
  rw [hk] at this
  simp only [TK.ok] at this
  split at this
  · exact ⟨_, by assumption⟩
  · cases this
theorem TOk.fld {y : TyI} {T : TypeId} (h : TOk P T y) {fs : Array Field} (hu : P.underlying T = some (.struct fs)) {f off n : Nat} {ag : Bool} (hf : y.flds[f]? = some (off, n, ag)) :
    ∃ fd, fs[f]? = some fd ∧ fd.offset = off ∧ (∃ i, P.info? fd.type = some i ∧ i.size = n) ∧ agB P fd.type = ag ∧ (P.underlying fd.type).isSome = true := by
  have h1 := h.flds
  have h2 := h.fok
  simp only [fldB, hu] at h1
  simp only [fokB, hu] at h2
  rw [← h1, List.getElem?_map, Array.getElem?_toList] at hf
  cases hfd : fs[f]? with
  | none => rw [hfd] at hf; simp at hf
  | some fd =>
    rw [hfd] at hf
    simp at hf
    have hm : fd ∈ fs.toList := by
      rw [← Array.getElem?_toList] at hfd
      exact List.mem_of_getElem? hfd
    have h3 := List.all_eq_true.1 h2 fd hm
    simp only [Bool.and_eq_true] at h3
    obtain ⟨i, hi⟩ := Option.isSome_iff_exists.1 h3.1
    rw [hi] at hf
    simp at hf
    exact ⟨fd, rfl, hf.1, ⟨i, hi, hf.2.1⟩, hf.2.2, h3.2⟩
theorem run_isAgg' {t : TypeId} (h : (P.underlying t).isSome = true) (w : World) : (isAgg t).run P w = .ok (agB P t) w := by
  obtain ⟨d, hd⟩ := Option.isSome_iff_exists.1 h
  simp only [agB, hd]
  cases d <;> simp [isAgg, underlying, hd]
theorem run_sizeOf' {t : TypeId} {i : TypeInfo} (h : P.info? t = some i) (w : World) : (sizeOf t).run P w = .ok i.size w := by simp [sizeOf, typeInfo, h]
theorem run_part' {t : TypeId} {i : TypeInfo} (h : P.info? t = some i) (hs : (P.underlying t).isSome = true) (cs : Array Value) (off : Nat) (w : World) :
    (agB P t = true → (part t cs off).run P w = .ok (.agg (cs.extract off (off + i.size))) w) ∧ (agB P t = false → ∀ v, cs[off]? = some v → (part t cs off).run P w = .ok v w) := by
  refine ⟨fun ha => ?_, fun ha v hv => ?_⟩
  · simp [part, run_isAgg' hs, ha, run_sizeOf' h]
  · simp [part, run_isAgg' hs, ha, hv]
end
end Go.Proofs.YtpepmfhemjeocaaGreatDoor
end
section
/- The machine does what the rules say: all operations; regions. -/
set_option linter.unusedVariables false
set_option linter.unusedSimpArgs false
namespace Go.Proofs.YtpepmfhemjeocaaGreatDoor

section
variable {P : Program} {tt : TTab} {nt : Nat} {o : Oper} {env : Env} {st : St} {G : Gh} {a : Act} {w : World}
variable {K : Env → St → Prop} {next : Act → World → Prop} {Q : Exit → Act → World → Prop}

theorem ok_alloc (ht : TT P tt) {T : TypeId} (ho : o.op = .alloc T) {y : TyI} (hy : tt T = some y) (hk : K (put nt o.dst env (.ref st.box.length 0)) { st with box := st.box ++ [y.zero] })
    (hi : Inv G st w) (ha : ARep G nt env a) (hn : Goes G nt K next) : o.wp P a w next Q := by
  have hy' := ht T y hy
  obtain ⟨z, hz, hzc⟩ := hy'.run_zero w
  obtain ⟨h1, h2⟩ := reps_simple G hy'.simple
  have hzv : z.cells = (y.zero.map PV.toV).toArray := by rw [← hzc]
  refine wp_value (v := .pointer (some ⟨w.heap.size, 0, none⟩)) (x := .ref st.box.length 0) ?_ (Gh.le_addRef G w.heap.size) (hi.newBox h1 h2 T) ha (.ref _ _ _ (addRef_get hi _)) hk hn
  unfold execOp
  simp only [ho]
  simp [Instr.alloc, hz, newVar, newRow, hzv]
theorem ok_box {T : TypeId} {x : Operand} (ho : o.op = .box T x) {p : PV} (hx : ev env x = some p) (hc : p.cells.all PV.isCell = true) (hk : K (put nt o.dst env (.ref st.box.length 0)) { st with box := st.box ++ [p.cells] })
    (hi : Inv G st w) (ha : ARep G nt env a) (hn : Goes G nt K next) : o.wp P a w next Q := by
  have hcl : ∀ y ∈ p.cells, y.isCell = true := by simpa using hc
  have hr := (ha.ev hx).cells hcl
  refine wp_value (v := .pointer (some ⟨w.heap.size, 0, none⟩)) (x := .ref st.box.length 0) ?_ (Gh.le_addRef G w.heap.size) (hi.newBox hr hcl T) ha (.ref _ _ _ (addRef_get hi _)) hk hn
  unfold execOp
  simp only [ho]
  simp [Instr.box, newVar, newRow]
theorem places_ok : ∀ (l : List Field), (l.all fun f => (P.info? f.type).isSome && (P.underlying f.type).isSome) = true →
    ∃ pl : List (Nat × Nat), l.mapM (fun f => (P.info? f.type).map fun i => (f.offset, i.size)) = some pl ∧
      ∀ (i o n : Nat) (ag : Bool), (l.map fun f => (f.offset, ((P.info? f.type).map (·.size)).getD 0, agB P f.type))[i]? = some (o, n, ag) → pl.toArray[i]? = some (o, n)
  | [], _ => ⟨[], by simp, by simp⟩
  | f :: l, h => by
    simp only [List.all_cons, Bool.and_eq_true] at h
    obtain ⟨pl, e1, e2⟩ := places_ok l h.2
    obtain ⟨j, hj⟩ := Option.isSome_iff_exists.1 h.1.1
    refine ⟨(f.offset, j.size) :: pl, by simp [List.mapM_cons, hj, e1], ?_⟩
    intro i o n ag h
    cases i with
    | zero => simp [hj] at h; simp [h.1, h.2.1]
    | succ i => simp only [List.map_cons, List.getElem?_cons_succ] at h; simpa using e2 i o n ag h
theorem ok_build (ht : TT P tt) {T : TypeId} {ps : Array (Nat × Operand)} (ho : o.op = .build T ps) {y : TyI} {xs : List (Nat × PV)} {cs : List PV} (hy : tt T = some y) (hs : y.k = .struct) (hp : evParts env ps.toList = some xs) (hf : fillPV y.flds y.zero xs = some cs)
    (hk : K (put nt o.dst env (.agg cs)) st) (hi : Inv G st w) (ha : ARep G nt env a) (hn : Goes G nt K next) : o.wp P a w next Q := by
  have hy' := ht T y hy
  obtain ⟨fs, hu⟩ := TK.struct_inv hy' hs
  obtain ⟨i, z, hinfo, hsz, _, hz, hzc⟩ := hy'.info
  obtain ⟨h1, h2⟩ := reps_simple G hy'.simple
  obtain ⟨h3, h4⟩ := evParts_ok ha hp
  -- where the fields lie
  have hfl := hy'.flds
  have hfok := hy'.fok
  simp only [fldB, hu] at hfl
  simp only [fokB, hu] at hfok
  obtain ⟨pl, hpl1, hpl2⟩ := places_ok fs.toList hfok
  rw [hfl] at hpl2
  obtain ⟨vs', e1, e2, e3⟩ := fill_ok (flds := y.flds) (fun i => pl.toArray[i]?) hpl2 xs (ps.toList.map fun x => (x.1, a.eval x.2)) y.zero cs (y.zero.map PV.toV) h3 h4 h1 h2 hf
  refine wp_value (v := .agg vs'.toArray) (x := .agg cs) ?_ (.refl G) hi ha (.agg _ _ e3 e2) hk hn
  unfold execOp
  simp only [ho]
  have hb : P.built T (ps.map fun (i, x) => (i, a.eval x)).toList = some vs'.toArray := by
    have hzv : z.cells = (y.zero.map PV.toV).toArray := by rw [← hzc]
    unfold Program.built
    simp only [hinfo, hu, hz]
    rw [hpl1]
    show Instr.fill (fun x => pl.toArray[x]?) z.cells _ = _
    rw [hzv, Array.toList_map]
    exact e1
  simp [run_build w T _ _ hb]
theorem evs_dense (ha : ARep G nt env a) {ps : List (Nat × Operand)} {ps' : List (Nat × PV)} {xs : List PV} (hp : evParts env ps = some ps') (hd : dense 0 ps' = some xs) :
    ∃ vs : List Value, (ps.map fun x => (x.1, a.eval x.2)) = (vs.zipIdx 0).map (fun x => (x.2, x.1)) ∧ Reps G xs vs := by
  obtain ⟨h1, h2⟩ := evParts_ok ha hp
  obtain ⟨h3, h4⟩ := dense_ok hd
  refine ⟨ps.map fun x => a.eval x.2, ?_, ?_⟩
  · have hl := congrArg List.length h1
    simp only [List.length_map] at hl
    have hxl : xs.length = ps.length := by rw [← h4]; simpa using hl
    apply List.ext_getElem?
    intro i
    rw [List.getElem?_map, List.getElem?_map, List.getElem?_zipIdx, List.getElem?_map]
    have e : ((ps.map fun x => (x.1, a.eval x.2)).map (·.1))[i]? = ((xs.zipIdx 0).map (·.2))[i]? := by rw [← h1, h3]
    simp only [List.getElem?_map, List.getElem?_zipIdx] at e
    cases hps : ps[i]? with
    | none => simp
    | some x =>
      rw [hps] at e
      have : i < xs.length := by rw [hxl]; exact (List.getElem?_eq_some_iff.1 hps).1
      rw [List.getElem?_eq_getElem this] at e
      simp at e
      simp [e]
  · rw [← h4]
    simpa [List.map_map, Function.comp_def] using h2
theorem flatMap_cells {xs : List PV} {vs : List Value} (h : Reps G xs vs) (hc : ∀ x ∈ xs, ∀ y ∈ x.cells, y.isCell = true) : Reps G (cellsOf xs) (vs.flatMap fun v => v.cells.toList) := by
  induction xs generalizing vs with
  | nil => cases h; exact .nil
  | cons x xs ih => cases h with
    | cons _ v _ vs h t =>
      rw [cellsOf_cons, List.flatMap_cons]
      exact (h.cells (hc x (by simp))).append (ih t fun y hy => hc y (by simp [hy]))
theorem ok_buildSlice (ht : TT P tt) {ow : List Nat} {T : TypeId} {n : Nat} {ps : Array (Nat × Operand)} (ho : o.op = .buildSlice T n ps) {y ye : TyI} {e : TypeId} {ps' : List (Nat × PV)} {xs : List PV} (hy : tt T = some y) (hs : y.k = .slice e) (hye : tt e = some ye)
    (hp : evParts env ps.toList = some ps') (hd : dense 0 ps' = some xs) (hl : xs.length = n) (h0 : 0 < ye.size) (hmax : n * ye.size ≤ 16777216) (hc : ∀ x ∈ xs, x.cells.length = ye.size ∧ x.cells.all PV.isCell = true)
    (hk : if owns ow o.dst = true then K (put nt o.dst env (.list ye.size xs (.own st.len.length))) { st with len := st.len ++ [n] } else K (put nt o.dst env (.list ye.size xs .no)) st)
    (hi : Inv G st w) (ha : ARep G nt env a) (hn : Goes G nt K next) : o.wp P a w next Q := by
  have hy' := ht T y hy
  have hye' := ht e ye hye
  obtain ⟨i, z, hinfo, hsz, hby, hz, hzc⟩ := hye'.info
  have hu : P.underlying T = some (.slice e) := by have := hy'.und; rw [hs] at this; exact this
  have hzs : z.cells.size = ye.size := by
    have := congrArg List.length hzc
    simp at this
    rw [this, hye'.zlen]
  obtain ⟨vs, hvs, hr⟩ := evs_dense ha hp hd
  have hcell : ∀ x ∈ xs, ∀ y ∈ x.cells, y.isCell = true := fun x hx => by simpa using (hc x hx).2
  have hflat := flatMap_cells hr hcell
  have hvl := hr.length
  have hvsz : ∀ v ∈ vs, v.cells.size = ye.size := by
    intro v hv
    obtain ⟨j, hj⟩ := List.mem_iff_getElem?.1 hv
    have hj2 : j < xs.length := by rw [hvl]; exact (List.getElem?_eq_some_iff.1 hj).1
    obtain ⟨u, hu, hru⟩ := hr.get j _ (List.getElem?_eq_getElem hj2)
    rw [hj] at hu
    injection hu with hu
    subst hu
    have := (hru.cells (hcell _ (List.getElem_mem hj2))).length
    rw [(hc _ (List.getElem_mem hj2)).1] at this
    simpa using this.symm
  have hcl : ∀ x ∈ cellsOf xs, x.isCell = true := by
    intro x hx
    simp only [cellsOf, List.mem_flatMap] at hx
    obtain ⟨y, hy, hx⟩ := hx
    exact hcell y hy x hx
  have hxs : ∀ x ∈ xs, x.cells.length = ye.size := fun x hx => (hc x hx).1
  have hfl : (vs.flatMap fun v => v.cells.toList).length = n * ye.size := by rw [← hflat.length, cellsOf_length hxs, hl]
  have hrun : (execOp a.eval o).run P w = .ok (.value (.slice (some ⟨w.heap.size, 0, none⟩) n n)) (w.alloc (.cells (vs.flatMap fun v => v.cells.toList).toArray e)) := by
    unfold execOp
    simp only [ho]
    by_cases hn0 : n = 0
    · subst hn0
      have hx0 : xs = [] := List.eq_nil_of_length_eq_zero hl
      subst hx0
      have hv0 : vs = [] := List.eq_nil_of_length_eq_zero (by simpa using hvl.symm)
      subst hv0
      have hps : ps = #[] := by
        have := congrArg List.length hvs
        simp at this
        exact this
      subst hps
      have hr0 : Array.range 0 = #[] := Array.eq_empty_of_size_eq_zero (by simp)
      simp [Instr.buildSlice, run_underlying hu, sizeOf, typeInfo, zeroValue, hinfo, Instr.fill, newRow, hr0]
    · have hfw := Great.fill_whole h0 vs ((Array.range (n * ye.size)).map (z.cells[· % z.cells.size]!)) hvsz (by simp; rw [← hl, hvl])
      have hparts : (ps.map fun (i, x) => (i, a.eval x)).toList = (vs.zipIdx 0).map fun x => (x.2, x.1) := by rw [Array.toList_map]; exact hvs
      have hpos : ¬ n * i.size = 0 := by rw [hsz]; exact Nat.ne_of_gt (Nat.mul_pos (by omega) h0)
      have := run_buildSlice w T e n (ps.map fun (i, x) => (i, a.eval x)) _ i z hu hinfo hz (by rw [hsz]; omega) hpos (by rw [hsz, hparts]; exact hfw)
      simp [this]
  have hdat := hi.newDat (vs.flatMap fun v => v.cells.toList) e _ List.prefix_rfl
  split at hk
  · -- it will be appended to
    have hi' := hi.addLen
    obtain ⟨hle, hinv⟩ := hi'.grow (w' := w.alloc (.cells (vs.flatMap fun v => v.cells.toList).toArray e)) (k := st.len.length) (n := 0) (n' := n) (b := w.heap.size) (c := n) (sz := ye.size) (vs := vs.flatMap fun v => v.cells.toList) (us := vs.flatMap fun v => v.cells.toList)
      (by simp) (by omega) (hi.fresh _ _ fun m hm => by simp at hm) rfl rfl rfl (by show w.heap.size ≤ (w.heap.push _).size; simp) (fun j hj _ => by
        show (w.heap.push _)[j]? = _
        rw [Array.getElem?_push, if_neg (by omega)]) (.inl rfl) ⟨e, by
        show (w.heap.push _)[w.heap.size]? = _
        simp⟩ List.prefix_rfl hfl hfl (by
        have : n ≤ n * ye.size := Nat.le_mul_of_pos_right _ h0
        simp only [maxLen]; omega) (by rw [hi.dat_new]; exact List.nil_prefix)
    have hst : ({ box := st.box, len := (st.len ++ [0]).set st.len.length n } : St) = { st with len := st.len ++ [n] } := by
      cases st
      simp
    simp only at hinv
    rw [hst] at hinv
    refine wp_value hrun hle hinv ha ?_ hk hn
    have := Rep.list (G := G.to st.len.length n w.heap.size n ye.size (vs.flatMap fun v => v.cells.toList)) ye.size xs (.own st.len.length) w.heap.size 0 n (vs.flatMap fun v => v.cells.toList) (by simp) (by omega) hxs hcl (hflat.mono hle) (by simp [Gh.to]) (by intro k' hk'; injection hk' with hk'; subst hk'; simp [Gh.to, hl])
    rw [hl] at this
    exact this
  · refine wp_value hrun (Gh.le_addDat hi _) hdat ha ?_ hk hn
    have := Rep.list (G := G.addDat w.heap.size (vs.flatMap fun v => v.cells.toList)) ye.size xs .no w.heap.size 0 n (vs.flatMap fun v => v.cells.toList) (by simp) (by omega) hxs hcl (hflat.mono (Gh.le_addDat hi _)) (by simp [Gh.addDat]) (by simp)
    rw [hl] at this
    exact this
end
end Go.Proofs.YtpepmfhemjeocaaGreatDoor
end
section
/- The machine does what the rules say: every operation; a region in its text's order. -/
set_option linter.unusedVariables false
set_option linter.unusedSimpArgs false
namespace Go.Proofs.YtpepmfhemjeocaaGreatDoor

section
variable {P : Program} {tt : TTab} {nt : Nat} {o : Oper} {env : Env} {st : St} {G : Gh} {a : Act} {w : World}
variable {K : Env → St → Prop} {next : Act → World → Prop} {Q : Exit → Act → World → Prop}

theorem run_lo {lo : Option PV} {l : Option Value} (h : ∀ x, lo = some x → ∃ v, l = some v ∧ Rep G x v) (h0 : lo = none → l = none) : (lo = none ∧ l = none) ∨ ∃ x v, lo = some x ∧ l = some v ∧ Rep G x v := by
  cases lo with
  | none => exact .inl ⟨rfl, h0 rfl⟩
  | some x => obtain ⟨v, h1, h2⟩ := h x rfl; exact .inr ⟨x, v, rfl, h1, h2⟩
theorem extract_mk (l : List UInt8) (a b : Nat) (h : a ≤ b) (hb : b ≤ l.length) : (⟨l.toArray⟩ : ByteArray).extract a b = ⟨((l.take b).drop a).toArray⟩ := by
  apply ByteArray.ext
  apply Array.ext'
  simp
  rw [List.take_drop]
  congr 2
  omega
theorem flatMap_take {xs : List PV} {sz : Nat} (h : ∀ x ∈ xs, x.cells.length = sz) : ∀ n, cellsOf (xs.take n) = (cellsOf xs).take (n * sz) := by
  induction xs with
  | nil => simp
  | cons x xs ih =>
    intro n
    cases n with
    | zero => simp
    | succ n =>
      have hx := h x (by simp)
      rw [List.take_succ_cons, cellsOf_cons, cellsOf_cons, ih (fun y hy => h y (by simp [hy])) n, List.take_append, hx, Nat.add_mul, Nat.one_mul]
      rw [List.take_of_length_le (l := x.cells) (by rw [hx]; omega)]
      congr 2
      omega
theorem flatMap_drop {xs : List PV} {sz : Nat} (h : ∀ x ∈ xs, x.cells.length = sz) : ∀ n, cellsOf (xs.drop n) = (cellsOf xs).drop (n * sz) := by
  induction xs with
  | nil => simp
  | cons x xs ih =>
    intro n
    cases n with
    | zero => simp
    | succ n =>
      have hx := h x (by simp)
      rw [List.drop_succ_cons, cellsOf_cons, ih (fun y hy => h y (by simp [hy])) n, List.drop_append, hx, Nat.add_mul, Nat.one_mul]
      rw [List.drop_of_length_le (l := x.cells) (by rw [hx]; omega)]
      simp
/-- A slice's cut. -/
theorem rep_cut {sz : Nat} {xs : List PV} {b o c : Nat} {vs : List Value} {l h : Nat} (hlh : l ≤ h) (hh : h ≤ xs.length) (hc : xs.length ≤ c) (hs : ∀ x ∈ xs, x.cells.length = sz) (h1 : ∀ x ∈ cellsOf xs, x.isCell = true) (hv : Reps G (cellsOf xs) vs)
    (hd : vs <+: (G.dat b).drop o) : Rep G (.list sz ((xs.take h).drop l) .no) (.slice (some (if c = l then ⟨b, o, none⟩ else (⟨b, o, none⟩ : Addr).add (l * sz))) (h - l) (c - l)) := by
  have hlen : ((xs.take h).drop l).length = h - l := by simp; omega
  have hmem : ∀ x ∈ (xs.take h).drop l, x ∈ xs := fun x hx => List.mem_of_mem_take (List.mem_of_mem_drop hx)
  have hcs : cellsOf ((xs.take h).drop l) = ((cellsOf xs).take (h * sz)).drop (l * sz) := by
    rw [flatMap_drop (sz := sz) (fun x hx => hs x (List.mem_of_mem_take hx)), flatMap_take hs]
  have hr : Reps G (cellsOf ((xs.take h).drop l)) ((vs.take (h * sz)).drop (l * sz)) := by rw [hcs]; exact (hv.take _).drop _
  have hcell : ∀ x ∈ cellsOf ((xs.take h).drop l), x.isCell = true := by
    rw [hcs]; intro x hx; exact h1 x (List.mem_of_mem_take (List.mem_of_mem_drop hx))
  have hsz : ∀ x ∈ (xs.take h).drop l, x.cells.length = sz := fun x hx => hs x (hmem x hx)
  by_cases hcl : c = l
  · have h0 : (xs.take h).drop l = [] := List.eq_nil_of_length_eq_zero (by omega)
    rw [if_pos hcl, h0, show h - l = 0 from by omega]
    exact Rep.list sz [] .no b o (c - l) [] (by simp) (by simp) (by simp) (by simp) .nil List.nil_prefix (by simp)
  · rw [if_neg hcl, add_lit]
    have hp : (vs.take (h * sz)).drop (l * sz) <+: (G.dat b).drop (o + l * sz) := by
      rw [← List.drop_drop]
      have h3 : (vs.take (h * sz)).drop (l * sz) <+: vs.drop (l * sz) := by
        rw [List.drop_take]
        exact List.take_prefix _ _
      refine h3.trans ?_
      rcases Nat.lt_or_ge vs.length (l * sz) with hlt | hge
      · rw [List.drop_eq_nil_of_le (by omega)]; exact List.nil_prefix
      · exact prefix_drop hd _ hge
    have := Rep.list (G := G) sz ((xs.take h).drop l) .no b (o + l * sz) (c - l) _ (by simp) (by rw [hlen]; omega) hsz hcell hr hp (by simp)
    rw [hlen] at this
    exact this
theorem evo_ok (ha : ARep G nt env a) {lo : Option Operand} {l : Option PV} (h : evo env lo = some l) : (l = none ∧ lo.map a.eval = none) ∨ ∃ x, l = some x ∧ ∃ v, lo.map a.eval = some v ∧ Rep G x v := by
  cases lo with
  | none => simp [evo] at h; exact .inl ⟨h.symm, rfl⟩
  | some o =>
    simp only [evo] at h
    cases he : ev env o with
    | none => rw [he] at h; simp at h
    | some x =>
      rw [he] at h
      simp at h
      exact .inr ⟨x, h.symm, _, rfl, ha.ev he⟩
theorem run_bound (k : IntKind) (n : Int) (y : Nat) (code : BoundsCode) (h0 : 0 ≤ n) (h1 : n ≤ y) (w : World) : (Instr.sliceBound (.int k n) y code).run P w = .ok n.toNat w := by
  simp [Instr.sliceBound, asIntOf, h0, h1]

theorem ok_slice (ht : TT P tt) {T : TypeId} {x : Operand} {lo hi : Option Operand} (ho : o.op = .slice T x lo hi none) {y : TyI} {p : PV} {l h : Option PV} (hy : tt T = some y)
    (hk : match y.k, p with | .str, .str _ => True | .slice _, .list sz _ _ => ∃ e ye, y.k = .slice e ∧ tt e = some ye ∧ ye.size = sz | _, _ => False) (hx : ev env x = some p) (hlo : evo env lo = some l) (hhi : evo env hi = some h)
    (hc : pCut p l h fun r => K (put nt o.dst env r) st) (hi' : Inv G st w) (ha : ARep G nt env a) (hn : Goes G nt K next) : o.wp P a w next Q := by
  have hy' := ht T y hy
  have hrx := ha.ev hx
  have el := evo_ok ha hlo
  have eh := evo_ok ha hhi
  have hexec : (execOp a.eval o).run P w = (do let r ← Instr.sliceAt T (a.eval x) (lo.map a.eval) (hi.map a.eval) none; pure (.value r) : Sem Next).run P w := by
    unfold execOp
    simp only [ho]
    rfl
  cases p <;> try (simp only [pCut] at hc; done)
  case str s =>
    have hu : P.underlying T = some .string := by
      cases hyk : y.k <;> rw [hyk] at hk <;> try exact hk.elim
      have := hy'.und; rw [hyk] at this; exact this
    have e1 := hrx.str_inv
    have hfin : ∀ l' h', (l' : Nat) ≤ h' → h' ≤ s.length → (Instr.sliceBounds false s.length s.length (lo.map a.eval) (hi.map a.eval) none).run P w = .ok (l', h', s.length) w → K (put nt o.dst env (.str ((s.take h').drop l'))) st → o.wp P a w next Q := by
      intro l' h' h1 h2 hb hk'
      refine wp_value (v := .string ⟨((s.take h').drop l').toArray⟩) (x := .str ((s.take h').drop l')) ?_ (.refl G) hi' ha (.str _) hk' hn
      rw [hexec]
      simp [Instr.sliceAt, run_underlying hu, Instr.slice, e1, size_mk, hb, extract_mk _ _ _ h1 h2]
    rcases el with ⟨rfl, el⟩ | ⟨xl, rfl, vl, el, rl⟩ <;> rcases eh with ⟨rfl, eh⟩ | ⟨xh, rfl, vh, eh, rh⟩
    · simp only [pCut] at hc
      exact hfin 0 s.length (by omega) (by omega) (by rw [el, eh]; simp [Instr.sliceBounds]) (by simpa using hc)
    · cases xh <;> try (simp only [pCut] at hc; done)
      rename_i k n
      simp only [pCut] at hc
      cases rh.int_inv
      exact hfin 0 n.toNat (by omega) (by omega) (by rw [el, eh]; simp [Instr.sliceBounds, run_bound k n s.length _ hc.1 hc.2.1]) (by simpa using hc.2.2)
    · cases xl <;> try (simp only [pCut] at hc; done)
      rename_i k n
      simp only [pCut] at hc
      cases rl.int_inv
      exact hfin n.toNat s.length (by omega) (by omega) (by rw [el, eh]; simp [Instr.sliceBounds, run_bound k n s.length _ hc.1 hc.2.1]) (by simpa using hc.2.2)
    · cases xl <;> cases xh <;> try (simp only [pCut] at hc; done)
      rename_i k n k' n'
      simp only [pCut] at hc
      cases rl.int_inv
      cases rh.int_inv
      exact hfin n.toNat n'.toNat (by omega) (by omega) (by rw [el, eh]; simp [Instr.sliceBounds, run_bound k' n' s.length _ (by omega) hc.2.2.1, run_bound k n n'.toNat _ hc.1 (by omega)]) (by simpa using hc.2.2.2)
  case list sz xs t =>
    obtain ⟨e, ye, hyk, hye, hsz⟩ : ∃ e ye, y.k = .slice e ∧ tt e = some ye ∧ ye.size = sz := by
      cases hyk : y.k <;> rw [hyk] at hk <;> try exact hk.elim
      exact hk
    have hu : P.underlying T = some (.slice e) := by have := hy'.und; rw [hyk] at this; exact this
    have hrs := (ht e ye hye).run_sizeOf w
    have hfin : ∀ l' h', (l' : Nat) ≤ h' → h' ≤ xs.length → (∀ c, xs.length ≤ c → (Instr.sliceBounds true xs.length c (lo.map a.eval) (hi.map a.eval) none).run P w = .ok (l', h', c) w) → K (put nt o.dst env (.list sz ((xs.take h').drop l') .no)) st → o.wp P a w next Q := by
      intro l' h' h1 h2 hb hk'
      rcases hrx.list_inv with ⟨rfl, e1⟩ | ⟨b, off, c, vs, _, e1, hcap, hs, hc1, hv, hd, _⟩
      · have hl0 : l' = 0 := by simp at h2; omega
        have hh0 : h' = 0 := by simpa using h2
        subst hl0 hh0
        refine wp_value (v := .slice none 0 0) (x := .list sz [] .no) ?_ (.refl G) hi' ha (.none _ _) (by simpa using hk') hn
        rw [hexec]
        have hb0 := hb 0 (by simp)
        simp only [List.length_nil] at hb0
        simp [Instr.sliceAt, run_underlying hu, Instr.slice, e1, hb0, hrs]
      · refine wp_value (x := .list sz ((xs.take h').drop l') .no) ?_ (.refl G) hi' ha (rep_cut h1 h2 hcap hs hc1 hv hd) hk' hn
        rw [hexec]
        simp only [Instr.sliceAt, Instr.slice, run_underlying hu, e1, hb c hcap, hrs, Sem.run_bind, Sem.run_pure, Result.andThen_ok, hsz]
        by_cases hcl : c = l' <;> simp [hcl]
    rcases el with ⟨rfl, el⟩ | ⟨xl, rfl, vl, el, rl⟩ <;> rcases eh with ⟨rfl, eh⟩ | ⟨xh, rfl, vh, eh, rh⟩
    · simp only [pCut] at hc
      exact hfin 0 xs.length (by omega) (by omega) (fun c hcc => by rw [el, eh]; simp [Instr.sliceBounds]) (by simpa using hc)
    · cases xh <;> try (simp only [pCut] at hc; done)
      rename_i k n
      simp only [pCut] at hc
      cases rh.int_inv
      exact hfin 0 n.toNat (by omega) (by omega) (fun c hcc => by rw [el, eh]; simp [Instr.sliceBounds, run_bound k n c _ hc.1 (by omega)]) (by simpa using hc.2.2)
    · cases xl <;> try (simp only [pCut] at hc; done)
      rename_i k n
      simp only [pCut] at hc
      cases rl.int_inv
      exact hfin n.toNat xs.length (by omega) (by omega) (fun c hcc => by rw [el, eh]; simp [Instr.sliceBounds, run_bound k n xs.length _ hc.1 hc.2.1]) (by simpa using hc.2.2)
    · cases xl <;> cases xh <;> try (simp only [pCut] at hc; done)
      rename_i k n k' n'
      simp only [pCut] at hc
      cases rl.int_inv
      cases rh.int_inv
      exact hfin n.toNat n'.toNat (by omega) (by omega) (fun c hcc => by rw [el, eh]; simp [Instr.sliceBounds, run_bound k' n' c _ (by omega) (by omega), run_bound k n n'.toNat _ hc.1 (by omega)]) (by simpa using hc.2.2.2)

theorem ok_fieldAddr (ht : TT P tt) {T : TypeId} {x : Operand} {f : Nat} (ho : o.op = .fieldAddr T x f) {y : TyI} {p : PV} (hy : tt T = some y) (hs : y.k = .struct) (hx : ev env x = some p)
    (hc : pFieldAddr y f p fun r => K (put nt o.dst env r) st) (hi : Inv G st w) (ha : ARep G nt env a) (hn : Goes G nt K next) : o.wp P a w next Q := by
  have hy' := ht T y hy
  obtain ⟨fs, hu⟩ := TK.struct_inv hy' hs
  have hrx := ha.ev hx
  have hrun : ∀ (b off o' n : Nat) (ag : Bool), a.eval x = .pointer (some ⟨b, off, none⟩) → y.flds[f]? = some (o', n, ag) → n ≠ 0 → (execOp a.eval o).run P w = .ok (.value (.pointer (some ⟨b, off + o', none⟩))) w := by
    intro b off o' n ag e1 e2 e3
    obtain ⟨fd, h1, h2, ⟨i, h3, h4⟩, _⟩ := hy'.fld hu e2
    unfold execOp
    simp only [ho]
    simp [Instr.fieldAt, run_underlying hu, h1, Instr.sureAddr, e1, fieldPlace, run_sizeOf' h3, h4, e3, h2, add_lit]
  unfold pFieldAddr at hc
  split at hc
  · rename_i r off o' n ag hf
    generalize hv : a.eval x = v at hrx
    cases hrx with
    | ref _ b _ hr => exact wp_value (hrun b off o' n ag hv hf hc.1) (.refl G) hi ha (.ref r b (off + o') hr) hc.2 hn
  · rename_i cs o' n hf
    generalize hv : a.eval x = v at hrx
    obtain ⟨hn0, hle, hk⟩ := hc
    cases hrx with
    | elem _ b off vs h1 hv2 hd =>
      refine wp_value (hrun b off o' n true hv hf hn0) (.refl G) hi ha (.elem _ b (off + o') ((vs.drop o').take n) ?_ ?_ ?_) hk hn
      · simp only [PV.cells]
        intro z hz
        exact h1 z (List.mem_of_mem_drop (List.mem_of_mem_take hz))
      · simp only [PV.cells] at hv2 ⊢
        exact (hv2.drop o').take n
      · rw [← List.drop_drop]
        refine (List.take_prefix _ _).trans (prefix_drop hd o' ?_)
        have := hv2.length
        simp only [PV.cells] at this
        omega
  · rename_i cs o' n hf
    generalize hv : a.eval x = v at hrx
    obtain ⟨hn0, c, hcs, hk⟩ := hc
    cases hrx with
    | elem _ b off vs h1 hv2 hd =>
      simp only [PV.cells] at hv2 h1
      obtain ⟨u, hu2, hru⟩ := hv2.get o' c hcs
      have hcc := h1 c (List.mem_of_getElem? hcs)
      have hc1 := (hru.cell1 hcc).2.2
      refine wp_value (hrun b off o' n false hv hf hn0) (.refl G) hi ha (.elem c b (off + o') [u] ?_ ?_ ?_) hk hn
      · rw [hc1]; simpa using hcc
      · rw [hc1]; exact .cons _ _ _ _ hru .nil
      · rw [← List.drop_drop]
        have hlt := (List.getElem?_eq_some_iff.1 hu2).1
        refine List.IsPrefix.trans ?_ (prefix_drop hd o' (by omega))
        refine ⟨vs.drop (o' + 1), ?_⟩
        have := (List.getElem?_eq_some_iff.1 hu2).2
        rw [← this]
        simp
  · exact hc.elim
theorem ok_field (ht : TT P tt) {T : TypeId} {x : Operand} {f : Nat} (ho : o.op = .field T x f) {y : TyI} {cs : List PV} {r : PV} (hy : tt T = some y) (hs : y.k = .struct) (hx : ev env x = some (.agg cs)) (hf : fldOf y f cs = some r)
    (hk : K (put nt o.dst env r) st) (hi : Inv G st w) (ha : ARep G nt env a) (hn : Goes G nt K next) : o.wp P a w next Q := by
  have hy' := ht T y hy
  obtain ⟨fs, hu⟩ := TK.struct_inv hy' hs
  have hrx := ha.ev hx
  unfold fldOf at hf
  split at hf
  case h_2 => cases hf
  rename_i off n ag hfl
  obtain ⟨fd, h1, h2, ⟨i, h3, h4⟩, h5, h6⟩ := hy'.fld hu hfl
  obtain ⟨hp1, hp2⟩ := run_part' h3 h6 (a.eval x).cells off w
  generalize hv : a.eval x = v at hrx hp1 hp2
  cases hrx with
  | agg _ vs hc hr =>
  simp only [Value.cells] at hp1 hp2
  have hvl := hr.length
  split at hf
  case isFalse => cases hf
  rename_i hle
  split at hf
  · rename_i hag
    injection hf with hf
    subst hf
    refine wp_value (v := .agg ((vs.drop off).take n).toArray) ?_ (.refl G) hi ha (.agg _ _ (fun z hz => hc z (List.mem_of_mem_drop (List.mem_of_mem_take hz))) ((hr.drop off).take n)) hk hn
    have := hp1 (by rw [h5]; exact hag)
    unfold execOp
    simp only [ho]
    simp [Instr.field, run_underlying hu, h1, asAgg, hv, h2, this, h4]
  · rename_i hag
    obtain ⟨u, hu2, hru⟩ := hr.get off r hf
    refine wp_value (v := u) ?_ (.refl G) hi ha hru hk hn
    have := hp2 (by rw [h5]; simpa using hag) u (by simpa using hu2)
    unfold execOp
    simp only [ho]
    simp [Instr.field, run_underlying hu, h1, asAgg, hv, h2, this]
theorem cells_at {xs : List PV} {sz : Nat} (h : ∀ x ∈ xs, x.cells.length = sz) {n : Nat} {z : PV} (hz : xs[n]? = some z) : z.cells <+: (cellsOf xs).drop (n * sz) := by
  rw [← flatMap_drop h]
  have hlt := (List.getElem?_eq_some_iff.1 hz).1
  have he : xs.drop n = z :: xs.drop (n + 1) := by
    rw [← (List.getElem?_eq_some_iff.1 hz).2]
    simp
  rw [he, cellsOf_cons]
  exact List.prefix_append _ _
theorem ok_indexAddr (ht : TT P tt) {T : TypeId} {x i : Operand} (ho : o.op = .indexAddr T x i) {y ye : TyI} {e : Nat} {xs : List PV} {t : Tk} {k : IntKind} {n : Int} {z : PV} (hy : tt T = some y) (hs : y.k = .slice e) (hye : tt e = some ye)
    (hx : ev env x = some (.list ye.size xs t)) (hii : ev env i = some (.int k n)) (h0 : 0 ≤ n) (hz : xs[n.toNat]? = some z)
    (hk : K (put nt o.dst env (.elem z)) st) (hi : Inv G st w) (ha : ARep G nt env a) (hn : Goes G nt K next) : o.wp P a w next Q := by
  have hy' := ht T y hy
  have hu : P.underlying T = some (.slice e) := by have := hy'.und; rw [hs] at this; exact this
  have hrs := (ht e ye hye).run_sizeOf w
  have hrx := ha.ev hx
  have hri := (ha.ev hii).int_inv
  have hlt : n.toNat < xs.length := (List.getElem?_eq_some_iff.1 hz).1
  rcases hrx.list_inv with ⟨rfl, _⟩ | ⟨b, off, c, vs, _, e1, hcap, hsz, hc1, hv, hd, _⟩
  · simp at hz
  · have hcl := cells_at hsz hz
    have hzm := List.mem_of_getElem? hz
    have hzc : ∀ q ∈ z.cells, q.isCell = true := fun q hq => hc1 q (List.mem_flatMap.2 ⟨z, hzm, hq⟩)
    have hlz : (vs.drop (n.toNat * ye.size)).take z.cells.length <+: (G.dat b).drop (off + n.toNat * ye.size) := by
      rw [← List.drop_drop]
      refine (List.take_prefix _ _).trans (prefix_drop hd _ ?_)
      have h1 := hv.length
      rw [cellsOf_length hsz] at h1
      have : n.toNat * ye.size ≤ xs.length * ye.size := Nat.mul_le_mul_right _ (by omega)
      omega
    have hrz : Reps G z.cells ((vs.drop (n.toNat * ye.size)).take z.cells.length) := by
      have := (hv.drop (n.toNat * ye.size)).take z.cells.length
      rwa [← List.prefix_iff_eq_take.1 hcl] at this
    refine wp_value ?_ (.refl G) hi ha (.elem z b (off + n.toNat * ye.size) _ hzc hrz hlz) hk hn
    unfold execOp
    simp only [ho]
    have hb : n < (xs.length : Int) := by omega
    simp [Instr.indexAt, hri, asIntOf, run_underlying hu, e1, h0, hb, hrs, add_lit]
theorem ok_index (ht : TT P tt) {T : TypeId} {x i : Operand} (ho : o.op = .index T x i) {y : TyI} {l : List UInt8} {k : IntKind} {n : Int} {c : UInt8} (hy : tt T = some y) (hs : y.k = .str)
    (hx : ev env x = some (.str l)) (hii : ev env i = some (.int k n)) (h0 : 0 ≤ n) (hz : l[n.toNat]? = some c)
    (hk : K (put nt o.dst env (.int .u8 (c.toNat : Int))) st) (hi : Inv G st w) (ha : ARep G nt env a) (hn : Goes G nt K next) : o.wp P a w next Q := by
  have hy' := ht T y hy
  have hu : P.underlying T = some .string := by have := hy'.und; rw [hs] at this; exact this
  have hrx := (ha.ev hx).str_inv
  have hri := (ha.ev hii).int_inv
  refine wp_value (v := .int .u8 (c.toNat : Int)) ?_ (.refl G) hi ha (.int _ _) hk hn
  have hlt := (List.getElem?_eq_some_iff.1 hz).1
  have hget : (⟨l.toArray⟩ : ByteArray)[n.toNat]? = some c := by
    rw [getElem?_pos _ _ (by simpa [size_mk] using hlt)]
    congr 1
    exact (List.getElem?_eq_some_iff.1 hz).2
  unfold execOp
  simp only [ho]
  simp only [Instr.index, hri, hrx, asIntOf, Sem.run_bind, Sem.run_pure, Result.andThen_ok, run_underlying hu, if_pos h0, hget]
end
end Go.Proofs.YtpepmfhemjeocaaGreatDoor
end
section
/- Every operation; a region in its text's order; a function's body. -/
set_option linter.unusedVariables false
set_option linter.unusedSimpArgs false
namespace Go.Proofs.YtpepmfhemjeocaaGreatDoor

section
variable {P : Program} {tt : TTab} {nt : Nat} {o : Oper} {env : Env} {st : St} {G : Gh} {a : Act} {w : World}
variable {K : Env → St → Prop} {next : Act → World → Prop} {Q : Exit → Act → World → Prop}

theorem ok_binOp {op : BinOp} {T Y : TypeId} {x y : Operand} (ho : o.op = .binOp op T x y Y) {p q : PV} (hx : ev env x = some p) (hy : ev env y = some q) (hb : pBin op p q fun r => K (put nt o.dst env r) st)
    (hi : Inv G st w) (ha : ARep G nt env a) (hn : Goes G nt K next) : o.wp P a w next Q := by
  have hrx := ha.ev hx
  have hry := ha.ev hy
  obtain ⟨r, z, h1, h2, h3⟩ := run_pBin (P := P) (t := T) (w := w) hb hrx hry
  refine wp_value (v := z) ?_ (.refl G) hi ha h2 h3 hn
  have hg : (eqGuard op T x y (a.eval x) (a.eval y)).run P w = .ok () w := by
    unfold pBin at hb
    split at hb
    · rw [hrx.int_inv, hry.int_inv]
      unfold eqGuard
      split <;> simp
    · rw [hrx.str_inv, hry.str_inv]
      unfold eqGuard
      split <;> simp
    · exact hb.elim
  unfold execOp
  simp only [ho, Sem.run_bind, hg, h1, Result.andThen_ok, Sem.run_pure]
theorem ok_eqAgg {op : BinOp} {T Y : TypeId} {x y : Operand} (ho : o.op = .binOp op T x y Y) {z xs ys : List PV} {r : Bool} (hl : EqL P T z) (hx : ev env x = some (.agg xs)) (hy : ev env y = some (.agg ys)) (he : eqCells z xs ys = some r)
    (hk : op = .eql ∧ K (put nt o.dst env (.bool r)) st ∨ op = .neq ∧ K (put nt o.dst env (.bool (!r))) st) (hi : Inv G st w) (ha : ARep G nt env a) (hn : Goes G nt K next) : o.wp P a w next Q := by
  have hrx := ha.ev hx
  have hry := ha.ev hy
  generalize hvx : a.eval x = vx at hrx
  generalize hvy : a.eval y = vy at hry
  cases hrx with
  | agg _ vs _ h1 =>
  cases hry with
  | agg _ us _ h2 =>
  have heq := hl.eql G xs ys vs us r w he h1 h2
  have hg : (eqGuard op T x y (.agg vs.toArray) (.agg us.toArray)).run P w = .ok () w := run_eqGuard_agg w op T x y _ _ hl.guard
  rcases hk with ⟨rfl, hk⟩ | ⟨rfl, hk⟩
  · refine wp_value (v := .bool r) ?_ (.refl G) hi ha (.bool r) hk hn
    unfold execOp
    simp only [ho, hvx, hvy, Sem.run_bind, hg, Result.andThen_ok, run_eql_struct, heq, Sem.run_pure]
  · refine wp_value (v := .bool (!r)) ?_ (.refl G) hi ha (.bool _) hk hn
    unfold execOp
    simp only [ho, hvx, hvy, Sem.run_bind, hg, Result.andThen_ok, run_neq_struct, heq, Sem.run_pure]
theorem nilness_slice {e : Nat} {n : Bool} {v : Value} : ∀ {a : PV}, nilness (.slice e) a = some n → Rep G a v → ∃ ad l c, v = .slice ad l c ∧ n = ad.isNone
  | .list sz [] .nil, h, hr => by
    cases h
    cases hr with
    | none => exact ⟨none, 0, 0, rfl, rfl⟩
    | list _ _ _ b o c vs ht => exact absurd rfl ht
  | .list sz (x :: xs) t, h, hr => by
    cases h
    cases hr
    exact ⟨_, _, _, rfl, rfl⟩
  | .list sz [] .no, h, _ => by cases h
  | .list sz [] (.own k), h, _ => by cases h
  | .int _ _, h, _ => by cases h
  | .bool _, h, _ => by cases h
  | .str _, h, _ => by cases h
  | .ref _ _, h, _ => by cases h
  | .elem _, h, _ => by cases h
  | .agg _, h, _ => by cases h
  | .tup _, h, _ => by cases h
  | .clo _ _ _, h, _ => by cases h
  | .val _, h, _ => by cases h
theorem nilness_ptr {e : Nat} {n : Bool} {v : Value} {a : PV} (h : nilness (.other (some e)) a = some n) (hr : Rep G a v) : ∃ ad, v = .pointer ad ∧ n = ad.isNone := by
  cases a with
  | ref r o => cases h; cases hr; exact ⟨_, rfl, rfl⟩
  | elem x => cases h; cases hr; exact ⟨_, rfl, rfl⟩
  | val u =>
    cases hr
    unfold nilness at h
    split at h <;> first | cases h; done | skip
    all_goals (rename_i h1; first | (cases h1; done) | (rename_i h2; cases h2; done) | skip)
    all_goals (cases h)
    all_goals first | (rename_i h3; cases h3; exact ⟨_, rfl, rfl⟩) | (exact ⟨_, rfl, rfl⟩) | simp_all
  | _ => cases h
theorem run_bool_ok {op : BinOp} {T : TypeId} {x y : Operand} {yt : TyI} (ht : TOk P T yt) {p q : PV} {r : Bool} {vx vy : Value} (hrx : Rep G p vx) (hry : Rep G q vy) (hb : fBool op yt.k p q = some r) :
    (eqGuard op T x y vx vy).run P w = .ok () w ∧ (binOp op T vx vy).run P w = .ok (.bool r) w := by
  have hu := ht.und
  unfold fBool at hb
  generalize yt.k = kk at hu hb
  cases kk with
  | bool =>
    simp only at hb
    cases p with
    | bool a =>
      simp only at hb
      cases q with
      | bool b =>
        simp only at hb
        cases hrx
        cases hry
        have hg : (eqGuard op T x y (.bool a) (.bool b)).run P w = .ok () w := by unfold eqGuard; split <;> simp
        refine ⟨hg, ?_⟩
        cases op <;> simp only at hb <;> first | cases hb; done | skip
        · cases hb; exact run_eql_bool w T a b hu
        · cases hb; exact run_neq_bool w T a b hu
      | _ => cases hb
    | _ => cases hb
  | _ => cases hb
theorem run_nil_ok {op : BinOp} {T : TypeId} {x y : Operand} {yt : TyI} (ht : TOk P T yt) {p q : PV} {r : Bool} {vx vy : Value} (hrx : Rep G p vx) (hry : Rep G q vy) (hb : fNil0 op yt.k p q = some r) :
    (eqGuard op T x y vx vy).run P w = .ok () w ∧ (binOp op T vx vy).run P w = .ok (.bool r) w := by
  have hu := ht.und
  unfold fNil0 at hb
  split at hb <;> try (cases hb; done)
  rename_i hc
  split at hb <;> try (cases hb; done)
  rename_i n hn'
  generalize yt.k = kk at hu hc hn'
  cases kk with
  | slice e =>
    have hvy' : vy = .slice none 0 0 := by
      cases q with
      | list sz xs t =>
        cases xs with
        | nil =>
          cases t with
          | nil =>
            cases hry with
            | none => rfl
            | list _ _ _ b o c vs ht' => exact absurd rfl ht'
          | _ => cases hc
        | cons => cases hc
      | _ => cases hc
    subst hvy'
    obtain ⟨ad, l, c, rfl, rfl⟩ := nilness_slice hn' hrx
    split at hb <;> cases hb
    · exact ⟨by simp [eqGuard], run_eql_slice_nil w T e ad l c hu⟩
    · exact ⟨by simp [eqGuard], run_neq_slice_nil w T e ad l c hu⟩
  | other oe =>
    obtain ⟨e, rfl⟩ : ∃ e, oe = some e := by
      cases oe with
      | none => cases q with
        | val u => cases u <;> cases hc
        | _ => cases hc
      | some e => exact ⟨e, rfl⟩
    have hvy' : vy = .pointer none := by
      cases q with
      | val u =>
        cases hry
        unfold isNilC at hc
        split at hc <;> first | (cases hc; done) | skip
        all_goals (first | rfl | simp_all)
      | _ => cases hc
    subst hvy'
    obtain ⟨ad, rfl, rfl⟩ := nilness_ptr hn' hrx
    have hp : P.underlying T = some (.pointer (P.pointee T)) := by
      have : P.underlying T = some (.pointer e) := hu
      rw [this]
      simp [Program.pointee, this]
    split at hb <;> cases hb
    · exact ⟨by simp [eqGuard], run_eql_pointer_nil w T ad hp⟩
    · exact ⟨by simp [eqGuard], run_neq_pointer_nil w T ad hp⟩
  | _ => cases hc
theorem ok_nil {op : BinOp} {T Y : TypeId} {x y : Operand} (ho : o.op = .binOp op T x y Y) {yt : TyI} (ht : TOk P T yt) {p q : PV} {r : Bool} (hx : ev env x = some p) (hy : ev env y = some q) (hb : fNil op yt.k p q = some r)
    (hk : K (put nt o.dst env (.bool r)) st) (hi : Inv G st w) (ha : ARep G nt env a) (hn : Goes G nt K next) : o.wp P a w next Q := by
  have hrx := ha.ev hx
  have hry := ha.ev hy
  generalize hvx : a.eval x = vx at hrx
  generalize hvy : a.eval y = vy at hry
  have hrun : (eqGuard op T x y vx vy).run P w = .ok () w ∧ (binOp op T vx vy).run P w = .ok (.bool r) w := by
    unfold fNil at hb
    split at hb
    · cases hb
      exact run_bool_ok ht hrx hry (by assumption)
    · exact run_nil_ok ht hrx hry hb
  refine wp_value (v := .bool r) ?_ (.refl G) hi ha (.bool r) hk hn
  unfold execOp
  simp only [ho, hvx, hvy, Sem.run_bind, hrun.1, hrun.2, Result.andThen_ok, Sem.run_pure]
theorem ok_max {c : Call} (ho : o.op = .call c) (hcb : c.callee = .builtin .max) {x y : Operand} {k : IntKind} {p q : Int} (hca : c.args = #[x, y]) (hx : ev env x = some (.int k p)) (hy : ev env y = some (.int k q))
    (hk : K (put nt o.dst env (.int k (if q > p then q else p))) st) (hi : Inv G st w) (ha : ARep G nt env a) (hn : Goes G nt K next) : o.wp P a w next Q := by
  refine wp_value (v := .int k (if q > p then q else p)) ?_ (.refl G) hi ha (.int _ _) hk hn
  unfold execOp
  simp only [ho, resolve, hcb, hca, Sem.run_bind, Sem.run_pure, Result.andThen_ok, invoke, builtin]
  have h1 := (ha.ev hx).int_inv
  have h2 := (ha.ev hy).int_inv
  simp [h1, h2, Builtin.max_, Builtin.max2]
theorem ok_append (ht : TT P tt) {c : Call} (ho : o.op = .call c) (hcb : c.callee = .builtin .append) {T : TypeId} {s x : Operand} {y ye : TyI} {e : TypeId} {xs ys : List PV} {k : Nat} {t : Tk} (hct : c.argTypes = #[T, T]) (hca : c.args = #[s, x])
    (hy : tt T = some y) (hs : y.k = .slice e) (hye : tt e = some ye) (h0 : 0 < ye.size) (hes : ev env s = some (.list ye.size xs (.own k))) (hex : ev env x = some (.list ye.size ys t)) (hl : st.len[k]? = some xs.length)
    (hfit : (xs.length + ys.length) * ye.bytes ≤ 140737488355328) (hmax : xs.length + ys.length ≤ maxLen) (hk : K (put nt o.dst env (.list ye.size (xs ++ ys) (.own k))) { st with len := st.len.set k (xs.length + ys.length) })
    (hi : Inv G st w) (ha : ARep G nt env a) (hn : Goes G nt K next) : o.wp P a w next Q := by
  obtain ⟨v', w', G', h1, h2, h3, h4⟩ := append_ok (ty := o.type) (ht T y hy) hs (ht e ye hye) h0 hi (ha.ev hes) (ha.ev hex) hl hfit hmax
  refine wp_value (v := v') ?_ h2 h3 ha h4 hk hn
  unfold execOp
  simp only [ho, resolve, hcb, hca, hct, Sem.run_bind, Sem.run_pure, Result.andThen_ok, invoke, builtin]
  simp [h1]

theorem pOp_ok (ht : TT P tt) {ow : List Nat} (h : pOp P tt ow nt o env st K) (hi : Inv G st w) (ha : ARep G nt env a) (hn : Goes G nt K next) : o.wp P a w next Q := by
  unfold pOp at h
  split at h
  · -- move
    rename_i x ho
    obtain ⟨p, h1, h2⟩ := h
    exact wp_value (v := a.eval x) (by unfold execOp; simp only [ho, Sem.run_pure]) (.refl G) hi ha (ha.ev h1) h2 hn
  · -- assign
    rename_i x ho
    obtain ⟨p, h1, h2⟩ := h
    exact wp_value (v := a.eval x) (by unfold execOp; simp only [ho, Sem.run_pure]) (.refl G) hi ha (ha.ev h1) h2 hn
  · -- pick
    rename_i c x y ho
    obtain ⟨t, h1, h2⟩ := h
    have hc := (ha.ev h1).bool_inv
    have hrun : (execOp a.eval o).run P w = .ok (.value (if t then a.eval x else a.eval y)) w := by
      unfold execOp
      simp only [ho, hc, asBool, Sem.run_bind, Sem.run_pure, Result.andThen_ok]
    split at h2
    · rename_i p q hx hy
      refine wp_value (x := .bool (bif t then p else q)) hrun (.refl G) hi ha ?_ h2 hn
      rw [(ha.ev hx).bool_inv, (ha.ev hy).bool_inv]
      cases t <;> exact .bool _
    · cases t with
      | true =>
        obtain ⟨z, hz, hk⟩ := h2.1 rfl
        exact wp_value hrun (.refl G) hi ha (ha.ev hz) hk hn
      | false =>
        obtain ⟨z, hz, hk⟩ := h2.2 rfl
        exact wp_value hrun (.refl G) hi ha (ha.ev hz) hk hn
  · rename_i T ho
    obtain ⟨y, h1, h2⟩ := h
    exact ok_alloc ht ho h1 h2 hi ha hn
  · rename_i T x ho
    obtain ⟨p, h1, h2, h3⟩ := h
    exact ok_box ho h1 h2 h3 hi ha hn
  · rename_i T ps ho
    obtain ⟨y, xs, cs, h1, h2, h3, h4, h5⟩ := h
    exact ok_build ht ho h1 h2 h3 h4 h5 hi ha hn
  · rename_i T n ps ho
    obtain ⟨y, e, ye, ps', xs, h1, h2, h3, h4, h5, h6, h7, h8, h9, h10⟩ := h
    exact ok_buildSlice ht ho h1 h2 h3 h4 h5 h6 h7 h8 h9 h10 hi ha hn
  · -- load
    rename_i T x ho
    obtain ⟨p, y, r, h1, h2, h3, h4⟩ := h
    obtain ⟨u, h5, h6⟩ := ld_ok (ht T y h2) hi (ha.ev h1) h3
    refine wp_value (v := u) ?_ (.refl G) hi ha h6 h4 hn
    unfold execOp
    simp only [ho, Sem.run_bind, h5, Result.andThen_ok, Sem.run_pure]
  · -- store
    rename_i T x v ho
    obtain ⟨p, y, r, st', h1, h2, h3, h4, h5⟩ := h
    obtain ⟨w', h6, h7⟩ := st_ok (ht T y h2) hi (ha.ev h1) (ha.ev h3) h4
    refine wp_skips ?_ (.refl G) h7 ha h5 hn
    unfold execOp
    simp only [ho, Sem.run_bind, h6, Result.andThen_ok, Sem.run_pure]
  · -- nilCheck
    rename_i x ho
    obtain ⟨p, h1, h2, h3⟩ := h
    have hr := ha.ev h1
    refine wp_value (v := a.eval x) ?_ (.refl G) hi ha hr h3 hn
    unfold execOp
    simp only [ho]
    generalize a.eval x = v at hr ⊢
    cases p <;> try (simp only [pNil] at h2; cases h2; done)
    · cases hr; simp
    · cases hr; simp
    · rename_i fn fs cs
      cases fn <;> try (simp only [pNil] at h2; cases h2; done)
      cases hr; simp
  · rename_i op T x y Y ho
    rcases h with ⟨p, q, h1, h2, h3⟩ | ⟨yt, xs, ys, r, h1, h2, h3, h4, h5, h6⟩ | ⟨p, q, yt, r, h1, h2, h3, h4, h5⟩
    · exact ok_binOp ho h1 h2 h3 hi ha hn
    · exact ok_eqAgg ho ((ht T yt h1).eql h2) h3 h4 h5 h6 hi ha hn
    · exact ok_nil ho (ht T yt h3) h1 h2 h4 h5 hi ha hn
  · -- unOp
    rename_i op T x ho
    split at h
    · rename_i b hx
      refine wp_value (v := .bool (!b)) ?_ (.refl G) hi ha (.bool _) h hn
      unfold execOp
      simp only [ho, (ha.ev hx).bool_inv, Op.unary, Sem.run_bind, Sem.run_pure, Result.andThen_ok]
    · rename_i k n hx
      refine wp_value (v := .int k (k.wrap (0 - n))) ?_ (.refl G) hi ha (.int _ _) h hn
      unfold execOp
      simp only [ho, (ha.ev hx).int_inv, Op.unary, Op.intArith, Sem.run_bind, Sem.run_pure, Result.andThen_ok]
    · exact h.elim
  · -- convert
    rename_i S D x ho
    obtain ⟨ys, yd, p, h1, h2, h3, h4⟩ := h
    have hr := ha.ev h3
    obtain ⟨ds, hds⟩ := Option.isSome_iff_exists.1 (ht S ys h1).isSm
    unfold pConv at h4
    split at h4
    · rename_i k n k' hk
      have hd : P.underlying D = some (.int k') := by have := (ht D yd h2).und; rw [hk] at this; exact this
      refine wp_value (v := .int k' (k'.wrap n)) ?_ (.refl G) hi ha (.int _ _) h4 hn
      unfold execOp
      simp only [ho, hr.int_inv, convert, run_underlying hds, run_underlying hd, Conv.intToInt, Sem.run_bind, Sem.run_pure, Result.andThen_ok]
    · rename_i l hk
      have hd : P.underlying D = some .string := by have := (ht D yd h2).und; rw [hk] at this; exact this
      refine wp_value (v := .string ⟨l.toArray⟩) ?_ (.refl G) hi ha (.str _) h4 hn
      unfold execOp
      simp only [ho, hr.str_inv, convert, run_underlying hds, run_underlying hd, Sem.run_bind, Sem.run_pure, Result.andThen_ok]
    · exact h4.elim
  · -- makeFunc
    rename_i fn fs cs ho
    obtain ⟨us, vs, h1, h2, h3⟩ := h
    refine wp_value (v := .func fn (fs.map a.eval) (cs.map a.eval)) ?_ (.refl G) hi ha ?_ h3 hn
    · unfold execOp
      simp only [ho, Instr.makeFunc, Sem.run_bind, Sem.run_pure, Result.andThen_ok]
    · have e1 : fs.map a.eval = (fs.toList.map a.eval).toArray := by rw [← Array.toList_map]
      have e2 : cs.map a.eval = (cs.toList.map a.eval).toArray := by rw [← Array.toList_map]
      rw [e1, e2]
      exact .clo fn us vs _ _ (ha.evs h1) (ha.evs h2)
  · rename_i T x lo hi' ho
    obtain ⟨y, p, l, hh, h1, h2, h3, h4, h5, h6⟩ := h
    exact ok_slice ht ho h1 h2 h3 h4 h5 h6 hi ha hn
  · rename_i T x f ho
    obtain ⟨y, p, h1, h2, h3, h4⟩ := h
    exact ok_fieldAddr ht ho h1 h2 h3 h4 hi ha hn
  · rename_i T x f ho
    obtain ⟨y, cs, r, h1, h2, h3, h4, h5⟩ := h
    exact ok_field ht ho h1 h2 h3 h4 h5 hi ha hn
  · rename_i T x i ho
    obtain ⟨y, e, ye, xs, t, k, n, z, h1, h2, h3, h4, h5, h6, h7, h8⟩ := h
    exact ok_indexAddr ht ho h1 h2 h3 h4 h5 h6 h7 h8 hi ha hn
  · rename_i T x i ho
    obtain ⟨y, l, k, n, c, h1, h2, h3, h4, h5, h6, h7⟩ := h
    exact ok_index ht ho h1 h2 h3 h4 h5 h6 h7 hi ha hn
  · -- extract
    rename_i t i ho
    obtain ⟨cs, x, h1, h2, h3⟩ := h
    have hr := ha.ev h1
    generalize hv : a.eval t = v at hr
    cases hr with
    | tup _ vs hr =>
    obtain ⟨u, hu, hru⟩ := hr.get i x h2
    refine wp_value (v := u) ?_ (.refl G) hi ha hru h3 hn
    unfold execOp
    have hu' : (vs.toArray)[i]? = some u := by simpa using hu
    simp only [ho, hv, Instr.extract, hu', Sem.run_bind, Sem.run_pure, Result.andThen_ok]
  · -- call
    rename_i c ho
    split at h
    · rename_i f hcf
      obtain ⟨fn, fs, cs, ags, h1, h2, h3⟩ := h
      have hr := ha.ev h1
      have hra := ha.evs h2
      generalize hv : a.eval f = v at hr
      cases hr with
      | clo _ _ _ us vs hu hc =>
      refine wp_enters (f := fn) (args := fs ++ ags ++ cs) (vs := us ++ c.args.toList.map a.eval ++ vs) ?_ hi ha ((hu.append hra).append hc) h3 hn
      unfold execOp
      simp only [ho, resolve, hcf, hv, Deferred.ofValue, Sem.run_bind, Sem.run_pure, Result.andThen_ok, invoke]
      congr 2
      apply Array.ext'
      simp
    · -- len
      rename_i hcl
      obtain ⟨T, x, y, p, h1, h2, h3, h4, h5⟩ := h
      have hr := ha.ev h4
      have hlen : ∀ n : Int, (Builtin.len_ #[T] o.type #[a.eval x]).run P w = .ok (.int .i64 n) w → K (put nt o.dst env (.int .i64 n)) st → o.wp P a w next Q := by
        intro n e1 e2
        refine wp_value (v := .int .i64 n) ?_ (.refl G) hi ha (.int _ _) e2 hn
        unfold execOp
        simp only [ho, resolve, hcl, h1, h2, Sem.run_bind, Sem.run_pure, Result.andThen_ok, invoke, builtin]
        simp [e1]
      split at h5
      · rename_i l hk
        have hu : P.underlying T = some .string := by have := (ht T y h3).und; rw [hk] at this; exact this
        exact hlen _ (by simp [Builtin.len_, run_underlying hu, hr.str_inv, goInt, size_mk]) h5
      · rename_i e sz xs t hk
        have hu : P.underlying T = some (.slice e) := by have := (ht T y h3).und; rw [hk] at this; exact this
        refine hlen _ ?_ h5
        rcases hr.list_inv with ⟨rfl, e1⟩ | ⟨b, off, cc, vs, _, e1, _⟩ <;> simp [Builtin.len_, run_underlying hu, e1, goInt]
      · exact h5.elim
    · rename_i hca
      obtain ⟨T, s, x, y, e, ye, xs, ys, k, t, h1, h2, h3, h4, h5, h6, h7, h8, h9, h10, h11, h12⟩ := h
      exact ok_append ht ho hca h1 h2 h3 h4 h5 h6 h7 h8 h9 h10 h11 h12 hi ha hn
    · rename_i hcm
      obtain ⟨x, y, k, p, q, h1, h2, h3, h4⟩ := h
      exact ok_max ho hcm h1 h2 h3 h4 hi ha hn
    · exact h.elim
  · exact h.elim
end
end Go.Proofs.YtpepmfhemjeocaaGreatDoor
end
section
/- A region in its text's order; a function's body. -/
set_option linter.unusedVariables false
set_option linter.unusedSimpArgs false
namespace Go.Proofs.YtpepmfhemjeocaaGreatDoor

def gdOf (ops : Array Oper) (j : Nat) : Option Tmp := (ops.toList[j]?).bind (·.dst)
def isCall : Op → Bool
  | .call c => match c.callee with
    | .value _ => true
    | _ => false
  | _ => false
/-- The operations from place n on. -/
def PO (P : Program) (nt : Nat) (ops : Array Oper) (n : Nat) (env : Env) (st : St) (K : Env → St → Prop) : Prop :=
  ∀ G a w (Q : Exit → Act → World → Prop), Inv G st w → ARep G nt env a → Goes G nt K (Q .normal) → wpOps P ops Q (List.range' n (ops.size - n)) a w
/-- What a guard finds: is the operation wanted? -/
def isBoolV : Value → Bool
  | .bool _ => true
  | _ => false
def gval (want : Bool) : PV → Option Bool
  | .bool b => some (b == want)
  | .val v => match isBoolV v with
    | true => none
    | false => some false
  | _ => none
theorem gval_undef (want : Bool) : gval want (.val undef) = some false := rfl
theorem gval_bool (want b : Bool) : gval want (.bool b) = some (b == want) := rfl
theorem gval_ok {G : Gh} {want r : Bool} {x : PV} {v : Value} (h : gval want x = some r) (hv : Rep G x v) : ((match v with | .bool b => some b | _ => none) == some want) = r := by
  unfold gval at h
  split at h
  · cases hv.bool_inv
    exact Option.some.inj h
  · split at h
    · cases h
    · rename_i hb
      cases hv
      cases h
      cases ‹Value› <;> first | rfl | cases hb
  · cases h
/-- Operations, one behind the other, up to a call. -/
def pOps (P : Program) (tt : TTab) (ow : List Nat) (nt : Nat) (ops : Array Oper) (n : Nat) : List Oper → Env → St → (Env → St → Prop) → Prop
  | [], env, st, K => K env st
  | o :: r, env, st, K => match o.guard with
    | none => if isCall o.op then pOp P tt ow nt o env st fun env st => PO P nt ops (n + 1) env st K else pOp P tt ow nt o env st fun env st => pOps P tt ow nt ops (n + 1) r env st K
    | some (j, want) => ∃ d x b, gdOf ops j = some d ∧ eget env d = some x ∧ gval want x = some b ∧
        (b = true → if isCall o.op then pOp P tt ow nt o env st fun env st => PO P nt ops (n + 1) env st K else pOp P tt ow nt o env st fun env st => pOps P tt ow nt ops (n + 1) r env st K) ∧
        (b = false → pOps P tt ow nt ops (n + 1) r (put nt o.dst env (.val undef)) st K)

section
variable {P : Program} {tt : TTab} {nt : Nat}
theorem pOps_ok (ht : TT P tt) {ow : List Nat} (ops : Array Oper) (K : Env → St → Prop) : ∀ (r : List Oper) (n : Nat), ops.toList.drop n = r → ∀ (env : Env) (st : St), pOps P tt ow nt ops n r env st K → PO P nt ops n env st K
  | [], n, he, env, st, h, G, a, w, Q, hi, ha, hq => by
    have hn : ops.size - n = 0 := by
      have := congrArg List.length he
      simp at this
      omega
    simp only [hn, List.range'_zero, wpOps]
    exact hq G env st a w (.refl G) hi ha h
  | o :: r, n, he, env, st, h, G, a, w, Q, hi, ha, hq => by
    have hlen := congrArg List.length he
    simp at hlen
    have hget : ops[n]? = some o := by
      rw [← Array.getElem?_toList]
      have : (ops.toList.drop n)[0]? = some o := by rw [he]; rfl
      simpa using this
    have hdrop : ops.toList.drop (n + 1) = r := by
      have : (ops.toList.drop n).drop 1 = r := by rw [he]; rfl
      rwa [List.drop_drop] at this
    have hsz : ops.size - n = (ops.size - (n + 1)) + 1 := by omega
    rw [hsz]
    simp only [List.range'_succ, wpOps, hget]
    have ih := pOps_ok ht (ow := ow) ops K r (n + 1) hdrop
    have hgoes : (if isCall o.op then pOp P tt ow nt o env st fun env st => PO P nt ops (n + 1) env st K else pOp P tt ow nt o env st fun env st => pOps P tt ow nt ops (n + 1) r env st K) → o.wp P a w (wpOps P ops Q (List.range' (n + 1) (ops.size - (n + 1)))) Q := by
      intro h2
      have h3 : pOp P tt ow nt o env st (fun env st => pOps P tt ow nt ops (n + 1) r env st K) ∨ pOp P tt ow nt o env st (fun env st => PO P nt ops (n + 1) env st K) := by
        split at h2
        · exact .inr h2
        · exact .inl h2
      rcases h3 with h3 | h3
      · refine pOp_ok ht h3 hi ha ?_
        intro G' env' st' a' w' k1 k2 k3 k4
        exact ih env' st' k4 G' a' w' Q k2 k3 fun G2 env2 st2 a2 w2 m1 m2 m3 m4 => hq G2 env2 st2 a2 w2 (k1.trans m1) m2 m3 m4
      · refine pOp_ok ht h3 hi ha ?_
        intro G' env' st' a' w' k1 k2 k3 k4
        exact k4 G' a' w' Q k2 k3 fun G2 env2 st2 a2 w2 m1 m2 m3 m4 => hq G2 env2 st2 a2 w2 (k1.trans m1) m2 m3 m4
    simp only [pOps] at h
    split at h
    · rename_i hg
      rw [if_pos (by simp [Region.wanted, hg])]
      exact .inl (hgoes h)
    · rename_i j want hg
      obtain ⟨d, x, b, h1, h2, h5, h3, h4⟩ := h
      have hw : Region.wanted o (yielded ops a.tmps) = b := by
        obtain ⟨v, hv1, hv2⟩ := ha.get d _ h2
        have hd : (ops[j]?).bind (·.dst) = some d := by rw [← Array.getElem?_toList]; exact h1
        have := gval_ok h5 hv2
        simp only [Region.wanted, hg, yielded, hd, Option.bind_some, hv1]
        rw [← this]
        cases v <;> rfl
      cases b with
      | true =>
        rw [if_pos hw]
        exact .inl (hgoes (h3 rfl))
      | false =>
        rw [if_neg (by rw [hw]; simp)]
        exact ih _ st (h4 rfl) G _ w Q hi (ha.put (.val undef) o.dst) hq
/-- Go on from place n. -/
theorem PO.run (ht : TT P tt) (ow : List Nat) {ops : Array Oper} {n : Nat} {env : Env} {st : St} {K : Env → St → Prop} (h : pOps P tt ow nt ops n (ops.toList.drop n) env st K) : PO P nt ops n env st K := pOps_ok ht ops K _ n rfl env st h
theorem PO.mono {ops : Array Oper} {n : Nat} {env : Env} {st : St} {K K' : Env → St → Prop} (h : PO P nt ops n env st K) (hk : ∀ env st, K env st → K' env st) : PO P nt ops n env st K' :=
  fun G a w Q hi ha hq => h G a w Q hi ha fun G' env' st' a' w' h1 h2 h3 h4 => hq G' env' st' a' w' h1 h2 h3 (hk _ _ h4)
/-- Go on from less of the temporaries. -/
theorem PO.less {ops : Array Oper} {n : Nat} {env : Env} {st : St} {K : Env → St → Prop} (env' : Env) (hs : Sub env env') (h : PO P nt ops n env' st K) : PO P nt ops n env st K :=
  fun G a w Q hi ha hq => h G a w Q hi (ha.sub hs) hq
/-- Go on from what is left when some of it is forgotten. -/
theorem PO.forget {ops : Array Oper} {n : Nat} {env : Env} {st : St} {K : Env → St → Prop} (env' : Env) (st' : St) (hs : Sub env env') (hl : Left st st') (hc : Env.clean st'.box.length st'.len.length env' = true)
    (hb : st.box.length ≤ st'.box.length) (hm : st.len.length ≤ st'.len.length) (h : PO P nt ops n env' st' K) : PO P nt ops n env st K :=
  fun G a w Q hi ha hq => h _ a w Q (hi.trunc hl) ((ha.sub hs).trunc hc) fun G' env2 st2 a2 w2 h1 h2 h3 h4 => hq G' env2 st2 a2 w2 (((Gh.le.refl G).trunc hi hb hm).trans h1) h2 h3 h4
theorem PW.ofPO {id : Nat} {ops : Array Oper} {Q : Exit → Env → St → Prop} {env : Env} {st : St} (h : PO P nt ops 0 env st (Q .normal)) : PW P nt (.region id ops false) Q env st := by
  intro G a w hi ha
  refine wp_region ?_
  have := h G a w (PostE G nt Q) hi ha fun G' env' st' a' w' h1 h2 h3 h4 => ⟨G', env', st', h1, h2, h3, h4⟩
  rw [List.range_eq_range']
  simpa using this
theorem PW.region (ht : TT P tt) (ow : List Nat) {id : Nat} {ops : Array Oper} {Q : Exit → Env → St → Prop} {env : Env} {st : St} (h : pOps P tt ow nt ops 0 ops.toList env st (Q .normal)) : PW P nt (.region id ops false) Q env st :=
  PW.ofPO (PO.run ht ow (by simpa using h))

/-! ### A function's body -/
def argsEnv (n : Nat) : List PV → Env
  | [] => []
  | x :: xs => (n, x) :: argsEnv (n + 1) xs
theorem argsEnv_get {n : Nat} : ∀ {xs : List PV} {i : Nat} {x : PV}, eget (argsEnv n xs) i = some x → n ≤ i ∧ xs[i - n]? = some x
  | [], i, x, h => by simp [argsEnv, eget] at h
  | y :: ys, i, x, h => by
    simp only [argsEnv, eget] at h
    split at h
    · rename_i hi; subst hi; injection h with h; subst h; simp
    · rename_i hi
      obtain ⟨h1, h2⟩ := argsEnv_get h
      refine ⟨by omega, ?_⟩
      rw [show i - n = (i - (n + 1)) + 1 from by omega]
      simpa using h2
def resOne (tt : TTab) (env : Env) (st : St) : ResultVar → Option PV
  | .tmp t => eget env t
  | .cell a t => match eget env a, tt t with
    | some p, some y => ldPV y st p
    | _, _ => none
def resAll (tt : TTab) (env : Env) (st : St) : List ResultVar → Option (List PV)
  | [] => some []
  | r :: rs => match resOne tt env st r, resAll tt env st rs with
    | some x, some xs => some (x :: xs)
    | _, _ => none
def resPV : List PV → PV
  | [x] => x
  | xs => .tup xs
def resSem (tmps : Array Value) : ResultVar → Sem Value
  | .tmp t => pure (tmps.getD t undef)
  | .cell b t => do loadVar t (← asAddr (tmps.getD b undef))
theorem results_eq (fn : Func) (tmps : Array Value) : results fn tmps = (do let vs ← fn.results.mapM (resSem tmps); pure (if h : vs.size = 1 then vs[0] else .tuple vs)) := by
  unfold results
  congr
theorem resOne_ok (ht : TT P tt) {env : Env} {st : St} {G : Gh} {a : Act} {w : World} (hi : Inv G st w) (ha : ARep G nt env a) {r : ResultVar} {x : PV} (h : resOne tt env st r = some x) :
    ∃ v, (resSem a.tmps r).run P w = .ok v w ∧ Rep G x v := by
  cases r with
  | tmp t =>
    obtain ⟨v, h1, h2⟩ := ha.get t x h
    exact ⟨v, by simp [resSem, Array.getD_eq_getD_getElem?, h1], h2⟩
  | cell b t =>
    simp only [resOne] at h
    split at h
    · rename_i p y hp hy
      obtain ⟨v, h1, h2⟩ := ha.get b p hp
      obtain ⟨u, h3, h4⟩ := ld_ok (ht t y hy) hi h2 h
      refine ⟨u, ?_, h4⟩
      have hpv : ∃ ad, v = .pointer (some ad) := by
        unfold ldPV at h
        split at h
        · cases h2; exact ⟨_, rfl⟩
        · cases h2; exact ⟨_, rfl⟩
        · cases h
      obtain ⟨ad, rfl⟩ := hpv
      simpa [resSem, Array.getD_eq_getD_getElem?, h1, asAddr, Instr.loadAt, Instr.sureAddr] using h3
    · cases h
theorem resAll_ok (ht : TT P tt) {env : Env} {st : St} {G : Gh} {a : Act} {w : World} (hi : Inv G st w) (ha : ARep G nt env a) : ∀ {rs : List ResultVar} {xs : List PV}, resAll tt env st rs = some xs →
    ∃ vs, (rs.mapM (resSem a.tmps)).run P w = .ok vs w ∧ Reps G xs vs
  | [], xs, h => by injection h with h; subst h; exact ⟨[], by simp, .nil⟩
  | r :: rs, xs, h => by
    simp only [resAll] at h
    split at h
    · rename_i x ys h1 h2
      injection h with h
      subst h
      obtain ⟨v, e1, e2⟩ := resOne_ok ht hi ha h1
      obtain ⟨vs, e3, e4⟩ := resAll_ok ht hi ha h2
      exact ⟨v :: vs, by simp only [List.mapM_cons, Sem.run_bind, e1, Result.andThen_ok, e3, Sem.run_pure], .cons _ _ _ _ e2 e4⟩
    · cases h
/-- What a body must come to, for R to hold of the call. -/
def Ends (tt : TTab) (rs : List ResultVar) (st0 : St) (R : PV → St → Prop) (e : Exit) (env : Env) (st : St) : Prop :=
  (e = .ret ∨ e = .normal) ∧ ∃ xs r st', resAll tt env st rs = some xs ∧ Weak (resPV xs) r ∧ Left st st' ∧ st0.box.length ≤ st'.box.length ∧ st0.len.length ≤ st'.len.length ∧ PV.clean st'.box.length st'.len.length r = true ∧ R r st'
theorem PC.intro (ht : TT P tt) {f : FuncId} {fn : Func} {c : Code} {args : List PV} {st : St} {R : PV → St → Prop} (hf : P.funcs[f]? = some fn) (hb : fn.body = some c) (hname : (fn.name == "runtime.NumGoroutine") = false) {n : Nat} (hnt : fn.ntmps = n) (hal : args.length ≤ n) {rs : List ResultVar} (hrs : fn.results.toList = rs)
    (h : PW P n c (Ends tt rs st R) (argsEnv 0 args) st) : PC P f args st R := by
  refine fun G w vs hi hv => .inl ⟨⟨fn, hf, hname, by simp [hb]⟩, ?_⟩
  subst hnt hrs
  refine calls_of_wp hf hb (wp_mono (h G _ w hi ?_) ?_)
  · refine ⟨rfl, ?_, ?_⟩
    · have := hv.length
      simp
      omega
    · intro i x e
      obtain ⟨_, e⟩ := argsEnv_get e
      obtain ⟨v, h1, h2⟩ := hv.get i x (by simpa using e)
      refine ⟨v, ?_, h2⟩
      have hlt := (List.getElem?_eq_some_iff.1 h1).1
      simp only [Array.getElem?_append]
      rw [if_pos (by simpa using hlt)]
      simpa using h1
  · rintro e a' w' ⟨G', env', st1, h1, h2, h3, he, xs, r, st', h4, h5, h6, h7, h8, h9, h10⟩
    obtain ⟨us, e1, e2⟩ := resAll_ok ht h2 h3 h4
    have hres : ∃ v, (results fn a'.tmps).run P w' = .ok v w' ∧ Rep G' (resPV xs) v := by
      have e1' : (fn.results.mapM (resSem a'.tmps)).run P w' = .ok us.toArray w' := by
        rw [Array.mapM_eq_mapM_toList, Sem.run_map, e1]
        rfl
      refine ⟨if h : us.toArray.size = 1 then us.toArray[0] else .tuple us.toArray, ?_, ?_⟩
      · rw [results_eq, Sem.run_bind, e1']
        rfl
      · cases e2 with
        | nil => exact .tup _ _ .nil
        | cons x v xs vs hx hxs => cases hxs with
          | nil => simpa [resPV] using hx
          | cons y u ys us hy hys =>
            simp only [resPV]
            rw [dif_neg (by simp)]
            exact .tup _ _ (.cons _ _ _ _ hx (.cons _ _ _ _ hy hys))
    obtain ⟨v, e3, e4⟩ := hres
    have hpost : a'.defers = [] ∧ ∃ v, (results fn a'.tmps).run P w' = .ok v w' ∧ ∃ u, Ending.returned v = .returned u ∧ ∃ G' r st', G.le G' ∧ Inv G' st' w' ∧ Rep G' r u ∧ R r st' ∧ st.len.length ≤ st'.len.length :=
      ⟨h3.defers, v, e3, v, rfl, _, r, st', h1.trunc hi h7 h8, h2.trunc h6, (h5 _ _ e4).trunc h9, h10, h8⟩
    rcases he with rfl | rfl
    · exact hpost
    · exact hpost

/-- A region, and what stands behind it under a name. -/
theorem PW.step (ht : TT P tt) (ow : List Nat) {id : Nat} {ops : Array Oper} {y : Code} {Q : Exit → Env → St → Prop} {env : Env} {st : St}
    (h : ∀ K : Env → St → Prop, (∀ env st, PW P nt y Q env st → K env st) → pOps P tt ow nt ops 0 ops.toList env st K) : PW P nt (.seq (.region id ops false) y) Q env st :=
  PW.seq_k fun K hK => PW.region ht ow (h K hK)
/-- A region, the last of its code. -/
theorem PW.last (ht : TT P tt) (ow : List Nat) {id : Nat} {ops : Array Oper} {Q : Exit → Env → St → Prop} {env : Env} {st : St}
    (h : ∀ K : Env → St → Prop, (∀ env st, Q .normal env st → K env st) → pOps P tt ow nt ops 0 ops.toList env st K) : PW P nt (.region id ops false) Q env st :=
  PW.region ht ow (h _ fun _ _ h => h)
theorem left_iff {st' st : St} : Left st' st ↔ Boxes (st'.box.take st.box.length) st.box ∧ st'.len.take st.len.length = st.len ∧ ∀ cs ∈ st.box, PVs.clean st.box.length st.len.length cs = true :=
  ⟨fun h => ⟨h.box, h.len, h.clean⟩, fun h => ⟨h.1, h.2.1, h.2.2⟩⟩
theorem clean_map {α : Type} {f : α → PV} {n m : Nat} (h : ∀ x, PV.clean n m (f x) = true) (l : List α) : PVs.clean n m (l.map f) = true :=
  PVs.clean_iff.2 fun x hx => by obtain ⟨y, _, rfl⟩ := List.mem_map.1 hx; exact h y
/-- At a body's end. -/
theorem Ends.ret {rs : List ResultVar} {st0 : St} {R : PV → St → Prop} {env : Env} {st : St} {xs : List PV} {r : PV} {st' : St} (h1 : resAll tt env st rs = some xs) (hr : R r st') (hw : Weak (resPV xs) r) (hl : Left st st')
    (hb : st0.box.length ≤ st'.box.length) (hm : st0.len.length ≤ st'.len.length) (hc : PV.clean st'.box.length st'.len.length r = true) : Ends tt rs st0 R .ret env st := ⟨.inl rfl, xs, r, st', h1, hw, hl, hb, hm, hc, hr⟩
theorem Ends.normal {rs : List ResultVar} {st0 : St} {R : PV → St → Prop} {env : Env} {st : St} {xs : List PV} {r : PV} {st' : St} (h1 : resAll tt env st rs = some xs) (hr : R r st') (hw : Weak (resPV xs) r) (hl : Left st st')
    (hb : st0.box.length ≤ st'.box.length) (hm : st0.len.length ≤ st'.len.length) (hc : PV.clean st'.box.length st'.len.length r = true) : Ends tt rs st0 R .normal env st := ⟨.inr rfl, xs, r, st', h1, hw, hl, hb, hm, hc, hr⟩
end
end Go.Proofs.YtpepmfhemjeocaaGreatDoor
end
section
/- A call's contract, told of its own variables alone, among others: the frame. -/
set_option linter.unusedVariables false
set_option linter.unusedSimpArgs false
namespace Go.Proofs.YtpepmfhemjeocaaGreatDoor

def Tk.ren (κ : Nat → Nat) : Tk → Tk
  | .own k => .own (κ k)
  | t => t
mutual
def PV.ren (ρ κ : Nat → Nat) : PV → PV
  | .list sz xs t => .list sz (PVs.ren ρ κ xs) (t.ren κ)
  | .ref r o => .ref (ρ r) o
  | .elem x => .elem (PV.ren ρ κ x)
  | .agg cs => .agg (PVs.ren ρ κ cs)
  | .tup cs => .tup (PVs.ren ρ κ cs)
  | .clo fn fs cs => .clo fn (PVs.ren ρ κ fs) (PVs.ren ρ κ cs)
  | .int k n => .int k n
  | .bool b => .bool b
  | .str l => .str l
  | .val v => .val v
def PVs.ren (ρ κ : Nat → Nat) : List PV → List PV
  | [] => []
  | x :: xs => PV.ren ρ κ x :: PVs.ren ρ κ xs
end
section
variable {ρ κ : Nat → Nat}
theorem PVs.ren_map : ∀ xs : List PV, PVs.ren ρ κ xs = xs.map (PV.ren ρ κ)
  | [] => rfl
  | x :: xs => by simp [PVs.ren, PVs.ren_map xs]
theorem PVs.ren_length (xs : List PV) : (PVs.ren ρ κ xs).length = xs.length := by rw [PVs.ren_map]; simp
theorem PVs.ren_append (xs ys : List PV) : PVs.ren ρ κ (xs ++ ys) = PVs.ren ρ κ xs ++ PVs.ren ρ κ ys := by simp [PVs.ren_map]
theorem PV.ren_cells (x : PV) : (PV.ren ρ κ x).cells = PVs.ren ρ κ x.cells := by cases x <;> simp [PV.ren, PV.cells, PVs.ren]
theorem PVs.ren_cellsOf : ∀ xs : List PV, cellsOf (PVs.ren ρ κ xs) = PVs.ren ρ κ (cellsOf xs)
  | [] => rfl
  | x :: xs => by rw [PVs.ren, cellsOf_cons, cellsOf_cons, PVs.ren_append, PV.ren_cells, PVs.ren_cellsOf xs]
theorem PV.ren_isCell (x : PV) : (PV.ren ρ κ x).isCell = x.isCell := by cases x <;> rfl
mutual
/-- What speaks of no variable and no object is as it is. -/
theorem PV.ren_data : ∀ {x : PV}, PV.clean 0 0 x = true → PV.ren ρ κ x = x
  | .list sz xs t, h => by
    simp only [PV.clean, Bool.and_eq_true] at h
    rw [PV.ren, PVs.ren_data h.2]
    cases t <;> simp_all [Tk.ren]
  | .ref r o, h => by simp [PV.clean] at h
  | .elem x, h => by rw [PV.ren, PV.ren_data (by simpa [PV.clean] using h)]
  | .agg cs, h => by rw [PV.ren, PVs.ren_data (by simpa [PV.clean] using h)]
  | .tup cs, h => by rw [PV.ren, PVs.ren_data (by simpa [PV.clean] using h)]
  | .clo fn fs cs, h => by
    simp only [PV.clean, Bool.and_eq_true] at h
    rw [PV.ren, PVs.ren_data h.1, PVs.ren_data h.2]
  | .int k n, _ => rfl
  | .bool b, _ => rfl
  | .str l, _ => rfl
  | .val v, _ => rfl
theorem PVs.ren_data : ∀ {xs : List PV}, PVs.clean 0 0 xs = true → PVs.ren ρ κ xs = xs
  | [], _ => rfl
  | x :: xs, h => by
    simp only [PVs.clean, Bool.and_eq_true] at h
    rw [PVs.ren, PV.ren_data h.1, PVs.ren_data h.2]
end
end

/-- The ghost of a call that knows of some variables and objects alone. -/
def Gh.part (G : Gh) (st : St) (w : World) (ρ κ : List Nat) : Gh where
  w0 := w
  pub := fun b => ∃ i r : Nat, ρ[i]? = some r ∧ G.ref[r]? = some b
  pob := fun b => ∃ j k n c sz : Nat, κ[j]? = some k ∧ st.len[k]? = some n ∧ G.hist k n = some (b, c, sz)
  dat := G.dat
  ref := ρ.map fun r => G.ref.getD r 0
  hist := fun j n => match κ[j]? with
    | some k => G.hist k n
    | none => none
/-- How the call's variables and objects are called outside: new ones stand behind all that were there. -/
def out (ρ : List Nat) (n : Nat) (i : Nat) : Nat := if i < ρ.length then ρ.getD i 0 else n + (i - ρ.length)

mutual
theorem Rep.part' {G : Gh} {st : St} {w : World} {ρ κ : List Nat} {n m : Nat} : ∀ {y : PV} {v : Value}, Rep G y v → ∀ x, y = PV.ren (out ρ n) (out κ m) x → PV.clean ρ.length κ.length x = true → (∀ r ∈ ρ, r < G.ref.length) → Rep (G.part st w ρ κ) x v
  | _, _, .int k i, x, e, c, hρ => by cases x <;> simp [PV.ren] at e; obtain ⟨rfl, rfl⟩ := e; exact .int _ _
  | _, _, .bool b, x, e, c, hρ => by cases x <;> simp [PV.ren] at e; subst e; exact .bool _
  | _, _, .str l, x, e, c, hρ => by cases x <;> simp [PV.ren] at e; subst e; exact .str _
  | _, _, .val u, x, e, c, hρ => by cases x <;> simp [PV.ren] at e; subst e; exact .val _
  | _, _, .none sz t, x, e, c, hρ => by
    cases x <;> simp [PV.ren] at e
    rename_i sz' xs' t'
    obtain ⟨rfl, e, rfl⟩ := e
    have : xs' = [] := by cases xs' <;> simp [PVs.ren] at e ⊢
    subst this
    exact .none _ _
  | _, _, .list sz xs t b o cp vs h1 h2 h3 h4 h5 h6 h7, x, e, c, hρ => by
    have IH := fun zs e c => Reps.part' (st := st) (w := w) (ρ := ρ) (κ := κ) (n := n) (m := m) h5 zs e c hρ
    cases x <;> simp [PV.ren] at e
    rename_i sz' xs' t'
    obtain ⟨rfl, rfl, rfl⟩ := e
    simp only [PV.clean, Bool.and_eq_true] at c
    rw [PVs.ren_length] at h2 h7 ⊢
    rw [PVs.ren_cellsOf] at h4
    refine .list sz xs' t' b o cp vs (by rintro rfl; exact h1 rfl) h2 ?_ ?_ (IH _ (PVs.ren_cellsOf xs') (by rw [PVs.clean_cellsOf]; exact c.2)) h6 ?_
    · intro x hx
      have := h3 (PV.ren _ _ x) (by rw [PVs.ren_map]; exact List.mem_map_of_mem hx)
      rwa [PV.ren_cells, PVs.ren_length] at this
    · intro x hx
      have := h4 (PV.ren _ _ x) (by rw [PVs.ren_map]; exact List.mem_map_of_mem hx)
      rwa [PV.ren_isCell] at this
    · rintro k rfl
      have hk : k < κ.length := by simpa using c.1
      obtain ⟨h8, h9⟩ := h7 (out κ m k) rfl
      refine ⟨h8, ?_⟩
      simp only [Gh.part, List.getElem?_eq_getElem hk]
      simpa [out, hk, List.getD_eq_getElem?_getD] using h9
  | _, _, .ref r b o hb, x, e, c, hρ => by
    cases x <;> simp [PV.ren] at e
    rename_i r' o'
    obtain ⟨rfl, rfl⟩ := e
    have hr : r' < ρ.length := by simpa [PV.clean] using c
    refine .ref r' b o ?_
    simp only [out, hr, if_true, List.getD_eq_getElem?_getD, List.getElem?_eq_getElem hr, Option.getD_some] at hb
    simp [Gh.part, List.getElem?_map, List.getElem?_eq_getElem hr, hb]
  | _, _, .elem y b o vs h1 h2 h3, x, e, c, hρ => by
    have IH := fun zs e c => Reps.part' (st := st) (w := w) (ρ := ρ) (κ := κ) (n := n) (m := m) h2 zs e c hρ
    cases x <;> simp [PV.ren] at e
    rename_i x'
    subst e
    rw [PV.ren_cells] at h1
    refine .elem x' b o vs ?_ (IH _ (PV.ren_cells x') (by rw [PV.clean_cells]; simpa [PV.clean] using c)) h3
    intro y hy
    have := h1 (PV.ren _ _ y) (by rw [PVs.ren_map]; exact List.mem_map_of_mem hy)
    rwa [PV.ren_isCell] at this
  | _, _, .agg cs vs h1 h2, x, e, c, hρ => by
    have IH := fun zs e c => Reps.part' (st := st) (w := w) (ρ := ρ) (κ := κ) (n := n) (m := m) h2 zs e c hρ
    cases x <;> simp [PV.ren] at e
    rename_i cs'
    subst e
    refine .agg cs' vs ?_ (IH _ rfl (by simpa [PV.clean] using c))
    intro y hy
    have := h1 (PV.ren _ _ y) (by rw [PVs.ren_map]; exact List.mem_map_of_mem hy)
    rwa [PV.ren_isCell] at this
  | _, _, .tup cs vs h2, x, e, c, hρ => by
    have IH := fun zs e c => Reps.part' (st := st) (w := w) (ρ := ρ) (κ := κ) (n := n) (m := m) h2 zs e c hρ
    cases x <;> simp [PV.ren] at e
    subst e
    exact .tup _ vs (IH _ rfl (by simpa [PV.clean] using c))
  | _, _, .clo fn fs cs us vs h1 h2, x, e, c, hρ => by
    have IH1 := fun zs e c => Reps.part' (st := st) (w := w) (ρ := ρ) (κ := κ) (n := n) (m := m) h1 zs e c hρ
    have IH2 := fun zs e c => Reps.part' (st := st) (w := w) (ρ := ρ) (κ := κ) (n := n) (m := m) h2 zs e c hρ
    cases x <;> simp [PV.ren] at e
    obtain ⟨rfl, rfl, rfl⟩ := e
    simp only [PV.clean, Bool.and_eq_true] at c
    exact .clo _ _ _ us vs (IH1 _ rfl c.1) (IH2 _ rfl c.2)
theorem Reps.part' {G : Gh} {st : St} {w : World} {ρ κ : List Nat} {n m : Nat} : ∀ {ys : List PV} {vs : List Value}, Reps G ys vs → ∀ xs, ys = PVs.ren (out ρ n) (out κ m) xs → PVs.clean ρ.length κ.length xs = true → (∀ r ∈ ρ, r < G.ref.length) → Reps (G.part st w ρ κ) xs vs
  | _, _, .nil, xs, e, c, hρ => by cases xs <;> simp [PVs.ren] at e; exact .nil
  | _, _, .cons y v ys vs h1 h2, xs, e, c, hρ => by
    have IH1 := fun z e c => Rep.part' (st := st) (w := w) (ρ := ρ) (κ := κ) (n := n) (m := m) h1 z e c hρ
    have IH2 := fun zs e c => Reps.part' (st := st) (w := w) (ρ := ρ) (κ := κ) (n := n) (m := m) h2 zs e c hρ
    cases xs <;> simp [PVs.ren] at e
    obtain ⟨rfl, rfl⟩ := e
    simp only [PVs.clean, Bool.and_eq_true] at c
    exact .cons _ _ _ _ (IH1 _ rfl c.1) (IH2 _ rfl c.2)
end
theorem Reps.part {G : Gh} {st : St} {w : World} {ρ κ : List Nat} {n m : Nat} (hρ : ∀ r ∈ ρ, r < G.ref.length) {xs : List PV} {vs : List Value} (c : PVs.clean ρ.length κ.length xs = true) (h : Reps G (PVs.ren (out ρ n) (out κ m) xs) vs) : Reps (G.part st w ρ κ) xs vs :=
  Reps.part' h xs rfl c hρ
mutual
/-- The way back. -/
theorem Rep.back {G G' : Gh} {f g : Nat → Nat} (hd : G'.dat = G.dat) (hr : ∀ (r b : Nat), G.ref[r]? = some b → G'.ref[f r]? = some b) (hh : ∀ k i x, G.hist k i = some x → G'.hist (g k) i = some x) : ∀ {x : PV} {v : Value}, Rep G x v → Rep G' (PV.ren f g x) v
  | _, _, .int k n => .int k n
  | _, _, .bool b => .bool b
  | _, _, .str l => .str l
  | _, _, .none sz t => .none sz _
  | _, _, .list sz xs t b o c vs ht hc hs h1 hv hp hk => by
    rw [PV.ren]
    have := Rep.list (G := G') sz (PVs.ren f g xs) (t.ren g) b o c vs (by cases t <;> simp_all [Tk.ren]) (by rw [PVs.ren_length]; exact hc)
      (by
        intro y hy
        rw [PVs.ren_map] at hy
        obtain ⟨z, hz, rfl⟩ := List.mem_map.1 hy
        rw [PV.ren_cells, PVs.ren_length]
        exact hs z hz)
      (by
        rw [PVs.ren_cellsOf]
        intro y hy
        rw [PVs.ren_map] at hy
        obtain ⟨z, hz, rfl⟩ := List.mem_map.1 hy
        rw [PV.ren_isCell]
        exact h1 z hz)
      (by rw [PVs.ren_cellsOf]; exact Reps.back hd hr hh hv) (by rw [hd]; exact hp)
      (by
        intro k e
        cases t with
        | own k' =>
          injection e with e
          subst e
          rw [PVs.ren_length]
          exact ⟨(hk k' rfl).1, hh _ _ _ (hk k' rfl).2⟩
        | nil => cases e
        | no => cases e)
    rw [PVs.ren_length] at this
    exact this
  | _, _, .ref r b off h => .ref _ b off (hr r b h)
  | _, _, .elem x b o vs h1 hv hp => by
    rw [PV.ren]
    refine .elem _ b o vs ?_ (by rw [PV.ren_cells]; exact Reps.back hd hr hh hv) (by rw [hd]; exact hp)
    rw [PV.ren_cells]
    intro y hy
    rw [PVs.ren_map] at hy
    obtain ⟨z, hz, rfl⟩ := List.mem_map.1 hy
    rw [PV.ren_isCell]
    exact h1 z hz
  | _, _, .agg cs vs h1 hv => by
    rw [PV.ren]
    refine .agg _ vs ?_ (Reps.back hd hr hh hv)
    intro y hy
    rw [PVs.ren_map] at hy
    obtain ⟨z, hz, rfl⟩ := List.mem_map.1 hy
    rw [PV.ren_isCell]
    exact h1 z hz
  | _, _, .tup cs vs hv => .tup _ vs (Reps.back hd hr hh hv)
  | _, _, .clo fn fs cs us vs hu hv => .clo fn _ _ us vs (Reps.back hd hr hh hu) (Reps.back hd hr hh hv)
  | _, _, .val v => .val v
theorem Reps.back {G G' : Gh} {f g : Nat → Nat} (hd : G'.dat = G.dat) (hr : ∀ (r b : Nat), G.ref[r]? = some b → G'.ref[f r]? = some b) (hh : ∀ k i x, G.hist k i = some x → G'.hist (g k) i = some x) : ∀ {xs : List PV} {vs : List Value}, Reps G xs vs → Reps G' (PVs.ren f g xs) vs
  | _, _, .nil => .nil
  | _, _, .cons x v xs vs h t => .cons _ v _ vs (Rep.back hd hr hh h) (Reps.back hd hr hh t)
end

def setAll {α : Type} : List Nat → List α → List α → List α
  | r :: ρ, old, x :: new => setAll ρ (old.set r x) new
  | _, old, _ => old
def mergeL {α : Type} (ρ : List Nat) (old new : List α) : List α := setAll ρ old new ++ new.drop ρ.length
theorem setAll_length {α : Type} : ∀ (ρ : List Nat) (old new : List α), (setAll ρ old new).length = old.length
  | [], old, new => by simp [setAll]
  | r :: ρ, old, [] => by simp [setAll]
  | r :: ρ, old, x :: new => by rw [setAll, setAll_length]; simp
theorem setAll_other {α : Type} : ∀ (ρ : List Nat) (old new : List α) (k : Nat), k ∉ ρ → (setAll ρ old new)[k]? = old[k]?
  | [], old, new, k, _ => by simp [setAll]
  | r :: ρ, old, [], k, _ => by simp [setAll]
  | r :: ρ, old, x :: new, k, h => by
    simp only [List.mem_cons, not_or] at h
    rw [setAll, setAll_other ρ _ new k h.2, List.getElem?_set, if_neg (Ne.symm h.1)]
theorem setAll_at {α : Type} : ∀ (ρ : List Nat) (old new : List α) (i r : Nat) (x : α), ρ.Nodup → ρ[i]? = some r → new[i]? = some x → r < old.length → (setAll ρ old new)[r]? = some x
  | [], old, new, i, r, x, _, h, _, _ => by simp at h
  | q :: ρ, old, [], i, r, x, _, _, h, _ => by simp at h
  | q :: ρ, old, y :: new, 0, r, x, hn, h1, h2, h3 => by
    simp at h1 h2
    subst h1 h2
    rw [setAll, setAll_other ρ _ new q (List.nodup_cons.1 hn).1]
    simp [List.getElem?_set, h3]
  | q :: ρ, old, y :: new, i + 1, r, x, hn, h1, h2, h3 => by
    rw [setAll]
    exact setAll_at ρ _ new i r x (List.nodup_cons.1 hn).2 (by simpa using h1) (by simpa using h2) (by simpa using h3)
section
variable {α : Type} {ρ : List Nat} {old new : List α}
theorem mergeL_length (h : ρ.length ≤ new.length) : (mergeL ρ old new).length = old.length + (new.length - ρ.length) := by simp [mergeL, setAll_length]
theorem mergeL_at {i r : Nat} {x : α} (hn : ρ.Nodup) (h1 : ρ[i]? = some r) (h2 : new[i]? = some x) (h3 : r < old.length) : (mergeL ρ old new)[r]? = some x := by
  rw [mergeL, List.getElem?_append_left (by rw [setAll_length]; exact h3)]
  exact setAll_at ρ old new i r x hn h1 h2 h3
theorem mergeL_other {k : Nat} (h : k ∉ ρ) (hk : k < old.length) : (mergeL ρ old new)[k]? = old[k]? := by
  rw [mergeL, List.getElem?_append_left (by rw [setAll_length]; exact hk), setAll_other ρ old new k h]
theorem mergeL_new {k : Nat} (hk : old.length ≤ k) : (mergeL ρ old new)[k]? = new[ρ.length + (k - old.length)]? := by
  rw [mergeL, List.getElem?_append_right (by rw [setAll_length]; exact hk), setAll_length, List.getElem?_drop]
end
theorem idx_mem {κ : List Nat} {k : Nat} (h : k ∈ κ) : ∃ j : Nat, κ[j]? = some k := List.mem_iff_getElem?.1 h

/-- What the outside is after the call. -/
def Gh.outer (G G0 : Gh) (st : St) (ρ κ : List Nat) : Gh where
  w0 := G.w0
  pub := G.pub
  pob := G.pob
  dat := G0.dat
  ref := G.ref ++ G0.ref.drop ρ.length
  hist := fun k i => match κ.idxOf? k with
    | some j => G0.hist j i
    | none => if k < st.len.length then G.hist k i else G0.hist (κ.length + (k - st.len.length)) i
def merge (ρ κ : List Nat) (st st0 : St) : St :=
  ⟨mergeL ρ st.box (st0.box.map (PVs.ren (out ρ st.box.length) (out κ st.len.length))), mergeL κ st.len st0.len⟩

theorem idxOf_some {κ : List Nat} (hn : κ.Nodup) {j k : Nat} (h : κ[j]? = some k) : κ.idxOf? k = some j := by
  cases hi : κ.idxOf? k with
  | none =>
    rw [List.idxOf?_eq_none_iff] at hi
    exact absurd (List.mem_of_getElem? h) hi
  | some i =>
    have h2 : κ[i]? = some k := by
      have := List.of_findIdx?_eq_some (p := (· == k)) hi
      split at this
      · rename_i a ha
        simp at this
        rw [ha, this]
      · cases this
    rw [nodup_inj hn h2 h]
theorem idxOf_none {κ : List Nat} {k : Nat} (h : k ∉ κ) : κ.idxOf? k = none := List.idxOf?_eq_none_iff.2 h

theorem PC.frame {P : Program} {f : FuncId} {args0 : List PV} {st0 : St} {R : PV → St → Prop} (h : PC P f args0 st0 R) (ρ κ : List Nat) (st : St) (hρl : ρ.length = st0.box.length) (hκl : κ.length = st0.len.length) (hρn : ρ.Nodup) (hκn : κ.Nodup)
    (hbox : ∀ (i : Nat) cs, st0.box[i]? = some cs → ∃ r, ρ[i]? = some r ∧ st.box[r]? = some (PVs.ren (out ρ st.box.length) (out κ st.len.length) cs))
    (hlen : ∀ (j n : Nat), st0.len[j]? = some n → ∃ k, κ[j]? = some k ∧ st.len[k]? = some n)
    (hca : PVs.clean ρ.length κ.length args0 = true) (hcb : ∀ cs ∈ st0.box, PVs.clean ρ.length κ.length cs = true) :
    PC P f (PVs.ren (out ρ st.box.length) (out κ st.len.length) args0) st fun r st' => ∃ r0 st1, R r0 st1 ∧ st0.box.length ≤ st1.box.length ∧ st0.len.length ≤ st1.len.length ∧ r = PV.ren (out ρ st.box.length) (out κ st.len.length) r0 ∧ st' = merge ρ κ st st1 := by
  refine fun G w vs hi hv => ?_
  have hρlt : ∀ r ∈ ρ, r < G.ref.length := by
    intro r hr
    obtain ⟨i, hir⟩ := idx_mem hr
    have hil : i < st0.box.length := by rw [← hρl]; exact (List.getElem?_eq_some_iff.1 hir).1
    obtain ⟨r', h1, h2⟩ := hbox i _ (List.getElem?_eq_getElem hil)
    rw [hir] at h1
    injection h1 with h1
    subst h1
    rw [hi.rlen]
    exact (List.getElem?_eq_some_iff.1 h2).1
  have hκlt : ∀ k ∈ κ, k < st.len.length := by
    intro k hk
    obtain ⟨j, hj⟩ := idx_mem hk
    have hjl : j < st0.len.length := by rw [← hκl]; exact (List.getElem?_eq_some_iff.1 hj).1
    obtain ⟨k', h1, h2⟩ := hlen j _ (List.getElem?_eq_getElem hjl)
    rw [hj] at h1
    injection h1 with h1
    subst h1
    exact (List.getElem?_eq_some_iff.1 h2).1
  have hpref : ∀ (i b : Nat), (G.part st w ρ κ).ref[i]? = some b ↔ ∃ r, ρ[i]? = some r ∧ G.ref[r]? = some b := by
    intro i b
    simp only [Gh.part, List.getElem?_map]
    constructor
    · intro e
      cases hr : ρ[i]? with
      | none => rw [hr] at e; cases e
      | some r =>
        rw [hr] at e
        have hlt := hρlt r (List.mem_of_getElem? hr)
        simp [List.getD_eq_getElem?_getD, List.getElem?_eq_getElem hlt] at e
        exact ⟨r, rfl, by rw [List.getElem?_eq_getElem hlt, e]⟩
    · rintro ⟨r, h1, h2⟩
      simp [h1, List.getD_eq_getElem?_getD, h2]
  have hlen' : ∀ (j k : Nat), κ[j]? = some k → ∃ n, st0.len[j]? = some n ∧ st.len[k]? = some n := by
    intro j k e
    have hjl : j < st0.len.length := by rw [← hκl]; exact (List.getElem?_eq_some_iff.1 e).1
    obtain ⟨k', h1, h2⟩ := hlen j _ (List.getElem?_eq_getElem hjl)
    rw [e] at h1
    injection h1 with h1
    subst h1
    exact ⟨_, List.getElem?_eq_getElem hjl, h2⟩
  -- what the call knows
  have hi0 : Inv (G.part st w ρ κ) st0 w := by
    have hlaid : Laid (G.part st w ρ κ).w0 (G.part st w ρ κ).pub (G.part st w ρ κ).pob := by
      refine ⟨Nat.le_trans hi.laid.size hi.kept.size, ?_, ?_, hi.tab⟩
      · rintro b hb ⟨i, r, _, h2⟩
        rcases (hi.box r b h2).1 with h3 | h3
        · exact hi.laid.pub b hb h3
        · have := hi.laid.size; omega
      · rintro b hb ⟨j, k, n, c, sz, _, h2, h3⟩
        rcases (hi.own k n h2 b c sz h3).1 with h4 | h4
        · exact hi.laid.pob b hb h4
        · have := hi.laid.size; omega
    refine ⟨⟨rfl, rfl, rfl, Nat.le_refl _, fun _ _ _ _ => rfl⟩, hi.dat, by simp [Gh.part, hρl], ?_, ?_, ?_, ?_, ?_, hlaid⟩
    · intro i b e
      obtain ⟨r, h1, h2⟩ := (hpref i b).1 e
      obtain ⟨h3, h4, cs, us, h5, h6, h7, h8⟩ := hi.box r b h2
      have hil : i < st0.box.length := by rw [← hρl]; exact (List.getElem?_eq_some_iff.1 h1).1
      obtain ⟨r', e1, e2⟩ := hbox i _ (List.getElem?_eq_getElem hil)
      rw [h1] at e1
      injection e1 with e1
      subst e1
      rw [h5] at e2
      injection e2 with e2
      subst e2
      refine ⟨.inl ⟨i, r, h1, h2⟩, h4, st0.box[i], us, List.getElem?_eq_getElem hil, h6, Reps.part hρlt (hcb _ (List.getElem_mem hil)) h7, ?_⟩
      intro x hx
      have := h8 (PV.ren _ _ x) (by rw [PVs.ren_map]; exact List.mem_map_of_mem hx)
      rwa [PV.ren_isCell] at this
    · show List.Pairwise (· ≠ ·) (G.part st w ρ κ).ref
      rw [List.pairwise_iff_getElem]
      intro i j hil hjl hij e
      have h1 := (hpref i _).1 (List.getElem?_eq_getElem hil)
      have h2 := (hpref j _).1 (List.getElem?_eq_getElem hjl)
      obtain ⟨r, h3, h4⟩ := h1
      obtain ⟨r', h5, h6⟩ := h2
      rw [e] at h4
      have := nodup_inj hi.inj h4 h6
      subst this
      have := nodup_inj hρn h3 h5
      omega
    · intro j n e b c sz e2
      simp only [Gh.part] at e2
      split at e2
      · rename_i k hk
        obtain ⟨n', h1, h2⟩ := hlen' j k hk
        rw [e] at h1
        injection h1 with h1
        subst h1
        obtain ⟨h3, h4, h5⟩ := hi.own k n h2 b c sz e2
        refine ⟨.inl ⟨j, k, n, c, sz, hk, h2, e2⟩, ?_, h5⟩
        intro hm
        obtain ⟨i, hi2⟩ := idx_mem hm
        obtain ⟨r, _, h7⟩ := (hpref i b).1 hi2
        exact h4 (List.mem_of_getElem? h7)
      · cases e2
    · intro j j' n n' b c sz c' sz' e e' e2 e2'
      simp only [Gh.part] at e2 e2'
      split at e2
      · rename_i k hk
        split at e2'
        · rename_i k' hk'
          obtain ⟨m, h1, h2⟩ := hlen' j k hk
          rw [e] at h1
          injection h1 with h1
          subst h1
          obtain ⟨m', h1', h2'⟩ := hlen' j' k' hk'
          rw [e'] at h1'
          injection h1' with h1'
          subst h1'
          have := hi.apart k k' n n' b c sz c' sz' h2 h2' e2 e2'
          subst this
          exact nodup_inj hκn hk hk'
        · cases e2'
      · cases e2
    · intro j n e
      simp only [Gh.part]
      split
      · rename_i k hk
        obtain ⟨m, h1, h2⟩ := hlen' j k hk
        exact hi.fresh k n fun q hq => by rw [h2] at hq; injection hq with hq; subst hq; exact e _ h1
      · rfl
  refine (h _ w vs hi0 (Reps.part hρlt hca hv)).mono ?_
  rintro v w' ⟨G0', r0, st1, hle0, hi1, hr0, hR, hlen1⟩
  have hbl1 : st0.box.length ≤ st1.box.length := by
    have h1 := hi1.rlen
    have h2 := hi0.rlen
    have h3 := hle0.ref.length_le
    omega
  have hρ1 : ρ.length ≤ (st1.box.map (PVs.ren (out ρ st.box.length) (out κ st.len.length))).length := by simp; omega
  have hκ1 : κ.length ≤ st1.len.length := by omega
  -- names outside
  have hκi : ∀ (j k : Nat), κ[j]? = some k → κ.idxOf? k = some j := fun j k e => idxOf_some hκn e
  have hhistκ : ∀ (j k i : Nat), κ[j]? = some k → (G.outer G0' st ρ κ).hist k i = G0'.hist j i := by
    intro j k i e
    simp only [Gh.outer, hκi j k e]
  have hhistO : ∀ (k i : Nat), k ∉ κ → k < st.len.length → (G.outer G0' st ρ κ).hist k i = G.hist k i := by
    intro k i hk hl
    simp only [Gh.outer, idxOf_none hk, if_pos hl]
  have hhistN : ∀ (k i : Nat), st.len.length ≤ k → (G.outer G0' st ρ κ).hist k i = G0'.hist (κ.length + (k - st.len.length)) i := by
    intro k i hl
    have hk : k ∉ κ := fun hm => by have := hκlt k hm; omega
    simp only [Gh.outer, idxOf_none hk]
    rw [if_neg (by omega)]
  have hrefOut : ∀ (r b : Nat), G0'.ref[r]? = some b → (G.outer G0' st ρ κ).ref[out ρ st.box.length r]? = some b := by
    intro r b e
    show (G.ref ++ G0'.ref.drop ρ.length)[_]? = _
    by_cases hr : r < ρ.length
    · have hr' : r < (G.part st w ρ κ).ref.length := by simpa [Gh.part] using hr
      have e2 : (G.part st w ρ κ).ref[r]? = some b := by
        rw [List.getElem?_eq_getElem hr']
        have := prefix_get hle0.ref (List.getElem?_eq_getElem hr')
        rw [e] at this
        exact this.symm
      obtain ⟨q, h1, h2⟩ := (hpref r b).1 e2
      have hq : out ρ st.box.length r = q := by simp only [out, hr, if_true, List.getD_eq_getElem?_getD, h1, Option.getD_some]
      rw [hq, List.getElem?_append_left (hρlt q (List.mem_of_getElem? h1))]
      exact h2
    · have ho : out ρ st.box.length r = st.box.length + (r - ρ.length) := by simp [out, hr]
      rw [ho, List.getElem?_append_right (by rw [hi.rlen]; omega), List.getElem?_drop, ← e]
      congr 1
      rw [hi.rlen]
      omega
  have hhistOut : ∀ (k i : Nat) x, G0'.hist k i = some x → (G.outer G0' st ρ κ).hist (out κ st.len.length k) i = some x := by
    intro k i x e
    by_cases hk : k < κ.length
    · have ho : out κ st.len.length k = κ[k] := by simp [out, hk, List.getD_eq_getElem?_getD]
      rw [ho, hhistκ k κ[k] i (List.getElem?_eq_getElem hk)]
      exact e
    · have ho : out κ st.len.length k = st.len.length + (k - κ.length) := by simp [out, hk]
      rw [ho, hhistN _ _ (by omega), ← e]
      congr 1
      omega
  have hback : ∀ {x : PV} {u : Value}, Rep G0' x u → Rep (G.outer G0' st ρ κ) (PV.ren (out ρ st.box.length) (out κ st.len.length) x) u := fun h => Rep.back (G := G0') (G' := G.outer G0' st ρ κ) rfl hrefOut hhistOut h
  have hbacks : ∀ {xs : List PV} {us : List Value}, Reps G0' xs us → Reps (G.outer G0' st ρ κ) (PVs.ren (out ρ st.box.length) (out κ st.len.length) xs) us := fun h => Reps.back (G := G0') (G' := G.outer G0' st ρ κ) rfl hrefOut hhistOut h
  -- what may have been written
  have hpub : ∀ b, (G.part st w ρ κ).pub b → b < w.heap.size ∧ (G.pub b ∨ G.w0.heap.size ≤ b) := by
    rintro b ⟨i, r, h1, h2⟩
    exact ⟨hi.ref_lt h2, (hi.box r b h2).1⟩
  have hpob : ∀ b, (G.part st w ρ κ).pob b → b < w.heap.size ∧ (G.pob b ∨ G.w0.heap.size ≤ b) ∧ b ∉ G.ref := by
    rintro b ⟨j, k, n, c, sz, h1, h2, h3⟩
    obtain ⟨h4, h5, _, us, h6, _⟩ := hi.own k n h2 b c sz h3
    exact ⟨row_lt h6, h4, h5⟩
  have hsame : ∀ b, b < w.heap.size → ¬ (G.part st w ρ κ).pub b → ¬ (G.part st w ρ κ).pob b → w'.heap[b]? = w.heap[b]? ∧ G0'.dat b = G.dat b := by
    intro b hb h1 h2
    have hw0 : G0'.w0 = w := hle0.w0
    refine ⟨?_, hle0.old b hb h1 h2⟩
    have := hi1.kept.block b (by rw [hw0]; exact hb) (by rw [hle0.pub]; exact h1) (by rw [hle0.pob]; exact h2)
    rw [hw0] at this
    exact this
  have hk1 : Kept w (G.part st w ρ κ).pub (G.part st w ρ κ).pob w' := by
    have := hi1.kept
    rw [hle0.w0, hle0.pub, hle0.pob] at this
    exact this
  have hle : G.le (G.outer G0' st ρ κ) := by
    refine ⟨rfl, rfl, rfl, hle0.dat, ?_, List.prefix_append _ _, ?_⟩
    · intro b hb h1 h2
      have hbw : b < w.heap.size := Nat.lt_of_lt_of_le hb hi.kept.size
      refine (hsame b hbw ?_ ?_).2
      · intro hp
        rcases (hpub b hp).2 with h | h
        · exact h1 h
        · exact absurd hb (by omega)
      · intro hp
        rcases (hpob b hp).2.1 with h | h
        · exact h2 h
        · exact absurd hb (by omega)
    · intro k n x e
      have hkl : k < st.len.length := by
        rcases Nat.lt_or_ge k st.len.length with h | h
        · exact h
        · rw [hi.fresh k n fun q hq => by rw [List.getElem?_eq_none h] at hq; cases hq] at e
          cases e
      by_cases hk : k ∈ κ
      · obtain ⟨j, hj⟩ := idx_mem hk
        rw [hhistκ j k n hj]
        refine hle0.hist j n x ?_
        simp only [Gh.part, hj]
        exact e
      · rw [hhistO k n hk hkl]
        exact e
  -- variables new inside are new outside
  have hnew : ∀ (i b : Nat), ρ.length ≤ i → G0'.ref[i]? = some b → w.heap.size ≤ b := by
    intro i b hil e
    obtain ⟨h1, _⟩ := hi1.box i b e
    rw [hle0.w0, hle0.pub] at h1
    rcases h1 with ⟨i', r, h2, h3⟩ | h1
    · have e2 := prefix_get hle0.ref ((hpref i' b).2 ⟨r, h2, h3⟩)
      have := nodup_inj hi1.inj e e2
      have := (List.getElem?_eq_some_iff.1 h2).1
      omega
    · exact h1
  have hrefA : ∀ (i r b : Nat), ρ[i]? = some r → G.ref[r]? = some b → G0'.ref[i]? = some b := fun i r b h1 h2 => prefix_get hle0.ref ((hpref i b).2 ⟨r, h1, h2⟩)
  have hdrop : ∀ b, b ∈ G0'.ref.drop ρ.length → ∃ i : Nat, ρ.length ≤ i ∧ G0'.ref[i]? = some b := by
    intro b hb
    obtain ⟨i, e⟩ := idx_mem hb
    rw [List.getElem?_drop] at e
    exact ⟨_, Nat.le_add_right _ _, e⟩
  have hrefnot : ∀ b, b < w.heap.size → b ∉ G.ref → b ∉ (G.outer G0' st ρ κ).ref := by
    intro b hb h1 hm
    rcases List.mem_append.1 hm with hm | hm
    · exact h1 hm
    · obtain ⟨i, h2, h3⟩ := hdrop b hm
      have := hnew i b h2 h3
      omega
  -- an object of the call's
  have hownIn : ∀ (j n b c sz : Nat), st1.len[j]? = some n → G0'.hist j n = some (b, c, sz) → (G.pob b ∨ G.w0.heap.size ≤ b) ∧ b ∉ (G.outer G0' st ρ κ).ref ∧ (G0'.dat b).length = n * sz ∧ ∃ us, World.row w' b us ∧ us.length = c * sz ∧ c ≤ maxLen := by
    intro j n b c sz e e2
    obtain ⟨h1, h2, h3⟩ := hi1.own j n e b c sz e2
    rw [hle0.w0, hle0.pob] at h1
    have h4 : (G.pob b ∨ G.w0.heap.size ≤ b) ∧ b ∉ G.ref := by
      rcases h1 with h1 | h1
      · exact ⟨(hpob b h1).2.1, (hpob b h1).2.2⟩
      · have h1' : w.heap.size ≤ b := h1
        refine ⟨.inr (Nat.le_trans hi.kept.size h1), fun hm => ?_⟩
        obtain ⟨r, hr⟩ := idx_mem hm
        have := hi.ref_lt hr
        omega
    refine ⟨h4.1, fun hm => ?_, h3⟩
    rcases List.mem_append.1 hm with hm | hm
    · exact h4.2 hm
    · exact h2 (List.mem_of_mem_drop hm)
  -- an object that the call does not know
  have hownOut : ∀ (k n b c sz : Nat), k ∉ κ → st.len[k]? = some n → G.hist k n = some (b, c, sz) → b < w.heap.size ∧ ¬ (G.part st w ρ κ).pub b ∧ ¬ (G.part st w ρ κ).pob b := by
    intro k n b c sz hk e e2
    obtain ⟨h1, h2, _, us, h3, _⟩ := hi.own k n e b c sz e2
    refine ⟨row_lt h3, ?_, ?_⟩
    · rintro ⟨i, r, _, h5⟩
      exact h2 (List.mem_of_getElem? h5)
    · rintro ⟨j, k', n', c', sz', h4, h5, h6⟩
      have := hi.apart k k' n n' b c sz c' sz' e h5 e2 h6
      subst this
      exact hk (List.mem_of_getElem? h4)
  -- the lengths, told apart
  have hlenO : ∀ (k n : Nat), (merge ρ κ st st1).len[k]? = some n → (∃ j : Nat, κ[j]? = some k ∧ st1.len[j]? = some n) ∨ (k ∉ κ ∧ k < st.len.length ∧ st.len[k]? = some n) ∨ (st.len.length ≤ k ∧ st1.len[κ.length + (k - st.len.length)]? = some n) := by
    intro k n e
    rcases Nat.lt_or_ge k st.len.length with hkl | hkl
    · by_cases hk : k ∈ κ
      · obtain ⟨j, hj⟩ := idx_mem hk
        have hj1 : j < st1.len.length := Nat.lt_of_lt_of_le (List.getElem?_eq_some_iff.1 hj).1 hκ1
        have := mergeL_at (old := st.len) hκn hj (List.getElem?_eq_getElem hj1) hkl
        have e' : (mergeL κ st.len st1.len)[k]? = some n := e
        rw [this] at e'
        injection e' with e'
        exact .inl ⟨j, hj, by rw [List.getElem?_eq_getElem hj1, e']⟩
      · have e' : (mergeL κ st.len st1.len)[k]? = some n := e
        rw [mergeL_other hk hkl] at e'
        exact .inr (.inl ⟨hk, hkl, e'⟩)
    · have e' : (mergeL κ st.len st1.len)[k]? = some n := e
      rw [mergeL_new hkl] at e'
      exact .inr (.inr ⟨hkl, e'⟩)
  have hinv : Inv (G.outer G0' st ρ κ) (merge ρ κ st st1) w' := by
    refine ⟨⟨hk1.os.trans hi.kept.os, hk1.tape.trans hi.kept.tape, hk1.output.trans hi.kept.output, Nat.le_trans hi.kept.size hk1.size, ?_⟩, hi1.dat, ?_, ?_, ?_, ?_, ?_, ?_, hi.laid⟩
    · intro b hb h1 h2
      have hb' : b < G.w0.heap.size := hb
      have hbw : b < w.heap.size := Nat.lt_of_lt_of_le hb hi.kept.size
      have := (hsame b hbw (fun hp => by
        rcases (hpub b hp).2 with h | h
        · exact h1 h
        · omega) (fun hp => by
        rcases (hpob b hp).2.1 with h | h
        · exact h2 h
        · omega)).1
      rw [this]
      exact hi.kept.block b hb h1 h2
    · show (G.ref ++ G0'.ref.drop ρ.length).length = (mergeL ρ st.box _).length
      rw [mergeL_length hρ1, List.length_append, List.length_drop, hi.rlen, hi1.rlen]
      simp
    · intro r b e
      rcases Nat.lt_or_ge r G.ref.length with hr | hr
      · have e' : G.ref[r]? = some b := by
          have e'' : (G.ref ++ G0'.ref.drop ρ.length)[r]? = some b := e
          rwa [List.getElem?_append_left hr] at e''
        have hbw := hi.ref_lt e'
        by_cases hrm : r ∈ ρ
        · obtain ⟨i, hir⟩ := idx_mem hrm
          obtain ⟨_, h2, cs, us, h3, h4, h5, h6⟩ := hi1.box i b (hrefA i r b hir e')
          refine ⟨(hi.box r b e').1, h2, PVs.ren _ _ cs, us, ?_, h4, hbacks h5, ?_⟩
          · exact mergeL_at hρn hir (by rw [List.getElem?_map, h3]; rfl) (by rw [← hi.rlen]; exact hr)
          · intro x hx
            rw [PVs.ren_map] at hx
            obtain ⟨z, hz, rfl⟩ := List.mem_map.1 hx
            rw [PV.ren_isCell]
            exact h6 z hz
        · obtain ⟨h1, h2, cs, us, h3, ⟨T, h4⟩, h5, h6⟩ := hi.box r b e'
          have hs := hsame b hbw (by
            rintro ⟨i, r', h7, h8⟩
            have := nodup_inj hi.inj h8 e'
            subst this
            exact hrm (List.mem_of_getElem? h7)) (fun hp => (hpob b hp).2.2 (List.mem_of_getElem? e'))
          refine ⟨h1, by show G0'.dat b = []; rw [hs.2]; exact h2, cs, us, ?_, ⟨T, by rw [hs.1]; exact h4⟩, h5.mono hle, h6⟩
          show (mergeL ρ st.box _)[r]? = _
          rw [mergeL_other hrm (by rw [← hi.rlen]; exact hr)]
          exact h3
      · have e' : G0'.ref[ρ.length + (r - G.ref.length)]? = some b := by
          have e'' : (G.ref ++ G0'.ref.drop ρ.length)[r]? = some b := e
          rwa [List.getElem?_append_right hr, List.getElem?_drop] at e''
        obtain ⟨_, h2, cs, us, h3, h4, h5, h6⟩ := hi1.box _ b e'
        refine ⟨.inr (Nat.le_trans hi.kept.size (hnew _ b (by omega) e')), h2, PVs.ren _ _ cs, us, ?_, h4, hbacks h5, ?_⟩
        · show (mergeL ρ st.box _)[r]? = _
          rw [mergeL_new (by rw [← hi.rlen]; exact hr), ← hi.rlen, List.getElem?_map, h3]
          rfl
        · intro x hx
          rw [PVs.ren_map] at hx
          obtain ⟨z, hz, rfl⟩ := List.mem_map.1 hx
          rw [PV.ren_isCell]
          exact h6 z hz
    · show (G.ref ++ G0'.ref.drop ρ.length).Nodup
      rw [List.nodup_append]
      refine ⟨hi.inj, (List.drop_sublist _ _).nodup hi1.inj, ?_⟩
      rintro b hb b' hb' rfl
      obtain ⟨r, hr⟩ := idx_mem hb
      obtain ⟨i, h1, h2⟩ := hdrop b hb'
      have h3 := hi.ref_lt hr
      have h4 := hnew i b h1 h2
      omega
    · intro k n e b c sz e2
      rcases hlenO k n e with ⟨j, hj, e3⟩ | ⟨hk, hkl, e3⟩ | ⟨hkl, e3⟩
      · rw [hhistκ j k n hj] at e2
        exact hownIn j n b c sz e3 e2
      · rw [hhistO k n hk hkl] at e2
        obtain ⟨h1, h2, h3⟩ := hownOut k n b c sz hk e3 e2
        obtain ⟨h4, h5, h6, us, ⟨T, h7⟩, h8⟩ := hi.own k n e3 b c sz e2
        have hs := hsame b h1 h2 h3
        exact ⟨h4, hrefnot b h1 h5, by show (G0'.dat b).length = _; rw [hs.2]; exact h6, us, ⟨T, by rw [hs.1]; exact h7⟩, h8⟩
      · rw [hhistN k n hkl] at e2
        exact hownIn _ n b c sz e3 e2
    · have hcross : ∀ (k n b c sz j n' c' sz' : Nat), k ∉ κ → st.len[k]? = some n → G.hist k n = some (b, c, sz) → st1.len[j]? = some n' → G0'.hist j n' = some (b, c', sz') → False := by
        intro k n b c sz j n' c' sz' hk e e2 e3 e4
        obtain ⟨h1, h2, h3⟩ := hownOut k n b c sz hk e e2
        obtain ⟨h4, _⟩ := hi1.own j n' e3 b c' sz' e4
        rw [hle0.w0, hle0.pob] at h4
        rcases h4 with h4 | h4
        · exact h3 h4
        · have h4' : w.heap.size ≤ b := h4
          omega
      intro k k' n n' b c sz c' sz' e e' e2 e2'
      rcases hlenO k n e with ⟨j, hj, e3⟩ | ⟨hk, hkl, e3⟩ | ⟨hkl, e3⟩ <;> rcases hlenO k' n' e' with ⟨j', hj', e3'⟩ | ⟨hk', hkl', e3'⟩ | ⟨hkl', e3'⟩
      · rw [hhistκ j k n hj] at e2
        rw [hhistκ j' k' n' hj'] at e2'
        have := hi1.apart j j' n n' b c sz c' sz' e3 e3' e2 e2'
        subst this
        rw [hj] at hj'
        injection hj'
      · rw [hhistκ j k n hj] at e2
        rw [hhistO k' n' hk' hkl'] at e2'
        exact (hcross k' n' b c' sz' j n c sz hk' e3' e2' e3 e2).elim
      · rw [hhistκ j k n hj] at e2
        rw [hhistN k' n' hkl'] at e2'
        have := hi1.apart j _ n n' b c sz c' sz' e3 e3' e2 e2'
        have := (List.getElem?_eq_some_iff.1 hj).1
        omega
      · rw [hhistO k n hk hkl] at e2
        rw [hhistκ j' k' n' hj'] at e2'
        exact (hcross k n b c sz j' n' c' sz' hk e3 e2 e3' e2').elim
      · rw [hhistO k n hk hkl] at e2
        rw [hhistO k' n' hk' hkl'] at e2'
        exact hi.apart k k' n n' b c sz c' sz' e3 e3' e2 e2'
      · rw [hhistO k n hk hkl] at e2
        rw [hhistN k' n' hkl'] at e2'
        exact (hcross k n b c sz _ n' c' sz' hk e3 e2 e3' e2').elim
      · rw [hhistN k n hkl] at e2
        rw [hhistκ j' k' n' hj'] at e2'
        have := hi1.apart _ j' n n' b c sz c' sz' e3 e3' e2 e2'
        have := (List.getElem?_eq_some_iff.1 hj').1
        omega
      · rw [hhistN k n hkl] at e2
        rw [hhistO k' n' hk' hkl'] at e2'
        exact (hcross k' n' b c' sz' _ n c sz hk' e3' e2' e3 e2).elim
      · rw [hhistN k n hkl] at e2
        rw [hhistN k' n' hkl'] at e2'
        have := hi1.apart _ _ n n' b c sz c' sz' e3 e3' e2 e2'
        omega
    · intro k n e
      rcases Nat.lt_or_ge k st.len.length with hkl | hkl
      · by_cases hk : k ∈ κ
        · obtain ⟨j, hj⟩ := idx_mem hk
          rw [hhistκ j k n hj]
          refine hi1.fresh j n fun q hq => e q ?_
          exact mergeL_at hκn hj hq hkl
        · rw [hhistO k n hk hkl]
          refine hi.fresh k n fun q hq => e q ?_
          show (mergeL κ st.len st1.len)[k]? = _
          rw [mergeL_other hk hkl]
          exact hq
      · rw [hhistN k n hkl]
        refine hi1.fresh _ n fun q hq => e q ?_
        show (mergeL κ st.len st1.len)[k]? = _
        rw [mergeL_new hkl]
        exact hq
  refine ⟨_, _, _, hle, hinv, hback hr0, ⟨r0, st1, hR, hbl1, by omega, rfl, rfl⟩, ?_⟩
  show st.len.length ≤ (mergeL κ st.len st1.len).length
  rw [mergeL_length hκ1]
  omega
end Go.Proofs.YtpepmfhemjeocaaGreatDoor
end
section
/- How a contract is used at a call. -/
set_option linter.unusedVariables false
set_option linter.unusedSimpArgs false
namespace Go.Proofs.YtpepmfhemjeocaaGreatDoor

mutual
theorem PV.clean_data {n m : Nat} : ∀ {x : PV}, PV.clean 0 0 x = true → PV.clean n m x = true
  | .list sz xs t, h => by
    simp only [PV.clean, Bool.and_eq_true] at h ⊢
    refine ⟨?_, PVs.clean_data h.2⟩
    cases t <;> simp_all
  | .ref r o, h => by simp [PV.clean] at h
  | .elem x, h => by simp only [PV.clean] at h ⊢; exact PV.clean_data h
  | .agg cs, h => by simp only [PV.clean] at h ⊢; exact PVs.clean_data h
  | .tup cs, h => by simp only [PV.clean] at h ⊢; exact PVs.clean_data h
  | .clo fn fs cs, h => by
    simp only [PV.clean, Bool.and_eq_true] at h ⊢
    exact ⟨PVs.clean_data h.1, PVs.clean_data h.2⟩
  | .int k n, _ => rfl
  | .bool b, _ => rfl
  | .str l, _ => rfl
  | .val v, _ => rfl
theorem PVs.clean_data {n m : Nat} : ∀ {xs : List PV}, PVs.clean 0 0 xs = true → PVs.clean n m xs = true
  | [], _ => rfl
  | x :: xs, h => by
    simp only [PVs.clean, Bool.and_eq_true] at h ⊢
    exact ⟨PV.clean_data h.1, PVs.clean_data h.2⟩
end

section
variable {P : Program} {f : FuncId}
/-- The variables and objects that a call is told of, outside. -/
def BoxesAt (st : St) (ρ κ : Nat → Nat) : List Nat → List (List PV) → Prop
  | [], [] => True
  | r :: rs, cs :: css => st.box[r]? = some (PVs.ren ρ κ cs) ∧ BoxesAt st ρ κ rs css
  | _, _ => False
def LensAt (st : St) : List Nat → List Nat → Prop
  | [], [] => True
  | k :: ks, n :: ns => st.len[k]? = some n ∧ LensAt st ks ns
  | _, _ => False
theorem BoxesAt.len {st : St} {ρ κ : Nat → Nat} : ∀ {rs : List Nat} {css : List (List PV)}, BoxesAt st ρ κ rs css → rs.length = css.length
  | [], [], _ => rfl
  | _ :: _, _ :: _, h => by simp [BoxesAt.len h.2]
  | [], _ :: _, h => h.elim
  | _ :: _, [], h => h.elim
theorem BoxesAt.get {st : St} {ρ κ : Nat → Nat} : ∀ {rs : List Nat} {css : List (List PV)}, BoxesAt st ρ κ rs css → ∀ (i : Nat) cs, css[i]? = some cs → ∃ r, rs[i]? = some r ∧ st.box[r]? = some (PVs.ren ρ κ cs)
  | [], [], _, i, cs, e => by simp at e
  | r :: rs, c :: css, h, 0, cs, e => by simp at e; subst e; exact ⟨r, rfl, h.1⟩
  | r :: rs, c :: css, h, i + 1, cs, e => by
    obtain ⟨q, h1, h2⟩ := BoxesAt.get h.2 i cs (by simpa using e)
    exact ⟨q, by simpa using h1, h2⟩
  | [], _ :: _, h, _, _, _ => h.elim
  | _ :: _, [], h, _, _, _ => h.elim
theorem LensAt.len {st : St} : ∀ {ks ns : List Nat}, LensAt st ks ns → ks.length = ns.length
  | [], [], _ => rfl
  | _ :: _, _ :: _, h => by simp [LensAt.len h.2]
  | [], _ :: _, h => h.elim
  | _ :: _, [], h => h.elim
theorem LensAt.get {st : St} : ∀ {ks ns : List Nat}, LensAt st ks ns → ∀ (j n : Nat), ns[j]? = some n → ∃ k, ks[j]? = some k ∧ st.len[k]? = some n
  | [], [], _, j, n, e => by simp at e
  | k :: ks, m :: ns, h, 0, n, e => by simp at e; subst e; exact ⟨k, rfl, h.1⟩
  | k :: ks, m :: ns, h, j + 1, n, e => by
    obtain ⟨q, h1, h2⟩ := LensAt.get h.2 j n (by simpa using e)
    exact ⟨q, by simpa using h1, h2⟩
  | [], _ :: _, h, _, _, _ => h.elim
  | _ :: _, [], h, _, _, _ => h.elim
theorem nodup_of {xs : List Nat} (h : decide xs.Nodup = true) : xs.Nodup := of_decide_eq_true h
/-- A contract at a call: ρ, κ: where the contract's variables and objects lie here. -/
theorem PC.use {args0 args : List PV} {st0 st : St} {R K : PV → St → Prop} (h : PC P f args0 st0 R) (ρ κ : List Nat) (hρ : decide ρ.Nodup = true) (hκ : decide κ.Nodup = true)
    (hb : BoxesAt st (out ρ st.box.length) (out κ st.len.length) ρ st0.box) (hl : LensAt st κ st0.len)
    (ha : Weaks args (PVs.ren (out ρ st.box.length) (out κ st.len.length) args0)) (hca : PVs.clean ρ.length κ.length args0 = true) (hcb : ∀ cs ∈ st0.box, PVs.clean ρ.length κ.length cs = true)
    (hk : ∀ r0 st1, R r0 st1 → st0.box.length ≤ st1.box.length → st0.len.length ≤ st1.len.length → K (PV.ren (out ρ st.box.length) (out κ st.len.length) r0) (merge ρ κ st st1)) : PC P f args st K := by
  refine PC.weak ((PC.frame h ρ κ st hb.len hl.len (nodup_of hρ) (nodup_of hκ) hb.get hl.get hca hcb).mono ?_) ha
  rintro r st' ⟨r0, st1, h1, h2, h3, rfl, rfl⟩
  exact hk r0 st1 h1 h2 h3
/-- A function that makes a value of values. -/
def Pure (P : Program) (f : FuncId) (args : List PV) (x : PV) : Prop := PC P f args ⟨[], []⟩ fun r st' => r = x ∧ st' = ⟨[], []⟩
theorem Pure.use {args0 args : List PV} {x : PV} (h : Pure P f args0 x) {st : St} {K : PV → St → Prop} (ha : Weaks args args0) (hc : PVs.clean 0 0 args0 = true) (hx : PV.clean 0 0 x = true) (hk : K x st) : PC P f args st K := by
  refine PC.use h [] [] rfl rfl trivial trivial (by rw [PVs.ren_data hc]; exact ha) hc (by simp) ?_
  rintro r0 st1 ⟨rfl, rfl⟩ _ _
  rw [PV.ren_data hx]
  simpa [merge, mergeL, setAll] using hk
/-- A function that is told of one variable, of values alone. -/
def One (P : Program) (f : FuncId) (args : List PV) (cs : List PV) (R : PV → List PV → Prop) : Prop := PC P f args ⟨[cs], []⟩ fun r st' => ∃ cs', st' = ⟨[cs'], []⟩ ∧ R r cs' ∧ PV.clean 0 0 r = true ∧ PVs.clean 0 0 cs' = true
theorem One.use {ags args : List PV} {cs : List PV} {R : PV → List PV → Prop} (h : One P f (.ref 0 0 :: ags) cs R) {st : St} {K : PV → St → Prop} (r : Nat) (hb : st.box[r]? = some cs) (ha : Weaks args ags) (hca : PVs.clean 0 0 ags = true) (hcc : PVs.clean 0 0 cs = true)
    (hk : ∀ x cs', R x cs' → PV.clean 0 0 x = true → PVs.clean 0 0 cs' = true → K x { st with box := st.box.set r cs' }) : PC P f (.ref r 0 :: args) st K := by
  refine PC.use h [r] [] (by simp) rfl ⟨by rw [PVs.ren_data hcc]; exact hb, trivial⟩ trivial ?_ ?_ ?_ ?_
  · rw [PVs.ren, PVs.ren_data hca]
    exact .cons (by simp [PV.ren, out]) ha
  · simp only [PVs.clean, PV.clean, List.length_cons, List.length_nil, PVs.clean_data hca]
    rfl
  · intro cs' hc
    simp at hc
    subst hc
    exact PVs.clean_data hcc
  · rintro r0 st1 ⟨cs', rfl, h1, h2, h3⟩ _ _
    rw [PV.ren_data h2]
    have := hk r0 cs' h1 h2 h3
    simpa [merge, mergeL, setAll, PVs.ren_data h3] using this

theorem One.fin {tt : TTab} {rs : List ResultVar} {cs cs' : List PV} {rest : List (List PV)} {len : List Nat} {R : PV → List PV → Prop} {env : Env} {xs : List PV} {e : Exit} (he : e = .ret ∨ e = .normal) (hr : resAll tt env ⟨cs' :: rest, len⟩ rs = some xs) (hR : R (resPV xs) cs') (hx : PV.clean 0 0 (resPV xs) = true)
    (hc : PVs.clean 0 0 cs' = true) (hcell : cs'.all PV.isCell = true) : Ends tt rs ⟨[cs], []⟩ (fun r st' => ∃ cs', st' = ⟨[cs'], []⟩ ∧ R r cs' ∧ PV.clean 0 0 r = true ∧ PVs.clean 0 0 cs' = true) e env ⟨cs' :: rest, len⟩ := by
  refine ⟨he, xs, resPV xs, ⟨[cs'], []⟩, hr, .refl _, ⟨?_, by simp, ?_⟩, by simp, by simp, PV.clean_data hx, cs', rfl, hR, hx, hc⟩
  · simp only [List.length_cons, List.length_nil, List.take_succ_cons, List.take_zero, boxes_cons, boxes_nil, and_true]
    exact ⟨Weaks.refl _, by simpa using hcell⟩
  · intro c h
    simp at h
    subst h
    exact PVs.clean_data hc
theorem One.ret {tt : TTab} {rs : List ResultVar} {cs cs' : List PV} {rest : List (List PV)} {len : List Nat} {R : PV → List PV → Prop} {env : Env} {xs : List PV} (hr : resAll tt env ⟨cs' :: rest, len⟩ rs = some xs) (hR : R (resPV xs) cs') (hx : PV.clean 0 0 (resPV xs) = true)
    (hc : PVs.clean 0 0 cs' = true) (hcell : cs'.all PV.isCell = true) : Ends tt rs ⟨[cs], []⟩ (fun r st' => ∃ cs', st' = ⟨[cs'], []⟩ ∧ R r cs' ∧ PV.clean 0 0 r = true ∧ PVs.clean 0 0 cs' = true) .ret env ⟨cs' :: rest, len⟩ := One.fin (.inl rfl) hr hR hx hc hcell
theorem One.done {tt : TTab} {rs : List ResultVar} {cs cs' : List PV} {rest : List (List PV)} {len : List Nat} {R : PV → List PV → Prop} {env : Env} {xs : List PV} (hr : resAll tt env ⟨cs' :: rest, len⟩ rs = some xs) (hR : R (resPV xs) cs') (hx : PV.clean 0 0 (resPV xs) = true)
    (hc : PVs.clean 0 0 cs' = true) (hcell : cs'.all PV.isCell = true) : Ends tt rs ⟨[cs], []⟩ (fun r st' => ∃ cs', st' = ⟨[cs'], []⟩ ∧ R r cs' ∧ PV.clean 0 0 r = true ∧ PVs.clean 0 0 cs' = true) .normal env ⟨cs' :: rest, len⟩ := One.fin (.inr rfl) hr hR hx hc hcell
/-- A function of values ends. -/
theorem Pure.fin {tt : TTab} {rs : List ResultVar} {x : PV} {env : Env} {st : St} {xs : List PV} {e : Exit} (he : e = .ret ∨ e = .normal) (hr : resAll tt env st rs = some xs) (hR : resPV xs = x) (hx : PV.clean 0 0 x = true) :
    Ends tt rs ⟨[], []⟩ (fun r st' => r = x ∧ st' = ⟨[], []⟩) e env st :=
  ⟨he, xs, x, ⟨[], []⟩, hr, by rw [hR]; exact .refl _, ⟨by simp, by simp, by simp⟩, by simp, by simp, hx, rfl, rfl⟩
theorem Pure.ret {tt : TTab} {rs : List ResultVar} {x : PV} {env : Env} {st : St} {xs : List PV} (hr : resAll tt env st rs = some xs) (hR : resPV xs = x) (hx : PV.clean 0 0 x = true) :
    Ends tt rs ⟨[], []⟩ (fun r st' => r = x ∧ st' = ⟨[], []⟩) .ret env st := Pure.fin (.inl rfl) hr hR hx
theorem Pure.done {tt : TTab} {rs : List ResultVar} {x : PV} {env : Env} {st : St} {xs : List PV} (hr : resAll tt env st rs = some xs) (hR : resPV xs = x) (hx : PV.clean 0 0 x = true) :
    Ends tt rs ⟨[], []⟩ (fun r st' => r = x ∧ st' = ⟨[], []⟩) .normal env st := Pure.fin (.inr rfl) hr hR hx
end
end Go.Proofs.YtpepmfhemjeocaaGreatDoor
end
section
/- The rules as a function: what it gives, the machine comes to. -/
set_option linter.unusedVariables false
set_option linter.unusedSimpArgs false
namespace Go.Proofs.YtpepmfhemjeocaaGreatDoor

theorem cells_int (k : IntKind) (n : Int) : PV.cells (.int k n) = [.int k n] := rfl
theorem isAgg_int (k : IntKind) (n : Int) : PV.isAgg (.int k n) = false := rfl
theorem isCell_int (k : IntKind) (n : Int) : PV.isCell (.int k n) = true := rfl
theorem cells_bool (b : Bool) : PV.cells (.bool b) = [.bool b] := rfl
theorem isAgg_bool (b : Bool) : PV.isAgg (.bool b) = false := rfl
theorem isCell_bool (b : Bool) : PV.isCell (.bool b) = true := rfl
theorem cells_str (l : List UInt8) : PV.cells (.str l) = [.str l] := rfl
theorem isAgg_str (l : List UInt8) : PV.isAgg (.str l) = false := rfl
theorem isCell_str (l : List UInt8) : PV.isCell (.str l) = true := rfl
theorem cells_list (sz : Nat) (xs : List PV) (t : Tk) : PV.cells (.list sz xs t) = [.list sz xs t] := rfl
theorem isAgg_list (sz : Nat) (xs : List PV) (t : Tk) : PV.isAgg (.list sz xs t) = false := rfl
theorem isCell_list (sz : Nat) (xs : List PV) (t : Tk) : PV.isCell (.list sz xs t) = true := rfl
theorem cells_ref (r o : Nat) : PV.cells (.ref r o) = [.ref r o] := rfl
theorem isAgg_ref (r o : Nat) : PV.isAgg (.ref r o) = false := rfl
theorem isCell_ref (r o : Nat) : PV.isCell (.ref r o) = true := rfl
theorem cells_elem (x : PV) : PV.cells (.elem x) = [.elem x] := rfl
theorem isAgg_elem (x : PV) : PV.isAgg (.elem x) = false := rfl
theorem isCell_elem (x : PV) : PV.isCell (.elem x) = true := rfl
theorem cells_agg (cs : List PV) : PV.cells (.agg cs) = cs := rfl
theorem isAgg_agg (cs : List PV) : PV.isAgg (.agg cs) = true := rfl
theorem isCell_agg (cs : List PV) : PV.isCell (.agg cs) = false := rfl
theorem cells_tup (cs : List PV) : PV.cells (.tup cs) = [.tup cs] := rfl
theorem isAgg_tup (cs : List PV) : PV.isAgg (.tup cs) = false := rfl
theorem isCell_tup (cs : List PV) : PV.isCell (.tup cs) = false := rfl
theorem cells_clo (f : Fn) (a b : List PV) : PV.cells (.clo f a b) = [.clo f a b] := rfl
theorem isAgg_clo (f : Fn) (a b : List PV) : PV.isAgg (.clo f a b) = false := rfl
theorem isCell_clo (f : Fn) (a b : List PV) : PV.isCell (.clo f a b) = true := rfl
theorem cells_val (v : Value) : PV.cells (.val v) = [.val v] := rfl
theorem isAgg_val (v : Value) : PV.isAgg (.val v) = false := rfl
theorem isCell_val (v : Value) : PV.isCell (.val v) = v.oneCell' := rfl
def eg : Env → Nat → Option PV
  | [], _ => none
  | (j, x) :: r, i => bif i == j then some x else eg r i
theorem eg_eq : ∀ (env : Env) (i : Nat), eg env i = eget env i
  | [], _ => rfl
  | (j, x) :: r, i => by
    simp only [eg, eget, eg_eq r i]
    by_cases h : i = j
    · subst h; simp
    · have : (i == j) = false := by simpa using h
      simp [this, h]
def vl (env : Env) : Operand → Option PV
  | .tmp t => eg env t
  | .const v => some (ofC v)
  | .func f => some (.clo (.func f) [] [])
  | .global _ => none
theorem vl_eq (env : Env) (o : Operand) : vl env o = ev env o := by cases o <;> simp [vl, ev, eg_eq]
def vls (env : Env) : List Operand → Option (List PV)
  | [] => some []
  | o :: os => match vl env o with
    | some x => match vls env os with
      | some xs => some (x :: xs)
      | none => none
    | none => none
theorem vls_eq (env : Env) : ∀ os, vls env os = evs env os
  | [] => rfl
  | o :: os => by
    simp only [vls, evs, vl_eq, vls_eq env os]
    cases ev env o <;> cases evs env os <;> rfl
def vlParts (env : Env) : List (Nat × Operand) → Option (List (Nat × PV))
  | [] => some []
  | (i, o) :: os => match vl env o with
    | some x => match vlParts env os with
      | some xs => some ((i, x) :: xs)
      | none => none
    | none => none
theorem vlParts_eq (env : Env) : ∀ os, vlParts env os = evParts env os
  | [] => rfl
  | (i, o) :: os => by
    simp only [vlParts, evParts, vl_eq, vlParts_eq env os]
    cases ev env o <;> cases evParts env os <;> rfl
def vlo (env : Env) : Option Operand → Option (Option PV)
  | none => some none
  | some o => match vl env o with
    | some x => some (some x)
    | none => none
theorem vlo_eq (env : Env) (o : Option Operand) : vlo env o = evo env o := by
  cases o with
  | none => rfl
  | some o => simp only [vlo, evo, vl_eq]; cases ev env o <;> rfl

def fBin (op : BinOp) (x y : PV) : Option PV :=
  match x, y with
  | .int k a, .int k' b =>
    match op with
    | .shl => if 0 ≤ b then some (.int k (k.wrap (a * 2 ^ min b.toNat k.bits))) else none
    | .shr => if 0 ≤ b then some (.int k (a.fdiv (2 ^ min b.toNat k.bits))) else none
    | .add => if k = k' then some (.int k (k.wrap (a + b))) else none
    | .sub => if k = k' then some (.int k (k.wrap (a - b))) else none
    | .mul => if k = k' then some (.int k (k.wrap (a * b))) else none
    | .quo => if k = k' then (if b ≠ 0 then some (.int k (k.wrap (a.tdiv b))) else none) else none
    | .rem => if k = k' then (if b ≠ 0 then some (.int k (a.tmod b)) else none) else none
    | .eql => if k = k' then some (.bool (a == b)) else none
    | .neq => if k = k' then some (.bool (a != b)) else none
    | .lss => if k = k' then some (.bool (decide (a < b))) else none
    | .leq => if k = k' then some (.bool (decide (a ≤ b))) else none
    | .gtr => if k = k' then some (.bool (decide (a > b))) else none
    | .geq => if k = k' then some (.bool (decide (a ≥ b))) else none
    | op => if k = k' then some (.int k (bitsPV op k a b)) else none
  | .str a, .str b =>
    match op with
    | .add => if a.length + b.length ≤ 9223372036854775807 then some (.str (a ++ b)) else none
    | .eql => some (.bool (a == b))
    | .neq => some (.bool (!(a == b)))
    | .lss => some (.bool (Op.bytesLess a b))
    | .leq => some (.bool (Op.bytesLess a b || a == b))
    | .gtr => some (.bool (!(Op.bytesLess a b || a == b)))
    | .geq => some (.bool (!(Op.bytesLess a b)))
    | _ => none
  | _, _ => none
theorem fBin_ok {op : BinOp} {x y r : PV} (h : fBin op x y = some r) {K : PV → Prop} (hk : K r) : pBin op x y K := by
  unfold fBin at h
  unfold pBin
  split at h
  · cases op <;> simp only at h ⊢ <;> (repeat' split at h) <;> first
      | (injection h with h; subst h; first | exact ⟨by assumption, hk⟩ | exact ⟨by assumption, by assumption, hk⟩)
      | cases h
  · cases op <;> simp only at h ⊢ <;> (repeat' split at h) <;> first
      | (injection h with h; subst h; first | exact hk | exact ⟨by assumption, hk⟩)
      | cases h
  · cases h
def fCut (x : PV) (lo hi : Option PV) : Option PV :=
  match x with
  | .str l => match lo, hi with
    | none, none => some (.str l)
    | some (.int _ a), none => if 0 ≤ a ∧ a ≤ l.length then some (.str (l.drop a.toNat)) else none
    | none, some (.int _ b) => if 0 ≤ b ∧ b ≤ l.length then some (.str (l.take b.toNat)) else none
    | some (.int _ a), some (.int _ b) => if 0 ≤ a ∧ a ≤ b ∧ b ≤ l.length then some (.str ((l.take b.toNat).drop a.toNat)) else none
    | _, _ => none
  | .list sz xs _ => match lo, hi with
    | none, none => some (.list sz xs .no)
    | some (.int _ a), none => if 0 ≤ a ∧ a ≤ xs.length then some (.list sz (xs.drop a.toNat) .no) else none
    | none, some (.int _ b) => if 0 ≤ b ∧ b ≤ xs.length then some (.list sz (xs.take b.toNat) .no) else none
    | some (.int _ a), some (.int _ b) => if 0 ≤ a ∧ a ≤ b ∧ b ≤ xs.length then some (.list sz ((xs.take b.toNat).drop a.toNat) .no) else none
    | _, _ => none
  | _ => none
theorem fCut_ok {x r : PV} {lo hi : Option PV} (h : fCut x lo hi = some r) {K : PV → Prop} (hk : K r) : pCut x lo hi K := by
  unfold fCut at h
  unfold pCut
  (repeat' split at h) <;> first
    | (injection h with h; subst h; first | exact hk | (rename_i hc; exact ⟨hc.1, hc.2, hk⟩) | (rename_i hc; exact ⟨hc.1, hc.2.1, hc.2.2, hk⟩))
    | cases h
def fField (y : TyI) (f : Nat) (p : PV) : Option PV :=
  match p with
  | .ref r o => match y.flds[f]? with
    | some (off, n, _) => bif n == 0 then none else some (.ref r (o + off))
    | none => none
  | .elem (.agg cs) => match y.flds[f]? with
    | some (off, n, true) => bif n == 0 then none else (if off + n ≤ cs.length then some (.elem (.agg ((cs.drop off).take n))) else none)
    | some (off, n, false) => bif n == 0 then none else (match cs[off]? with | some c => some (.elem c) | none => none)
    | none => none
  | _ => none
theorem ne_of_beq {n : Nat} {α : Type} {x : Option α} {r : α} (h : (bif n == 0 then none else x) = some r) : n ≠ 0 ∧ x = some r := by
  cases n with
  | zero => cases h
  | succ n => exact ⟨by simp, by simpa using h⟩
theorem fField_ok {y : TyI} {f : Nat} {p r : PV} (h : fField y f p = some r) {K : PV → Prop} (hk : K r) : pFieldAddr y f p K := by
  unfold fField at h
  unfold pFieldAddr
  split at h
  · split at h
    · rename_i hf
      obtain ⟨h1, h2⟩ := ne_of_beq h
      injection h2 with h2
      subst h2
      simp only [hf]
      exact ⟨h1, hk⟩
    · cases h
  · split at h
    · rename_i hf
      obtain ⟨h1, h2⟩ := ne_of_beq h
      split at h2
      · injection h2 with h2
        subst h2
        simp only [hf]
        exact ⟨h1, by assumption, hk⟩
      · cases h2
    · rename_i hf
      obtain ⟨h1, h2⟩ := ne_of_beq h
      split at h2
      · injection h2 with h2
        subst h2
        simp only [hf]
        exact ⟨h1, _, by assumption, hk⟩
      · cases h2
    · cases h
  · cases h

/-- An operation that is no call: what it makes of the temporaries and the state. -/
def stepF (tt : TTab) (ow : List Nat) (nt : Nat) (o : Oper) (env : Env) (st : St) : Option (Env × St) :=
  match o.op with
  | .move x | .assign x => match vl env x with
    | some a => some (put nt o.dst env a, st)
    | none => none
  | .pick c a b => match vl env c with
    | some (.bool t) => match vl env a, vl env b with
      | some (.bool x), some (.bool y) => some (put nt o.dst env (.bool (bif t then x else y)), st)
      | some x, some y => match t with
        | true => some (put nt o.dst env x, st)
        | false => some (put nt o.dst env y, st)
      | _, _ => none
    | _ => none
  | .alloc T => match tt T with
    | some y => some (put nt o.dst env (.ref st.box.length 0), { st with box := st.box ++ [y.zero] })
    | none => none
  | .box T x => match vl env x with
    | some a => match a.cells.all PV.isCell with
      | true => some (put nt o.dst env (.ref st.box.length 0), { st with box := st.box ++ [a.cells] })
      | false => none
    | none => none
  | .build T ps => match tt T with
    | some y => match y.k with
      | .struct => match vlParts env ps.toList with
        | some xs => match fillPV y.flds y.zero xs with
          | some cs => some (put nt o.dst env (.agg cs), st)
          | none => none
        | none => none
      | _ => none
    | none => none
  | .buildSlice T n ps => match tt T with
    | some y => match y.k with
      | .slice e => match tt e with
        | some ye => match vlParts env ps.toList with
          | some ps' => match dense 0 ps' with
            | some xs => if xs.length = n ∧ 0 < ye.size ∧ n * ye.size ≤ 16777216 ∧ (∀ x ∈ xs, x.cells.length = ye.size ∧ x.cells.all PV.isCell = true) then
                (match owns ow o.dst with
                | true => some (put nt o.dst env (.list ye.size xs (.own st.len.length)), { st with len := st.len ++ [n] })
                | false => some (put nt o.dst env (.list ye.size xs .no), st))
              else none
            | none => none
          | none => none
        | none => none
      | _ => none
    | none => none
  | .load T a => match vl env a with
    | some p => match tt T with
      | some y => match ldPV y st p with
        | some x => some (put nt o.dst env x, st)
        | none => none
      | none => none
    | none => none
  | .store T a v => match vl env a with
    | some p => match tt T with
      | some y => match vl env v with
        | some x => match stPV y st p x with
          | some st' => some (put nt o.dst env (.val undef), st')
          | none => none
        | none => none
      | none => none
    | none => none
  | .nilCheck x => match vl env x with
    | some p => match pNil p with
      | true => some (put nt o.dst env p, st)
      | false => none
    | none => none
  | .binOp op T x y _ => match vl env x with
    | some (.agg xs) => match vl env y with
      | some (.agg ys) => match tt T with
        | some yt => match yt.cmp with
          | true => match eqCells yt.zero xs ys with
            | some r => match op with
              | .eql => some (put nt o.dst env (.bool r), st)
              | .neq => some (put nt o.dst env (.bool (!r)), st)
              | _ => none
            | none => none
          | false => none
        | none => none
      | _ => none
    | some a => match vl env y with
      | some b => match fBin op a b with
        | some r => some (put nt o.dst env r, st)
        | none => match tt T with
          | some yt => match fNil op yt.k a b with
            | some r => some (put nt o.dst env (.bool r), st)
            | none => none
          | none => none
      | none => none
    | none => none
  | .unOp op _ x => match op, vl env x with
    | .not, some (.bool b) => some (put nt o.dst env (.bool (!b)), st)
    | .neg, some (.int k n) => some (put nt o.dst env (.int k (k.wrap (0 - n))), st)
    | _, _ => none
  | .convert s d x => match tt s with
    | some ys => match tt d with
      | some yd => match vl env x with
        | some (.int _ n) => match yd.k with
          | .int k => some (put nt o.dst env (.int k (k.wrap n)), st)
          | _ => none
        | some (.str l) => match yd.k with
          | .str => some (put nt o.dst env (.str l), st)
          | _ => none
        | _ => none
      | none => none
    | none => none
  | .makeFunc fn fs cs => match vls env fs.toList with
    | some us => match vls env cs.toList with
      | some vs => some (put nt o.dst env (.clo fn us vs), st)
      | none => none
    | none => none
  | .slice T x lo hi none => match tt T with
    | some y => match vl env x with
      | some a => match (match y.k, a with
          | .str, .str _ => true
          | .slice e, .list sz _ _ => match tt e with
            | some ye => ye.size == sz
            | none => false
          | _, _ => false) with
        | true => match vlo env lo with
          | some l => match vlo env hi with
            | some h => match fCut a l h with
              | some r => some (put nt o.dst env r, st)
              | none => none
            | none => none
          | none => none
        | false => none
      | none => none
    | none => none
  | .fieldAddr T x f => match tt T with
    | some y => match y.k with
      | .struct => match vl env x with
        | some p => match fField y f p with
          | some r => some (put nt o.dst env r, st)
          | none => none
        | none => none
      | _ => none
    | none => none
  | .field T x f => match tt T with
    | some y => match y.k with
      | .struct => match vl env x with
        | some (.agg cs) => match fldOf y f cs with
          | some r => some (put nt o.dst env r, st)
          | none => none
        | _ => none
      | _ => none
    | none => none
  | .indexAddr T x i => match tt T with
    | some y => match y.k with
      | .slice e => match tt e with
        | some ye => match vl env x with
          | some (.list sz xs t) => match sz == ye.size with
            | true => match vl env i with
              | some (.int k n) => if 0 ≤ n then (match xs[n.toNat]? with
                  | some z => some (put nt o.dst env (.elem z), st)
                  | none => none) else none
              | _ => none
            | false => none
          | _ => none
        | none => none
      | _ => none
    | none => none
  | .index T x i => match tt T with
    | some y => match y.k with
      | .str => match vl env x with
        | some (.str l) => match vl env i with
          | some (.int k n) => if 0 ≤ n then (match l[n.toNat]? with
              | some c => some (put nt o.dst env (.int .u8 (c.toNat : Int)), st)
              | none => none) else none
          | _ => none
        | _ => none
      | _ => none
    | none => none
  | .extract t i => match vl env t with
    | some (.tup cs) => match cs[i]? with
      | some x => some (put nt o.dst env x, st)
      | none => none
    | _ => none
  | .call c => match c.callee with
    | .builtin .len => match c.argTypes.toList, c.args.toList with
      | [T], [x] => match tt T with
        | some y => match vl env x with
          | some (.str l) => match y.k with
            | .str => some (put nt o.dst env (.int .i64 (l.length : Int)), st)
            | _ => none
          | some (.list _ xs _) => match y.k with
            | .slice _ => some (put nt o.dst env (.int .i64 (xs.length : Int)), st)
            | _ => none
          | _ => none
        | none => none
      | _, _ => none
    | .builtin .append => match c.argTypes.toList, c.args.toList with
      | [T, T'], [s, x] => match tt T with
        | some y => match y.k with
          | .slice e => match tt e with
            | some ye => match vl env s with
              | some (.list sz xs (.own k)) => match vl env x with
                | some (.list sz' ys t) => if T' = T ∧ sz = ye.size ∧ sz' = ye.size ∧ 0 < ye.size ∧ st.len[k]? = some xs.length ∧ (xs.length + ys.length) * ye.bytes ≤ 140737488355328 ∧ xs.length + ys.length ≤ maxLen then
                    some (put nt o.dst env (.list sz (xs ++ ys) (.own k)), { st with len := st.len.set k (xs.length + ys.length) })
                  else none
                | _ => none
              | _ => none
            | none => none
          | _ => none
        | none => none
      | _, _ => none
    | .builtin .max => match c.args.toList with
      | [x, y] => match vl env x with
        | some (.int k a) => match vl env y with
          | some (.int k' b) => if k' = k then some (put nt o.dst env (.int k (if b > a then b else a)), st) else none
          | _ => none
        | _ => none
      | _ => none
    | _ => none
  | _ => none

theorem stepF_ok {P : Program} {tt : TTab} {ow : List Nat} {nt : Nat} {o : Oper} {env env' : Env} {st st' : St} (h : stepF tt ow nt o env st = some (env', st')) {K : Env → St → Prop} (hk : K env' st') : pOp P tt ow nt o env st K := by
  unfold stepF at h
  simp only [vl_eq, vls_eq, vlParts_eq, vlo_eq] at h
  unfold pOp
  split at h <;> rename_i ho
  · simp only [ho]
    split at h <;> cases h
    exact ⟨_, by assumption, hk⟩
  · simp only [ho]
    split at h <;> cases h
    exact ⟨_, by assumption, hk⟩
  · simp only [ho]
    split at h
    · rename_i t hc
      refine ⟨t, hc, ?_⟩
      split at h
      · rename_i hx hy
        cases h
        simp only [hx, hy]
        exact hk
      · rename_i x y hne hx hy
        split
        · rename_i p q e1 e2
          exact (hne p q (Option.some.inj (hx.symm.trans e1)) (Option.some.inj (hy.symm.trans e2))).elim
        · split at h <;> cases h
          · exact ⟨fun _ => ⟨_, hx, hk⟩, fun e => by cases e⟩
          · exact ⟨(fun e => by cases e), fun _ => ⟨_, hy, hk⟩⟩
      · cases h
    · cases h
  · simp only [ho]
    split at h <;> cases h
    exact ⟨_, by assumption, hk⟩
  · simp only [ho]
    (repeat' split at h) <;> cases h
    exact ⟨_, by assumption, by assumption, hk⟩
  · simp only [ho]
    (repeat' split at h) <;> cases h
    exact ⟨_, _, _, by assumption, by assumption, by assumption, by assumption, hk⟩
  · simp only [ho]
    (repeat' split at h) <;> cases h
    · rename_i hc _ hw
      exact ⟨_, _, _, _, _, by assumption, by assumption, by assumption, by assumption, by assumption, hc.1, hc.2.1, hc.2.2.1, hc.2.2.2, by rw [if_pos hw]; exact hk⟩
    · rename_i hc _ hw
      exact ⟨_, _, _, _, _, by assumption, by assumption, by assumption, by assumption, by assumption, hc.1, hc.2.1, hc.2.2.1, hc.2.2.2, by rw [if_neg (by rw [hw]; simp)]; exact hk⟩
  · simp only [ho]
    (repeat' split at h) <;> cases h
    exact ⟨_, _, _, by assumption, by assumption, by assumption, hk⟩
  · simp only [ho]
    (repeat' split at h) <;> cases h
    exact ⟨_, _, _, _, by assumption, by assumption, by assumption, by assumption, hk⟩
  · simp only [ho]
    (repeat' split at h) <;> cases h
    exact ⟨_, by assumption, by assumption, hk⟩
  · simp only [ho]
    split at h
    · (repeat' split at h) <;> cases h
      · exact .inr (.inl ⟨_, _, _, _, by assumption, by assumption, by assumption, by assumption, by assumption, .inl ⟨rfl, hk⟩⟩)
      · exact .inr (.inl ⟨_, _, _, _, by assumption, by assumption, by assumption, by assumption, by assumption, .inr ⟨rfl, hk⟩⟩)
    · split at h
      · split at h
        · cases h
          exact .inl ⟨_, _, by assumption, by assumption, fBin_ok (by assumption) hk⟩
        · split at h
          · split at h
            · cases h
              exact .inr (.inr ⟨_, _, _, _, by assumption, by assumption, by assumption, by assumption, hk⟩)
            · cases h
          · cases h
      · cases h
    · cases h
  · simp only [ho]
    split at h <;> rename_i hx <;> first | (cases h; simp only [hx]; exact hk) | cases h
  · simp only [ho]
    (repeat' split at h) <;> cases h
    · rename_i hkk
      exact ⟨_, _, _, by assumption, by assumption, by assumption, by simp only [pConv, hkk]; exact hk⟩
    · rename_i hkk
      exact ⟨_, _, _, by assumption, by assumption, by assumption, by simp only [pConv, hkk]; exact hk⟩
  · simp only [ho]
    (repeat' split at h) <;> cases h
    exact ⟨_, _, by assumption, by assumption, hk⟩
  · simp only [ho]
    split at h
    · rename_i y hy
      split at h
      · rename_i a ha
        split at h
        · rename_i hm
          (repeat' split at h) <;> cases h
          refine ⟨y, a, _, _, hy, ?_, ha, by assumption, by assumption, fCut_ok (by assumption) hk⟩
          cases hyk : y.k <;> cases a <;> simp only [hyk] at hm ⊢ <;> first | trivial | (cases hm; done) | skip
          split at hm
          · rename_i ye e2
            exact ⟨_, ye, rfl, e2, by simpa using hm⟩
          · cases hm
        · cases h
      · cases h
    · cases h
  · simp only [ho]
    (repeat' split at h) <;> cases h
    exact ⟨_, _, by assumption, by assumption, by assumption, fField_ok (by assumption) hk⟩
  · simp only [ho]
    (repeat' split at h) <;> cases h
    exact ⟨_, _, _, by assumption, by assumption, by assumption, by assumption, hk⟩
  · simp only [ho]
    split at h
    · split at h
      · split at h
        · split at h
          · split at h
            · rename_i hsz
              have hsz' := beq_iff_eq.1 hsz
              subst hsz'
              (repeat' split at h) <;> cases h
              exact ⟨_, _, _, _, _, _, _, _, by assumption, by assumption, by assumption, by assumption, by assumption, by assumption, by assumption, hk⟩
            · cases h
          · cases h
        · cases h
      · cases h
    · cases h
  · simp only [ho]
    (repeat' split at h) <;> cases h
    exact ⟨_, _, _, _, _, by assumption, by assumption, by assumption, by assumption, by assumption, by assumption, hk⟩
  · simp only [ho]
    (repeat' split at h) <;> cases h
    exact ⟨_, _, by assumption, by assumption, hk⟩
  · simp only [ho]
    split at h
    · rename_i hcl
      simp only [hcl]
      split at h
      · rename_i T x h1 h2
        (repeat' split at h) <;> cases h
        · rename_i hkk
          exact ⟨T, x, _, _, by rw [← Array.toArray_toList (xs := (_ : Call).argTypes), h1], by rw [← Array.toArray_toList (xs := (_ : Call).args), h2], by assumption, by assumption, by simp only [hkk]; exact hk⟩
        · rename_i hkk
          exact ⟨T, x, _, _, by rw [← Array.toArray_toList (xs := (_ : Call).argTypes), h1], by rw [← Array.toArray_toList (xs := (_ : Call).args), h2], by assumption, by assumption, by simp only [hkk]; exact hk⟩
      · cases h
    · rename_i hca
      simp only [hca]
      split at h
      · rename_i T T' s x h1 h2
        (repeat' split at h) <;> cases h
        rename_i hc
        obtain ⟨rfl, rfl, rfl, h3, h4, h5, h6⟩ := hc
        exact ⟨T', s, x, _, _, _, _, _, _, _, by rw [← Array.toArray_toList (xs := (_ : Call).argTypes), h1], by rw [← Array.toArray_toList (xs := (_ : Call).args), h2], by assumption, by assumption, by assumption, h3, by assumption, by assumption, h4, h5, h6, hk⟩
      · cases h
    · rename_i hcm
      simp only [hcm]
      split at h
      · rename_i x y h2
        split at h
        · split at h
          · split at h
            · rename_i hkk
              subst hkk
              cases h
              exact ⟨x, y, _, _, _, by rw [← Array.toArray_toList (xs := (_ : Call).args), h2], by assumption, by assumption, hk⟩
            · cases h
          · cases h
        · cases h
      · cases h
    · cases h
  · cases h

/-- Where a run stands: at the end, or at a call. -/
inductive Res where
  | fin (env : Env) (st : St)
  | call (f : FuncId) (args : List PV) (d : Option Tmp) (n : Nat) (env : Env) (st : St)
def callOf (env : Env) (o : Op) : Option (Option (FuncId × List PV)) :=
  match o with
  | .call c => match c.callee with
    | .value f => match vl env f with
      | some (.clo (.func fn) fs cs) => match vls env c.args.toList with
        | some ags => some (some (fn, fs ++ ags ++ cs))
        | none => some none
      | _ => some none
    | _ => none
  | _ => none
def runF (tt : TTab) (ow : List Nat) (nt : Nat) (gd : Nat → Option Tmp) : Nat → List Oper → Env → St → Option Res
  | _, [], env, st => some (.fin env st)
  | n, o :: r, env, st => match (match o.guard with
      | none => some true
      | some (j, want) => match gd j with
        | some d => match eg env d with
          | some x => gval want x
          | none => none
        | none => none) with
    | some true => match callOf env o.op with
      | some (some (f, args)) => some (.call f args o.dst (n + 1) env st)
      | some none => none
      | none => match stepF tt ow nt o env st with
        | some (env', st') => runF tt ow nt gd (n + 1) r env' st'
        | none => none
    | some false => runF tt ow nt gd (n + 1) r (put nt o.dst env (.val undef)) st
    | none => none
def Holds (P : Program) (nt : Nat) (ops : Array Oper) (K : Env → St → Prop) : Option Res → Prop
  | some (.fin env st) => K env st
  | some (.call f args d n env st) => PC P f args st fun r st' => PO P nt ops n (put nt d env r) st' K
  | none => False
theorem run_ok {P : Program} {tt : TTab} {ow : List Nat} {nt : Nat} {ops : Array Oper} {K : Env → St → Prop} : ∀ (r : List Oper) (n : Nat) (env : Env) (st : St), Holds P nt ops K (runF tt ow nt (gdOf ops) n r env st) → pOps P tt ow nt ops n r env st K
  | [], n, env, st, h => h
  | o :: r, n, env, st, h => by
    simp only [runF] at h
    have hgo : ∀ (hh : Holds P nt ops K (match callOf env o.op with
      | some (some (f, args)) => some (.call f args o.dst (n + 1) env st)
      | some none => none
      | none => match stepF tt ow nt o env st with
        | some (env', st') => runF tt ow nt (gdOf ops) (n + 1) r env' st'
        | none => none)), (if isCall o.op then pOp P tt ow nt o env st fun env st => PO P nt ops (n + 1) env st K else pOp P tt ow nt o env st fun env st => pOps P tt ow nt ops (n + 1) r env st K) := by
      intro hh
      cases hc : callOf env o.op with
      | none =>
        rw [hc] at hh
        have hnc : isCall o.op = false ∨ isCall o.op = true := by cases isCall o.op <;> simp
        rcases hnc with hnc | hnc
        · rw [if_neg (by rw [hnc]; simp)]
          simp only at hh
          split at hh
          · rename_i env' st' hs
            exact stepF_ok hs (run_ok r (n + 1) env' st' hh)
          · exact hh.elim
        · exfalso
          unfold isCall at hnc
          unfold callOf at hc
          split at hnc
          · rename_i c ho
            rw [ho] at hc
            simp only at hc
            split at hnc
            · rename_i f hf
              rw [hf] at hc
              simp only at hc
              split at hc
              · split at hc <;> cases hc
              · cases hc
            · cases hnc
          · cases hnc
      | some x =>
        rw [hc] at hh
        cases x with
        | none => exact hh.elim
        | some x =>
          obtain ⟨f, args⟩ := x
          simp only [Holds] at hh
          unfold callOf at hc
          split at hc
          · rename_i c ho
            split at hc
            · rename_i g hg
              split at hc
              · rename_i fn fs cs hf
                split at hc
                · rename_i ags has
                  cases hc
                  rw [if_pos (by simp [isCall, ho, hg])]
                  simp only [pOp, ho, hg]
                  exact ⟨f, fs, cs, ags, by rw [← vl_eq]; exact hf, by rw [← vls_eq]; exact has, hh⟩
                · cases hc
              · cases hc
            · cases hc
          · cases hc
    simp only [pOps]
    split
    · rename_i hg
      simp only [hg] at h
      exact hgo h
    · rename_i j want hg
      simp only [hg] at h
      split at h
      · rename_i hm
        split at hm
        · rename_i d hd
          split at hm
          · rename_i x hx
            exact ⟨d, x, true, hd, by rw [← eg_eq]; exact hx, hm, (fun _ => hgo h), (fun e => by cases e)⟩
          · cases hm
        · cases hm
      · rename_i hm
        split at hm
        · rename_i d hd
          split at hm
          · rename_i x hx
            exact ⟨d, x, false, hd, by rw [← eg_eq]; exact hx, hm, (fun e => by cases e), (fun _ => run_ok r (n + 1) _ st h)⟩
          · cases hm
        · cases hm
      · exact h.elim
section
variable {P : Program} {tt : TTab} {nt : Nat}
/-- A region from place n on. -/
theorem PO.go (ht : TT P tt) (ow : List Nat) {ops : Array Oper} {n : Nat} {env : Env} {st : St} {K : Env → St → Prop} (h : Holds P nt ops K (runF tt ow nt (gdOf ops) n (ops.toList.drop n) env st)) : PO P nt ops n env st K :=
  PO.run ht ow (run_ok _ n env st h)
/-- A region, and what stands behind it under a name. -/
theorem PW.go (ht : TT P tt) (ow : List Nat) {id : Nat} {ops : Array Oper} {y : Code} {Q : Exit → Env → St → Prop} {env : Env} {st : St}
    (h : ∀ K : Env → St → Prop, (∀ env st, PW P nt y Q env st → K env st) → Holds P nt ops K (runF tt ow nt (gdOf ops) 0 ops.toList env st)) : PW P nt (.seq (.region id ops false) y) Q env st :=
  PW.seq_k fun K hK => PW.region ht ow (run_ok _ 0 env st (h K hK))
/-- A region, the last of its code. -/
theorem PW.goL (ht : TT P tt) (ow : List Nat) {id : Nat} {ops : Array Oper} {Q : Exit → Env → St → Prop} {env : Env} {st : St}
    (h : ∀ K : Env → St → Prop, (∀ env st, Q .normal env st → K env st) → Holds P nt ops K (runF tt ow nt (gdOf ops) 0 ops.toList env st)) : PW P nt (.region id ops false) Q env st :=
  PW.region ht ow (run_ok _ 0 env st (h _ fun _ _ h => h))
end
end Go.Proofs.YtpepmfhemjeocaaGreatDoor
end
