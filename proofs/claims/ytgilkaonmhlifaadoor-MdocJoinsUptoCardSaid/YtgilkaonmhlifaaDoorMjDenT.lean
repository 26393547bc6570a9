/- The interpreter's tables for this program: written by genenv.py. -/
import Derived.Test.YtgilkaonmhlifaaDoorProg
import Derived.Test.YtgilkaonmhlifaaDoorMjDenB
import Derived.Test.YtgilkaonmhlifaaDoorMjSh
namespace Go.Proofs.YtgilkaonmhlifaaDoor.Dn
open Go.Den
set_option maxRecDepth 100000

def tyT : TypeId → Option TI
  | 1 => some ⟨.other, 1, 8, false, [], [.v .nilFunc]⟩
  | 2 => some ⟨.int .i64, 1, 8, false, [], [.v (.int .i64 0)]⟩
  | 3 => some ⟨.int .i64, 1, 8, false, [], [.v (.int .i64 0)]⟩
  | 4 => some ⟨.bool, 1, 1, false, [], [.v (.bool false)]⟩
  | 5 => some ⟨.int .u8, 1, 1, false, [], [.v (.int .u8 0)]⟩
  | 6 => some ⟨.int .u8, 1, 1, false, [], [.v (.int .u8 0)]⟩
  | 7 => some ⟨.struct, 4, 24, true, [(0, 1), (1, 1), (2, 1), (3, 1)], [.v (.int .i64 0), .v (.int .i64 0), .v (.bool false), .v (.int .u8 0)]⟩
  | 8 => some ⟨.struct, 4, 24, true, [(0, 1), (1, 1), (2, 1), (3, 1)], [.v (.int .i64 0), .v (.int .i64 0), .v (.bool false), .v (.int .u8 0)]⟩
  | 9 => some ⟨.str, 1, 16, false, [], [.v (.string ⟨#[]⟩)]⟩
  | 10 => some ⟨.str, 1, 16, false, [], [.v (.string ⟨#[]⟩)]⟩
  | 11 => some ⟨.str, 1, 16, false, [], [.v (.string ⟨#[]⟩)]⟩
  | 12 => some ⟨.int .u64, 1, 8, false, [], [.v (.int .u64 0)]⟩
  | 13 => some ⟨.struct, 2, 24, true, [(0, 1), (1, 1)], [.v (.string ⟨#[]⟩), .v (.int .u64 0)]⟩
  | 14 => some ⟨.struct, 2, 24, true, [(0, 1), (1, 1)], [.v (.string ⟨#[]⟩), .v (.int .u64 0)]⟩
  | 15 => some ⟨.ptr 234, 1, 8, false, [], [.v (.pointer none)]⟩
  | 16 => some ⟨.ptr 237, 1, 8, false, [], [.v (.pointer none)]⟩
  | 17 => some ⟨.ptr 244, 1, 8, false, [], [.v (.pointer none)]⟩
  | 18 => some ⟨.struct, 1, 8, true, [(0, 1)], [.v (.pointer none)]⟩
  | 19 => some ⟨.struct, 1, 8, true, [(0, 1)], [.v (.pointer none)]⟩
  | 20 => some ⟨.other, 1, 16, false, [], [.v .nilIface]⟩
  | 21 => some ⟨.int .i32, 1, 4, false, [], [.v (.int .i32 0)]⟩
  | 22 => some ⟨.struct, 2, 2, true, [(0, 1), (1, 1)], [.v (.int .u8 0), .v (.int .u8 0)]⟩
  | 23 => some ⟨.struct, 2, 2, true, [(0, 1), (1, 1)], [.v (.int .u8 0), .v (.int .u8 0)]⟩
  | 24 => some ⟨.slice 103, 1, 24, false, [], [.sl 1 2 []]⟩
  | 25 => some ⟨.other, 1, 8, false, [], [.v .nilFunc]⟩
  | 26 => some ⟨.slice 35, 1, 24, false, [], [.sl 1 2 []]⟩
  | 28 => some ⟨.other, 1, 8, false, [], [.v .nilFunc]⟩
  | 29 => some ⟨.other, 1, 8, false, [], [.v .nilFunc]⟩
  | 30 => some ⟨.other, 1, 8, false, [], [.v .nilFunc]⟩
  | 31 => some ⟨.slice 181, 1, 24, false, [], [.sl 1 3 []]⟩
  | 33 => some ⟨.other, 1, 8, false, [], [.v .nilFunc]⟩
  | 34 => some ⟨.struct, 2, 8, true, [(0, 1), (1, 1)], [.v (.int .i32 0), .v (.int .u8 0)]⟩
  | 35 => some ⟨.struct, 2, 8, true, [(0, 1), (1, 1)], [.v (.int .i32 0), .v (.int .u8 0)]⟩
  | 36 => some ⟨.other, 1, 8, false, [], [.v .nilFunc]⟩
  | 37 => some ⟨.other, 1, 8, false, [], [.v .nilFunc]⟩
  | 38 => some ⟨.other, 1, 8, false, [], [.v .nilFunc]⟩
  | 39 => some ⟨.slice 49, 1, 24, false, [], [.sl 1 10 []]⟩
  | 40 => some ⟨.struct, 5, 88, true, [(0, 1), (1, 1), (2, 1), (3, 1), (4, 1)], [.v (.string ⟨#[]⟩), .v (.string ⟨#[]⟩), .v (.string ⟨#[]⟩), .v (.string ⟨#[]⟩), .sl 1 10 []]⟩
  | 41 => some ⟨.struct, 5, 88, true, [(0, 1), (1, 1), (2, 1), (3, 1), (4, 1)], [.v (.string ⟨#[]⟩), .v (.string ⟨#[]⟩), .v (.string ⟨#[]⟩), .v (.string ⟨#[]⟩), .sl 1 10 []]⟩
  | 42 => some ⟨.other, 1, 8, false, [], [.v .nilFunc]⟩
  | 43 => some ⟨.other, 1, 8, false, [], [.v .nilFunc]⟩
  | 44 => some ⟨.slice 26, 1, 24, false, [], [.sl 1 1 []]⟩
  | 45 => some ⟨.slice 130, 1, 24, false, [], [.sl 1 2 []]⟩
  | 46 => some ⟨.struct, 4, 48, true, [(0, 1), (1, 1), (2, 1), (3, 1)], [.v (.string ⟨#[]⟩), .sl 1 2 [], .v (.bool false), .v (.bool false)]⟩
  | 47 => some ⟨.struct, 4, 48, true, [(0, 1), (1, 1), (2, 1), (3, 1)], [.v (.string ⟨#[]⟩), .sl 1 2 [], .v (.bool false), .v (.bool false)]⟩
  | 48 => some ⟨.struct, 10, 144, true, [(0, 1), (1, 1), (2, 1), (3, 1), (4, 1), (5, 1), (6, 4)], [.v (.int .i64 0), .v (.int .i64 0), .v (.int .i64 0), .sl 1 2 [], .sl 1 10 [], .sl 1 1 [], .v (.string ⟨#[]⟩), .sl 1 2 [], .v (.bool false), .v (.bool false)]⟩
  | 49 => some ⟨.struct, 10, 144, true, [(0, 1), (1, 1), (2, 1), (3, 1), (4, 1), (5, 1), (6, 4)], [.v (.int .i64 0), .v (.int .i64 0), .v (.int .i64 0), .sl 1 2 [], .sl 1 10 [], .sl 1 1 [], .v (.string ⟨#[]⟩), .sl 1 2 [], .v (.bool false), .v (.bool false)]⟩
  | 50 => some ⟨.other, 1, 8, false, [], [.v .nilFunc]⟩
  | 51 => some ⟨.other, 1, 8, false, [], [.v .nilFunc]⟩
  | 52 => some ⟨.slice 54, 1, 24, false, [], [.sl 1 3 []]⟩
  | 53 => some ⟨.struct, 3, 32, true, [(0, 1), (1, 1), (2, 1)], [.sl 1 2 [], .v (.bool false), .v (.bool false)]⟩
  | 54 => some ⟨.struct, 3, 32, true, [(0, 1), (1, 1), (2, 1)], [.sl 1 2 [], .v (.bool false), .v (.bool false)]⟩
  | 55 => some ⟨.other, 1, 8, false, [], [.v .nilFunc]⟩
  | 56 => some ⟨.other, 1, 8, false, [], [.v .nilFunc]⟩
  | 57 => some ⟨.slice 9, 1, 24, false, [], [.sl 1 1 []]⟩
  | 58 => some ⟨.other, 1, 8, false, [], [.v .nilFunc]⟩
  | 60 => some ⟨.other, 1, 8, false, [], [.v .nilFunc]⟩
  | 61 => some ⟨.other, 1, 8, false, [], [.v .nilFunc]⟩
  | 62 => some ⟨.slice 4, 1, 24, false, [], [.sl 1 1 []]⟩
  | 63 => some ⟨.ptr 126, 1, 8, false, [], [.v (.pointer none)]⟩
  | 64 => some ⟨.other, 1, 8, false, [], [.v .nilFunc]⟩
  | 65 => some ⟨.other, 1, 8, false, [], [.v .nilFunc]⟩
  | 66 => some ⟨.other, 1, 8, false, [], [.v .nilFunc]⟩
  | 67 => some ⟨.other, 1, 8, false, [], [.v .nilFunc]⟩
  | 68 => some ⟨.other, 1, 8, false, [], [.v .nilFunc]⟩
  | 69 => some ⟨.slice 75, 1, 24, false, [], [.sl 1 12 []]⟩
  | 70 => some ⟨.other, 1, 8, false, [], [.v .nilFunc]⟩
  | 71 => some ⟨.other, 1, 8, false, [], [.v .nilFunc]⟩
  | 72 => some ⟨.slice 77, 1, 24, false, [], [.sl 1 3 []]⟩
  | 73 => some ⟨.other, 1, 8, false, [], [.v .nilFunc]⟩
  | 74 => some ⟨.struct, 12, 160, true, [(0, 1), (1, 1), (2, 1), (3, 1), (4, 1), (5, 1), (6, 1), (7, 1), (8, 4)], [.v (.int .i64 0), .v (.int .i64 0), .v (.int .i64 0), .v (.bool false), .v (.int .i64 0), .sl 1 2 [], .sl 1 2 [], .sl 1 1 [], .v (.string ⟨#[]⟩), .sl 1 2 [], .v (.bool false), .v (.bool false)]⟩
  | 75 => some ⟨.struct, 12, 160, true, [(0, 1), (1, 1), (2, 1), (3, 1), (4, 1), (5, 1), (6, 1), (7, 1), (8, 4)], [.v (.int .i64 0), .v (.int .i64 0), .v (.int .i64 0), .v (.bool false), .v (.int .i64 0), .sl 1 2 [], .sl 1 2 [], .sl 1 1 [], .v (.string ⟨#[]⟩), .sl 1 2 [], .v (.bool false), .v (.bool false)]⟩
  | 76 => some ⟨.struct, 3, 40, true, [(0, 1), (1, 1), (2, 1)], [.v (.int .i64 0), .v (.int .i64 0), .sl 1 2 []]⟩
  | 77 => some ⟨.struct, 3, 40, true, [(0, 1), (1, 1), (2, 1)], [.v (.int .i64 0), .v (.int .i64 0), .sl 1 2 []]⟩
  | 78 => some ⟨.slice 85, 1, 24, false, [], [.sl 1 15 []]⟩
  | 79 => some ⟨.other, 1, 8, false, [], [.v .nilFunc]⟩
  | 80 => some ⟨.struct, 9, 152, true, [(0, 5), (5, 1), (6, 1), (7, 1), (8, 1)], [.v (.string ⟨#[]⟩), .v (.string ⟨#[]⟩), .v (.string ⟨#[]⟩), .v (.string ⟨#[]⟩), .sl 1 10 [], .sl 1 10 [], .sl 1 2 [], .v (.int .i64 0), .v (.bool false)]⟩
  | 81 => some ⟨.struct, 9, 152, true, [(0, 5), (5, 1), (6, 1), (7, 1), (8, 1)], [.v (.string ⟨#[]⟩), .v (.string ⟨#[]⟩), .v (.string ⟨#[]⟩), .v (.string ⟨#[]⟩), .sl 1 10 [], .sl 1 10 [], .sl 1 2 [], .v (.int .i64 0), .v (.bool false)]⟩
  | 82 => some ⟨.other, 1, 8, false, [], [.v .nilFunc]⟩
  | 83 => some ⟨.slice 3, 1, 24, false, [], [.sl 1 1 []]⟩
  | 84 => some ⟨.struct, 15, 232, true, [(0, 1), (1, 1), (2, 10), (12, 1), (13, 1), (14, 1)], [.v (.int .i64 0), .sl 1 1 [], .v (.int .i64 0), .v (.int .i64 0), .v (.int .i64 0), .sl 1 2 [], .sl 1 10 [], .sl 1 1 [], .v (.string ⟨#[]⟩), .sl 1 2 [], .v (.bool false), .v (.bool false), .v (.int .i64 0), .sl 1 1 [], .sl 1 2 []]⟩
  | 85 => some ⟨.struct, 15, 232, true, [(0, 1), (1, 1), (2, 10), (12, 1), (13, 1), (14, 1)], [.v (.int .i64 0), .sl 1 1 [], .v (.int .i64 0), .v (.int .i64 0), .v (.int .i64 0), .sl 1 2 [], .sl 1 10 [], .sl 1 1 [], .v (.string ⟨#[]⟩), .sl 1 2 [], .v (.bool false), .v (.bool false), .v (.int .i64 0), .sl 1 1 [], .sl 1 2 []]⟩
  | 87 => some ⟨.other, 1, 8, false, [], [.v .nilFunc]⟩
  | 88 => some ⟨.other, 1, 8, false, [], [.v .nilFunc]⟩
  | 89 => some ⟨.other, 1, 8, false, [], [.v .nilFunc]⟩
  | 90 => some ⟨.other, 1, 8, false, [], [.v .nilFunc]⟩
  | 91 => some ⟨.other, 1, 8, false, [], [.v .nilFunc]⟩
  | 92 => some ⟨.other, 1, 8, false, [], [.v .nilFunc]⟩
  | 93 => some ⟨.other, 1, 8, false, [], [.v .nilFunc]⟩
  | 94 => some ⟨.other, 1, 8, false, [], [.v .nilFunc]⟩
  | 95 => some ⟨.other, 1, 8, false, [], [.v .nilFunc]⟩
  | 96 => some ⟨.other, 1, 8, false, [], [.v .nilFunc]⟩
  | 97 => some ⟨.other, 1, 8, false, [], [.v .nilFunc]⟩
  | 98 => some ⟨.other, 1, 8, false, [], [.v .nilFunc]⟩
  | 99 => some ⟨.other, 1, 8, false, [], [.v .nilFunc]⟩
  | 101 => some ⟨.other, 1, 8, false, [], [.v .nilFunc]⟩
  | 102 => some ⟨.struct, 2, 16, true, [(0, 1), (1, 1)], [.v (.int .i64 0), .v (.int .i32 0)]⟩
  | 103 => some ⟨.struct, 2, 16, true, [(0, 1), (1, 1)], [.v (.int .i64 0), .v (.int .i32 0)]⟩
  | 105 => some ⟨.other, 1, 8, false, [], [.v .nilFunc]⟩
  | 106 => some ⟨.other, 1, 8, false, [], [.v .nilFunc]⟩
  | 107 => some ⟨.other, 1, 8, false, [], [.v .nilFunc]⟩
  | 108 => some ⟨.other, 1, 8, false, [], [.v .nilFunc]⟩
  | 110 => some ⟨.other, 1, 8, false, [], [.v .nilFunc]⟩
  | 111 => some ⟨.ptr 113, 1, 8, false, [], [.v (.pointer none)]⟩
  | 112 => some ⟨.struct, 1, 8, true, [(0, 1)], [.v (.int .i64 0)]⟩
  | 113 => some ⟨.struct, 1, 8, true, [(0, 1)], [.v (.int .i64 0)]⟩
  | 114 => some ⟨.other, 1, 8, false, [], [.v .nilFunc]⟩
  | 115 => some ⟨.other, 1, 8, false, [], [.v .nilFunc]⟩
  | 116 => some ⟨.ptr 118, 1, 8, false, [], [.v (.pointer none)]⟩
  | 117 => some ⟨.struct, 4, 72, true, [(0, 1), (1, 1), (2, 1), (3, 1)], [.sl 1 3 [], .sl 1 3 [], .v (.string ⟨#[]⟩), .v (.int .i64 0)]⟩
  | 118 => some ⟨.struct, 4, 72, true, [(0, 1), (1, 1), (2, 1), (3, 1)], [.sl 1 3 [], .sl 1 3 [], .v (.string ⟨#[]⟩), .v (.int .i64 0)]⟩
  | 119 => some ⟨.other, 1, 8, false, [], [.v .nilFunc]⟩
  | 120 => some ⟨.other, 1, 8, false, [], [.v .nilFunc]⟩
  | 122 => some ⟨.other, 1, 8, false, [], [.v .nilFunc]⟩
  | 123 => some ⟨.slice 5, 1, 24, false, [], [.sl 1 1 []]⟩
  | 124 => some ⟨.other, 1, 8, false, [], [.v .nilFunc]⟩
  | 125 => some ⟨.struct, 9, 152, true, [(0, 5), (5, 1), (6, 1), (7, 1), (8, 1)], [.v (.string ⟨#[]⟩), .v (.string ⟨#[]⟩), .v (.string ⟨#[]⟩), .v (.string ⟨#[]⟩), .sl 1 10 [], .sl 1 10 [], .sl 1 2 [], .v (.int .i64 0), .v (.bool false)]⟩
  | 126 => some ⟨.struct, 9, 152, true, [(0, 5), (5, 1), (6, 1), (7, 1), (8, 1)], [.v (.string ⟨#[]⟩), .v (.string ⟨#[]⟩), .v (.string ⟨#[]⟩), .v (.string ⟨#[]⟩), .sl 1 10 [], .sl 1 10 [], .sl 1 2 [], .v (.int .i64 0), .v (.bool false)]⟩
  | 127 => some ⟨.other, 1, 8, false, [], [.v .nilFunc]⟩
  | 128 => some ⟨.other, 1, 8, false, [], [.v .nilFunc]⟩
  | 129 => some ⟨.struct, 2, 32, true, [(0, 1), (1, 1)], [.v (.bool false), .sl 1 1 []]⟩
  | 130 => some ⟨.struct, 2, 32, true, [(0, 1), (1, 1)], [.v (.bool false), .sl 1 1 []]⟩
  | 131 => some ⟨.other, 1, 8, false, [], [.v .nilFunc]⟩
  | 132 => some ⟨.other, 1, 8, false, [], [.v .nilFunc]⟩
  | 133 => some ⟨.other, 1, 8, false, [], [.v .nilFunc]⟩
  | 134 => some ⟨.other, 1, 8, false, [], [.v .nilFunc]⟩
  | 135 => some ⟨.other, 1, 8, false, [], [.v .nilFunc]⟩
  | 136 => some ⟨.other, 1, 8, false, [], [.v .nilFunc]⟩
  | 137 => some ⟨.other, 1, 8, false, [], [.v .nilFunc]⟩
  | 138 => some ⟨.other, 1, 8, false, [], [.v .nilFunc]⟩
  | 139 => some ⟨.other, 1, 8, false, [], [.v .nilFunc]⟩
  | 140 => some ⟨.other, 1, 8, false, [], [.v .nilFunc]⟩
  | 141 => some ⟨.other, 1, 8, false, [], [.v .nilFunc]⟩
  | 142 => some ⟨.other, 1, 8, false, [], [.v .nilFunc]⟩
  | 143 => some ⟨.other, 1, 8, false, [], [.v .nilFunc]⟩
  | 144 => some ⟨.arr 2 5, 2, 2, true, [], [.v (.int .u8 0), .v (.int .u8 0)]⟩
  | 145 => some ⟨.other, 1, 8, false, [], [.v .nilFunc]⟩
  | 146 => some ⟨.other, 1, 8, false, [], [.v .nilFunc]⟩
  | 147 => some ⟨.ptr 151, 1, 8, false, [], [.v (.pointer none)]⟩
  | 148 => some ⟨.slice 21, 1, 24, false, [], [.sl 1 1 []]⟩
  | 149 => some ⟨.other, 1, 8, false, [], [.v .nilFunc]⟩
  | 150 => some ⟨.struct, 4, 80, true, [(0, 1), (1, 1), (2, 1), (3, 1)], [.sl 1 1 [], .v (.int .i64 0), .sl 1 2 [], .sl 1 3 []]⟩
  | 151 => some ⟨.struct, 4, 80, true, [(0, 1), (1, 1), (2, 1), (3, 1)], [.sl 1 1 [], .v (.int .i64 0), .sl 1 2 [], .sl 1 3 []]⟩
  | 152 => some ⟨.other, 1, 8, false, [], [.v .nilFunc]⟩
  | 153 => some ⟨.other, 1, 8, false, [], [.v .nilFunc]⟩
  | 154 => some ⟨.other, 1, 8, false, [], [.v .nilFunc]⟩
  | 155 => some ⟨.other, 1, 8, false, [], [.v .nilFunc]⟩
  | 156 => some ⟨.other, 1, 8, false, [], [.v .nilFunc]⟩
  | 157 => some ⟨.other, 1, 8, false, [], [.v .nilFunc]⟩
  | 158 => some ⟨.other, 1, 8, false, [], [.v .nilFunc]⟩
  | 159 => some ⟨.other, 1, 8, false, [], [.v .nilFunc]⟩
  | 160 => some ⟨.other, 1, 8, false, [], [.v .nilFunc]⟩
  | 161 => some ⟨.other, 1, 8, false, [], [.v .nilFunc]⟩
  | 163 => some ⟨.other, 1, 8, false, [], [.v .nilFunc]⟩
  | 164 => some ⟨.other, 1, 8, false, [], [.v .nilFunc]⟩
  | 165 => some ⟨.other, 1, 8, false, [], [.v .nilFunc]⟩
  | 166 => some ⟨.other, 1, 8, false, [], [.v .nilFunc]⟩
  | 167 => some ⟨.ptr 169, 1, 8, false, [], [.v (.pointer none)]⟩
  | 168 => some ⟨.struct, 1, 24, true, [(0, 1)], [.sl 1 12 []]⟩
  | 169 => some ⟨.struct, 1, 24, true, [(0, 1)], [.sl 1 12 []]⟩
  | 170 => some ⟨.other, 1, 8, false, [], [.v .nilFunc]⟩
  | 171 => some ⟨.slice 44, 1, 24, false, [], [.sl 1 1 []]⟩
  | 172 => some ⟨.other, 1, 8, false, [], [.v .nilFunc]⟩
  | 173 => some ⟨.other, 1, 8, false, [], [.v .nilFunc]⟩
  | 174 => some ⟨.other, 1, 8, false, [], [.v .nilFunc]⟩
  | 175 => some ⟨.other, 1, 8, false, [], [.v .nilFunc]⟩
  | 176 => some ⟨.other, 1, 8, false, [], [.v .nilFunc]⟩
  | 178 => some ⟨.other, 1, 8, false, [], [.v .nilFunc]⟩
  | 179 => some ⟨.other, 1, 8, false, [], [.v .nilFunc]⟩
  | 180 => some ⟨.struct, 3, 24, true, [(0, 1), (1, 1), (2, 1)], [.v (.int .i64 0), .v (.int .i64 0), .v (.int .i64 0)]⟩
  | 181 => some ⟨.struct, 3, 24, true, [(0, 1), (1, 1), (2, 1)], [.v (.int .i64 0), .v (.int .i64 0), .v (.int .i64 0)]⟩
  | 182 => some ⟨.other, 1, 8, false, [], [.v .nilFunc]⟩
  | 183 => some ⟨.other, 1, 8, false, [], [.v .nilFunc]⟩
  | 184 => some ⟨.other, 1, 8, false, [], [.v .nilFunc]⟩
  | 185 => some ⟨.other, 1, 8, false, [], [.v .nilFunc]⟩
  | 186 => some ⟨.other, 1, 8, false, [], [.v .nilFunc]⟩
  | 187 => some ⟨.other, 1, 8, false, [], [.v .nilFunc]⟩
  | 188 => some ⟨.other, 1, 8, false, [], [.v .nilFunc]⟩
  | 189 => some ⟨.other, 1, 8, false, [], [.v .nilFunc]⟩
  | 190 => some ⟨.other, 1, 8, false, [], [.v .nilFunc]⟩
  | 191 => some ⟨.other, 1, 8, false, [], [.v .nilFunc]⟩
  | 192 => some ⟨.int .u64, 1, 8, false, [], [.v (.int .u64 0)]⟩
  | 193 => some ⟨.other, 1, 8, false, [], [.v .nilFunc]⟩
  | 195 => some ⟨.other, 1, 8, false, [], [.v .nilFunc]⟩
  | 196 => some ⟨.other, 1, 8, false, [], [.v .nilFunc]⟩
  | 198 => some ⟨.other, 1, 8, false, [], [.v .nilFunc]⟩
  | 199 => some ⟨.other, 1, 8, false, [], [.v .nilFunc]⟩
  | 200 => some ⟨.other, 1, 8, false, [], [.v .nilFunc]⟩
  | 201 => some ⟨.other, 1, 8, false, [], [.v .nilFunc]⟩
  | 202 => some ⟨.other, 1, 8, false, [], [.v .nilFunc]⟩
  | 203 => some ⟨.other, 1, 8, false, [], [.v .nilFunc]⟩
  | 204 => some ⟨.map 9 21, 1, 8, false, [], [.v (.map none)]⟩
  | 205 => some ⟨.other, 1, 8, false, [], [.v .nilFunc]⟩
  | 206 => some ⟨.ptr 208, 1, 8, false, [], [.v (.pointer none)]⟩
  | 207 => some ⟨.struct, 2, 32, true, [(0, 1), (1, 1)], [.v (.pointer none), .sl 1 1 []]⟩
  | 208 => some ⟨.struct, 2, 32, true, [(0, 1), (1, 1)], [.v (.pointer none), .sl 1 1 []]⟩
  | 209 => some ⟨.other, 1, 8, false, [], [.v .nilFunc]⟩
  | 210 => some ⟨.other, 1, 8, false, [], [.v .nilFunc]⟩
  | 211 => some ⟨.other, 1, 16, false, [], [.v .nilIface]⟩
  | 212 => some ⟨.other, 1, 16, false, [], [.v .nilIface]⟩
  | 214 => some ⟨.other, 1, 8, false, [], [.v .nilFunc]⟩
  | 215 => some ⟨.other, 1, 8, false, [], [.v .nilFunc]⟩
  | 216 => some ⟨.other, 1, 8, false, [], [.v .nilFunc]⟩
  | 217 => some ⟨.other, 1, 8, false, [], [.v .nilFunc]⟩
  | 218 => some ⟨.other, 1, 8, false, [], [.v .nilFunc]⟩
  | 219 => some ⟨.other, 1, 8, false, [], [.v .nilFunc]⟩
  | 220 => some ⟨.other, 1, 8, false, [], [.v .nilFunc]⟩
  | 221 => some ⟨.other, 1, 8, false, [], [.v .nilFunc]⟩
  | 222 => some ⟨.ptr 5, 1, 8, false, [], [.v (.pointer none)]⟩
  | 223 => some ⟨.int .u32, 1, 4, false, [], [.v (.int .u32 0)]⟩
  | 225 => some ⟨.other, 1, 8, false, [], [.v .nilFunc]⟩
  | 227 => some ⟨.struct, 2, 2, true, [(0, 1), (1, 1)], [.v (.int .u8 0), .v (.int .u8 0)]⟩
  | 228 => some ⟨.struct, 2, 2, true, [(0, 1), (1, 1)], [.v (.int .u8 0), .v (.int .u8 0)]⟩
  | 229 => some ⟨.arr 16 228, 32, 32, true, [], [.v (.int .u8 0), .v (.int .u8 0), .v (.int .u8 0), .v (.int .u8 0), .v (.int .u8 0), .v (.int .u8 0), .v (.int .u8 0), .v (.int .u8 0), .v (.int .u8 0), .v (.int .u8 0), .v (.int .u8 0), .v (.int .u8 0), .v (.int .u8 0), .v (.int .u8 0), .v (.int .u8 0), .v (.int .u8 0), .v (.int .u8 0), .v (.int .u8 0), .v (.int .u8 0), .v (.int .u8 0), .v (.int .u8 0), .v (.int .u8 0), .v (.int .u8 0), .v (.int .u8 0), .v (.int .u8 0), .v (.int .u8 0), .v (.int .u8 0), .v (.int .u8 0), .v (.int .u8 0), .v (.int .u8 0), .v (.int .u8 0), .v (.int .u8 0)]⟩
  | 231 => some ⟨.other, 1, 8, false, [], [.v .nilFunc]⟩
  | 232 => some ⟨.other, 1, 8, false, [], [.v .nilFunc]⟩
  | 233 => some ⟨.struct, 4, 40, true, [(0, 1), (1, 1), (2, 1), (3, 1)], [.v (.pointer none), .v (.pointer none), .v (.pointer none), .v (.string ⟨#[]⟩)]⟩
  | 234 => some ⟨.struct, 4, 40, true, [(0, 1), (1, 1), (2, 1), (3, 1)], [.v (.pointer none), .v (.pointer none), .v (.pointer none), .v (.string ⟨#[]⟩)]⟩
  | 235 => some ⟨.arr 0 16, 0, 0, true, [], []⟩
  | 236 => some ⟨.struct, 0, 0, true, [(0, 0)], []⟩
  | 237 => some ⟨.struct, 0, 0, true, [(0, 0)], []⟩
  | 238 => some ⟨.int .u8, 1, 1, false, [], [.v (.int .u8 0)]⟩
  | 239 => some ⟨.int .u8, 1, 1, false, [], [.v (.int .u8 0)]⟩
  | 240 => some ⟨.other, 1, 8, false, [], [.v .nilFunc]⟩
  | 241 => some ⟨.int .i32, 1, 4, false, [], [.v (.int .i32 0)]⟩
  | 242 => some ⟨.int .i32, 1, 4, false, [], [.v (.int .i32 0)]⟩
  | 243 => some ⟨.struct, 11, 48, true, [(0, 1), (1, 1), (2, 1), (3, 1), (4, 1), (5, 1), (6, 1), (7, 1), (8, 1), (9, 1), (10, 1)], [.v (.int .u64 0), .v (.int .u64 0), .v (.int .u32 0), .v (.int .u8 0), .v (.int .u8 0), .v (.int .u8 0), .v (.int .u8 0), .v .nilFunc, .v (.pointer none), .v (.int .i32 0), .v (.int .i32 0)]⟩
  | 244 => some ⟨.struct, 11, 48, true, [(0, 1), (1, 1), (2, 1), (3, 1), (4, 1), (5, 1), (6, 1), (7, 1), (8, 1), (9, 1), (10, 1)], [.v (.int .u64 0), .v (.int .u64 0), .v (.int .u32 0), .v (.int .u8 0), .v (.int .u8 0), .v (.int .u8 0), .v (.int .u8 0), .v .nilFunc, .v (.pointer none), .v (.int .i32 0), .v (.int .i32 0)]⟩
  | _ => none

def mdT : FuncId → Nat → CMode
  | 8, 37 => .raw
  | 8, 84 => .raw
  | 8, 89 => .raw
  | 10, 27 => .raw
  | 10, 43 => .raw
  | 10, 52 => .raw
  | 10, 60 => .raw
  | 11, 35 => .raw
  | 11, 45 => .raw
  | 11, 47 => .raw
  | 11, 59 => .raw
  | 11, 83 => .raw
  | 12, 24 => .raw
  | 12, 26 => .raw
  | 12, 28 => .raw
  | 12, 30 => .raw
  | 12, 32 => .raw
  | 12, 34 => .raw
  | 12, 42 => .raw
  | 12, 48 => .raw
  | 13, 30 => .raw
  | 13, 32 => .raw
  | 13, 35 => .raw
  | 13, 38 => .raw
  | 13, 40 => .raw
  | 13, 64 => .raw
  | 13, 66 => .raw
  | 13, 70 => .raw
  | 13, 73 => .raw
  | 13, 75 => .raw
  | 13, 81 => .raw
  | 24, 9 => .raw
  | 29, 28 => .raw
  | 29, 38 => .raw
  | 32, 10 => .raw
  | 32, 14 => .raw
  | 32, 18 => .raw
  | 32, 20 => .raw
  | 32, 37 => .raw
  | 32, 42 => .raw
  | 34, 28 => .raw
  | 35, 81 => .raw
  | 35, 89 => .raw
  | 43, 26 => .raw
  | 43, 32 => .raw
  | 43, 38 => .raw
  | 43, 44 => .raw
  | 43, 52 => .raw
  | 43, 56 => .raw
  | 43, 10 => .raw
  | 50, 7 => .raw
  | 50, 11 => .raw
  | 52, 11 => .raw
  | 52, 45 => .raw
  | 53, 7 => .raw
  | 53, 10 => .raw
  | 53, 28 => .raw
  | 55, 14 => .raw
  | 57, 55 => .raw
  | 57, 58 => .raw
  | 57, 62 => .raw
  | 57, 65 => .raw
  | 63, 70 => .raw
  | 63, 98 => .raw
  | 63, 105 => .raw
  | 65, 16 => .raw
  | 66, 58 => .raw
  | 66, 68 => .raw
  | 69, 7 => .raw
  | 73, 28 => .raw
  | 77, 16 => .raw
  | 92, 25 => .raw
  | 92, 38 => .raw
  | 97, 18 => .raw
  | 97, 44 => .raw
  | 97, 50 => .raw
  | 97, 54 => .raw
  | 97, 59 => .raw
  | 97, 65 => .raw
  | 97, 86 => .raw
  | 97, 91 => .raw
  | 97, 39 => .raw
  | 112, 32 => .raw
  | 112, 42 => .raw
  | 112, 53 => .raw
  | 112, 28 => .raw
  | 113, 32 => .raw
  | 117, 17 => .raw
  | 119, 5 => .raw
  | 128, 16 => .raw
  | 128, 23 => .raw
  | 128, 28 => .raw
  | 128, 35 => .raw
  | 128, 38 => .raw
  | 133, 12 => .raw
  | 139, 40 => .raw
  | 139, 49 => .raw
  | 139, 77 => .raw
  | 139, 88 => .raw
  | 139, 107 => .raw
  | 139, 115 => .raw
  | 139, 119 => .raw
  | 140, 10 => .raw
  | 140, 28 => .raw
  | 148, 21 => .raw
  | 148, 74 => .raw
  | 154, 16 => .raw
  | 160, 5 => .raw
  | 160, 24 => .raw
  | 161, 7 => .raw
  | 162, 8 => .raw
  | 164, 6 => .raw
  | 59, 24 => .raw
  | _, _ => .pure

def kpT : FuncId → Nat → Option (List Nat)
  | 3, 18 => some [3, 4, 17, 18, 19, 20]
  | 3, 12 => some [3, 4, 16]
  | 5, 17 => some [1, 3, 4, 5, 6, 8, 9]
  | 5, 14 => some [1, 3, 4, 5, 6, 8]
  | 5, 10 => some [1, 3, 4, 5, 6, 7]
  | 5, 6 => some [1, 3, 4, 5]
  | 6, 29 => some [6, 7, 10, 12, 13]
  | 6, 19 => some [0, 6, 7, 8, 9, 10, 11]
  | 6, 7 => some [0, 3, 4, 5]
  | 6, 3 => some [0, 3, 4]
  | 7, 17 => some [0, 3, 4, 7, 8]
  | 7, 9 => some [0, 3, 4, 5, 6]
  | 7, 6 => some [0, 3, 4, 5]
  | 8, 14 => some [0, 1, 5, 6, 7, 8, 9, 10, 11]
  | 8, 7 => some [0, 1, 5, 6, 7, 8, 9, 10]
  | 9, 17 => some [4, 8, 9, 10]
  | 9, 10 => some [3, 4, 5, 6, 7]
  | 10, 6 => some [0, 1, 5, 6, 7]
  | 11, 21 => some [5, 9, 11, 12, 13]
  | 11, 15 => some [5, 7, 9, 10]
  | 11, 5 => some [0, 3, 5, 6]
  | 12, 14 => some [3, 5, 6, 7, 8]
  | 12, 5 => some [0, 3, 4]
  | 13, 5 => some [0, 1, 2, 7, 8]
  | 15, 3 => some [2, 5, 6, 9, 10, 11]
  | 16, 4 => some [0, 1, 5]
  | 27, 4 => some [3, 4, 7, 8, 9]
  | 28, 3 => some [0, 3, 4]
  | 29, 13 => some [7, 10, 49, 50]
  | 29, 3 => some [1, 7, 8]
  | 30, 3 => some [0, 3, 4]
  | 35, 16 => some [2, 3]
  | 35, 11 => some [2, 3, 61, 62, 63]
  | 35, 6 => some [0, 2, 3, 37, 38, 39]
  | 36, 15 => some [0, 3, 4, 6, 7, 8]
  | 36, 11 => some [0, 3, 4, 6]
  | 36, 7 => some [0, 3, 4, 5]
  | 36, 3 => some [0, 3, 4]
  | 40, 3 => some [3, 7, 8, 9]
  | 41, 3 => some [0, 3, 4]
  | 46, 4 => some [1, 12, 13, 14]
  | 47, 2 => some [1, 2, 5]
  | 48, 2 => some [1, 2]
  | 49, 16 => some [0, 3, 4, 6, 7, 8]
  | 49, 11 => some [0, 3, 4, 6]
  | 49, 7 => some [0, 3, 4, 5]
  | 49, 3 => some [0, 3, 4]
  | 51, 4 => some [1, 3]
  | 52, 7 => some [0, 1, 4, 5, 21, 22, 23]
  | 52, 3 => some [0, 1, 4]
  | 53, 4 => some [0, 1]
  | 57, 2 => some [4]
  | 59, 11 => some [6, 25, 26, 27]
  | 59, 3 => some [0, 3, 9, 10, 11]
  | 60, 3 => some [0, 3, 4]
  | 61, 4 => some [0, 1, 5]
  | 62, 3 => some [0, 1, 2, 3, 10, 11]
  | 63, 3 => some [0, 2, 3, 9, 20, 21, 22]
  | 65, 2 => some [0, 1, 7, 8]
  | 66, 7 => some [0, 1, 8, 9, 37, 38, 39]
  | 70, 2 => some [0, 3]
  | 72, 19 => some [1, 2, 12, 58, 59, 60, 68, 69, 70]
  | 72, 15 => some [1, 2, 58, 59, 60]
  | 72, 10 => some [1, 2, 5, 44, 45, 46]
  | 72, 5 => some [1, 2, 4, 5, 30, 31, 32]
  | 74, 2 => some [0, 1, 5]
  | 75, 4 => some [1, 5, 6, 7]
  | 78, 11 => some [6, 25, 26, 27]
  | 78, 3 => some [0, 3, 9, 10, 11]
  | 79, 12 => some [3, 5, 10, 11, 12, 35, 36, 37]
  | 79, 7 => some [3, 5, 10, 11, 12, 22, 23, 24]
  | 79, 3 => some [3, 10, 11, 12]
  | 80, 3 => some [0, 3, 4]
  | 84, 4 => some [1, 2, 4]
  | 85, 2 => some [1, 2, 4]
  | 90, 3 => some [0, 3, 4]
  | 91, 9 => some [2, 6]
  | 92, 4 => some [1, 2, 8, 9, 16, 17, 18]
  | 95, 2 => some [0, 3]
  | 101, 4 => some [0, 1, 5]
  | 102, 4 => some [2, 3, 5]
  | 105, 2 => some [0, 1, 5]
  | 114, 3 => some [1, 5, 10, 11, 12]
  | 116, 6 => some [0, 3, 4, 5, 6]
  | 116, 3 => some [0, 3, 4]
  | 117, 1 => some [0, 1, 8, 9, 10]
  | 121, 2 => some [0, 1, 5]
  | 123, 2 => some [0, 3]
  | 126, 15 => some [1, 4, 5, 6]
  | 126, 9 => some [1, 4]
  | 126, 4 => some [1, 3]
  | 127, 14 => some [4, 5, 48, 49, 50]
  | 129, 4 => some [0, 3, 4]
  | 130, 15 => some [1, 2, 3, 5, 6, 7, 8]
  | 130, 11 => some [1, 2, 3, 5, 6]
  | 130, 3 => some [1, 2, 3, 4]
  | 131, 4 => some [3, 4, 7, 8, 9]
  | 132, 3 => some [3, 6, 7, 8]
  | 133, 11 => some [2, 3, 4, 6, 7, 8, 31, 32, 33]
  | 133, 7 => some [2, 3, 4, 31, 32, 33]
  | 138, 10 => some [0, 3, 4]
  | 139, 24 => some [0, 1, 6, 7, 91, 92, 93]
  | 140, 5 => some [0, 1, 5, 6]
  | 146, 8 => some [0, 6, 7]
  | 148, 20 => some [0, 5, 68]
  | 148, 3 => some [0, 1, 5, 14]
  | 151, 15 => some [0, 1, 5, 6, 7, 8, 9, 10]
  | 152, 3 => some [3, 8, 9, 10]
  | 154, 2 => some [0, 1, 7, 8]
  | 155, 2 => some [0, 1, 7, 8]
  | 170, 11 => some [0, 1, 5, 6, 7, 8, 10]
  | 170, 5 => some [0, 1, 5, 6, 7, 8, 9]
  | 178, 8 => some [4, 6, 7, 8]
  | 178, 3 => some [0, 4, 5]
  | _, _ => none

def mpL : Nat → List (List UInt8 × Int)
  | 0 => [([33, 61], 8800), ([45, 62], 8594), ([60, 45], 8592), ([60, 61], 8804), ([62, 61], 8805), ([69, 117], 8364), ([97, 58], 228), ([97, 113], 39), ([98, 117], 8226), ([99, 111], 169), ([99, 113], 8217), ([100, 101], 176), ([100, 105], 247), ([100, 113], 34), ([101, 109], 8212), ([101, 110], 8211), ([104, 97], 94), ([104, 121], 8208), ([108, 113], 8220), ([109, 117], 215), ([111, 58], 246), ([111, 113], 8216), ([114, 103], 174), ([114, 113], 8221), ([114, 115], 92), ([115, 99], 167), ([115, 115], 223), ([116, 105], 126), ([116, 109], 8482), ([117, 58], 252)]
  | 1 => [([49], 0), ([50], 1), ([51], 2), ([52], 3), ([66], 1), ([66, 73], 3), ([73], 2), ([80], 4), ([82], 0)]
  | _ => []

def mpT (m : Nat) (s : ByteArray) : Option Value := ((mpL m).find? fun p => p.1 == s.data.toList).map fun p => .int .i32 p.2

variable {G : Nat → Option (List D)}
noncomputable def env0 (G : Nat → Option (List D)) : Env := ⟨tyOf Tryd.prog tyT, fnOf Tryd.prog mdT kpT, G, mpT, eqB Tryd.prog, fun _ => none, fun _ => none⟩

noncomputable def orcT (G : Nat → Option (List D)) : FuncId → Option (List D → CS → Option (D × CS))
  | 58 => some (cloneD (env0 G) 26)
  | 111 => some (containsD (G 4))
  | _ => none

noncomputable def env (G : Nat → Option (List D)) : Env := { env0 G with orc := orcT G }

theorem env_ty : (env G).ty = tyOf Tryd.prog tyT := rfl
theorem env_fn : (env G).fn = fnOf Tryd.prog mdT kpT := rfl
@[simp] theorem env_gl : (env G).gl = G := rfl
@[simp] theorem env_mp : (env G).mp = mpT := rfl
theorem env0_ok (hm : Tryd.prog.follows .mixedOrders = true) (hG : ∀ n cs, G n = some cs → ∀ d ∈ cs, D.cells d = [d] ∧ d.norm = d) : EnvOk Tryd.prog (env0 G) where
  ty := fun t i h => by rw [show (env0 G).ty = tyOf Tryd.prog tyT from rfl] at h; exact tyOf_ok h
  fn := fun f fi h => by rw [show (env0 G).fn = fnOf Tryd.prog mdT kpT from rfl] at h; exact fnOf_ok h
  mixed := hm
  eq := fun _ _ h => eqB_ok h
  orc := fun _ _ h => by simp [env0] at h
  ext := fun _ _ h => by simp [env0] at h
  glOne := hG

theorem clone58 (hm : Tryd.prog.follows .mixedOrders = true) (hG : ∀ n cs, G n = some cs → ∀ d ∈ cs, D.cells d = [d] ∧ d.norm = d) {args : List D} {c : CS} {r : D} {c' : CS} (h : cloneD (env0 G) 26 args c = some (r, c')) : HasBody Tryd.prog 58 ∧ AnsOk Tryd.prog (env0 G) 58 args c r c' :=
  clone_ans (env0_ok hm hG) rfl (b := 4) Tryd.func58 rfl rfl rfl (by kernel_rfl) h
@[simp] theorem orc58 : (env G).orc 58 = some (cloneD (env0 G) 26) := rfl
theorem contains111 {args : List D} {c : CS} {r : D} {c' : CS} (h : containsD (G 4) args c = some (r, c')) : HasBody Tryd.prog 111 ∧ AnsOk Tryd.prog (env0 G) 111 args c r c' :=
  contains_ans (E := env0 G) (n := 4) ⟨Tryd.f111, Tryd.func111, rfl, by kernel_rfl⟩ Tryd.strings_Contains h
@[simp] theorem orc111 : (env G).orc 111 = some (containsD (G 4)) := rfl
theorem env_ok (hm : Tryd.prog.follows .mixedOrders = true) (hG : ∀ n cs, G n = some cs → ∀ d ∈ cs, D.cells d = [d] ∧ d.norm = d) : EnvOk Tryd.prog (env G) :=
  (env0_ok hm hG).withOrc fun f q hf args c r c' hr => by
    unfold orcT at hf
    split at hf
    · obtain rfl := Option.some.inj hf; exact clone58 hm hG hr
    · obtain rfl := Option.some.inj hf; exact contains111 hr
    · simp at hf

@[simp] theorem ty1 : (env G).ty 1 = some ⟨.other, 1, 8, false, [], [.v .nilFunc]⟩ := by rw [env_ty]; exact tyOf_of (by kernel_rfl) (by kernel_rfl)
@[simp] theorem ty2 : (env G).ty 2 = some ⟨.int .i64, 1, 8, false, [], [.v (.int .i64 0)]⟩ := by rw [env_ty]; exact tyOf_of (by kernel_rfl) (by kernel_rfl)
@[simp] theorem ty3 : (env G).ty 3 = some ⟨.int .i64, 1, 8, false, [], [.v (.int .i64 0)]⟩ := by rw [env_ty]; exact tyOf_of (by kernel_rfl) (by kernel_rfl)
@[simp] theorem ty4 : (env G).ty 4 = some ⟨.bool, 1, 1, false, [], [.v (.bool false)]⟩ := by rw [env_ty]; exact tyOf_of (by kernel_rfl) (by kernel_rfl)
@[simp] theorem ty5 : (env G).ty 5 = some ⟨.int .u8, 1, 1, false, [], [.v (.int .u8 0)]⟩ := by rw [env_ty]; exact tyOf_of (by kernel_rfl) (by kernel_rfl)
@[simp] theorem ty6 : (env G).ty 6 = some ⟨.int .u8, 1, 1, false, [], [.v (.int .u8 0)]⟩ := by rw [env_ty]; exact tyOf_of (by kernel_rfl) (by kernel_rfl)
@[simp] theorem ty7 : (env G).ty 7 = some ⟨.struct, 4, 24, true, [(0, 1), (1, 1), (2, 1), (3, 1)], [.v (.int .i64 0), .v (.int .i64 0), .v (.bool false), .v (.int .u8 0)]⟩ := by rw [env_ty]; exact tyOf_of (by kernel_rfl) (by kernel_rfl)
@[simp] theorem ty8 : (env G).ty 8 = some ⟨.struct, 4, 24, true, [(0, 1), (1, 1), (2, 1), (3, 1)], [.v (.int .i64 0), .v (.int .i64 0), .v (.bool false), .v (.int .u8 0)]⟩ := by rw [env_ty]; exact tyOf_of (by kernel_rfl) (by kernel_rfl)
@[simp] theorem ty9 : (env G).ty 9 = some ⟨.str, 1, 16, false, [], [.v (.string ⟨#[]⟩)]⟩ := by rw [env_ty]; exact tyOf_of (by kernel_rfl) (by kernel_rfl)
@[simp] theorem ty10 : (env G).ty 10 = some ⟨.str, 1, 16, false, [], [.v (.string ⟨#[]⟩)]⟩ := by rw [env_ty]; exact tyOf_of (by kernel_rfl) (by kernel_rfl)
@[simp] theorem ty11 : (env G).ty 11 = some ⟨.str, 1, 16, false, [], [.v (.string ⟨#[]⟩)]⟩ := by rw [env_ty]; exact tyOf_of (by kernel_rfl) (by kernel_rfl)
@[simp] theorem ty12 : (env G).ty 12 = some ⟨.int .u64, 1, 8, false, [], [.v (.int .u64 0)]⟩ := by rw [env_ty]; exact tyOf_of (by kernel_rfl) (by kernel_rfl)
@[simp] theorem ty13 : (env G).ty 13 = some ⟨.struct, 2, 24, true, [(0, 1), (1, 1)], [.v (.string ⟨#[]⟩), .v (.int .u64 0)]⟩ := by rw [env_ty]; exact tyOf_of (by kernel_rfl) (by kernel_rfl)
@[simp] theorem ty14 : (env G).ty 14 = some ⟨.struct, 2, 24, true, [(0, 1), (1, 1)], [.v (.string ⟨#[]⟩), .v (.int .u64 0)]⟩ := by rw [env_ty]; exact tyOf_of (by kernel_rfl) (by kernel_rfl)
@[simp] theorem ty15 : (env G).ty 15 = some ⟨.ptr 234, 1, 8, false, [], [.v (.pointer none)]⟩ := by rw [env_ty]; exact tyOf_of (by kernel_rfl) (by kernel_rfl)
@[simp] theorem ty16 : (env G).ty 16 = some ⟨.ptr 237, 1, 8, false, [], [.v (.pointer none)]⟩ := by rw [env_ty]; exact tyOf_of (by kernel_rfl) (by kernel_rfl)
@[simp] theorem ty17 : (env G).ty 17 = some ⟨.ptr 244, 1, 8, false, [], [.v (.pointer none)]⟩ := by rw [env_ty]; exact tyOf_of (by kernel_rfl) (by kernel_rfl)
@[simp] theorem ty18 : (env G).ty 18 = some ⟨.struct, 1, 8, true, [(0, 1)], [.v (.pointer none)]⟩ := by rw [env_ty]; exact tyOf_of (by kernel_rfl) (by kernel_rfl)
@[simp] theorem ty19 : (env G).ty 19 = some ⟨.struct, 1, 8, true, [(0, 1)], [.v (.pointer none)]⟩ := by rw [env_ty]; exact tyOf_of (by kernel_rfl) (by kernel_rfl)
@[simp] theorem ty20 : (env G).ty 20 = some ⟨.other, 1, 16, false, [], [.v .nilIface]⟩ := by rw [env_ty]; exact tyOf_of (by kernel_rfl) (by kernel_rfl)
@[simp] theorem ty21 : (env G).ty 21 = some ⟨.int .i32, 1, 4, false, [], [.v (.int .i32 0)]⟩ := by rw [env_ty]; exact tyOf_of (by kernel_rfl) (by kernel_rfl)
@[simp] theorem ty22 : (env G).ty 22 = some ⟨.struct, 2, 2, true, [(0, 1), (1, 1)], [.v (.int .u8 0), .v (.int .u8 0)]⟩ := by rw [env_ty]; exact tyOf_of (by kernel_rfl) (by kernel_rfl)
@[simp] theorem ty23 : (env G).ty 23 = some ⟨.struct, 2, 2, true, [(0, 1), (1, 1)], [.v (.int .u8 0), .v (.int .u8 0)]⟩ := by rw [env_ty]; exact tyOf_of (by kernel_rfl) (by kernel_rfl)
@[simp] theorem ty24 : (env G).ty 24 = some ⟨.slice 103, 1, 24, false, [], [.sl 1 2 []]⟩ := by rw [env_ty]; exact tyOf_of (by kernel_rfl) (by kernel_rfl)
@[simp] theorem ty25 : (env G).ty 25 = some ⟨.other, 1, 8, false, [], [.v .nilFunc]⟩ := by rw [env_ty]; exact tyOf_of (by kernel_rfl) (by kernel_rfl)
@[simp] theorem ty26 : (env G).ty 26 = some ⟨.slice 35, 1, 24, false, [], [.sl 1 2 []]⟩ := by rw [env_ty]; exact tyOf_of (by kernel_rfl) (by kernel_rfl)
@[simp] theorem ty28 : (env G).ty 28 = some ⟨.other, 1, 8, false, [], [.v .nilFunc]⟩ := by rw [env_ty]; exact tyOf_of (by kernel_rfl) (by kernel_rfl)
@[simp] theorem ty29 : (env G).ty 29 = some ⟨.other, 1, 8, false, [], [.v .nilFunc]⟩ := by rw [env_ty]; exact tyOf_of (by kernel_rfl) (by kernel_rfl)
@[simp] theorem ty30 : (env G).ty 30 = some ⟨.other, 1, 8, false, [], [.v .nilFunc]⟩ := by rw [env_ty]; exact tyOf_of (by kernel_rfl) (by kernel_rfl)
@[simp] theorem ty31 : (env G).ty 31 = some ⟨.slice 181, 1, 24, false, [], [.sl 1 3 []]⟩ := by rw [env_ty]; exact tyOf_of (by kernel_rfl) (by kernel_rfl)
@[simp] theorem ty33 : (env G).ty 33 = some ⟨.other, 1, 8, false, [], [.v .nilFunc]⟩ := by rw [env_ty]; exact tyOf_of (by kernel_rfl) (by kernel_rfl)
@[simp] theorem ty34 : (env G).ty 34 = some ⟨.struct, 2, 8, true, [(0, 1), (1, 1)], [.v (.int .i32 0), .v (.int .u8 0)]⟩ := by rw [env_ty]; exact tyOf_of (by kernel_rfl) (by kernel_rfl)
@[simp] theorem ty35 : (env G).ty 35 = some ⟨.struct, 2, 8, true, [(0, 1), (1, 1)], [.v (.int .i32 0), .v (.int .u8 0)]⟩ := by rw [env_ty]; exact tyOf_of (by kernel_rfl) (by kernel_rfl)
@[simp] theorem ty36 : (env G).ty 36 = some ⟨.other, 1, 8, false, [], [.v .nilFunc]⟩ := by rw [env_ty]; exact tyOf_of (by kernel_rfl) (by kernel_rfl)
@[simp] theorem ty37 : (env G).ty 37 = some ⟨.other, 1, 8, false, [], [.v .nilFunc]⟩ := by rw [env_ty]; exact tyOf_of (by kernel_rfl) (by kernel_rfl)
@[simp] theorem ty38 : (env G).ty 38 = some ⟨.other, 1, 8, false, [], [.v .nilFunc]⟩ := by rw [env_ty]; exact tyOf_of (by kernel_rfl) (by kernel_rfl)
@[simp] theorem ty39 : (env G).ty 39 = some ⟨.slice 49, 1, 24, false, [], [.sl 1 10 []]⟩ := by rw [env_ty]; exact tyOf_of (by kernel_rfl) (by kernel_rfl)
@[simp] theorem ty40 : (env G).ty 40 = some ⟨.struct, 5, 88, true, [(0, 1), (1, 1), (2, 1), (3, 1), (4, 1)], [.v (.string ⟨#[]⟩), .v (.string ⟨#[]⟩), .v (.string ⟨#[]⟩), .v (.string ⟨#[]⟩), .sl 1 10 []]⟩ := by rw [env_ty]; exact tyOf_of (by kernel_rfl) (by kernel_rfl)
@[simp] theorem ty41 : (env G).ty 41 = some ⟨.struct, 5, 88, true, [(0, 1), (1, 1), (2, 1), (3, 1), (4, 1)], [.v (.string ⟨#[]⟩), .v (.string ⟨#[]⟩), .v (.string ⟨#[]⟩), .v (.string ⟨#[]⟩), .sl 1 10 []]⟩ := by rw [env_ty]; exact tyOf_of (by kernel_rfl) (by kernel_rfl)
@[simp] theorem ty42 : (env G).ty 42 = some ⟨.other, 1, 8, false, [], [.v .nilFunc]⟩ := by rw [env_ty]; exact tyOf_of (by kernel_rfl) (by kernel_rfl)
@[simp] theorem ty43 : (env G).ty 43 = some ⟨.other, 1, 8, false, [], [.v .nilFunc]⟩ := by rw [env_ty]; exact tyOf_of (by kernel_rfl) (by kernel_rfl)
@[simp] theorem ty44 : (env G).ty 44 = some ⟨.slice 26, 1, 24, false, [], [.sl 1 1 []]⟩ := by rw [env_ty]; exact tyOf_of (by kernel_rfl) (by kernel_rfl)
@[simp] theorem ty45 : (env G).ty 45 = some ⟨.slice 130, 1, 24, false, [], [.sl 1 2 []]⟩ := by rw [env_ty]; exact tyOf_of (by kernel_rfl) (by kernel_rfl)
@[simp] theorem ty46 : (env G).ty 46 = some ⟨.struct, 4, 48, true, [(0, 1), (1, 1), (2, 1), (3, 1)], [.v (.string ⟨#[]⟩), .sl 1 2 [], .v (.bool false), .v (.bool false)]⟩ := by rw [env_ty]; exact tyOf_of (by kernel_rfl) (by kernel_rfl)
@[simp] theorem ty47 : (env G).ty 47 = some ⟨.struct, 4, 48, true, [(0, 1), (1, 1), (2, 1), (3, 1)], [.v (.string ⟨#[]⟩), .sl 1 2 [], .v (.bool false), .v (.bool false)]⟩ := by rw [env_ty]; exact tyOf_of (by kernel_rfl) (by kernel_rfl)
@[simp] theorem ty48 : (env G).ty 48 = some ⟨.struct, 10, 144, true, [(0, 1), (1, 1), (2, 1), (3, 1), (4, 1), (5, 1), (6, 4)], [.v (.int .i64 0), .v (.int .i64 0), .v (.int .i64 0), .sl 1 2 [], .sl 1 10 [], .sl 1 1 [], .v (.string ⟨#[]⟩), .sl 1 2 [], .v (.bool false), .v (.bool false)]⟩ := by rw [env_ty]; exact tyOf_of (by kernel_rfl) (by kernel_rfl)
@[simp] theorem ty49 : (env G).ty 49 = some ⟨.struct, 10, 144, true, [(0, 1), (1, 1), (2, 1), (3, 1), (4, 1), (5, 1), (6, 4)], [.v (.int .i64 0), .v (.int .i64 0), .v (.int .i64 0), .sl 1 2 [], .sl 1 10 [], .sl 1 1 [], .v (.string ⟨#[]⟩), .sl 1 2 [], .v (.bool false), .v (.bool false)]⟩ := by rw [env_ty]; exact tyOf_of (by kernel_rfl) (by kernel_rfl)
@[simp] theorem ty50 : (env G).ty 50 = some ⟨.other, 1, 8, false, [], [.v .nilFunc]⟩ := by rw [env_ty]; exact tyOf_of (by kernel_rfl) (by kernel_rfl)
@[simp] theorem ty51 : (env G).ty 51 = some ⟨.other, 1, 8, false, [], [.v .nilFunc]⟩ := by rw [env_ty]; exact tyOf_of (by kernel_rfl) (by kernel_rfl)
@[simp] theorem ty52 : (env G).ty 52 = some ⟨.slice 54, 1, 24, false, [], [.sl 1 3 []]⟩ := by rw [env_ty]; exact tyOf_of (by kernel_rfl) (by kernel_rfl)
@[simp] theorem ty53 : (env G).ty 53 = some ⟨.struct, 3, 32, true, [(0, 1), (1, 1), (2, 1)], [.sl 1 2 [], .v (.bool false), .v (.bool false)]⟩ := by rw [env_ty]; exact tyOf_of (by kernel_rfl) (by kernel_rfl)
@[simp] theorem ty54 : (env G).ty 54 = some ⟨.struct, 3, 32, true, [(0, 1), (1, 1), (2, 1)], [.sl 1 2 [], .v (.bool false), .v (.bool false)]⟩ := by rw [env_ty]; exact tyOf_of (by kernel_rfl) (by kernel_rfl)
@[simp] theorem ty55 : (env G).ty 55 = some ⟨.other, 1, 8, false, [], [.v .nilFunc]⟩ := by rw [env_ty]; exact tyOf_of (by kernel_rfl) (by kernel_rfl)
@[simp] theorem ty56 : (env G).ty 56 = some ⟨.other, 1, 8, false, [], [.v .nilFunc]⟩ := by rw [env_ty]; exact tyOf_of (by kernel_rfl) (by kernel_rfl)
@[simp] theorem ty57 : (env G).ty 57 = some ⟨.slice 9, 1, 24, false, [], [.sl 1 1 []]⟩ := by rw [env_ty]; exact tyOf_of (by kernel_rfl) (by kernel_rfl)
@[simp] theorem ty58 : (env G).ty 58 = some ⟨.other, 1, 8, false, [], [.v .nilFunc]⟩ := by rw [env_ty]; exact tyOf_of (by kernel_rfl) (by kernel_rfl)
@[simp] theorem ty60 : (env G).ty 60 = some ⟨.other, 1, 8, false, [], [.v .nilFunc]⟩ := by rw [env_ty]; exact tyOf_of (by kernel_rfl) (by kernel_rfl)
@[simp] theorem ty61 : (env G).ty 61 = some ⟨.other, 1, 8, false, [], [.v .nilFunc]⟩ := by rw [env_ty]; exact tyOf_of (by kernel_rfl) (by kernel_rfl)
@[simp] theorem ty62 : (env G).ty 62 = some ⟨.slice 4, 1, 24, false, [], [.sl 1 1 []]⟩ := by rw [env_ty]; exact tyOf_of (by kernel_rfl) (by kernel_rfl)
@[simp] theorem ty63 : (env G).ty 63 = some ⟨.ptr 126, 1, 8, false, [], [.v (.pointer none)]⟩ := by rw [env_ty]; exact tyOf_of (by kernel_rfl) (by kernel_rfl)
@[simp] theorem ty64 : (env G).ty 64 = some ⟨.other, 1, 8, false, [], [.v .nilFunc]⟩ := by rw [env_ty]; exact tyOf_of (by kernel_rfl) (by kernel_rfl)
@[simp] theorem ty65 : (env G).ty 65 = some ⟨.other, 1, 8, false, [], [.v .nilFunc]⟩ := by rw [env_ty]; exact tyOf_of (by kernel_rfl) (by kernel_rfl)
@[simp] theorem ty66 : (env G).ty 66 = some ⟨.other, 1, 8, false, [], [.v .nilFunc]⟩ := by rw [env_ty]; exact tyOf_of (by kernel_rfl) (by kernel_rfl)
@[simp] theorem ty67 : (env G).ty 67 = some ⟨.other, 1, 8, false, [], [.v .nilFunc]⟩ := by rw [env_ty]; exact tyOf_of (by kernel_rfl) (by kernel_rfl)
@[simp] theorem ty68 : (env G).ty 68 = some ⟨.other, 1, 8, false, [], [.v .nilFunc]⟩ := by rw [env_ty]; exact tyOf_of (by kernel_rfl) (by kernel_rfl)
@[simp] theorem ty69 : (env G).ty 69 = some ⟨.slice 75, 1, 24, false, [], [.sl 1 12 []]⟩ := by rw [env_ty]; exact tyOf_of (by kernel_rfl) (by kernel_rfl)
@[simp] theorem ty70 : (env G).ty 70 = some ⟨.other, 1, 8, false, [], [.v .nilFunc]⟩ := by rw [env_ty]; exact tyOf_of (by kernel_rfl) (by kernel_rfl)
@[simp] theorem ty71 : (env G).ty 71 = some ⟨.other, 1, 8, false, [], [.v .nilFunc]⟩ := by rw [env_ty]; exact tyOf_of (by kernel_rfl) (by kernel_rfl)
@[simp] theorem ty72 : (env G).ty 72 = some ⟨.slice 77, 1, 24, false, [], [.sl 1 3 []]⟩ := by rw [env_ty]; exact tyOf_of (by kernel_rfl) (by kernel_rfl)
@[simp] theorem ty73 : (env G).ty 73 = some ⟨.other, 1, 8, false, [], [.v .nilFunc]⟩ := by rw [env_ty]; exact tyOf_of (by kernel_rfl) (by kernel_rfl)
@[simp] theorem ty74 : (env G).ty 74 = some ⟨.struct, 12, 160, true, [(0, 1), (1, 1), (2, 1), (3, 1), (4, 1), (5, 1), (6, 1), (7, 1), (8, 4)], [.v (.int .i64 0), .v (.int .i64 0), .v (.int .i64 0), .v (.bool false), .v (.int .i64 0), .sl 1 2 [], .sl 1 2 [], .sl 1 1 [], .v (.string ⟨#[]⟩), .sl 1 2 [], .v (.bool false), .v (.bool false)]⟩ := by rw [env_ty]; exact tyOf_of (by kernel_rfl) (by kernel_rfl)
@[simp] theorem ty75 : (env G).ty 75 = some ⟨.struct, 12, 160, true, [(0, 1), (1, 1), (2, 1), (3, 1), (4, 1), (5, 1), (6, 1), (7, 1), (8, 4)], [.v (.int .i64 0), .v (.int .i64 0), .v (.int .i64 0), .v (.bool false), .v (.int .i64 0), .sl 1 2 [], .sl 1 2 [], .sl 1 1 [], .v (.string ⟨#[]⟩), .sl 1 2 [], .v (.bool false), .v (.bool false)]⟩ := by rw [env_ty]; exact tyOf_of (by kernel_rfl) (by kernel_rfl)
@[simp] theorem ty76 : (env G).ty 76 = some ⟨.struct, 3, 40, true, [(0, 1), (1, 1), (2, 1)], [.v (.int .i64 0), .v (.int .i64 0), .sl 1 2 []]⟩ := by rw [env_ty]; exact tyOf_of (by kernel_rfl) (by kernel_rfl)
@[simp] theorem ty77 : (env G).ty 77 = some ⟨.struct, 3, 40, true, [(0, 1), (1, 1), (2, 1)], [.v (.int .i64 0), .v (.int .i64 0), .sl 1 2 []]⟩ := by rw [env_ty]; exact tyOf_of (by kernel_rfl) (by kernel_rfl)
@[simp] theorem ty78 : (env G).ty 78 = some ⟨.slice 85, 1, 24, false, [], [.sl 1 15 []]⟩ := by rw [env_ty]; exact tyOf_of (by kernel_rfl) (by kernel_rfl)
@[simp] theorem ty79 : (env G).ty 79 = some ⟨.other, 1, 8, false, [], [.v .nilFunc]⟩ := by rw [env_ty]; exact tyOf_of (by kernel_rfl) (by kernel_rfl)
@[simp] theorem ty80 : (env G).ty 80 = some ⟨.struct, 9, 152, true, [(0, 5), (5, 1), (6, 1), (7, 1), (8, 1)], [.v (.string ⟨#[]⟩), .v (.string ⟨#[]⟩), .v (.string ⟨#[]⟩), .v (.string ⟨#[]⟩), .sl 1 10 [], .sl 1 10 [], .sl 1 2 [], .v (.int .i64 0), .v (.bool false)]⟩ := by rw [env_ty]; exact tyOf_of (by kernel_rfl) (by kernel_rfl)
@[simp] theorem ty81 : (env G).ty 81 = some ⟨.struct, 9, 152, true, [(0, 5), (5, 1), (6, 1), (7, 1), (8, 1)], [.v (.string ⟨#[]⟩), .v (.string ⟨#[]⟩), .v (.string ⟨#[]⟩), .v (.string ⟨#[]⟩), .sl 1 10 [], .sl 1 10 [], .sl 1 2 [], .v (.int .i64 0), .v (.bool false)]⟩ := by rw [env_ty]; exact tyOf_of (by kernel_rfl) (by kernel_rfl)
@[simp] theorem ty82 : (env G).ty 82 = some ⟨.other, 1, 8, false, [], [.v .nilFunc]⟩ := by rw [env_ty]; exact tyOf_of (by kernel_rfl) (by kernel_rfl)
@[simp] theorem ty83 : (env G).ty 83 = some ⟨.slice 3, 1, 24, false, [], [.sl 1 1 []]⟩ := by rw [env_ty]; exact tyOf_of (by kernel_rfl) (by kernel_rfl)
@[simp] theorem ty84 : (env G).ty 84 = some ⟨.struct, 15, 232, true, [(0, 1), (1, 1), (2, 10), (12, 1), (13, 1), (14, 1)], [.v (.int .i64 0), .sl 1 1 [], .v (.int .i64 0), .v (.int .i64 0), .v (.int .i64 0), .sl 1 2 [], .sl 1 10 [], .sl 1 1 [], .v (.string ⟨#[]⟩), .sl 1 2 [], .v (.bool false), .v (.bool false), .v (.int .i64 0), .sl 1 1 [], .sl 1 2 []]⟩ := by rw [env_ty]; exact tyOf_of (by kernel_rfl) (by kernel_rfl)
@[simp] theorem ty85 : (env G).ty 85 = some ⟨.struct, 15, 232, true, [(0, 1), (1, 1), (2, 10), (12, 1), (13, 1), (14, 1)], [.v (.int .i64 0), .sl 1 1 [], .v (.int .i64 0), .v (.int .i64 0), .v (.int .i64 0), .sl 1 2 [], .sl 1 10 [], .sl 1 1 [], .v (.string ⟨#[]⟩), .sl 1 2 [], .v (.bool false), .v (.bool false), .v (.int .i64 0), .sl 1 1 [], .sl 1 2 []]⟩ := by rw [env_ty]; exact tyOf_of (by kernel_rfl) (by kernel_rfl)
@[simp] theorem ty87 : (env G).ty 87 = some ⟨.other, 1, 8, false, [], [.v .nilFunc]⟩ := by rw [env_ty]; exact tyOf_of (by kernel_rfl) (by kernel_rfl)
@[simp] theorem ty88 : (env G).ty 88 = some ⟨.other, 1, 8, false, [], [.v .nilFunc]⟩ := by rw [env_ty]; exact tyOf_of (by kernel_rfl) (by kernel_rfl)
@[simp] theorem ty89 : (env G).ty 89 = some ⟨.other, 1, 8, false, [], [.v .nilFunc]⟩ := by rw [env_ty]; exact tyOf_of (by kernel_rfl) (by kernel_rfl)
@[simp] theorem ty90 : (env G).ty 90 = some ⟨.other, 1, 8, false, [], [.v .nilFunc]⟩ := by rw [env_ty]; exact tyOf_of (by kernel_rfl) (by kernel_rfl)
@[simp] theorem ty91 : (env G).ty 91 = some ⟨.other, 1, 8, false, [], [.v .nilFunc]⟩ := by rw [env_ty]; exact tyOf_of (by kernel_rfl) (by kernel_rfl)
@[simp] theorem ty92 : (env G).ty 92 = some ⟨.other, 1, 8, false, [], [.v .nilFunc]⟩ := by rw [env_ty]; exact tyOf_of (by kernel_rfl) (by kernel_rfl)
@[simp] theorem ty93 : (env G).ty 93 = some ⟨.other, 1, 8, false, [], [.v .nilFunc]⟩ := by rw [env_ty]; exact tyOf_of (by kernel_rfl) (by kernel_rfl)
@[simp] theorem ty94 : (env G).ty 94 = some ⟨.other, 1, 8, false, [], [.v .nilFunc]⟩ := by rw [env_ty]; exact tyOf_of (by kernel_rfl) (by kernel_rfl)
@[simp] theorem ty95 : (env G).ty 95 = some ⟨.other, 1, 8, false, [], [.v .nilFunc]⟩ := by rw [env_ty]; exact tyOf_of (by kernel_rfl) (by kernel_rfl)
@[simp] theorem ty96 : (env G).ty 96 = some ⟨.other, 1, 8, false, [], [.v .nilFunc]⟩ := by rw [env_ty]; exact tyOf_of (by kernel_rfl) (by kernel_rfl)
@[simp] theorem ty97 : (env G).ty 97 = some ⟨.other, 1, 8, false, [], [.v .nilFunc]⟩ := by rw [env_ty]; exact tyOf_of (by kernel_rfl) (by kernel_rfl)
@[simp] theorem ty98 : (env G).ty 98 = some ⟨.other, 1, 8, false, [], [.v .nilFunc]⟩ := by rw [env_ty]; exact tyOf_of (by kernel_rfl) (by kernel_rfl)
@[simp] theorem ty99 : (env G).ty 99 = some ⟨.other, 1, 8, false, [], [.v .nilFunc]⟩ := by rw [env_ty]; exact tyOf_of (by kernel_rfl) (by kernel_rfl)
@[simp] theorem ty101 : (env G).ty 101 = some ⟨.other, 1, 8, false, [], [.v .nilFunc]⟩ := by rw [env_ty]; exact tyOf_of (by kernel_rfl) (by kernel_rfl)
@[simp] theorem ty102 : (env G).ty 102 = some ⟨.struct, 2, 16, true, [(0, 1), (1, 1)], [.v (.int .i64 0), .v (.int .i32 0)]⟩ := by rw [env_ty]; exact tyOf_of (by kernel_rfl) (by kernel_rfl)
@[simp] theorem ty103 : (env G).ty 103 = some ⟨.struct, 2, 16, true, [(0, 1), (1, 1)], [.v (.int .i64 0), .v (.int .i32 0)]⟩ := by rw [env_ty]; exact tyOf_of (by kernel_rfl) (by kernel_rfl)
@[simp] theorem ty105 : (env G).ty 105 = some ⟨.other, 1, 8, false, [], [.v .nilFunc]⟩ := by rw [env_ty]; exact tyOf_of (by kernel_rfl) (by kernel_rfl)
@[simp] theorem ty106 : (env G).ty 106 = some ⟨.other, 1, 8, false, [], [.v .nilFunc]⟩ := by rw [env_ty]; exact tyOf_of (by kernel_rfl) (by kernel_rfl)
@[simp] theorem ty107 : (env G).ty 107 = some ⟨.other, 1, 8, false, [], [.v .nilFunc]⟩ := by rw [env_ty]; exact tyOf_of (by kernel_rfl) (by kernel_rfl)
@[simp] theorem ty108 : (env G).ty 108 = some ⟨.other, 1, 8, false, [], [.v .nilFunc]⟩ := by rw [env_ty]; exact tyOf_of (by kernel_rfl) (by kernel_rfl)
@[simp] theorem ty110 : (env G).ty 110 = some ⟨.other, 1, 8, false, [], [.v .nilFunc]⟩ := by rw [env_ty]; exact tyOf_of (by kernel_rfl) (by kernel_rfl)
@[simp] theorem ty111 : (env G).ty 111 = some ⟨.ptr 113, 1, 8, false, [], [.v (.pointer none)]⟩ := by rw [env_ty]; exact tyOf_of (by kernel_rfl) (by kernel_rfl)
@[simp] theorem ty112 : (env G).ty 112 = some ⟨.struct, 1, 8, true, [(0, 1)], [.v (.int .i64 0)]⟩ := by rw [env_ty]; exact tyOf_of (by kernel_rfl) (by kernel_rfl)
@[simp] theorem ty113 : (env G).ty 113 = some ⟨.struct, 1, 8, true, [(0, 1)], [.v (.int .i64 0)]⟩ := by rw [env_ty]; exact tyOf_of (by kernel_rfl) (by kernel_rfl)
@[simp] theorem ty114 : (env G).ty 114 = some ⟨.other, 1, 8, false, [], [.v .nilFunc]⟩ := by rw [env_ty]; exact tyOf_of (by kernel_rfl) (by kernel_rfl)
@[simp] theorem ty115 : (env G).ty 115 = some ⟨.other, 1, 8, false, [], [.v .nilFunc]⟩ := by rw [env_ty]; exact tyOf_of (by kernel_rfl) (by kernel_rfl)
@[simp] theorem ty116 : (env G).ty 116 = some ⟨.ptr 118, 1, 8, false, [], [.v (.pointer none)]⟩ := by rw [env_ty]; exact tyOf_of (by kernel_rfl) (by kernel_rfl)
@[simp] theorem ty117 : (env G).ty 117 = some ⟨.struct, 4, 72, true, [(0, 1), (1, 1), (2, 1), (3, 1)], [.sl 1 3 [], .sl 1 3 [], .v (.string ⟨#[]⟩), .v (.int .i64 0)]⟩ := by rw [env_ty]; exact tyOf_of (by kernel_rfl) (by kernel_rfl)
@[simp] theorem ty118 : (env G).ty 118 = some ⟨.struct, 4, 72, true, [(0, 1), (1, 1), (2, 1), (3, 1)], [.sl 1 3 [], .sl 1 3 [], .v (.string ⟨#[]⟩), .v (.int .i64 0)]⟩ := by rw [env_ty]; exact tyOf_of (by kernel_rfl) (by kernel_rfl)
@[simp] theorem ty119 : (env G).ty 119 = some ⟨.other, 1, 8, false, [], [.v .nilFunc]⟩ := by rw [env_ty]; exact tyOf_of (by kernel_rfl) (by kernel_rfl)
@[simp] theorem ty120 : (env G).ty 120 = some ⟨.other, 1, 8, false, [], [.v .nilFunc]⟩ := by rw [env_ty]; exact tyOf_of (by kernel_rfl) (by kernel_rfl)
@[simp] theorem ty122 : (env G).ty 122 = some ⟨.other, 1, 8, false, [], [.v .nilFunc]⟩ := by rw [env_ty]; exact tyOf_of (by kernel_rfl) (by kernel_rfl)
@[simp] theorem ty123 : (env G).ty 123 = some ⟨.slice 5, 1, 24, false, [], [.sl 1 1 []]⟩ := by rw [env_ty]; exact tyOf_of (by kernel_rfl) (by kernel_rfl)
@[simp] theorem ty124 : (env G).ty 124 = some ⟨.other, 1, 8, false, [], [.v .nilFunc]⟩ := by rw [env_ty]; exact tyOf_of (by kernel_rfl) (by kernel_rfl)
@[simp] theorem ty125 : (env G).ty 125 = some ⟨.struct, 9, 152, true, [(0, 5), (5, 1), (6, 1), (7, 1), (8, 1)], [.v (.string ⟨#[]⟩), .v (.string ⟨#[]⟩), .v (.string ⟨#[]⟩), .v (.string ⟨#[]⟩), .sl 1 10 [], .sl 1 10 [], .sl 1 2 [], .v (.int .i64 0), .v (.bool false)]⟩ := by rw [env_ty]; exact tyOf_of (by kernel_rfl) (by kernel_rfl)
@[simp] theorem ty126 : (env G).ty 126 = some ⟨.struct, 9, 152, true, [(0, 5), (5, 1), (6, 1), (7, 1), (8, 1)], [.v (.string ⟨#[]⟩), .v (.string ⟨#[]⟩), .v (.string ⟨#[]⟩), .v (.string ⟨#[]⟩), .sl 1 10 [], .sl 1 10 [], .sl 1 2 [], .v (.int .i64 0), .v (.bool false)]⟩ := by rw [env_ty]; exact tyOf_of (by kernel_rfl) (by kernel_rfl)
@[simp] theorem ty127 : (env G).ty 127 = some ⟨.other, 1, 8, false, [], [.v .nilFunc]⟩ := by rw [env_ty]; exact tyOf_of (by kernel_rfl) (by kernel_rfl)
@[simp] theorem ty128 : (env G).ty 128 = some ⟨.other, 1, 8, false, [], [.v .nilFunc]⟩ := by rw [env_ty]; exact tyOf_of (by kernel_rfl) (by kernel_rfl)
@[simp] theorem ty129 : (env G).ty 129 = some ⟨.struct, 2, 32, true, [(0, 1), (1, 1)], [.v (.bool false), .sl 1 1 []]⟩ := by rw [env_ty]; exact tyOf_of (by kernel_rfl) (by kernel_rfl)
@[simp] theorem ty130 : (env G).ty 130 = some ⟨.struct, 2, 32, true, [(0, 1), (1, 1)], [.v (.bool false), .sl 1 1 []]⟩ := by rw [env_ty]; exact tyOf_of (by kernel_rfl) (by kernel_rfl)
@[simp] theorem ty131 : (env G).ty 131 = some ⟨.other, 1, 8, false, [], [.v .nilFunc]⟩ := by rw [env_ty]; exact tyOf_of (by kernel_rfl) (by kernel_rfl)
@[simp] theorem ty132 : (env G).ty 132 = some ⟨.other, 1, 8, false, [], [.v .nilFunc]⟩ := by rw [env_ty]; exact tyOf_of (by kernel_rfl) (by kernel_rfl)
@[simp] theorem ty133 : (env G).ty 133 = some ⟨.other, 1, 8, false, [], [.v .nilFunc]⟩ := by rw [env_ty]; exact tyOf_of (by kernel_rfl) (by kernel_rfl)
@[simp] theorem ty134 : (env G).ty 134 = some ⟨.other, 1, 8, false, [], [.v .nilFunc]⟩ := by rw [env_ty]; exact tyOf_of (by kernel_rfl) (by kernel_rfl)
@[simp] theorem ty135 : (env G).ty 135 = some ⟨.other, 1, 8, false, [], [.v .nilFunc]⟩ := by rw [env_ty]; exact tyOf_of (by kernel_rfl) (by kernel_rfl)
@[simp] theorem ty136 : (env G).ty 136 = some ⟨.other, 1, 8, false, [], [.v .nilFunc]⟩ := by rw [env_ty]; exact tyOf_of (by kernel_rfl) (by kernel_rfl)
@[simp] theorem ty137 : (env G).ty 137 = some ⟨.other, 1, 8, false, [], [.v .nilFunc]⟩ := by rw [env_ty]; exact tyOf_of (by kernel_rfl) (by kernel_rfl)
@[simp] theorem ty138 : (env G).ty 138 = some ⟨.other, 1, 8, false, [], [.v .nilFunc]⟩ := by rw [env_ty]; exact tyOf_of (by kernel_rfl) (by kernel_rfl)
@[simp] theorem ty139 : (env G).ty 139 = some ⟨.other, 1, 8, false, [], [.v .nilFunc]⟩ := by rw [env_ty]; exact tyOf_of (by kernel_rfl) (by kernel_rfl)
@[simp] theorem ty140 : (env G).ty 140 = some ⟨.other, 1, 8, false, [], [.v .nilFunc]⟩ := by rw [env_ty]; exact tyOf_of (by kernel_rfl) (by kernel_rfl)
@[simp] theorem ty141 : (env G).ty 141 = some ⟨.other, 1, 8, false, [], [.v .nilFunc]⟩ := by rw [env_ty]; exact tyOf_of (by kernel_rfl) (by kernel_rfl)
@[simp] theorem ty142 : (env G).ty 142 = some ⟨.other, 1, 8, false, [], [.v .nilFunc]⟩ := by rw [env_ty]; exact tyOf_of (by kernel_rfl) (by kernel_rfl)
@[simp] theorem ty143 : (env G).ty 143 = some ⟨.other, 1, 8, false, [], [.v .nilFunc]⟩ := by rw [env_ty]; exact tyOf_of (by kernel_rfl) (by kernel_rfl)
@[simp] theorem ty144 : (env G).ty 144 = some ⟨.arr 2 5, 2, 2, true, [], [.v (.int .u8 0), .v (.int .u8 0)]⟩ := by rw [env_ty]; exact tyOf_of (by kernel_rfl) (by kernel_rfl)
@[simp] theorem ty145 : (env G).ty 145 = some ⟨.other, 1, 8, false, [], [.v .nilFunc]⟩ := by rw [env_ty]; exact tyOf_of (by kernel_rfl) (by kernel_rfl)
@[simp] theorem ty146 : (env G).ty 146 = some ⟨.other, 1, 8, false, [], [.v .nilFunc]⟩ := by rw [env_ty]; exact tyOf_of (by kernel_rfl) (by kernel_rfl)
@[simp] theorem ty147 : (env G).ty 147 = some ⟨.ptr 151, 1, 8, false, [], [.v (.pointer none)]⟩ := by rw [env_ty]; exact tyOf_of (by kernel_rfl) (by kernel_rfl)
@[simp] theorem ty148 : (env G).ty 148 = some ⟨.slice 21, 1, 24, false, [], [.sl 1 1 []]⟩ := by rw [env_ty]; exact tyOf_of (by kernel_rfl) (by kernel_rfl)
@[simp] theorem ty149 : (env G).ty 149 = some ⟨.other, 1, 8, false, [], [.v .nilFunc]⟩ := by rw [env_ty]; exact tyOf_of (by kernel_rfl) (by kernel_rfl)
@[simp] theorem ty150 : (env G).ty 150 = some ⟨.struct, 4, 80, true, [(0, 1), (1, 1), (2, 1), (3, 1)], [.sl 1 1 [], .v (.int .i64 0), .sl 1 2 [], .sl 1 3 []]⟩ := by rw [env_ty]; exact tyOf_of (by kernel_rfl) (by kernel_rfl)
@[simp] theorem ty151 : (env G).ty 151 = some ⟨.struct, 4, 80, true, [(0, 1), (1, 1), (2, 1), (3, 1)], [.sl 1 1 [], .v (.int .i64 0), .sl 1 2 [], .sl 1 3 []]⟩ := by rw [env_ty]; exact tyOf_of (by kernel_rfl) (by kernel_rfl)
@[simp] theorem ty152 : (env G).ty 152 = some ⟨.other, 1, 8, false, [], [.v .nilFunc]⟩ := by rw [env_ty]; exact tyOf_of (by kernel_rfl) (by kernel_rfl)
@[simp] theorem ty153 : (env G).ty 153 = some ⟨.other, 1, 8, false, [], [.v .nilFunc]⟩ := by rw [env_ty]; exact tyOf_of (by kernel_rfl) (by kernel_rfl)
@[simp] theorem ty154 : (env G).ty 154 = some ⟨.other, 1, 8, false, [], [.v .nilFunc]⟩ := by rw [env_ty]; exact tyOf_of (by kernel_rfl) (by kernel_rfl)
@[simp] theorem ty155 : (env G).ty 155 = some ⟨.other, 1, 8, false, [], [.v .nilFunc]⟩ := by rw [env_ty]; exact tyOf_of (by kernel_rfl) (by kernel_rfl)
@[simp] theorem ty156 : (env G).ty 156 = some ⟨.other, 1, 8, false, [], [.v .nilFunc]⟩ := by rw [env_ty]; exact tyOf_of (by kernel_rfl) (by kernel_rfl)
@[simp] theorem ty157 : (env G).ty 157 = some ⟨.other, 1, 8, false, [], [.v .nilFunc]⟩ := by rw [env_ty]; exact tyOf_of (by kernel_rfl) (by kernel_rfl)
@[simp] theorem ty158 : (env G).ty 158 = some ⟨.other, 1, 8, false, [], [.v .nilFunc]⟩ := by rw [env_ty]; exact tyOf_of (by kernel_rfl) (by kernel_rfl)
@[simp] theorem ty159 : (env G).ty 159 = some ⟨.other, 1, 8, false, [], [.v .nilFunc]⟩ := by rw [env_ty]; exact tyOf_of (by kernel_rfl) (by kernel_rfl)
@[simp] theorem ty160 : (env G).ty 160 = some ⟨.other, 1, 8, false, [], [.v .nilFunc]⟩ := by rw [env_ty]; exact tyOf_of (by kernel_rfl) (by kernel_rfl)
@[simp] theorem ty161 : (env G).ty 161 = some ⟨.other, 1, 8, false, [], [.v .nilFunc]⟩ := by rw [env_ty]; exact tyOf_of (by kernel_rfl) (by kernel_rfl)
@[simp] theorem ty163 : (env G).ty 163 = some ⟨.other, 1, 8, false, [], [.v .nilFunc]⟩ := by rw [env_ty]; exact tyOf_of (by kernel_rfl) (by kernel_rfl)
@[simp] theorem ty164 : (env G).ty 164 = some ⟨.other, 1, 8, false, [], [.v .nilFunc]⟩ := by rw [env_ty]; exact tyOf_of (by kernel_rfl) (by kernel_rfl)
@[simp] theorem ty165 : (env G).ty 165 = some ⟨.other, 1, 8, false, [], [.v .nilFunc]⟩ := by rw [env_ty]; exact tyOf_of (by kernel_rfl) (by kernel_rfl)
@[simp] theorem ty166 : (env G).ty 166 = some ⟨.other, 1, 8, false, [], [.v .nilFunc]⟩ := by rw [env_ty]; exact tyOf_of (by kernel_rfl) (by kernel_rfl)
@[simp] theorem ty167 : (env G).ty 167 = some ⟨.ptr 169, 1, 8, false, [], [.v (.pointer none)]⟩ := by rw [env_ty]; exact tyOf_of (by kernel_rfl) (by kernel_rfl)
@[simp] theorem ty168 : (env G).ty 168 = some ⟨.struct, 1, 24, true, [(0, 1)], [.sl 1 12 []]⟩ := by rw [env_ty]; exact tyOf_of (by kernel_rfl) (by kernel_rfl)
@[simp] theorem ty169 : (env G).ty 169 = some ⟨.struct, 1, 24, true, [(0, 1)], [.sl 1 12 []]⟩ := by rw [env_ty]; exact tyOf_of (by kernel_rfl) (by kernel_rfl)
@[simp] theorem ty170 : (env G).ty 170 = some ⟨.other, 1, 8, false, [], [.v .nilFunc]⟩ := by rw [env_ty]; exact tyOf_of (by kernel_rfl) (by kernel_rfl)
@[simp] theorem ty171 : (env G).ty 171 = some ⟨.slice 44, 1, 24, false, [], [.sl 1 1 []]⟩ := by rw [env_ty]; exact tyOf_of (by kernel_rfl) (by kernel_rfl)
@[simp] theorem ty172 : (env G).ty 172 = some ⟨.other, 1, 8, false, [], [.v .nilFunc]⟩ := by rw [env_ty]; exact tyOf_of (by kernel_rfl) (by kernel_rfl)
@[simp] theorem ty173 : (env G).ty 173 = some ⟨.other, 1, 8, false, [], [.v .nilFunc]⟩ := by rw [env_ty]; exact tyOf_of (by kernel_rfl) (by kernel_rfl)
@[simp] theorem ty174 : (env G).ty 174 = some ⟨.other, 1, 8, false, [], [.v .nilFunc]⟩ := by rw [env_ty]; exact tyOf_of (by kernel_rfl) (by kernel_rfl)
@[simp] theorem ty175 : (env G).ty 175 = some ⟨.other, 1, 8, false, [], [.v .nilFunc]⟩ := by rw [env_ty]; exact tyOf_of (by kernel_rfl) (by kernel_rfl)
@[simp] theorem ty176 : (env G).ty 176 = some ⟨.other, 1, 8, false, [], [.v .nilFunc]⟩ := by rw [env_ty]; exact tyOf_of (by kernel_rfl) (by kernel_rfl)
@[simp] theorem ty178 : (env G).ty 178 = some ⟨.other, 1, 8, false, [], [.v .nilFunc]⟩ := by rw [env_ty]; exact tyOf_of (by kernel_rfl) (by kernel_rfl)
@[simp] theorem ty179 : (env G).ty 179 = some ⟨.other, 1, 8, false, [], [.v .nilFunc]⟩ := by rw [env_ty]; exact tyOf_of (by kernel_rfl) (by kernel_rfl)
@[simp] theorem ty180 : (env G).ty 180 = some ⟨.struct, 3, 24, true, [(0, 1), (1, 1), (2, 1)], [.v (.int .i64 0), .v (.int .i64 0), .v (.int .i64 0)]⟩ := by rw [env_ty]; exact tyOf_of (by kernel_rfl) (by kernel_rfl)
@[simp] theorem ty181 : (env G).ty 181 = some ⟨.struct, 3, 24, true, [(0, 1), (1, 1), (2, 1)], [.v (.int .i64 0), .v (.int .i64 0), .v (.int .i64 0)]⟩ := by rw [env_ty]; exact tyOf_of (by kernel_rfl) (by kernel_rfl)
@[simp] theorem ty182 : (env G).ty 182 = some ⟨.other, 1, 8, false, [], [.v .nilFunc]⟩ := by rw [env_ty]; exact tyOf_of (by kernel_rfl) (by kernel_rfl)
@[simp] theorem ty183 : (env G).ty 183 = some ⟨.other, 1, 8, false, [], [.v .nilFunc]⟩ := by rw [env_ty]; exact tyOf_of (by kernel_rfl) (by kernel_rfl)
@[simp] theorem ty184 : (env G).ty 184 = some ⟨.other, 1, 8, false, [], [.v .nilFunc]⟩ := by rw [env_ty]; exact tyOf_of (by kernel_rfl) (by kernel_rfl)
@[simp] theorem ty185 : (env G).ty 185 = some ⟨.other, 1, 8, false, [], [.v .nilFunc]⟩ := by rw [env_ty]; exact tyOf_of (by kernel_rfl) (by kernel_rfl)
@[simp] theorem ty186 : (env G).ty 186 = some ⟨.other, 1, 8, false, [], [.v .nilFunc]⟩ := by rw [env_ty]; exact tyOf_of (by kernel_rfl) (by kernel_rfl)
@[simp] theorem ty187 : (env G).ty 187 = some ⟨.other, 1, 8, false, [], [.v .nilFunc]⟩ := by rw [env_ty]; exact tyOf_of (by kernel_rfl) (by kernel_rfl)
@[simp] theorem ty188 : (env G).ty 188 = some ⟨.other, 1, 8, false, [], [.v .nilFunc]⟩ := by rw [env_ty]; exact tyOf_of (by kernel_rfl) (by kernel_rfl)
@[simp] theorem ty189 : (env G).ty 189 = some ⟨.other, 1, 8, false, [], [.v .nilFunc]⟩ := by rw [env_ty]; exact tyOf_of (by kernel_rfl) (by kernel_rfl)
@[simp] theorem ty190 : (env G).ty 190 = some ⟨.other, 1, 8, false, [], [.v .nilFunc]⟩ := by rw [env_ty]; exact tyOf_of (by kernel_rfl) (by kernel_rfl)
@[simp] theorem ty191 : (env G).ty 191 = some ⟨.other, 1, 8, false, [], [.v .nilFunc]⟩ := by rw [env_ty]; exact tyOf_of (by kernel_rfl) (by kernel_rfl)
@[simp] theorem ty192 : (env G).ty 192 = some ⟨.int .u64, 1, 8, false, [], [.v (.int .u64 0)]⟩ := by rw [env_ty]; exact tyOf_of (by kernel_rfl) (by kernel_rfl)
@[simp] theorem ty193 : (env G).ty 193 = some ⟨.other, 1, 8, false, [], [.v .nilFunc]⟩ := by rw [env_ty]; exact tyOf_of (by kernel_rfl) (by kernel_rfl)
@[simp] theorem ty195 : (env G).ty 195 = some ⟨.other, 1, 8, false, [], [.v .nilFunc]⟩ := by rw [env_ty]; exact tyOf_of (by kernel_rfl) (by kernel_rfl)
@[simp] theorem ty196 : (env G).ty 196 = some ⟨.other, 1, 8, false, [], [.v .nilFunc]⟩ := by rw [env_ty]; exact tyOf_of (by kernel_rfl) (by kernel_rfl)
@[simp] theorem ty198 : (env G).ty 198 = some ⟨.other, 1, 8, false, [], [.v .nilFunc]⟩ := by rw [env_ty]; exact tyOf_of (by kernel_rfl) (by kernel_rfl)
@[simp] theorem ty199 : (env G).ty 199 = some ⟨.other, 1, 8, false, [], [.v .nilFunc]⟩ := by rw [env_ty]; exact tyOf_of (by kernel_rfl) (by kernel_rfl)
@[simp] theorem ty200 : (env G).ty 200 = some ⟨.other, 1, 8, false, [], [.v .nilFunc]⟩ := by rw [env_ty]; exact tyOf_of (by kernel_rfl) (by kernel_rfl)
@[simp] theorem ty201 : (env G).ty 201 = some ⟨.other, 1, 8, false, [], [.v .nilFunc]⟩ := by rw [env_ty]; exact tyOf_of (by kernel_rfl) (by kernel_rfl)
@[simp] theorem ty202 : (env G).ty 202 = some ⟨.other, 1, 8, false, [], [.v .nilFunc]⟩ := by rw [env_ty]; exact tyOf_of (by kernel_rfl) (by kernel_rfl)
@[simp] theorem ty203 : (env G).ty 203 = some ⟨.other, 1, 8, false, [], [.v .nilFunc]⟩ := by rw [env_ty]; exact tyOf_of (by kernel_rfl) (by kernel_rfl)
@[simp] theorem ty204 : (env G).ty 204 = some ⟨.map 9 21, 1, 8, false, [], [.v (.map none)]⟩ := by rw [env_ty]; exact tyOf_of (by kernel_rfl) (by kernel_rfl)
@[simp] theorem ty205 : (env G).ty 205 = some ⟨.other, 1, 8, false, [], [.v .nilFunc]⟩ := by rw [env_ty]; exact tyOf_of (by kernel_rfl) (by kernel_rfl)
@[simp] theorem ty206 : (env G).ty 206 = some ⟨.ptr 208, 1, 8, false, [], [.v (.pointer none)]⟩ := by rw [env_ty]; exact tyOf_of (by kernel_rfl) (by kernel_rfl)
@[simp] theorem ty207 : (env G).ty 207 = some ⟨.struct, 2, 32, true, [(0, 1), (1, 1)], [.v (.pointer none), .sl 1 1 []]⟩ := by rw [env_ty]; exact tyOf_of (by kernel_rfl) (by kernel_rfl)
@[simp] theorem ty208 : (env G).ty 208 = some ⟨.struct, 2, 32, true, [(0, 1), (1, 1)], [.v (.pointer none), .sl 1 1 []]⟩ := by rw [env_ty]; exact tyOf_of (by kernel_rfl) (by kernel_rfl)
@[simp] theorem ty209 : (env G).ty 209 = some ⟨.other, 1, 8, false, [], [.v .nilFunc]⟩ := by rw [env_ty]; exact tyOf_of (by kernel_rfl) (by kernel_rfl)
@[simp] theorem ty210 : (env G).ty 210 = some ⟨.other, 1, 8, false, [], [.v .nilFunc]⟩ := by rw [env_ty]; exact tyOf_of (by kernel_rfl) (by kernel_rfl)
@[simp] theorem ty211 : (env G).ty 211 = some ⟨.other, 1, 16, false, [], [.v .nilIface]⟩ := by rw [env_ty]; exact tyOf_of (by kernel_rfl) (by kernel_rfl)
@[simp] theorem ty212 : (env G).ty 212 = some ⟨.other, 1, 16, false, [], [.v .nilIface]⟩ := by rw [env_ty]; exact tyOf_of (by kernel_rfl) (by kernel_rfl)
@[simp] theorem ty214 : (env G).ty 214 = some ⟨.other, 1, 8, false, [], [.v .nilFunc]⟩ := by rw [env_ty]; exact tyOf_of (by kernel_rfl) (by kernel_rfl)
@[simp] theorem ty215 : (env G).ty 215 = some ⟨.other, 1, 8, false, [], [.v .nilFunc]⟩ := by rw [env_ty]; exact tyOf_of (by kernel_rfl) (by kernel_rfl)
@[simp] theorem ty216 : (env G).ty 216 = some ⟨.other, 1, 8, false, [], [.v .nilFunc]⟩ := by rw [env_ty]; exact tyOf_of (by kernel_rfl) (by kernel_rfl)
@[simp] theorem ty217 : (env G).ty 217 = some ⟨.other, 1, 8, false, [], [.v .nilFunc]⟩ := by rw [env_ty]; exact tyOf_of (by kernel_rfl) (by kernel_rfl)
@[simp] theorem ty218 : (env G).ty 218 = some ⟨.other, 1, 8, false, [], [.v .nilFunc]⟩ := by rw [env_ty]; exact tyOf_of (by kernel_rfl) (by kernel_rfl)
@[simp] theorem ty219 : (env G).ty 219 = some ⟨.other, 1, 8, false, [], [.v .nilFunc]⟩ := by rw [env_ty]; exact tyOf_of (by kernel_rfl) (by kernel_rfl)
@[simp] theorem ty220 : (env G).ty 220 = some ⟨.other, 1, 8, false, [], [.v .nilFunc]⟩ := by rw [env_ty]; exact tyOf_of (by kernel_rfl) (by kernel_rfl)
@[simp] theorem ty221 : (env G).ty 221 = some ⟨.other, 1, 8, false, [], [.v .nilFunc]⟩ := by rw [env_ty]; exact tyOf_of (by kernel_rfl) (by kernel_rfl)
@[simp] theorem ty222 : (env G).ty 222 = some ⟨.ptr 5, 1, 8, false, [], [.v (.pointer none)]⟩ := by rw [env_ty]; exact tyOf_of (by kernel_rfl) (by kernel_rfl)
@[simp] theorem ty223 : (env G).ty 223 = some ⟨.int .u32, 1, 4, false, [], [.v (.int .u32 0)]⟩ := by rw [env_ty]; exact tyOf_of (by kernel_rfl) (by kernel_rfl)
@[simp] theorem ty225 : (env G).ty 225 = some ⟨.other, 1, 8, false, [], [.v .nilFunc]⟩ := by rw [env_ty]; exact tyOf_of (by kernel_rfl) (by kernel_rfl)
@[simp] theorem ty227 : (env G).ty 227 = some ⟨.struct, 2, 2, true, [(0, 1), (1, 1)], [.v (.int .u8 0), .v (.int .u8 0)]⟩ := by rw [env_ty]; exact tyOf_of (by kernel_rfl) (by kernel_rfl)
@[simp] theorem ty228 : (env G).ty 228 = some ⟨.struct, 2, 2, true, [(0, 1), (1, 1)], [.v (.int .u8 0), .v (.int .u8 0)]⟩ := by rw [env_ty]; exact tyOf_of (by kernel_rfl) (by kernel_rfl)
@[simp] theorem ty229 : (env G).ty 229 = some ⟨.arr 16 228, 32, 32, true, [], [.v (.int .u8 0), .v (.int .u8 0), .v (.int .u8 0), .v (.int .u8 0), .v (.int .u8 0), .v (.int .u8 0), .v (.int .u8 0), .v (.int .u8 0), .v (.int .u8 0), .v (.int .u8 0), .v (.int .u8 0), .v (.int .u8 0), .v (.int .u8 0), .v (.int .u8 0), .v (.int .u8 0), .v (.int .u8 0), .v (.int .u8 0), .v (.int .u8 0), .v (.int .u8 0), .v (.int .u8 0), .v (.int .u8 0), .v (.int .u8 0), .v (.int .u8 0), .v (.int .u8 0), .v (.int .u8 0), .v (.int .u8 0), .v (.int .u8 0), .v (.int .u8 0), .v (.int .u8 0), .v (.int .u8 0), .v (.int .u8 0), .v (.int .u8 0)]⟩ := by rw [env_ty]; exact tyOf_of (by kernel_rfl) (by kernel_rfl)
@[simp] theorem ty231 : (env G).ty 231 = some ⟨.other, 1, 8, false, [], [.v .nilFunc]⟩ := by rw [env_ty]; exact tyOf_of (by kernel_rfl) (by kernel_rfl)
@[simp] theorem ty232 : (env G).ty 232 = some ⟨.other, 1, 8, false, [], [.v .nilFunc]⟩ := by rw [env_ty]; exact tyOf_of (by kernel_rfl) (by kernel_rfl)
@[simp] theorem ty233 : (env G).ty 233 = some ⟨.struct, 4, 40, true, [(0, 1), (1, 1), (2, 1), (3, 1)], [.v (.pointer none), .v (.pointer none), .v (.pointer none), .v (.string ⟨#[]⟩)]⟩ := by rw [env_ty]; exact tyOf_of (by kernel_rfl) (by kernel_rfl)
@[simp] theorem ty234 : (env G).ty 234 = some ⟨.struct, 4, 40, true, [(0, 1), (1, 1), (2, 1), (3, 1)], [.v (.pointer none), .v (.pointer none), .v (.pointer none), .v (.string ⟨#[]⟩)]⟩ := by rw [env_ty]; exact tyOf_of (by kernel_rfl) (by kernel_rfl)
@[simp] theorem ty235 : (env G).ty 235 = some ⟨.arr 0 16, 0, 0, true, [], []⟩ := by rw [env_ty]; exact tyOf_of (by kernel_rfl) (by kernel_rfl)
@[simp] theorem ty236 : (env G).ty 236 = some ⟨.struct, 0, 0, true, [(0, 0)], []⟩ := by rw [env_ty]; exact tyOf_of (by kernel_rfl) (by kernel_rfl)
@[simp] theorem ty237 : (env G).ty 237 = some ⟨.struct, 0, 0, true, [(0, 0)], []⟩ := by rw [env_ty]; exact tyOf_of (by kernel_rfl) (by kernel_rfl)
@[simp] theorem ty238 : (env G).ty 238 = some ⟨.int .u8, 1, 1, false, [], [.v (.int .u8 0)]⟩ := by rw [env_ty]; exact tyOf_of (by kernel_rfl) (by kernel_rfl)
@[simp] theorem ty239 : (env G).ty 239 = some ⟨.int .u8, 1, 1, false, [], [.v (.int .u8 0)]⟩ := by rw [env_ty]; exact tyOf_of (by kernel_rfl) (by kernel_rfl)
@[simp] theorem ty240 : (env G).ty 240 = some ⟨.other, 1, 8, false, [], [.v .nilFunc]⟩ := by rw [env_ty]; exact tyOf_of (by kernel_rfl) (by kernel_rfl)
@[simp] theorem ty241 : (env G).ty 241 = some ⟨.int .i32, 1, 4, false, [], [.v (.int .i32 0)]⟩ := by rw [env_ty]; exact tyOf_of (by kernel_rfl) (by kernel_rfl)
@[simp] theorem ty242 : (env G).ty 242 = some ⟨.int .i32, 1, 4, false, [], [.v (.int .i32 0)]⟩ := by rw [env_ty]; exact tyOf_of (by kernel_rfl) (by kernel_rfl)
@[simp] theorem ty243 : (env G).ty 243 = some ⟨.struct, 11, 48, true, [(0, 1), (1, 1), (2, 1), (3, 1), (4, 1), (5, 1), (6, 1), (7, 1), (8, 1), (9, 1), (10, 1)], [.v (.int .u64 0), .v (.int .u64 0), .v (.int .u32 0), .v (.int .u8 0), .v (.int .u8 0), .v (.int .u8 0), .v (.int .u8 0), .v .nilFunc, .v (.pointer none), .v (.int .i32 0), .v (.int .i32 0)]⟩ := by rw [env_ty]; exact tyOf_of (by kernel_rfl) (by kernel_rfl)
@[simp] theorem ty244 : (env G).ty 244 = some ⟨.struct, 11, 48, true, [(0, 1), (1, 1), (2, 1), (3, 1), (4, 1), (5, 1), (6, 1), (7, 1), (8, 1), (9, 1), (10, 1)], [.v (.int .u64 0), .v (.int .u64 0), .v (.int .u32 0), .v (.int .u8 0), .v (.int .u8 0), .v (.int .u8 0), .v (.int .u8 0), .v .nilFunc, .v (.pointer none), .v (.int .i32 0), .v (.int .i32 0)]⟩ := by rw [env_ty]; exact tyOf_of (by kernel_rfl) (by kernel_rfl)
theorem ef4 : (env G).fn 4 = some (ofFunc Tryd.f4 (mdT 4) (kpT 4)) := by rw [env_fn]; exact fnOf_of Tryd.func4 (by kernel_rfl)
theorem ef6 : (env G).fn 6 = some (ofFunc Tryd.f6 (mdT 6) (kpT 6)) := by rw [env_fn]; exact fnOf_of Tryd.func6 (by kernel_rfl)
theorem ef16 : (env G).fn 16 = some (ofFunc Tryd.f16 (mdT 16) (kpT 16)) := by rw [env_fn]; exact fnOf_of Tryd.func16 (by kernel_rfl)
theorem ef17 : (env G).fn 17 = some (ofFunc Tryd.f17 (mdT 17) (kpT 17)) := by rw [env_fn]; exact fnOf_of Tryd.func17 (by kernel_rfl)
theorem ef19 : (env G).fn 19 = some (ofFunc Tryd.f19 (mdT 19) (kpT 19)) := by rw [env_fn]; exact fnOf_of Tryd.func19 (by kernel_rfl)
theorem ef20 : (env G).fn 20 = some (ofFunc Tryd.f20 (mdT 20) (kpT 20)) := by rw [env_fn]; exact fnOf_of Tryd.func20 (by kernel_rfl)
theorem ef26 : (env G).fn 26 = some (ofFunc Tryd.f26 (mdT 26) (kpT 26)) := by rw [env_fn]; exact fnOf_of Tryd.func26 (by kernel_rfl)
theorem ef27 : (env G).fn 27 = some (ofFunc Tryd.f27 (mdT 27) (kpT 27)) := by rw [env_fn]; exact fnOf_of Tryd.func27 (by kernel_rfl)
theorem ef56 : (env G).fn 56 = some (ofFunc Tryd.f56 (mdT 56) (kpT 56)) := by rw [env_fn]; exact fnOf_of Tryd.func56 (by kernel_rfl)
theorem ef58 : (env G).fn 58 = some (ofFunc Tryd.f58 (mdT 58) (kpT 58)) := by rw [env_fn]; exact fnOf_of Tryd.func58 (by kernel_rfl)
theorem ef59 : (env G).fn 59 = some (ofFunc Tryd.f59 (mdT 59) (kpT 59)) := by rw [env_fn]; exact fnOf_of Tryd.func59 (by kernel_rfl)
theorem ef100 : (env G).fn 100 = some (ofFunc Tryd.f100 (mdT 100) (kpT 100)) := by rw [env_fn]; exact fnOf_of Tryd.func100 (by kernel_rfl)
end Go.Proofs.YtgilkaonmhlifaaDoor.Dn
