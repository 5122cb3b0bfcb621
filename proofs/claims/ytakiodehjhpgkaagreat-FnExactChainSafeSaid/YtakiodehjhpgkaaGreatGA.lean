/- Lemmas of this claim: walks through code, values and memory, and the contracts of functions; under no condition beyond those that each states. -/
import Derived.Test.YtakiodehjhpgkaaGreatMD
import Derived.Test.YtakiodehjhpgkaaGreatProg
set_option maxRecDepth 100000
set_option linter.unusedVariables false
set_option linter.unusedSimpArgs false
namespace Go.YtakiodehjhpgkaaGreatMc
open Go.Proofs
def tf : Nat → Option TI
  | 2 => some ⟨.int .i64, 1, 8, [.t (.i .i64 0)]⟩
  | 3 => some ⟨.int .i64, 1, 8, [.t (.i .i64 0)]⟩
  | 4 => some ⟨.bool, 1, 1, [.t (.b false)]⟩
  | 5 => some ⟨.int .u8, 1, 1, [.t (.i .u8 0)]⟩
  | 6 => some ⟨.int .u8, 1, 1, [.t (.i .u8 0)]⟩
  | 7 => some ⟨.st [(0, 1), (1, 1), (2, 1), (3, 1)], 4, 24, [.t (.i .i64 0), .t (.i .i64 0), .t (.b false), .t (.i .u8 0)]⟩
  | 8 => some ⟨.st [(0, 1), (1, 1), (2, 1), (3, 1)], 4, 24, [.t (.i .i64 0), .t (.i .i64 0), .t (.b false), .t (.i .u8 0)]⟩
  | 9 => some ⟨.str, 1, 16, [.t (.s [])]⟩
  | 10 => some ⟨.str, 1, 16, [.t (.s [])]⟩
  | 11 => some ⟨.str, 1, 16, [.t (.s [])]⟩
  | 12 => some ⟨.int .u64, 1, 8, [.t (.i .u64 0)]⟩
  | 13 => some ⟨.st [(0, 1), (1, 1)], 2, 24, [.t (.s []), .t (.i .u64 0)]⟩
  | 14 => some ⟨.st [(0, 1), (1, 1)], 2, 24, [.t (.s []), .t (.i .u64 0)]⟩
  | 15 => some ⟨.ptr, 1, 8, [.np]⟩
  | 16 => some ⟨.ptr, 1, 8, [.np]⟩
  | 17 => some ⟨.ptr, 1, 8, [.np]⟩
  | 18 => some ⟨.st [(0, 1)], 1, 8, [.np]⟩
  | 19 => some ⟨.st [(0, 1)], 1, 8, [.np]⟩
  | 21 => some ⟨.int .i32, 1, 4, [.t (.i .i32 0)]⟩
  | 22 => some ⟨.st [(0, 1), (1, 1)], 2, 32, [.t (.s []), .t (.s [])]⟩
  | 23 => some ⟨.st [(0, 1), (1, 1)], 2, 32, [.t (.s []), .t (.s [])]⟩
  | 24 => some ⟨.sl 281, 1, 24, [.emp]⟩
  | 25 => some ⟨.sl 294, 1, 24, [.emp]⟩
  | 26 => some ⟨.st [(0, 2), (2, 1), (3, 1), (4, 1), (5, 1)], 6, 104, [.t (.s []), .t (.s []), .emp, .emp, .t (.b false), .t (.s [])]⟩
  | 27 => some ⟨.st [(0, 2), (2, 1), (3, 1), (4, 1), (5, 1)], 6, 104, [.t (.s []), .t (.s []), .emp, .emp, .t (.b false), .t (.s [])]⟩
  | 28 => some ⟨.sl 3, 1, 24, [.emp]⟩
  | 29 => some ⟨.st [(0, 1), (1, 1), (2, 1)], 3, 40, [.t (.i .i64 0), .emp, .t (.b false)]⟩
  | 30 => some ⟨.st [(0, 1), (1, 1), (2, 1)], 3, 40, [.t (.i .i64 0), .emp, .t (.b false)]⟩
  | 31 => some ⟨.sl 193, 1, 24, [.emp]⟩
  | 32 => some ⟨.sl 4, 1, 24, [.emp]⟩
  | 33 => some ⟨.sl 196, 1, 24, [.emp]⟩
  | 34 => some ⟨.sl 199, 1, 24, [.emp]⟩
  | 35 => some ⟨.st [(0, 6), (6, 3), (9, 1), (10, 1), (11, 1), (12, 1)], 13, 240, [.t (.s []), .t (.s []), .emp, .emp, .t (.b false), .t (.s []), .t (.i .i64 0), .emp, .t (.b false), .emp, .emp, .emp, .emp]⟩
  | 36 => some ⟨.st [(0, 6), (6, 3), (9, 1), (10, 1), (11, 1), (12, 1)], 13, 240, [.t (.s []), .t (.s []), .emp, .emp, .t (.b false), .t (.s []), .t (.i .i64 0), .emp, .t (.b false), .emp, .emp, .emp, .emp]⟩
  | 39 => some ⟨.st [(0, 1), (1, 1)], 2, 32, [.t (.s []), .t (.s [])]⟩
  | 40 => some ⟨.sl 286, 1, 24, [.emp]⟩
  | 41 => some ⟨.sl 292, 1, 24, [.emp]⟩
  | 42 => some ⟨.st [(0, 2), (2, 1), (3, 1), (4, 1), (5, 1)], 6, 104, [.t (.s []), .t (.s []), .emp, .emp, .t (.b false), .t (.s [])]⟩
  | 43 => some ⟨.st [(0, 2), (2, 1), (3, 1), (4, 1), (5, 1)], 6, 104, [.t (.s []), .t (.s []), .emp, .emp, .t (.b false), .t (.s [])]⟩
  | 44 => some ⟨.st [(0, 1), (1, 1), (2, 1)], 3, 40, [.t (.i .i64 0), .emp, .t (.b false)]⟩
  | 45 => some ⟨.sl 128, 1, 24, [.emp]⟩
  | 46 => some ⟨.sl 205, 1, 24, [.emp]⟩
  | 47 => some ⟨.sl 140, 1, 24, [.emp]⟩
  | 48 => some ⟨.st [(0, 6), (6, 3), (9, 1), (10, 1), (11, 1), (12, 1)], 13, 240, [.t (.s []), .t (.s []), .emp, .emp, .t (.b false), .t (.s []), .t (.i .i64 0), .emp, .t (.b false), .emp, .emp, .emp, .emp]⟩
  | 49 => some ⟨.st [(0, 6), (6, 3), (9, 1), (10, 1), (11, 1), (12, 1)], 13, 240, [.t (.s []), .t (.s []), .emp, .emp, .t (.b false), .t (.s []), .t (.i .i64 0), .emp, .t (.b false), .emp, .emp, .emp, .emp]⟩
  | 58 => some ⟨.sl 230, 1, 24, [.emp]⟩
  | 59 => some ⟨.sl 234, 1, 24, [.emp]⟩
  | 60 => some ⟨.sl 237, 1, 24, [.emp]⟩
  | 61 => some ⟨.st [(0, 1), (1, 1), (2, 1), (3, 1), (4, 1), (5, 1), (6, 1)], 7, 64, [.t (.i .i64 0), .t (.i .i64 0), .t (.i .i64 0), .t (.s []), .t (.i .i64 0), .t (.i .i64 0), .t (.i .i64 0)]⟩
  | 62 => some ⟨.st [(0, 1), (1, 1), (2, 1), (3, 1), (4, 1), (5, 1), (6, 1)], 7, 64, [.t (.i .i64 0), .t (.i .i64 0), .t (.i .i64 0), .t (.s []), .t (.i .i64 0), .t (.i .i64 0), .t (.i .i64 0)]⟩
  | 63 => some ⟨.st [(0, 1), (1, 1), (2, 1), (3, 7), (10, 1), (11, 1)], 12, 152, [.emp, .emp, .emp, .t (.i .i64 0), .t (.i .i64 0), .t (.i .i64 0), .t (.s []), .t (.i .i64 0), .t (.i .i64 0), .t (.i .i64 0), .t (.i .i64 0), .t (.i .i64 0)]⟩
  | 64 => some ⟨.st [(0, 1), (1, 1), (2, 1), (3, 7), (10, 1), (11, 1)], 12, 152, [.emp, .emp, .emp, .t (.i .i64 0), .t (.i .i64 0), .t (.i .i64 0), .t (.s []), .t (.i .i64 0), .t (.i .i64 0), .t (.i .i64 0), .t (.i .i64 0), .t (.i .i64 0)]⟩
  | 67 => some ⟨.sl 149, 1, 24, [.emp]⟩
  | 68 => some ⟨.sl 153, 1, 24, [.emp]⟩
  | 69 => some ⟨.sl 156, 1, 24, [.emp]⟩
  | 70 => some ⟨.st [(0, 1), (1, 1), (2, 1), (3, 1), (4, 1), (5, 1), (6, 1)], 7, 64, [.t (.i .i64 0), .t (.i .i64 0), .t (.i .i64 0), .t (.s []), .t (.i .i64 0), .t (.i .i64 0), .t (.i .i64 0)]⟩
  | 71 => some ⟨.st [(0, 1), (1, 1), (2, 1), (3, 7), (10, 1), (11, 1)], 12, 152, [.emp, .emp, .emp, .t (.i .i64 0), .t (.i .i64 0), .t (.i .i64 0), .t (.s []), .t (.i .i64 0), .t (.i .i64 0), .t (.i .i64 0), .t (.i .i64 0), .t (.i .i64 0)]⟩
  | 72 => some ⟨.st [(0, 1), (1, 1), (2, 1), (3, 7), (10, 1), (11, 1)], 12, 152, [.emp, .emp, .emp, .t (.i .i64 0), .t (.i .i64 0), .t (.i .i64 0), .t (.s []), .t (.i .i64 0), .t (.i .i64 0), .t (.i .i64 0), .t (.i .i64 0), .t (.i .i64 0)]⟩
  | 76 => some ⟨.st [(0, 1), (1, 1), (2, 1), (3, 1)], 4, 40, [.t (.i .i64 0), .t (.s []), .t (.i .i64 0), .t (.i .i64 0)]⟩
  | 77 => some ⟨.st [(0, 1), (1, 1), (2, 1), (3, 1)], 4, 40, [.t (.i .i64 0), .t (.s []), .t (.i .i64 0), .t (.i .i64 0)]⟩
  | 78 => some ⟨.st [(0, 1), (1, 1), (2, 4)], 6, 56, [.t (.i .i64 0), .t (.i .i64 0), .t (.i .i64 0), .t (.s []), .t (.i .i64 0), .t (.i .i64 0)]⟩
  | 79 => some ⟨.st [(0, 1), (1, 1), (2, 4)], 6, 56, [.t (.i .i64 0), .t (.i .i64 0), .t (.i .i64 0), .t (.s []), .t (.i .i64 0), .t (.i .i64 0)]⟩
  | 80 => some ⟨.st [(0, 1), (1, 1), (2, 1), (3, 6)], 9, 80, [.t (.i .i64 0), .t (.i .i64 0), .t (.i .i64 0), .t (.i .i64 0), .t (.i .i64 0), .t (.i .i64 0), .t (.s []), .t (.i .i64 0), .t (.i .i64 0)]⟩
  | 81 => some ⟨.st [(0, 1), (1, 1), (2, 1), (3, 6)], 9, 80, [.t (.i .i64 0), .t (.i .i64 0), .t (.i .i64 0), .t (.i .i64 0), .t (.i .i64 0), .t (.i .i64 0), .t (.s []), .t (.i .i64 0), .t (.i .i64 0)]⟩
  | 85 => some ⟨.st [(0, 1), (1, 1), (2, 1), (3, 1)], 4, 40, [.t (.i .i64 0), .t (.s []), .t (.i .i64 0), .t (.i .i64 0)]⟩
  | 86 => some ⟨.st [(0, 1), (1, 1), (2, 4)], 6, 56, [.t (.i .i64 0), .t (.i .i64 0), .t (.i .i64 0), .t (.s []), .t (.i .i64 0), .t (.i .i64 0)]⟩
  | 87 => some ⟨.st [(0, 1), (1, 1), (2, 4)], 6, 56, [.t (.i .i64 0), .t (.i .i64 0), .t (.i .i64 0), .t (.s []), .t (.i .i64 0), .t (.i .i64 0)]⟩
  | 88 => some ⟨.st [(0, 1), (1, 1), (2, 1), (3, 6)], 9, 80, [.t (.i .i64 0), .t (.i .i64 0), .t (.i .i64 0), .t (.i .i64 0), .t (.i .i64 0), .t (.i .i64 0), .t (.s []), .t (.i .i64 0), .t (.i .i64 0)]⟩
  | 89 => some ⟨.st [(0, 1), (1, 1), (2, 1), (3, 6)], 9, 80, [.t (.i .i64 0), .t (.i .i64 0), .t (.i .i64 0), .t (.i .i64 0), .t (.i .i64 0), .t (.i .i64 0), .t (.s []), .t (.i .i64 0), .t (.i .i64 0)]⟩
  | 92 => some ⟨.sl 81, 1, 24, [.emp]⟩
  | 95 => some ⟨.sl 89, 1, 24, [.emp]⟩
  | 113 => some ⟨.sl 87, 1, 24, [.emp]⟩
  | 127 => some ⟨.st [(0, 3), (3, 1), (4, 1)], 5, 72, [.t (.i .i64 0), .emp, .t (.b false), .t (.b false), .emp]⟩
  | 128 => some ⟨.st [(0, 3), (3, 1), (4, 1)], 5, 72, [.t (.i .i64 0), .emp, .t (.b false), .t (.b false), .emp]⟩
  | 139 => some ⟨.st [(0, 6), (6, 1)], 7, 64, [.t (.i .i64 0), .t (.i .i64 0), .t (.i .i64 0), .t (.s []), .t (.i .i64 0), .t (.i .i64 0), .t (.i .i64 0)]⟩
  | 140 => some ⟨.st [(0, 6), (6, 1)], 7, 64, [.t (.i .i64 0), .t (.i .i64 0), .t (.i .i64 0), .t (.s []), .t (.i .i64 0), .t (.i .i64 0), .t (.i .i64 0)]⟩
  | 148 => some ⟨.st [(0, 1), (1, 13)], 14, 248, [.t (.b false), .t (.s []), .t (.s []), .emp, .emp, .t (.b false), .t (.s []), .t (.i .i64 0), .emp, .t (.b false), .emp, .emp, .emp, .emp]⟩
  | 149 => some ⟨.st [(0, 1), (1, 13)], 14, 248, [.t (.b false), .t (.s []), .t (.s []), .emp, .emp, .t (.b false), .t (.s []), .t (.i .i64 0), .emp, .t (.b false), .emp, .emp, .emp, .emp]⟩
  | 151 => some ⟨.sl 241, 1, 24, [.emp]⟩
  | 152 => some ⟨.st [(0, 1), (1, 1), (2, 1), (3, 4), (7, 1)], 8, 88, [.emp, .t (.i .i64 0), .t (.b false), .t (.i .i64 0), .t (.s []), .t (.i .i64 0), .t (.i .i64 0), .t (.i .i64 0)]⟩
  | 153 => some ⟨.st [(0, 1), (1, 1), (2, 1), (3, 4), (7, 1)], 8, 88, [.emp, .t (.i .i64 0), .t (.b false), .t (.i .i64 0), .t (.s []), .t (.i .i64 0), .t (.i .i64 0), .t (.i .i64 0)]⟩
  | 155 => some ⟨.st [(0, 1), (1, 1), (2, 4), (6, 1), (7, 1), (8, 1)], 9, 80, [.t (.i .i64 0), .t (.i .i64 0), .t (.i .i64 0), .t (.s []), .t (.i .i64 0), .t (.i .i64 0), .t (.i .i64 0), .t (.i .i64 0), .t (.i .i64 0)]⟩
  | 156 => some ⟨.st [(0, 1), (1, 1), (2, 4), (6, 1), (7, 1), (8, 1)], 9, 80, [.t (.i .i64 0), .t (.i .i64 0), .t (.i .i64 0), .t (.s []), .t (.i .i64 0), .t (.i .i64 0), .t (.i .i64 0), .t (.i .i64 0), .t (.i .i64 0)]⟩
  | 173 => some ⟨.ptr, 1, 8, [.np]⟩
  | 191 => some ⟨.sl 79, 1, 24, [.emp]⟩
  | 192 => some ⟨.st [(0, 3), (3, 1), (4, 1)], 5, 72, [.t (.i .i64 0), .emp, .t (.b false), .t (.b false), .emp]⟩
  | 193 => some ⟨.st [(0, 3), (3, 1), (4, 1)], 5, 72, [.t (.i .i64 0), .emp, .t (.b false), .t (.b false), .emp]⟩
  | 195 => some ⟨.st [(0, 1), (1, 1), (2, 1), (3, 3), (6, 1)], 7, 88, [.t (.i .i64 0), .t (.i .i64 0), .t (.i .i64 0), .t (.i .i64 0), .emp, .t (.b false), .emp]⟩
  | 196 => some ⟨.st [(0, 1), (1, 1), (2, 1), (3, 3), (6, 1)], 7, 88, [.t (.i .i64 0), .t (.i .i64 0), .t (.i .i64 0), .t (.i .i64 0), .emp, .t (.b false), .emp]⟩
  | 198 => some ⟨.st [(0, 6), (6, 1)], 7, 64, [.t (.i .i64 0), .t (.i .i64 0), .t (.i .i64 0), .t (.s []), .t (.i .i64 0), .t (.i .i64 0), .t (.i .i64 0)]⟩
  | 199 => some ⟨.st [(0, 6), (6, 1)], 7, 64, [.t (.i .i64 0), .t (.i .i64 0), .t (.i .i64 0), .t (.s []), .t (.i .i64 0), .t (.i .i64 0), .t (.i .i64 0)]⟩
  | 204 => some ⟨.st [(0, 1), (1, 1), (2, 1), (3, 3), (6, 1)], 7, 88, [.t (.i .i64 0), .t (.i .i64 0), .t (.i .i64 0), .t (.i .i64 0), .emp, .t (.b false), .emp]⟩
  | 205 => some ⟨.st [(0, 1), (1, 1), (2, 1), (3, 3), (6, 1)], 7, 88, [.t (.i .i64 0), .t (.i .i64 0), .t (.i .i64 0), .t (.i .i64 0), .emp, .t (.b false), .emp]⟩
  | 229 => some ⟨.st [(0, 1), (1, 13)], 14, 248, [.t (.b false), .t (.s []), .t (.s []), .emp, .emp, .t (.b false), .t (.s []), .t (.i .i64 0), .emp, .t (.b false), .emp, .emp, .emp, .emp]⟩
  | 230 => some ⟨.st [(0, 1), (1, 13)], 14, 248, [.t (.b false), .t (.s []), .t (.s []), .emp, .emp, .t (.b false), .t (.s []), .t (.i .i64 0), .emp, .t (.b false), .emp, .emp, .emp, .emp]⟩
  | 232 => some ⟨.sl 331, 1, 24, [.emp]⟩
  | 233 => some ⟨.st [(0, 1), (1, 1), (2, 1), (3, 4), (7, 1)], 8, 88, [.emp, .t (.i .i64 0), .t (.b false), .t (.i .i64 0), .t (.s []), .t (.i .i64 0), .t (.i .i64 0), .t (.i .i64 0)]⟩
  | 234 => some ⟨.st [(0, 1), (1, 1), (2, 1), (3, 4), (7, 1)], 8, 88, [.emp, .t (.i .i64 0), .t (.b false), .t (.i .i64 0), .t (.s []), .t (.i .i64 0), .t (.i .i64 0), .t (.i .i64 0)]⟩
  | 236 => some ⟨.st [(0, 1), (1, 1), (2, 4), (6, 1), (7, 1), (8, 1)], 9, 80, [.t (.i .i64 0), .t (.i .i64 0), .t (.i .i64 0), .t (.s []), .t (.i .i64 0), .t (.i .i64 0), .t (.i .i64 0), .t (.i .i64 0), .t (.i .i64 0)]⟩
  | 237 => some ⟨.st [(0, 1), (1, 1), (2, 4), (6, 1), (7, 1), (8, 1)], 9, 80, [.t (.i .i64 0), .t (.i .i64 0), .t (.i .i64 0), .t (.s []), .t (.i .i64 0), .t (.i .i64 0), .t (.i .i64 0), .t (.i .i64 0), .t (.i .i64 0)]⟩
  | 239 => some ⟨.sl 39, 1, 24, [.emp]⟩
  | 240 => some ⟨.st [(0, 1), (1, 2)], 3, 40, [.t (.i .i64 0), .t (.s []), .t (.s [])]⟩
  | 241 => some ⟨.st [(0, 1), (1, 2)], 3, 40, [.t (.i .i64 0), .t (.s []), .t (.s [])]⟩
  | 275 => some ⟨.sl 5, 1, 24, [.emp]⟩
  | 280 => some ⟨.st [(0, 1), (1, 1)], 2, 24, [.t (.s []), .t (.i .i64 0)]⟩
  | 281 => some ⟨.st [(0, 1), (1, 1)], 2, 24, [.t (.s []), .t (.i .i64 0)]⟩
  | 286 => some ⟨.st [(0, 1), (1, 1)], 2, 24, [.t (.s []), .t (.i .i64 0)]⟩
  | 291 => some ⟨.st [(0, 1), (1, 1), (2, 1)], 3, 24, [.t (.i .i64 0), .t (.i .i64 0), .t (.i .i64 0)]⟩
  | 292 => some ⟨.st [(0, 1), (1, 1), (2, 1)], 3, 24, [.t (.i .i64 0), .t (.i .i64 0), .t (.i .i64 0)]⟩
  | 294 => some ⟨.st [(0, 1), (1, 1), (2, 1)], 3, 24, [.t (.i .i64 0), .t (.i .i64 0), .t (.i .i64 0)]⟩
  | 330 => some ⟨.st [(0, 1), (1, 2)], 3, 40, [.t (.i .i64 0), .t (.s []), .t (.s [])]⟩
  | 331 => some ⟨.st [(0, 1), (1, 2)], 3, 40, [.t (.i .i64 0), .t (.s []), .t (.s [])]⟩
  | 339 => some ⟨.int .u64, 1, 8, [.t (.i .u64 0)]⟩
  | 345 => some ⟨.st [(0, 1), (1, 1), (2, 1), (3, 1)], 4, 40, [.np, .np, .np, .t (.s [])]⟩
  | 346 => some ⟨.st [(0, 1), (1, 1), (2, 1), (3, 1)], 4, 40, [.np, .np, .np, .t (.s [])]⟩
  | 351 => some ⟨.int .u32, 1, 4, [.t (.i .u32 0)]⟩
  | 352 => some ⟨.int .u8, 1, 1, [.t (.i .u8 0)]⟩
  | 353 => some ⟨.int .u8, 1, 1, [.t (.i .u8 0)]⟩
  | 355 => some ⟨.ptr, 1, 8, [.np]⟩
  | 356 => some ⟨.int .i32, 1, 4, [.t (.i .i32 0)]⟩
  | 357 => some ⟨.int .i32, 1, 4, [.t (.i .i32 0)]⟩
  | _ => none
theorem tok2 : ∀ x, tf 2 = some x → x.ok Tryz.prog 2 := fun x hx => by injection hx with hx; subst hx; exact .mk' (.int .i64 0) (by kernel_rfl) rfl rfl Tryz.underlying2
theorem tok3 : ∀ x, tf 3 = some x → x.ok Tryz.prog 3 := fun x hx => by injection hx with hx; subst hx; exact .mk' (.int .i64 0) (by kernel_rfl) rfl rfl Tryz.underlying3
theorem tok4 : ∀ x, tf 4 = some x → x.ok Tryz.prog 4 := fun x hx => by injection hx with hx; subst hx; exact .mk' (.bool false) (by kernel_rfl) rfl rfl Tryz.underlying4
theorem tok5 : ∀ x, tf 5 = some x → x.ok Tryz.prog 5 := fun x hx => by injection hx with hx; subst hx; exact .mk' (.int .u8 0) (by kernel_rfl) rfl rfl Tryz.underlying5
theorem tok6 : ∀ x, tf 6 = some x → x.ok Tryz.prog 6 := fun x hx => by injection hx with hx; subst hx; exact .mk' (.int .u8 0) (by kernel_rfl) rfl rfl Tryz.underlying6
theorem tok7 : ∀ x, tf 7 = some x → x.ok Tryz.prog 7 := fun x hx => by injection hx with hx; subst hx; exact .mk' (.agg #[.int .i64 0, .int .i64 0, .bool false, .int .u8 0]) (by kernel_rfl) rfl rfl ⟨_, Tryz.underlying7, by kernel_rfl⟩
theorem tok8 : ∀ x, tf 8 = some x → x.ok Tryz.prog 8 := fun x hx => by injection hx with hx; subst hx; exact .mk' (.agg #[.int .i64 0, .int .i64 0, .bool false, .int .u8 0]) (by kernel_rfl) rfl rfl ⟨_, Tryz.underlying8, by kernel_rfl⟩
theorem tok9 : ∀ x, tf 9 = some x → x.ok Tryz.prog 9 := fun x hx => by injection hx with hx; subst hx; exact .mk' (.string ByteArray.empty) (by kernel_rfl) rfl rfl Tryz.underlying9
theorem tok10 : ∀ x, tf 10 = some x → x.ok Tryz.prog 10 := fun x hx => by injection hx with hx; subst hx; exact .mk' (.string ByteArray.empty) (by kernel_rfl) rfl rfl Tryz.underlying10
theorem tok11 : ∀ x, tf 11 = some x → x.ok Tryz.prog 11 := fun x hx => by injection hx with hx; subst hx; exact .mk' (.string ByteArray.empty) (by kernel_rfl) rfl rfl Tryz.underlying11
theorem tok12 : ∀ x, tf 12 = some x → x.ok Tryz.prog 12 := fun x hx => by injection hx with hx; subst hx; exact .mk' (.int .u64 0) (by kernel_rfl) rfl rfl Tryz.underlying12
theorem tok13 : ∀ x, tf 13 = some x → x.ok Tryz.prog 13 := fun x hx => by injection hx with hx; subst hx; exact .mk' (.agg #[.string ByteArray.empty, .int .u64 0]) (by kernel_rfl) rfl rfl ⟨_, Tryz.underlying13, by kernel_rfl⟩
theorem tok14 : ∀ x, tf 14 = some x → x.ok Tryz.prog 14 := fun x hx => by injection hx with hx; subst hx; exact .mk' (.agg #[.string ByteArray.empty, .int .u64 0]) (by kernel_rfl) rfl rfl ⟨_, Tryz.underlying14, by kernel_rfl⟩
theorem tok15 : ∀ x, tf 15 = some x → x.ok Tryz.prog 15 := fun x hx => by injection hx with hx; subst hx; exact .mk' (.pointer none) (by kernel_rfl) rfl rfl ⟨_, Tryz.underlying15⟩
theorem tok16 : ∀ x, tf 16 = some x → x.ok Tryz.prog 16 := fun x hx => by injection hx with hx; subst hx; exact .mk' (.pointer none) (by kernel_rfl) rfl rfl ⟨_, Tryz.underlying16⟩
theorem tok17 : ∀ x, tf 17 = some x → x.ok Tryz.prog 17 := fun x hx => by injection hx with hx; subst hx; exact .mk' (.pointer none) (by kernel_rfl) rfl rfl ⟨_, Tryz.underlying17⟩
theorem tok18 : ∀ x, tf 18 = some x → x.ok Tryz.prog 18 := fun x hx => by injection hx with hx; subst hx; exact .mk' (.agg #[.pointer none]) (by kernel_rfl) rfl rfl ⟨_, Tryz.underlying18, by kernel_rfl⟩
theorem tok19 : ∀ x, tf 19 = some x → x.ok Tryz.prog 19 := fun x hx => by injection hx with hx; subst hx; exact .mk' (.agg #[.pointer none]) (by kernel_rfl) rfl rfl ⟨_, Tryz.underlying19, by kernel_rfl⟩
theorem tok21 : ∀ x, tf 21 = some x → x.ok Tryz.prog 21 := fun x hx => by injection hx with hx; subst hx; exact .mk' (.int .i32 0) (by kernel_rfl) rfl rfl Tryz.underlying21
theorem tok22 : ∀ x, tf 22 = some x → x.ok Tryz.prog 22 := fun x hx => by injection hx with hx; subst hx; exact .mk' (.agg #[.string ByteArray.empty, .string ByteArray.empty]) (by kernel_rfl) rfl rfl ⟨_, Tryz.underlying22, by kernel_rfl⟩
theorem tok23 : ∀ x, tf 23 = some x → x.ok Tryz.prog 23 := fun x hx => by injection hx with hx; subst hx; exact .mk' (.agg #[.string ByteArray.empty, .string ByteArray.empty]) (by kernel_rfl) rfl rfl ⟨_, Tryz.underlying23, by kernel_rfl⟩
theorem tok24 : ∀ x, tf 24 = some x → x.ok Tryz.prog 24 := fun x hx => by injection hx with hx; subst hx; exact .mk' (.slice none 0 0) (by kernel_rfl) rfl rfl Tryz.underlying24
theorem tok25 : ∀ x, tf 25 = some x → x.ok Tryz.prog 25 := fun x hx => by injection hx with hx; subst hx; exact .mk' (.slice none 0 0) (by kernel_rfl) rfl rfl Tryz.underlying25
theorem tok26 : ∀ x, tf 26 = some x → x.ok Tryz.prog 26 := fun x hx => by injection hx with hx; subst hx; exact .mk' (.agg #[.string ByteArray.empty, .string ByteArray.empty, .slice none 0 0, .slice none 0 0, .bool false, .string ByteArray.empty]) (by kernel_rfl) rfl rfl ⟨_, Tryz.underlying26, by kernel_rfl⟩
theorem tok27 : ∀ x, tf 27 = some x → x.ok Tryz.prog 27 := fun x hx => by injection hx with hx; subst hx; exact .mk' (.agg #[.string ByteArray.empty, .string ByteArray.empty, .slice none 0 0, .slice none 0 0, .bool false, .string ByteArray.empty]) (by kernel_rfl) rfl rfl ⟨_, Tryz.underlying27, by kernel_rfl⟩
theorem tok28 : ∀ x, tf 28 = some x → x.ok Tryz.prog 28 := fun x hx => by injection hx with hx; subst hx; exact .mk' (.slice none 0 0) (by kernel_rfl) rfl rfl Tryz.underlying28
theorem tok29 : ∀ x, tf 29 = some x → x.ok Tryz.prog 29 := fun x hx => by injection hx with hx; subst hx; exact .mk' (.agg #[.int .i64 0, .slice none 0 0, .bool false]) (by kernel_rfl) rfl rfl ⟨_, Tryz.underlying29, by kernel_rfl⟩
theorem tok30 : ∀ x, tf 30 = some x → x.ok Tryz.prog 30 := fun x hx => by injection hx with hx; subst hx; exact .mk' (.agg #[.int .i64 0, .slice none 0 0, .bool false]) (by kernel_rfl) rfl rfl ⟨_, Tryz.underlying30, by kernel_rfl⟩
theorem tok31 : ∀ x, tf 31 = some x → x.ok Tryz.prog 31 := fun x hx => by injection hx with hx; subst hx; exact .mk' (.slice none 0 0) (by kernel_rfl) rfl rfl Tryz.underlying31
theorem tok32 : ∀ x, tf 32 = some x → x.ok Tryz.prog 32 := fun x hx => by injection hx with hx; subst hx; exact .mk' (.slice none 0 0) (by kernel_rfl) rfl rfl Tryz.underlying32
theorem tok33 : ∀ x, tf 33 = some x → x.ok Tryz.prog 33 := fun x hx => by injection hx with hx; subst hx; exact .mk' (.slice none 0 0) (by kernel_rfl) rfl rfl Tryz.underlying33
theorem tok34 : ∀ x, tf 34 = some x → x.ok Tryz.prog 34 := fun x hx => by injection hx with hx; subst hx; exact .mk' (.slice none 0 0) (by kernel_rfl) rfl rfl Tryz.underlying34
theorem tok35 : ∀ x, tf 35 = some x → x.ok Tryz.prog 35 := fun x hx => by injection hx with hx; subst hx; exact .mk' (.agg #[.string ByteArray.empty, .string ByteArray.empty, .slice none 0 0, .slice none 0 0, .bool false, .string ByteArray.empty, .int .i64 0, .slice none 0 0, .bool false, .slice none 0 0, .slice none 0 0, .slice none 0 0, .slice none 0 0]) (by kernel_rfl) rfl rfl ⟨_, Tryz.underlying35, by kernel_rfl⟩
theorem tok36 : ∀ x, tf 36 = some x → x.ok Tryz.prog 36 := fun x hx => by injection hx with hx; subst hx; exact .mk' (.agg #[.string ByteArray.empty, .string ByteArray.empty, .slice none 0 0, .slice none 0 0, .bool false, .string ByteArray.empty, .int .i64 0, .slice none 0 0, .bool false, .slice none 0 0, .slice none 0 0, .slice none 0 0, .slice none 0 0]) (by kernel_rfl) rfl rfl ⟨_, Tryz.underlying36, by kernel_rfl⟩
theorem tok39 : ∀ x, tf 39 = some x → x.ok Tryz.prog 39 := fun x hx => by injection hx with hx; subst hx; exact .mk' (.agg #[.string ByteArray.empty, .string ByteArray.empty]) (by kernel_rfl) rfl rfl ⟨_, Tryz.underlying39, by kernel_rfl⟩
theorem tok40 : ∀ x, tf 40 = some x → x.ok Tryz.prog 40 := fun x hx => by injection hx with hx; subst hx; exact .mk' (.slice none 0 0) (by kernel_rfl) rfl rfl Tryz.underlying40
theorem tok41 : ∀ x, tf 41 = some x → x.ok Tryz.prog 41 := fun x hx => by injection hx with hx; subst hx; exact .mk' (.slice none 0 0) (by kernel_rfl) rfl rfl Tryz.underlying41
theorem tok42 : ∀ x, tf 42 = some x → x.ok Tryz.prog 42 := fun x hx => by injection hx with hx; subst hx; exact .mk' (.agg #[.string ByteArray.empty, .string ByteArray.empty, .slice none 0 0, .slice none 0 0, .bool false, .string ByteArray.empty]) (by kernel_rfl) rfl rfl ⟨_, Tryz.underlying42, by kernel_rfl⟩
theorem tok43 : ∀ x, tf 43 = some x → x.ok Tryz.prog 43 := fun x hx => by injection hx with hx; subst hx; exact .mk' (.agg #[.string ByteArray.empty, .string ByteArray.empty, .slice none 0 0, .slice none 0 0, .bool false, .string ByteArray.empty]) (by kernel_rfl) rfl rfl ⟨_, Tryz.underlying43, by kernel_rfl⟩
theorem tok44 : ∀ x, tf 44 = some x → x.ok Tryz.prog 44 := fun x hx => by injection hx with hx; subst hx; exact .mk' (.agg #[.int .i64 0, .slice none 0 0, .bool false]) (by kernel_rfl) rfl rfl ⟨_, Tryz.underlying44, by kernel_rfl⟩
theorem tok45 : ∀ x, tf 45 = some x → x.ok Tryz.prog 45 := fun x hx => by injection hx with hx; subst hx; exact .mk' (.slice none 0 0) (by kernel_rfl) rfl rfl Tryz.underlying45
theorem tok46 : ∀ x, tf 46 = some x → x.ok Tryz.prog 46 := fun x hx => by injection hx with hx; subst hx; exact .mk' (.slice none 0 0) (by kernel_rfl) rfl rfl Tryz.underlying46
theorem tok47 : ∀ x, tf 47 = some x → x.ok Tryz.prog 47 := fun x hx => by injection hx with hx; subst hx; exact .mk' (.slice none 0 0) (by kernel_rfl) rfl rfl Tryz.underlying47
theorem tok48 : ∀ x, tf 48 = some x → x.ok Tryz.prog 48 := fun x hx => by injection hx with hx; subst hx; exact .mk' (.agg #[.string ByteArray.empty, .string ByteArray.empty, .slice none 0 0, .slice none 0 0, .bool false, .string ByteArray.empty, .int .i64 0, .slice none 0 0, .bool false, .slice none 0 0, .slice none 0 0, .slice none 0 0, .slice none 0 0]) (by kernel_rfl) rfl rfl ⟨_, Tryz.underlying48, by kernel_rfl⟩
theorem tok49 : ∀ x, tf 49 = some x → x.ok Tryz.prog 49 := fun x hx => by injection hx with hx; subst hx; exact .mk' (.agg #[.string ByteArray.empty, .string ByteArray.empty, .slice none 0 0, .slice none 0 0, .bool false, .string ByteArray.empty, .int .i64 0, .slice none 0 0, .bool false, .slice none 0 0, .slice none 0 0, .slice none 0 0, .slice none 0 0]) (by kernel_rfl) rfl rfl ⟨_, Tryz.underlying49, by kernel_rfl⟩
theorem tok58 : ∀ x, tf 58 = some x → x.ok Tryz.prog 58 := fun x hx => by injection hx with hx; subst hx; exact .mk' (.slice none 0 0) (by kernel_rfl) rfl rfl Tryz.underlying58
theorem tok59 : ∀ x, tf 59 = some x → x.ok Tryz.prog 59 := fun x hx => by injection hx with hx; subst hx; exact .mk' (.slice none 0 0) (by kernel_rfl) rfl rfl Tryz.underlying59
theorem tok60 : ∀ x, tf 60 = some x → x.ok Tryz.prog 60 := fun x hx => by injection hx with hx; subst hx; exact .mk' (.slice none 0 0) (by kernel_rfl) rfl rfl Tryz.underlying60
theorem tok61 : ∀ x, tf 61 = some x → x.ok Tryz.prog 61 := fun x hx => by injection hx with hx; subst hx; exact .mk' (.agg #[.int .i64 0, .int .i64 0, .int .i64 0, .string ByteArray.empty, .int .i64 0, .int .i64 0, .int .i64 0]) (by kernel_rfl) rfl rfl ⟨_, Tryz.underlying61, by kernel_rfl⟩
theorem tok62 : ∀ x, tf 62 = some x → x.ok Tryz.prog 62 := fun x hx => by injection hx with hx; subst hx; exact .mk' (.agg #[.int .i64 0, .int .i64 0, .int .i64 0, .string ByteArray.empty, .int .i64 0, .int .i64 0, .int .i64 0]) (by kernel_rfl) rfl rfl ⟨_, Tryz.underlying62, by kernel_rfl⟩
theorem tok63 : ∀ x, tf 63 = some x → x.ok Tryz.prog 63 := fun x hx => by injection hx with hx; subst hx; exact .mk' (.agg #[.slice none 0 0, .slice none 0 0, .slice none 0 0, .int .i64 0, .int .i64 0, .int .i64 0, .string ByteArray.empty, .int .i64 0, .int .i64 0, .int .i64 0, .int .i64 0, .int .i64 0]) (by kernel_rfl) rfl rfl ⟨_, Tryz.underlying63, by kernel_rfl⟩
theorem tok64 : ∀ x, tf 64 = some x → x.ok Tryz.prog 64 := fun x hx => by injection hx with hx; subst hx; exact .mk' (.agg #[.slice none 0 0, .slice none 0 0, .slice none 0 0, .int .i64 0, .int .i64 0, .int .i64 0, .string ByteArray.empty, .int .i64 0, .int .i64 0, .int .i64 0, .int .i64 0, .int .i64 0]) (by kernel_rfl) rfl rfl ⟨_, Tryz.underlying64, by kernel_rfl⟩
theorem tok67 : ∀ x, tf 67 = some x → x.ok Tryz.prog 67 := fun x hx => by injection hx with hx; subst hx; exact .mk' (.slice none 0 0) (by kernel_rfl) rfl rfl Tryz.underlying67
theorem tok68 : ∀ x, tf 68 = some x → x.ok Tryz.prog 68 := fun x hx => by injection hx with hx; subst hx; exact .mk' (.slice none 0 0) (by kernel_rfl) rfl rfl Tryz.underlying68
theorem tok69 : ∀ x, tf 69 = some x → x.ok Tryz.prog 69 := fun x hx => by injection hx with hx; subst hx; exact .mk' (.slice none 0 0) (by kernel_rfl) rfl rfl Tryz.underlying69
theorem tok70 : ∀ x, tf 70 = some x → x.ok Tryz.prog 70 := fun x hx => by injection hx with hx; subst hx; exact .mk' (.agg #[.int .i64 0, .int .i64 0, .int .i64 0, .string ByteArray.empty, .int .i64 0, .int .i64 0, .int .i64 0]) (by kernel_rfl) rfl rfl ⟨_, Tryz.underlying70, by kernel_rfl⟩
theorem tok71 : ∀ x, tf 71 = some x → x.ok Tryz.prog 71 := fun x hx => by injection hx with hx; subst hx; exact .mk' (.agg #[.slice none 0 0, .slice none 0 0, .slice none 0 0, .int .i64 0, .int .i64 0, .int .i64 0, .string ByteArray.empty, .int .i64 0, .int .i64 0, .int .i64 0, .int .i64 0, .int .i64 0]) (by kernel_rfl) rfl rfl ⟨_, Tryz.underlying71, by kernel_rfl⟩
theorem tok72 : ∀ x, tf 72 = some x → x.ok Tryz.prog 72 := fun x hx => by injection hx with hx; subst hx; exact .mk' (.agg #[.slice none 0 0, .slice none 0 0, .slice none 0 0, .int .i64 0, .int .i64 0, .int .i64 0, .string ByteArray.empty, .int .i64 0, .int .i64 0, .int .i64 0, .int .i64 0, .int .i64 0]) (by kernel_rfl) rfl rfl ⟨_, Tryz.underlying72, by kernel_rfl⟩
theorem tok76 : ∀ x, tf 76 = some x → x.ok Tryz.prog 76 := fun x hx => by injection hx with hx; subst hx; exact .mk' (.agg #[.int .i64 0, .string ByteArray.empty, .int .i64 0, .int .i64 0]) (by kernel_rfl) rfl rfl ⟨_, Tryz.underlying76, by kernel_rfl⟩
theorem tok77 : ∀ x, tf 77 = some x → x.ok Tryz.prog 77 := fun x hx => by injection hx with hx; subst hx; exact .mk' (.agg #[.int .i64 0, .string ByteArray.empty, .int .i64 0, .int .i64 0]) (by kernel_rfl) rfl rfl ⟨_, Tryz.underlying77, by kernel_rfl⟩
theorem tok78 : ∀ x, tf 78 = some x → x.ok Tryz.prog 78 := fun x hx => by injection hx with hx; subst hx; exact .mk' (.agg #[.int .i64 0, .int .i64 0, .int .i64 0, .string ByteArray.empty, .int .i64 0, .int .i64 0]) (by kernel_rfl) rfl rfl ⟨_, Tryz.underlying78, by kernel_rfl⟩
theorem tok79 : ∀ x, tf 79 = some x → x.ok Tryz.prog 79 := fun x hx => by injection hx with hx; subst hx; exact .mk' (.agg #[.int .i64 0, .int .i64 0, .int .i64 0, .string ByteArray.empty, .int .i64 0, .int .i64 0]) (by kernel_rfl) rfl rfl ⟨_, Tryz.underlying79, by kernel_rfl⟩
theorem tok80 : ∀ x, tf 80 = some x → x.ok Tryz.prog 80 := fun x hx => by injection hx with hx; subst hx; exact .mk' (.agg #[.int .i64 0, .int .i64 0, .int .i64 0, .int .i64 0, .int .i64 0, .int .i64 0, .string ByteArray.empty, .int .i64 0, .int .i64 0]) (by kernel_rfl) rfl rfl ⟨_, Tryz.underlying80, by kernel_rfl⟩
theorem tok81 : ∀ x, tf 81 = some x → x.ok Tryz.prog 81 := fun x hx => by injection hx with hx; subst hx; exact .mk' (.agg #[.int .i64 0, .int .i64 0, .int .i64 0, .int .i64 0, .int .i64 0, .int .i64 0, .string ByteArray.empty, .int .i64 0, .int .i64 0]) (by kernel_rfl) rfl rfl ⟨_, Tryz.underlying81, by kernel_rfl⟩
theorem tok85 : ∀ x, tf 85 = some x → x.ok Tryz.prog 85 := fun x hx => by injection hx with hx; subst hx; exact .mk' (.agg #[.int .i64 0, .string ByteArray.empty, .int .i64 0, .int .i64 0]) (by kernel_rfl) rfl rfl ⟨_, Tryz.underlying85, by kernel_rfl⟩
theorem tok86 : ∀ x, tf 86 = some x → x.ok Tryz.prog 86 := fun x hx => by injection hx with hx; subst hx; exact .mk' (.agg #[.int .i64 0, .int .i64 0, .int .i64 0, .string ByteArray.empty, .int .i64 0, .int .i64 0]) (by kernel_rfl) rfl rfl ⟨_, Tryz.underlying86, by kernel_rfl⟩
theorem tok87 : ∀ x, tf 87 = some x → x.ok Tryz.prog 87 := fun x hx => by injection hx with hx; subst hx; exact .mk' (.agg #[.int .i64 0, .int .i64 0, .int .i64 0, .string ByteArray.empty, .int .i64 0, .int .i64 0]) (by kernel_rfl) rfl rfl ⟨_, Tryz.underlying87, by kernel_rfl⟩
theorem tok88 : ∀ x, tf 88 = some x → x.ok Tryz.prog 88 := fun x hx => by injection hx with hx; subst hx; exact .mk' (.agg #[.int .i64 0, .int .i64 0, .int .i64 0, .int .i64 0, .int .i64 0, .int .i64 0, .string ByteArray.empty, .int .i64 0, .int .i64 0]) (by kernel_rfl) rfl rfl ⟨_, Tryz.underlying88, by kernel_rfl⟩
theorem tok89 : ∀ x, tf 89 = some x → x.ok Tryz.prog 89 := fun x hx => by injection hx with hx; subst hx; exact .mk' (.agg #[.int .i64 0, .int .i64 0, .int .i64 0, .int .i64 0, .int .i64 0, .int .i64 0, .string ByteArray.empty, .int .i64 0, .int .i64 0]) (by kernel_rfl) rfl rfl ⟨_, Tryz.underlying89, by kernel_rfl⟩
theorem tok92 : ∀ x, tf 92 = some x → x.ok Tryz.prog 92 := fun x hx => by injection hx with hx; subst hx; exact .mk' (.slice none 0 0) (by kernel_rfl) rfl rfl Tryz.underlying92
theorem tok95 : ∀ x, tf 95 = some x → x.ok Tryz.prog 95 := fun x hx => by injection hx with hx; subst hx; exact .mk' (.slice none 0 0) (by kernel_rfl) rfl rfl Tryz.underlying95
theorem tok113 : ∀ x, tf 113 = some x → x.ok Tryz.prog 113 := fun x hx => by injection hx with hx; subst hx; exact .mk' (.slice none 0 0) (by kernel_rfl) rfl rfl Tryz.underlying113
theorem tok127 : ∀ x, tf 127 = some x → x.ok Tryz.prog 127 := fun x hx => by injection hx with hx; subst hx; exact .mk' (.agg #[.int .i64 0, .slice none 0 0, .bool false, .bool false, .slice none 0 0]) (by kernel_rfl) rfl rfl ⟨_, Tryz.underlying127, by kernel_rfl⟩
theorem tok128 : ∀ x, tf 128 = some x → x.ok Tryz.prog 128 := fun x hx => by injection hx with hx; subst hx; exact .mk' (.agg #[.int .i64 0, .slice none 0 0, .bool false, .bool false, .slice none 0 0]) (by kernel_rfl) rfl rfl ⟨_, Tryz.underlying128, by kernel_rfl⟩
theorem tok139 : ∀ x, tf 139 = some x → x.ok Tryz.prog 139 := fun x hx => by injection hx with hx; subst hx; exact .mk' (.agg #[.int .i64 0, .int .i64 0, .int .i64 0, .string ByteArray.empty, .int .i64 0, .int .i64 0, .int .i64 0]) (by kernel_rfl) rfl rfl ⟨_, Tryz.underlying139, by kernel_rfl⟩
theorem tok140 : ∀ x, tf 140 = some x → x.ok Tryz.prog 140 := fun x hx => by injection hx with hx; subst hx; exact .mk' (.agg #[.int .i64 0, .int .i64 0, .int .i64 0, .string ByteArray.empty, .int .i64 0, .int .i64 0, .int .i64 0]) (by kernel_rfl) rfl rfl ⟨_, Tryz.underlying140, by kernel_rfl⟩
theorem tok148 : ∀ x, tf 148 = some x → x.ok Tryz.prog 148 := fun x hx => by injection hx with hx; subst hx; exact .mk' (.agg #[.bool false, .string ByteArray.empty, .string ByteArray.empty, .slice none 0 0, .slice none 0 0, .bool false, .string ByteArray.empty, .int .i64 0, .slice none 0 0, .bool false, .slice none 0 0, .slice none 0 0, .slice none 0 0, .slice none 0 0]) (by kernel_rfl) rfl rfl ⟨_, Tryz.underlying148, by kernel_rfl⟩
theorem tok149 : ∀ x, tf 149 = some x → x.ok Tryz.prog 149 := fun x hx => by injection hx with hx; subst hx; exact .mk' (.agg #[.bool false, .string ByteArray.empty, .string ByteArray.empty, .slice none 0 0, .slice none 0 0, .bool false, .string ByteArray.empty, .int .i64 0, .slice none 0 0, .bool false, .slice none 0 0, .slice none 0 0, .slice none 0 0, .slice none 0 0]) (by kernel_rfl) rfl rfl ⟨_, Tryz.underlying149, by kernel_rfl⟩
theorem tok151 : ∀ x, tf 151 = some x → x.ok Tryz.prog 151 := fun x hx => by injection hx with hx; subst hx; exact .mk' (.slice none 0 0) (by kernel_rfl) rfl rfl Tryz.underlying151
theorem tok152 : ∀ x, tf 152 = some x → x.ok Tryz.prog 152 := fun x hx => by injection hx with hx; subst hx; exact .mk' (.agg #[.slice none 0 0, .int .i64 0, .bool false, .int .i64 0, .string ByteArray.empty, .int .i64 0, .int .i64 0, .int .i64 0]) (by kernel_rfl) rfl rfl ⟨_, Tryz.underlying152, by kernel_rfl⟩
theorem tok153 : ∀ x, tf 153 = some x → x.ok Tryz.prog 153 := fun x hx => by injection hx with hx; subst hx; exact .mk' (.agg #[.slice none 0 0, .int .i64 0, .bool false, .int .i64 0, .string ByteArray.empty, .int .i64 0, .int .i64 0, .int .i64 0]) (by kernel_rfl) rfl rfl ⟨_, Tryz.underlying153, by kernel_rfl⟩
theorem tok155 : ∀ x, tf 155 = some x → x.ok Tryz.prog 155 := fun x hx => by injection hx with hx; subst hx; exact .mk' (.agg #[.int .i64 0, .int .i64 0, .int .i64 0, .string ByteArray.empty, .int .i64 0, .int .i64 0, .int .i64 0, .int .i64 0, .int .i64 0]) (by kernel_rfl) rfl rfl ⟨_, Tryz.underlying155, by kernel_rfl⟩
theorem tok156 : ∀ x, tf 156 = some x → x.ok Tryz.prog 156 := fun x hx => by injection hx with hx; subst hx; exact .mk' (.agg #[.int .i64 0, .int .i64 0, .int .i64 0, .string ByteArray.empty, .int .i64 0, .int .i64 0, .int .i64 0, .int .i64 0, .int .i64 0]) (by kernel_rfl) rfl rfl ⟨_, Tryz.underlying156, by kernel_rfl⟩
theorem tok173 : ∀ x, tf 173 = some x → x.ok Tryz.prog 173 := fun x hx => by injection hx with hx; subst hx; exact .mk' (.pointer none) (by kernel_rfl) rfl rfl ⟨_, Tryz.underlying173⟩
theorem tok191 : ∀ x, tf 191 = some x → x.ok Tryz.prog 191 := fun x hx => by injection hx with hx; subst hx; exact .mk' (.slice none 0 0) (by kernel_rfl) rfl rfl Tryz.underlying191
theorem tok192 : ∀ x, tf 192 = some x → x.ok Tryz.prog 192 := fun x hx => by injection hx with hx; subst hx; exact .mk' (.agg #[.int .i64 0, .slice none 0 0, .bool false, .bool false, .slice none 0 0]) (by kernel_rfl) rfl rfl ⟨_, Tryz.underlying192, by kernel_rfl⟩
theorem tok193 : ∀ x, tf 193 = some x → x.ok Tryz.prog 193 := fun x hx => by injection hx with hx; subst hx; exact .mk' (.agg #[.int .i64 0, .slice none 0 0, .bool false, .bool false, .slice none 0 0]) (by kernel_rfl) rfl rfl ⟨_, Tryz.underlying193, by kernel_rfl⟩
theorem tok195 : ∀ x, tf 195 = some x → x.ok Tryz.prog 195 := fun x hx => by injection hx with hx; subst hx; exact .mk' (.agg #[.int .i64 0, .int .i64 0, .int .i64 0, .int .i64 0, .slice none 0 0, .bool false, .slice none 0 0]) (by kernel_rfl) rfl rfl ⟨_, Tryz.underlying195, by kernel_rfl⟩
theorem tok196 : ∀ x, tf 196 = some x → x.ok Tryz.prog 196 := fun x hx => by injection hx with hx; subst hx; exact .mk' (.agg #[.int .i64 0, .int .i64 0, .int .i64 0, .int .i64 0, .slice none 0 0, .bool false, .slice none 0 0]) (by kernel_rfl) rfl rfl ⟨_, Tryz.underlying196, by kernel_rfl⟩
theorem tok198 : ∀ x, tf 198 = some x → x.ok Tryz.prog 198 := fun x hx => by injection hx with hx; subst hx; exact .mk' (.agg #[.int .i64 0, .int .i64 0, .int .i64 0, .string ByteArray.empty, .int .i64 0, .int .i64 0, .int .i64 0]) (by kernel_rfl) rfl rfl ⟨_, Tryz.underlying198, by kernel_rfl⟩
theorem tok199 : ∀ x, tf 199 = some x → x.ok Tryz.prog 199 := fun x hx => by injection hx with hx; subst hx; exact .mk' (.agg #[.int .i64 0, .int .i64 0, .int .i64 0, .string ByteArray.empty, .int .i64 0, .int .i64 0, .int .i64 0]) (by kernel_rfl) rfl rfl ⟨_, Tryz.underlying199, by kernel_rfl⟩
theorem tok204 : ∀ x, tf 204 = some x → x.ok Tryz.prog 204 := fun x hx => by injection hx with hx; subst hx; exact .mk' (.agg #[.int .i64 0, .int .i64 0, .int .i64 0, .int .i64 0, .slice none 0 0, .bool false, .slice none 0 0]) (by kernel_rfl) rfl rfl ⟨_, Tryz.underlying204, by kernel_rfl⟩
theorem tok205 : ∀ x, tf 205 = some x → x.ok Tryz.prog 205 := fun x hx => by injection hx with hx; subst hx; exact .mk' (.agg #[.int .i64 0, .int .i64 0, .int .i64 0, .int .i64 0, .slice none 0 0, .bool false, .slice none 0 0]) (by kernel_rfl) rfl rfl ⟨_, Tryz.underlying205, by kernel_rfl⟩
theorem tok229 : ∀ x, tf 229 = some x → x.ok Tryz.prog 229 := fun x hx => by injection hx with hx; subst hx; exact .mk' (.agg #[.bool false, .string ByteArray.empty, .string ByteArray.empty, .slice none 0 0, .slice none 0 0, .bool false, .string ByteArray.empty, .int .i64 0, .slice none 0 0, .bool false, .slice none 0 0, .slice none 0 0, .slice none 0 0, .slice none 0 0]) (by kernel_rfl) rfl rfl ⟨_, Tryz.underlying229, by kernel_rfl⟩
theorem tok230 : ∀ x, tf 230 = some x → x.ok Tryz.prog 230 := fun x hx => by injection hx with hx; subst hx; exact .mk' (.agg #[.bool false, .string ByteArray.empty, .string ByteArray.empty, .slice none 0 0, .slice none 0 0, .bool false, .string ByteArray.empty, .int .i64 0, .slice none 0 0, .bool false, .slice none 0 0, .slice none 0 0, .slice none 0 0, .slice none 0 0]) (by kernel_rfl) rfl rfl ⟨_, Tryz.underlying230, by kernel_rfl⟩
theorem tok232 : ∀ x, tf 232 = some x → x.ok Tryz.prog 232 := fun x hx => by injection hx with hx; subst hx; exact .mk' (.slice none 0 0) (by kernel_rfl) rfl rfl Tryz.underlying232
theorem tok233 : ∀ x, tf 233 = some x → x.ok Tryz.prog 233 := fun x hx => by injection hx with hx; subst hx; exact .mk' (.agg #[.slice none 0 0, .int .i64 0, .bool false, .int .i64 0, .string ByteArray.empty, .int .i64 0, .int .i64 0, .int .i64 0]) (by kernel_rfl) rfl rfl ⟨_, Tryz.underlying233, by kernel_rfl⟩
theorem tok234 : ∀ x, tf 234 = some x → x.ok Tryz.prog 234 := fun x hx => by injection hx with hx; subst hx; exact .mk' (.agg #[.slice none 0 0, .int .i64 0, .bool false, .int .i64 0, .string ByteArray.empty, .int .i64 0, .int .i64 0, .int .i64 0]) (by kernel_rfl) rfl rfl ⟨_, Tryz.underlying234, by kernel_rfl⟩
theorem tok236 : ∀ x, tf 236 = some x → x.ok Tryz.prog 236 := fun x hx => by injection hx with hx; subst hx; exact .mk' (.agg #[.int .i64 0, .int .i64 0, .int .i64 0, .string ByteArray.empty, .int .i64 0, .int .i64 0, .int .i64 0, .int .i64 0, .int .i64 0]) (by kernel_rfl) rfl rfl ⟨_, Tryz.underlying236, by kernel_rfl⟩
theorem tok237 : ∀ x, tf 237 = some x → x.ok Tryz.prog 237 := fun x hx => by injection hx with hx; subst hx; exact .mk' (.agg #[.int .i64 0, .int .i64 0, .int .i64 0, .string ByteArray.empty, .int .i64 0, .int .i64 0, .int .i64 0, .int .i64 0, .int .i64 0]) (by kernel_rfl) rfl rfl ⟨_, Tryz.underlying237, by kernel_rfl⟩
theorem tok239 : ∀ x, tf 239 = some x → x.ok Tryz.prog 239 := fun x hx => by injection hx with hx; subst hx; exact .mk' (.slice none 0 0) (by kernel_rfl) rfl rfl Tryz.underlying239
theorem tok240 : ∀ x, tf 240 = some x → x.ok Tryz.prog 240 := fun x hx => by injection hx with hx; subst hx; exact .mk' (.agg #[.int .i64 0, .string ByteArray.empty, .string ByteArray.empty]) (by kernel_rfl) rfl rfl ⟨_, Tryz.underlying240, by kernel_rfl⟩
theorem tok241 : ∀ x, tf 241 = some x → x.ok Tryz.prog 241 := fun x hx => by injection hx with hx; subst hx; exact .mk' (.agg #[.int .i64 0, .string ByteArray.empty, .string ByteArray.empty]) (by kernel_rfl) rfl rfl ⟨_, Tryz.underlying241, by kernel_rfl⟩
theorem tok275 : ∀ x, tf 275 = some x → x.ok Tryz.prog 275 := fun x hx => by injection hx with hx; subst hx; exact .mk' (.slice none 0 0) (by kernel_rfl) rfl rfl Tryz.underlying275
theorem tok280 : ∀ x, tf 280 = some x → x.ok Tryz.prog 280 := fun x hx => by injection hx with hx; subst hx; exact .mk' (.agg #[.string ByteArray.empty, .int .i64 0]) (by kernel_rfl) rfl rfl ⟨_, Tryz.underlying280, by kernel_rfl⟩
theorem tok281 : ∀ x, tf 281 = some x → x.ok Tryz.prog 281 := fun x hx => by injection hx with hx; subst hx; exact .mk' (.agg #[.string ByteArray.empty, .int .i64 0]) (by kernel_rfl) rfl rfl ⟨_, Tryz.underlying281, by kernel_rfl⟩
theorem tok286 : ∀ x, tf 286 = some x → x.ok Tryz.prog 286 := fun x hx => by injection hx with hx; subst hx; exact .mk' (.agg #[.string ByteArray.empty, .int .i64 0]) (by kernel_rfl) rfl rfl ⟨_, Tryz.underlying286, by kernel_rfl⟩
theorem tok291 : ∀ x, tf 291 = some x → x.ok Tryz.prog 291 := fun x hx => by injection hx with hx; subst hx; exact .mk' (.agg #[.int .i64 0, .int .i64 0, .int .i64 0]) (by kernel_rfl) rfl rfl ⟨_, Tryz.underlying291, by kernel_rfl⟩
theorem tok292 : ∀ x, tf 292 = some x → x.ok Tryz.prog 292 := fun x hx => by injection hx with hx; subst hx; exact .mk' (.agg #[.int .i64 0, .int .i64 0, .int .i64 0]) (by kernel_rfl) rfl rfl ⟨_, Tryz.underlying292, by kernel_rfl⟩
theorem tok294 : ∀ x, tf 294 = some x → x.ok Tryz.prog 294 := fun x hx => by injection hx with hx; subst hx; exact .mk' (.agg #[.int .i64 0, .int .i64 0, .int .i64 0]) (by kernel_rfl) rfl rfl ⟨_, Tryz.underlying294, by kernel_rfl⟩
theorem tok330 : ∀ x, tf 330 = some x → x.ok Tryz.prog 330 := fun x hx => by injection hx with hx; subst hx; exact .mk' (.agg #[.int .i64 0, .string ByteArray.empty, .string ByteArray.empty]) (by kernel_rfl) rfl rfl ⟨_, Tryz.underlying330, by kernel_rfl⟩
theorem tok331 : ∀ x, tf 331 = some x → x.ok Tryz.prog 331 := fun x hx => by injection hx with hx; subst hx; exact .mk' (.agg #[.int .i64 0, .string ByteArray.empty, .string ByteArray.empty]) (by kernel_rfl) rfl rfl ⟨_, Tryz.underlying331, by kernel_rfl⟩
theorem tok339 : ∀ x, tf 339 = some x → x.ok Tryz.prog 339 := fun x hx => by injection hx with hx; subst hx; exact .mk' (.int .u64 0) (by kernel_rfl) rfl rfl Tryz.underlying339
theorem tok345 : ∀ x, tf 345 = some x → x.ok Tryz.prog 345 := fun x hx => by injection hx with hx; subst hx; exact .mk' (.agg #[.pointer none, .pointer none, .pointer none, .string ByteArray.empty]) (by kernel_rfl) rfl rfl ⟨_, Tryz.underlying345, by kernel_rfl⟩
theorem tok346 : ∀ x, tf 346 = some x → x.ok Tryz.prog 346 := fun x hx => by injection hx with hx; subst hx; exact .mk' (.agg #[.pointer none, .pointer none, .pointer none, .string ByteArray.empty]) (by kernel_rfl) rfl rfl ⟨_, Tryz.underlying346, by kernel_rfl⟩
theorem tok351 : ∀ x, tf 351 = some x → x.ok Tryz.prog 351 := fun x hx => by injection hx with hx; subst hx; exact .mk' (.int .u32 0) (by kernel_rfl) rfl rfl Tryz.underlying351
theorem tok352 : ∀ x, tf 352 = some x → x.ok Tryz.prog 352 := fun x hx => by injection hx with hx; subst hx; exact .mk' (.int .u8 0) (by kernel_rfl) rfl rfl Tryz.underlying352
theorem tok353 : ∀ x, tf 353 = some x → x.ok Tryz.prog 353 := fun x hx => by injection hx with hx; subst hx; exact .mk' (.int .u8 0) (by kernel_rfl) rfl rfl Tryz.underlying353
theorem tok355 : ∀ x, tf 355 = some x → x.ok Tryz.prog 355 := fun x hx => by injection hx with hx; subst hx; exact .mk' (.pointer none) (by kernel_rfl) rfl rfl ⟨_, Tryz.underlying355⟩
theorem tok356 : ∀ x, tf 356 = some x → x.ok Tryz.prog 356 := fun x hx => by injection hx with hx; subst hx; exact .mk' (.int .i32 0) (by kernel_rfl) rfl rfl Tryz.underlying356
theorem tok357 : ∀ x, tf 357 = some x → x.ok Tryz.prog 357 := fun x hx => by injection hx with hx; subst hx; exact .mk' (.int .i32 0) (by kernel_rfl) rfl rfl Tryz.underlying357
theorem tf_ok (t : Nat) (x : TI) (h : tf t = some x) : x.ok Tryz.prog t := by
  unfold tf at h
  split at h
  · exact tok2 x h
  · exact tok3 x h
  · exact tok4 x h
  · exact tok5 x h
  · exact tok6 x h
  · exact tok7 x h
  · exact tok8 x h
  · exact tok9 x h
  · exact tok10 x h
  · exact tok11 x h
  · exact tok12 x h
  · exact tok13 x h
  · exact tok14 x h
  · exact tok15 x h
  · exact tok16 x h
  · exact tok17 x h
  · exact tok18 x h
  · exact tok19 x h
  · exact tok21 x h
  · exact tok22 x h
  · exact tok23 x h
  · exact tok24 x h
  · exact tok25 x h
  · exact tok26 x h
  · exact tok27 x h
  · exact tok28 x h
  · exact tok29 x h
  · exact tok30 x h
  · exact tok31 x h
  · exact tok32 x h
  · exact tok33 x h
  · exact tok34 x h
  · exact tok35 x h
  · exact tok36 x h
  · exact tok39 x h
  · exact tok40 x h
  · exact tok41 x h
  · exact tok42 x h
  · exact tok43 x h
  · exact tok44 x h
  · exact tok45 x h
  · exact tok46 x h
  · exact tok47 x h
  · exact tok48 x h
  · exact tok49 x h
  · exact tok58 x h
  · exact tok59 x h
  · exact tok60 x h
  · exact tok61 x h
  · exact tok62 x h
  · exact tok63 x h
  · exact tok64 x h
  · exact tok67 x h
  · exact tok68 x h
  · exact tok69 x h
  · exact tok70 x h
  · exact tok71 x h
  · exact tok72 x h
  · exact tok76 x h
  · exact tok77 x h
  · exact tok78 x h
  · exact tok79 x h
  · exact tok80 x h
  · exact tok81 x h
  · exact tok85 x h
  · exact tok86 x h
  · exact tok87 x h
  · exact tok88 x h
  · exact tok89 x h
  · exact tok92 x h
  · exact tok95 x h
  · exact tok113 x h
  · exact tok127 x h
  · exact tok128 x h
  · exact tok139 x h
  · exact tok140 x h
  · exact tok148 x h
  · exact tok149 x h
  · exact tok151 x h
  · exact tok152 x h
  · exact tok153 x h
  · exact tok155 x h
  · exact tok156 x h
  · exact tok173 x h
  · exact tok191 x h
  · exact tok192 x h
  · exact tok193 x h
  · exact tok195 x h
  · exact tok196 x h
  · exact tok198 x h
  · exact tok199 x h
  · exact tok204 x h
  · exact tok205 x h
  · exact tok229 x h
  · exact tok230 x h
  · exact tok232 x h
  · exact tok233 x h
  · exact tok234 x h
  · exact tok236 x h
  · exact tok237 x h
  · exact tok239 x h
  · exact tok240 x h
  · exact tok241 x h
  · exact tok275 x h
  · exact tok280 x h
  · exact tok281 x h
  · exact tok286 x h
  · exact tok291 x h
  · exact tok292 x h
  · exact tok294 x h
  · exact tok330 x h
  · exact tok331 x h
  · exact tok339 x h
  · exact tok345 x h
  · exact tok346 x h
  · exact tok351 x h
  · exact tok352 x h
  · exact tok353 x h
  · exact tok355 x h
  · exact tok356 x h
  · exact tok357 x h
  · cases h
def D : Tab Tryz.prog := ⟨tf, tf_ok⟩

end Go.YtakiodehjhpgkaaGreatMc

namespace Go.YtakiodehjhpgkaaGreatMc
open Go.Proofs
theorem mixed : Tryz.prog.follows .mixedOrders = true := by kernel_rfl
abbrev I (x : Int) : V := .c (.t (.i .i64 x))
abbrev B (x : Bool) : V := .c (.t (.b x))
abbrev Sx (x : List UInt8) : V := .c (.t (.s x))
abbrev tI (x : Int) : T := .i .i64 x
abbrev A (cs : List T) : V := .ag (tc cs)
abbrev L {α : Type} (e : α → List T) (xs : List α) : V := .c (.t (.l (xs.map e)))
theorem drop_cons {α : Type} {xs : List α} {k : Nat} (h : k < xs.length) : xs.drop k = xs[k] :: xs.drop (k + 1) := List.drop_eq_getElem_cons h
theorem drop_nil {α : Type} {xs : List α} {k : Nat} (h : xs.length ≤ k) : xs.drop k = [] := List.drop_eq_nil_of_le h
theorem drop_eq {α : Type} {l r : List α} {k : Nat} (h1 : k < l.length) (h2 : k < r.length) : l.drop k = r.drop k ↔ l[k] = r[k] ∧ l.drop (k + 1) = r.drop (k + 1) := by rw [drop_cons h1, drop_cons h2, List.cons.injEq]
/-! ### Budgets -/
def i64 (n : Int) : Prop := -9223372036854775808 ≤ n ∧ n ≤ 9223372036854775807
abbrev eI (n : Int) : List T := [tI n]
abbrev eB (b : Bool) : List T := [.b b]
def sz1 (n : Nat) (x : Int) : Int := if x - n < 0 then -1 else x - n
def andz (f g : Int → Int) (x : Int) : Int := if f x < 0 then -1 else g (f x)
def szL {α : Type} (f : α → Int → Int) : List α → Int → Int
  | [], x => x
  | a :: l, x => if f a x < 0 then -1 else szL f l (f a x)
theorem szL_cons {α : Type} (f : α → Int → Int) {xs : List α} {k : Nat} (h : k < xs.length) (x : Int) : szL f (xs.drop k) x = if f xs[k] x < 0 then -1 else szL f (xs.drop (k + 1)) (f xs[k] x) := by rw [drop_cons h, szL]
theorem szL_nil {α : Type} (f : α → Int → Int) {xs : List α} {k : Nat} (h : xs.length ≤ k) (x : Int) : szL f (xs.drop k) x = x := by rw [drop_nil h, szL]
/-- A budget that is never raised. -/
def Lo (f : Int → Int) : Prop := ∀ x, 0 ≤ x → f x ≤ x
theorem id_lo : Lo id := fun x _ => Int.le_refl _
theorem sz1_lo (n : Nat) : Lo (sz1 n) := fun x h => by unfold sz1; split <;> omega
theorem andz_lo {f g : Int → Int} (hf : Lo f) (hg : Lo g) : Lo (andz f g) := fun x h => by
  unfold andz; split
  · omega
  · have := hf x h; have := hg (f x) (by omega); omega
theorem andz_ge {f g : Int → Int} {x : Int} (h : 0 ≤ andz f g x) : 0 ≤ f x ∧ 0 ≤ g (f x) := by
  unfold andz at h; split at h
  · omega
  · exact ⟨by omega, h⟩
theorem sz1_sm {n : Nat} {x : Int} (_ : 0 ≤ x) (h1 : x ≤ 1048576) (h : 0 ≤ sz1 n x) : n ≤ 1048576 := by unfold sz1 at h; split at h <;> omega
theorem szL_lo {α : Type} {f : α → Int → Int} (hf : ∀ a, Lo (f a)) : ∀ (l : List α), Lo (szL f l)
  | [], _, _ => Int.le_refl _
  | a :: l, x, h => by
    rw [szL]; split
    · omega
    · have := hf a x h; have := szL_lo hf l (f a x) (by omega); omega
theorem szL_ge {α : Type} {f : α → Int → Int} (hf : ∀ a, Lo (f a)) : ∀ (l : List α) {x : Int}, 0 ≤ x → 0 ≤ szL f l x → ∀ a ∈ l, ∃ y, 0 ≤ y ∧ y ≤ x ∧ 0 ≤ f a y
  | [], _, _, _, _, ha => by cases ha
  | b :: l, x, h0, h, a, ha => by
    rw [szL] at h
    split at h
    · omega
    · rename_i hb
      rcases List.mem_cons.1 ha with rfl | ha
      · exact ⟨x, h0, Int.le_refl _, by omega⟩
      · obtain ⟨y, y0, y1, y2⟩ := szL_ge hf l (by omega) h a ha
        have := hf b x h0
        exact ⟨y, y0, by omega, y2⟩
theorem wr_all {xs el : List C} (h : el.length = xs.length) : wr el 0 xs = xs := by
  apply List.ext_getElem?; intro k
  rw [wr_get]
  by_cases hk : k < xs.length
  · rw [if_pos (by omega)]; simp
  · rw [if_neg (by omega), List.getElem?_eq_none (by omega), List.getElem?_eq_none (by omega)]
theorem all_of {α : Type} {e : α → List T} {xs : List α} {es : List (List C)} (hl : es.length = xs.length) (h : ∀ (j : Nat) a, xs[j]? = some a → es[j]? = some ((e a).map .t)) : es = (xs.map e).map (·.map .t) := by
  apply List.ext_getElem?; intro k
  by_cases hk : k < xs.length
  · rw [h k _ (List.getElem?_eq_getElem hk)]; simp [hk]
  · rw [List.getElem?_eq_none (by omega)]; simp [hk]
theorem FrzC.full {α : Type} {e : α → List T} {l : List α} {h : List Blk} {m b sz : Nat} {es : List (List C)} (hm : m.ble b = true) (hb : h[b]? = some (.arr es sz)) (he : es = (l.map e).map (·.map .t)) : FrzC h m (.sl b l.length 0 l.length) (.t (.l (l.map e))) := by
  have := FrzC.sl (off := 0) (len := l.length) hm hb he
  have hn : es.length = l.length := by rw [he]; simp
  rw [hn, List.drop_zero, List.take_of_length_le (by simp)] at this
  exact this
theorem tc_low (m : Nat) (l : List T) : (tc l).all (·.low m) = true := by simp [tc, C.low]
theorem low_arr {es : List (List C)} {sz m : Nat} (h : ∀ el ∈ es, el.length = sz ∧ el.all (·.low m) = true) : ([Blk.arr es sz].all (·.low m)) = true := by
  simp only [List.all_cons, List.all_nil, Bool.and_true, Blk.low, List.all_eq_true]
  intro el hel
  simpa using (h el hel).2
/-- A list that is made element by element: what is written when the element k is written. -/
theorem made_step {α : Type} {e : α → List T} {l : List α} {es : List (List C)} {k sz m : Nat} (hlt : k < l.length) (hn : es.length = l.length) (h6 : ∀ el ∈ es, el.length = sz ∧ el.all (·.low m) = true) (hy : ∀ (j : Nat) a, j < k → l[j]? = some a → es[j]? = some ((e a).map .t)) (hsz : (e l[k]).length = sz) (hk : 0 + ((k : Nat) : Int).toNat < es.length) :
    (es.set (0 + ((k : Nat) : Int).toNat) (wr es[0 + ((k : Nat) : Int).toNat] 0 (tc (e l[k])))).length = l.length ∧ (∀ el ∈ es.set (0 + ((k : Nat) : Int).toNat) (wr es[0 + ((k : Nat) : Int).toNat] 0 (tc (e l[k]))), el.length = sz ∧ el.all (·.low m) = true) ∧
      ∀ (j : Nat) a, j < k + 1 → l[j]? = some a → (es.set (0 + ((k : Nat) : Int).toNat) (wr es[0 + ((k : Nat) : Int).toNat] 0 (tc (e l[k]))))[j]? = some ((e a).map .t) := by
  have e1 : 0 + ((k : Nat) : Int).toNat = k := by simp
  have e2 : wr es[0 + ((k : Nat) : Int).toNat] 0 (tc (e l[k])) = tc (e l[k]) := wr_all (by rw [(h6 _ (List.getElem_mem hk)).1]; simp [tc, hsz])
  rw [e2, e1]
  refine ⟨by simp [hn], fun el hel => ?_, fun j a hj ha => ?_⟩
  · rcases List.mem_or_eq_of_mem_set hel with hel | rfl
    · exact h6 el hel
    · exact ⟨by simp [tc, hsz], tc_low ..⟩
  · rw [List.getElem?_set]
    by_cases e3 : k = j
    · subst e3
      rw [List.getElem?_eq_getElem hlt] at ha
      injection ha with ha; subst ha
      rw [if_pos rfl, if_pos (by omega)]; rfl
    · rw [if_neg e3]; exact hy j a (by omega) ha
end Go.YtakiodehjhpgkaaGreatMc
namespace Go.YtakiodehjhpgkaaGreatMc
open Go.Proofs
theorem szIs_ok (l : List Int) (hl : l.length ≤ 9223372036854775807) (x : Int) (h0 : 0 ≤ x) (h1 : x ≤ 1048576) : Pu Tryz.prog 155 [L eI l, I x] (I (sz1 l.length x)) := by
  refine Pu.of D Tryz.func155 rfl rfl rfl ?_
  repeat' (first
    | (refine W.cond rfl ?_ ?_ <;> intro hb <;> try simp at hb)
    | refine goO ?_
    | refine goS ?_
    | (refine WO.gs _ rfl rfl rfl ?_ ?_ <;> intro hb <;> simp only [hb] <;> try simp at hb))
  all_goals refine ⟨.inr rfl, _, _, rfl, .cons (.c (.id rfl)) .nil, ?_⟩
  all_goals (simp [resV, X.v, sz1] at * <;> omega)
theorem toIs_ok (l : List Int) (hl : l.length ≤ 1048576) : Pu Tryz.prog 49 [L eI l] (L eI l) := by
  refine Pu.of D Tryz.func49 rfl rfl rfl ?_
  repeat' (first
    | (refine W.cond rfl ?_ ?_ <;> intro hb <;> try simp at hb)
    | refine OpK.of (OpOk.mks D rfl rfl rfl rfl rfl rfl (by omega) (by decide) ⟨by dsimp only; omega, by omega⟩) ?_
    | refine goO ?_
    | refine goS ?_
    | (refine WO.gs _ rfl rfl rfl ?_ ?_ <;> intro hb <;> simp only [hb] <;> try simp at hb))
  refine W.loop (σ := Nat × List (List C)) (fun s => [(4, I s.1), (3, .c (.sl 0 l.length 0 l.length)), (0, L eI l)]) (fun s => [.arr s.2 1]) (fun s => s.1 ≤ l.length ∧ s.2.length = l.length ∧ (∀ el ∈ s.2, el.length = 1 ∧ el.all (·.low 1) = true) ∧ ∀ (j : Nat) a, j < s.1 → l[j]? = some a → s.2[j]? = some ((eI a).map .t)) (fun s => l.length - s.1) 1 (fun _ _ => rfl) (0, List.replicate l.length _) ⟨by simp, by simp, fun el hel => ?_, fun j a h => by simp at h⟩ rfl (.cons rfl rfl (.cons rfl rfl (.cons rfl rfl (.nil)))) ?_
  · rw [List.eq_of_mem_replicate hel]; exact ⟨rfl, rfl⟩
  rintro ⟨k, es⟩ ⟨hk1, hn, h6, hy⟩
  dsimp only at hk1 hn h6 hy
  repeat' (first
    | (refine W.cond rfl ?_ ?_ <;> intro hb <;> try simp at hb)
    | refine OpK.of (OpOk.ixA D rfl rfl rfl rfl rfl rfl rfl hn.symm rfl (by omega) (by omega)) ?_
    | refine OpK.of (OpOk.stA D rfl rfl rfl rfl hn.symm (List.getElem?_eq_getElem (by simp; omega)) rfl rfl rfl rfl (Nat.le_of_ble_eq_true rfl)) ?_
    | refine goO ?_
    | refine goS ?_
    | (refine WO.gs _ rfl rfl rfl ?_ ?_ <;> intro hb <;> simp only [hb] <;> try simp at hb))
  · obtain ⟨a1, a2, a3⟩ := made_step (e := eI) hb hn h6 hy rfl (by simp; omega)
    exact ⟨(k + 1, _), ⟨hb, a1, a2, a3⟩, by dsimp only; omega, (.cons rfl rfl (.cons rfl rfl (.cons rfl rfl (.nil)))), rfl, low_arr a2⟩
  · exact ⟨.inr rfl, _, _, rfl, .cons (.c (.full rfl rfl (all_of hn fun j a ha => hy j a (by have := (List.getElem?_eq_some_iff.1 ha).1; omega) ha))) .nil, rfl⟩
theorem eqIs_ok (l r : List Int) (hl : l.length ≤ 1048576) : Pu Tryz.prog 22 [L eI l, L eI r] (B (decide (l = r))) := by
  refine Pu.of D Tryz.func22 rfl rfl rfl ?_
  repeat' (first
    | (refine W.cond rfl ?_ ?_ <;> intro hb <;> try simp at hb)
    | refine goO ?_
    | refine goS ?_
    | (refine WO.gs _ rfl rfl rfl ?_ ?_ <;> intro hb <;> simp only [hb] <;> try simp at hb)
    | (refine WD.gs _ rfl rfl rfl ?_ ?_ <;> intro hb <;> simp only [hb] <;> try simp at hb))
  · refine ⟨.inr rfl, _, _, rfl, .cons (.c (.id rfl)) .nil, ?_⟩
    have : ¬ l = r := by rintro rfl; simp at hb
    simp [resV, X.v, this]
  · have hlr : l.length = r.length := by omega
    refine W.loop (σ := Nat) (fun k => [(5, I k), (1, L eI r), (0, L eI l)]) (fun _ => []) (fun k => k ≤ l.length ∧ (l = r ↔ l.drop k = r.drop k)) (fun k => l.length - k) 0 (fun _ _ => rfl) 0 ⟨by simp, by simp⟩ rfl (.cons rfl rfl (.cons rfl rfl (.cons rfl rfl (.nil)))) ?_
    rintro k ⟨hk1, hy⟩
    repeat' (first
    | (refine W.cond rfl ?_ ?_ <;> intro hb <;> try simp at hb)
    | refine goO ?_
    | refine goS ?_
    | (refine WO.gs _ rfl rfl rfl ?_ ?_ <;> intro hb <;> simp only [hb] <;> try simp at hb)
    | (refine WD.gs _ rfl rfl rfl ?_ ?_ <;> intro hb <;> simp only [hb] <;> try simp at hb))
    · rw [drop_eq (by omega) (by omega)] at hy
      refine ⟨.inr rfl, _, _, rfl, .cons (.c (.id rfl)) .nil, ?_⟩
      simp [resV, X.v, hy, hb]
    · rw [drop_eq (by omega) (by omega)] at hy
      exact ⟨k + 1, ⟨by omega, by simpa [hb] using hy⟩, by omega, (.cons rfl rfl (.cons rfl rfl (.cons rfl rfl (.nil)))), rfl, rfl⟩
    · rw [drop_nil (by omega), drop_nil (by omega)] at hy
      refine ⟨.inr rfl, _, _, rfl, .cons (.c (.id rfl)) .nil, ?_⟩
      have hy := hy.2 rfl
      simp [resV, X.v, hy]
theorem szBs_ok (l : List Bool) (hl : l.length ≤ 9223372036854775807) (x : Int) (h0 : 0 ≤ x) (h1 : x ≤ 1048576) : Pu Tryz.prog 56 [L eB l, I x] (I (sz1 l.length x)) := by
  refine Pu.of D Tryz.func56 rfl rfl rfl ?_
  repeat' (first
    | (refine W.cond rfl ?_ ?_ <;> intro hb <;> try simp at hb)
    | refine goO ?_
    | refine goS ?_
    | (refine WO.gs _ rfl rfl rfl ?_ ?_ <;> intro hb <;> simp only [hb] <;> try simp at hb))
  all_goals refine ⟨.inr rfl, _, _, rfl, .cons (.c (.id rfl)) .nil, ?_⟩
  all_goals (simp [resV, X.v, sz1] at * <;> omega)
theorem toBs_ok (l : List Bool) (hl : l.length ≤ 1048576) : Pu Tryz.prog 64 [L eB l] (L eB l) := by
  refine Pu.of D Tryz.func64 rfl rfl rfl ?_
  repeat' (first
    | (refine W.cond rfl ?_ ?_ <;> intro hb <;> try simp at hb)
    | refine OpK.of (OpOk.mks D rfl rfl rfl rfl rfl rfl (by omega) (by decide) ⟨by dsimp only; omega, by omega⟩) ?_
    | refine goO ?_
    | refine goS ?_
    | (refine WO.gs _ rfl rfl rfl ?_ ?_ <;> intro hb <;> simp only [hb] <;> try simp at hb))
  refine W.loop (σ := Nat × List (List C)) (fun s => [(4, I s.1), (3, .c (.sl 0 l.length 0 l.length)), (0, L eB l)]) (fun s => [.arr s.2 1]) (fun s => s.1 ≤ l.length ∧ s.2.length = l.length ∧ (∀ el ∈ s.2, el.length = 1 ∧ el.all (·.low 1) = true) ∧ ∀ (j : Nat) a, j < s.1 → l[j]? = some a → s.2[j]? = some ((eB a).map .t)) (fun s => l.length - s.1) 1 (fun _ _ => rfl) (0, List.replicate l.length _) ⟨by simp, by simp, fun el hel => ?_, fun j a h => by simp at h⟩ rfl (.cons rfl rfl (.cons rfl rfl (.cons rfl rfl (.nil)))) ?_
  · rw [List.eq_of_mem_replicate hel]; exact ⟨rfl, rfl⟩
  rintro ⟨k, es⟩ ⟨hk1, hn, h6, hy⟩
  dsimp only at hk1 hn h6 hy
  repeat' (first
    | (refine W.cond rfl ?_ ?_ <;> intro hb <;> try simp at hb)
    | refine OpK.of (OpOk.ixA D rfl rfl rfl rfl rfl rfl rfl hn.symm rfl (by omega) (by omega)) ?_
    | refine OpK.of (OpOk.stA D rfl rfl rfl rfl hn.symm (List.getElem?_eq_getElem (by simp; omega)) rfl rfl rfl rfl (Nat.le_of_ble_eq_true rfl)) ?_
    | refine goO ?_
    | refine goS ?_
    | (refine WO.gs _ rfl rfl rfl ?_ ?_ <;> intro hb <;> simp only [hb] <;> try simp at hb))
  · obtain ⟨a1, a2, a3⟩ := made_step (e := eB) hb hn h6 hy rfl (by simp; omega)
    exact ⟨(k + 1, _), ⟨hb, a1, a2, a3⟩, by dsimp only; omega, (.cons rfl rfl (.cons rfl rfl (.cons rfl rfl (.nil)))), rfl, low_arr a2⟩
  · exact ⟨.inr rfl, _, _, rfl, .cons (.c (.full rfl rfl (all_of hn fun j a ha => hy j a (by have := (List.getElem?_eq_some_iff.1 ha).1; omega) ha))) .nil, rfl⟩
theorem eqBs_ok (l r : List Bool) (hl : l.length ≤ 1048576) : Pu Tryz.prog 72 [L eB l, L eB r] (B (decide (l = r))) := by
  refine Pu.of D Tryz.func72 rfl rfl rfl ?_
  repeat' (first
    | (refine W.cond rfl ?_ ?_ <;> intro hb <;> try simp at hb)
    | refine goO ?_
    | refine goS ?_
    | (refine WO.gs _ rfl rfl rfl ?_ ?_ <;> intro hb <;> simp only [hb] <;> try simp at hb)
    | (refine WD.gs _ rfl rfl rfl ?_ ?_ <;> intro hb <;> simp only [hb] <;> try simp at hb))
  · refine ⟨.inr rfl, _, _, rfl, .cons (.c (.id rfl)) .nil, ?_⟩
    have : ¬ l = r := by rintro rfl; simp at hb
    simp [resV, X.v, this]
  · have hlr : l.length = r.length := by omega
    refine W.loop (σ := Nat) (fun k => [(5, I k), (1, L eB r), (0, L eB l)]) (fun _ => []) (fun k => k ≤ l.length ∧ (l = r ↔ l.drop k = r.drop k)) (fun k => l.length - k) 0 (fun _ _ => rfl) 0 ⟨by simp, by simp⟩ rfl (.cons rfl rfl (.cons rfl rfl (.cons rfl rfl (.nil)))) ?_
    rintro k ⟨hk1, hy⟩
    repeat' (first
    | (refine W.cond rfl ?_ ?_ <;> intro hb <;> try simp at hb)
    | refine goO ?_
    | refine goS ?_
    | (refine WO.gs _ rfl rfl rfl ?_ ?_ <;> intro hb <;> simp only [hb] <;> try simp at hb)
    | (refine WD.gs _ rfl rfl rfl ?_ ?_ <;> intro hb <;> simp only [hb] <;> try simp at hb))
    · rw [drop_eq (by omega) (by omega)] at hy
      refine ⟨.inr rfl, _, _, rfl, .cons (.c (.id rfl)) .nil, ?_⟩
      simp [resV, X.v, hy, hb]
    · rw [drop_eq (by omega) (by omega)] at hy
      exact ⟨k + 1, ⟨by omega, by simpa [hb] using hy⟩, by omega, (.cons rfl rfl (.cons rfl rfl (.cons rfl rfl (.nil)))), rfl, rfl⟩
    · rw [drop_nil (by omega), drop_nil (by omega)] at hy
      refine ⟨.inr rfl, _, _, rfl, .cons (.c (.id rfl)) .nil, ?_⟩
      have hy := hy.2 rfl
      simp [resV, X.v, hy]
end Go.YtakiodehjhpgkaaGreatMc
namespace Go.YtakiodehjhpgkaaGreatMc
open Go.Proofs
/-! ### Interval -/
structure Iv where
  lo : List UInt8
  hi : List UInt8
  deriving DecidableEq
def Iv.e (a : Iv) : List T := [.s a.lo, .s a.hi]
structure Iv.Fit (a : Iv) : Prop where
  lo : a.lo.length ≤ 9223372036854775807
  hi : a.hi.length ≤ 9223372036854775807
structure Iv.Sm (a : Iv) : Prop where
  lo : a.lo.length ≤ 1048576
  hi : a.hi.length ≤ 1048576
def Iv.sz (a : Iv) : Int → Int := andz (sz1 a.lo.length) ((sz1 a.hi.length))
theorem Iv.sz_lo (a : Iv) : Lo a.sz := (andz_lo (sz1_lo _) (sz1_lo _))
theorem Iv.sz_sm (a : Iv) {x : Int} (h0 : 0 ≤ x) (h1 : x ≤ 1048576) (h : 0 ≤ a.sz x) : a.Sm := by
  unfold Iv.sz at h
  obtain ⟨g0, h⟩ := andz_ge h
  have s0 := sz1_sm h0 h1 g0
  have b0 := Int.le_trans ((sz1_lo _ : Lo (sz1 a.lo.length)) _ h0) h1
  have s1 := sz1_sm g0 b0 h
  exact ⟨s0, s1⟩
theorem Iv.sz_ok (a : Iv) (hf : a.Fit) (x : Int) (h0 : 0 ≤ x) (h1 : x ≤ 1048576) : Pu Tryz.prog 152 [A a.e, I x] (I (a.sz x)) := by
  have q0 := (sz1_lo _ : Lo (sz1 a.lo.length)) x h0
  have l0 := hf.lo
  have q1 := (sz1_lo _ : Lo (sz1 a.hi.length)) (sz1 a.lo.length x)
  have l1 := hf.hi
  refine Pu.of D Tryz.func152 rfl rfl rfl ?_
  repeat' (first
    | (refine W.cond rfl ?_ ?_ <;> intro hb <;> try simp at hb)
    | refine goO ?_
    | refine goS ?_
    | (refine WO.gs _ rfl rfl rfl ?_ ?_ <;> intro hb <;> simp only [hb] <;> try simp at hb))
  all_goals refine ⟨.inr rfl, _, _, rfl, .cons (.c (.id rfl)) .nil, ?_⟩
  all_goals (simp only [resV, X.v, Iv.sz, andz, sz1, id, V.c.injEq, C.t.injEq, T.i.injEq, true_and] at *; grind)
def Iv.szs (l : List Iv) : Int → Int := andz (sz1 l.length) (szL Iv.sz l)
theorem Iv.szs_lo (l : List Iv) : Lo (Iv.szs l) := andz_lo (sz1_lo _) (szL_lo Iv.sz_lo l)
theorem Iv.szs_sm (l : List Iv) {x : Int} (h0 : 0 ≤ x) (h1 : x ≤ 1048576) (h : 0 ≤ Iv.szs l x) : l.length ≤ 1048576 ∧ ∀ a ∈ l, a.Sm := by
  obtain ⟨g0, h⟩ := andz_ge h
  have b0 := Int.le_trans ((sz1_lo _ : Lo (sz1 l.length)) _ h0) h1
  refine ⟨sz1_sm h0 h1 g0, fun a ha => ?_⟩
  obtain ⟨y, y0, y1, y2⟩ := szL_ge Iv.sz_lo l g0 h a ha
  exact a.sz_sm y0 (by omega) y2
theorem Iv.to_ok (a : Iv) (hs : a.Sm) : Pu Tryz.prog 164 [A a.e] (A a.e) := by
  refine Pu.of D Tryz.func164 rfl rfl rfl ?_
  repeat' (first
    | (refine W.cond rfl ?_ ?_ <;> intro hb <;> try simp at hb)
    | refine goO ?_
    | refine goS ?_
    | (refine WO.gs _ rfl rfl rfl ?_ ?_ <;> intro hb <;> simp only [hb] <;> try simp at hb))
  all_goals refine ⟨.inr rfl, _, _, rfl, .cons (.ag (.cons (.id rfl) (.cons (.id rfl) .nil))) .nil, ?_⟩
  all_goals rfl
theorem Iv.eq_ok (a b : Iv) (hs : a.Sm) : Pu Tryz.prog 175 [A a.e, A b.e] (B (decide (a = b))) := by
  refine Pu.of D Tryz.func175 rfl rfl rfl ?_
  repeat' (first
    | (refine W.cond rfl ?_ ?_ <;> intro hb <;> try simp at hb)
    | refine goO ?_
    | refine goS ?_
    | (refine WO.gs _ rfl rfl rfl ?_ ?_ <;> intro hb <;> simp only [hb] <;> try simp at hb))
  all_goals refine ⟨.inr rfl, _, _, rfl, .cons (.c (.id rfl)) .nil, ?_⟩
  all_goals (cases a; cases b; simp [resV, X.v] at *; grind)
/-! ### Pair -/
structure Pr where
  key : List UInt8
  val : Int
  deriving DecidableEq
def Pr.e (a : Pr) : List T := [.s a.key, tI a.val]
structure Pr.Fit (a : Pr) : Prop where
  key : a.key.length ≤ 9223372036854775807
  val : i64 a.val
structure Pr.Sm (a : Pr) : Prop where
  key : a.key.length ≤ 1048576
def Pr.sz (a : Pr) : Int → Int := (sz1 a.key.length)
theorem Pr.sz_lo (a : Pr) : Lo a.sz := (sz1_lo _)
theorem Pr.sz_sm (a : Pr) {x : Int} (h0 : 0 ≤ x) (h1 : x ≤ 1048576) (h : 0 ≤ a.sz x) : a.Sm := by
  unfold Pr.sz at h
  have s0 := sz1_sm h0 h1 h
  exact ⟨s0⟩
theorem Pr.sz_ok (a : Pr) (hf : a.Fit) (x : Int) (h0 : 0 ≤ x) (h1 : x ≤ 1048576) : Pu Tryz.prog 254 [A a.e, I x] (I (a.sz x)) := by
  have q0 := (sz1_lo _ : Lo (sz1 a.key.length)) x h0
  have l0 := hf.key
  refine Pu.of D Tryz.func254 rfl rfl rfl ?_
  repeat' (first
    | (refine W.cond rfl ?_ ?_ <;> intro hb <;> try simp at hb)
    | refine goO ?_
    | refine goS ?_
    | (refine WO.gs _ rfl rfl rfl ?_ ?_ <;> intro hb <;> simp only [hb] <;> try simp at hb))
  all_goals refine ⟨.inr rfl, _, _, rfl, .cons (.c (.id rfl)) .nil, ?_⟩
  all_goals (simp only [resV, X.v, Pr.sz, andz, sz1, id, V.c.injEq, C.t.injEq, T.i.injEq, true_and] at *; grind)
def Pr.szs (l : List Pr) : Int → Int := andz (sz1 l.length) (szL Pr.sz l)
theorem Pr.szs_lo (l : List Pr) : Lo (Pr.szs l) := andz_lo (sz1_lo _) (szL_lo Pr.sz_lo l)
theorem Pr.szs_sm (l : List Pr) {x : Int} (h0 : 0 ≤ x) (h1 : x ≤ 1048576) (h : 0 ≤ Pr.szs l x) : l.length ≤ 1048576 ∧ ∀ a ∈ l, a.Sm := by
  obtain ⟨g0, h⟩ := andz_ge h
  have b0 := Int.le_trans ((sz1_lo _ : Lo (sz1 l.length)) _ h0) h1
  refine ⟨sz1_sm h0 h1 g0, fun a ha => ?_⟩
  obtain ⟨y, y0, y1, y2⟩ := szL_ge Pr.sz_lo l g0 h a ha
  exact a.sz_sm y0 (by omega) y2
theorem Pr.szs_ok (l : List Pr) (hl : l.length ≤ 9223372036854775807) (hk : ∀ a ∈ l, a.Fit) (x : Int) (h0 : 0 ≤ x) (h1 : x ≤ 1048576) : Pu Tryz.prog 153 [L Pr.e l, I x] (I (Pr.szs l x)) := by
  refine Pu.of D Tryz.func153 rfl rfl rfl ?_
  repeat' (first
    | (refine W.cond rfl ?_ ?_ <;> intro hb <;> try simp at hb)
    | refine goO ?_
    | refine goS ?_
    | (refine WO.gs _ rfl rfl rfl ?_ ?_ <;> intro hb <;> simp only [hb] <;> try simp at hb))
  · refine ⟨.inr rfl, _, _, rfl, .cons (.c (.id rfl)) .nil, ?_⟩
    have : sz1 l.length x = -1 := if_pos (by omega)
    simp [resV, X.v, Pr.szs, andz, this]
  have hx : sz1 l.length x = x - l.length := if_neg (by omega)
  have hs : Pr.szs l x = szL Pr.sz l (x - l.length) := by unfold Pr.szs andz; rw [hx, if_neg (by omega)]
  refine W.loop (σ := Nat × Int) (fun s => [(5, I s.1), (1, I s.2), (0, L Pr.e l)]) (fun _ => []) (fun s => s.1 ≤ l.length ∧ 0 ≤ s.2 ∧ s.2 ≤ 1048576 ∧ szL Pr.sz (l.drop s.1) s.2 = Pr.szs l x) (fun s => l.length - s.1) 0 (fun _ _ => rfl) (0, x - l.length) ⟨by simp, by omega, by omega, by simp [hs]⟩ rfl (.cons rfl rfl (.cons rfl rfl (.cons rfl rfl (.nil)))) ?_
  rintro ⟨k, y⟩ ⟨hk1, hy0, hy1, hy⟩
  dsimp only at hk1 hy0 hy1 hy
  repeat' (first
    | (refine W.cond rfl ?_ ?_ <;> intro hb <;> try simp at hb)
    | refine cl (Pr.sz_ok l[k] (hk _ (List.getElem_mem _)) y hy0 hy1) ?_
    | refine goO ?_
    | refine goS ?_
    | (refine WO.gs _ rfl rfl rfl ?_ ?_ <;> intro hb <;> simp only [hb] <;> try simp at hb))
  · have hlt : k < l.length := by assumption
    rw [szL_cons _ hlt, if_pos hb] at hy
    refine ⟨.inr rfl, _, _, rfl, .cons (.c (.id rfl)) .nil, ?_⟩
    simp [resV, X.v, ← hy]
  · have hlt : k < l.length := by assumption
    rw [szL_cons _ hlt, if_neg (by omega)] at hy
    exact ⟨(k + 1, l[k].sz y), ⟨hlt, hb, Int.le_trans (Pr.sz_lo _ _ hy0) hy1, hy⟩, by dsimp only; omega, (.cons rfl rfl (.cons rfl rfl (.cons rfl rfl (.nil)))), rfl, rfl⟩
  · rw [szL_nil _ hb] at hy
    refine ⟨.inr rfl, _, _, rfl, .cons (.c (.id rfl)) .nil, ?_⟩
    simp [resV, X.v, ← hy]
theorem Pr.to_ok (a : Pr) (hs : a.Sm) : Pu Tryz.prog 263 [A a.e] (A a.e) := by
  refine Pu.of D Tryz.func263 rfl rfl rfl ?_
  repeat' (first
    | (refine W.cond rfl ?_ ?_ <;> intro hb <;> try simp at hb)
    | refine goO ?_
    | refine goS ?_
    | (refine WO.gs _ rfl rfl rfl ?_ ?_ <;> intro hb <;> simp only [hb] <;> try simp at hb))
  all_goals refine ⟨.inr rfl, _, _, rfl, .cons (.ag (.cons (.id rfl) (.cons (.id rfl) .nil))) .nil, ?_⟩
  all_goals rfl
theorem Pr.eq_ok (a b : Pr) (hs : a.Sm) : Pu Tryz.prog 272 [A a.e, A b.e] (B (decide (a = b))) := by
  refine Pu.of D Tryz.func272 rfl rfl rfl ?_
  repeat' (first
    | (refine W.cond rfl ?_ ?_ <;> intro hb <;> try simp at hb)
    | refine goO ?_
    | refine goS ?_
    | (refine WO.gs _ rfl rfl rfl ?_ ?_ <;> intro hb <;> simp only [hb] <;> try simp at hb))
  all_goals refine ⟨.inr rfl, _, _, rfl, .cons (.c (.id rfl)) .nil, ?_⟩
  all_goals (cases a; cases b; simp [resV, X.v] at *; grind)
theorem Pr.tos_ok (l : List Pr) (hl : l.length ≤ 1048576) (hs : ∀ a ∈ l, a.Sm) : Pu Tryz.prog 165 [L Pr.e l] (L Pr.e l) := by
  refine Pu.of D Tryz.func165 rfl rfl rfl ?_
  repeat' (first
    | (refine W.cond rfl ?_ ?_ <;> intro hb <;> try simp at hb)
    | refine OpK.of (OpOk.mks D rfl rfl rfl rfl rfl rfl (by omega) (by decide) ⟨by dsimp only; omega, by omega⟩) ?_
    | refine goO ?_
    | refine goS ?_
    | (refine WO.gs _ rfl rfl rfl ?_ ?_ <;> intro hb <;> simp only [hb] <;> try simp at hb))
  refine W.loop (σ := Nat × List (List C)) (fun s => [(4, I s.1), (3, .c (.sl 0 l.length 0 l.length)), (0, L Pr.e l)]) (fun s => [.arr s.2 2]) (fun s => s.1 ≤ l.length ∧ s.2.length = l.length ∧ (∀ el ∈ s.2, el.length = 2 ∧ el.all (·.low 1) = true) ∧ ∀ (j : Nat) a, j < s.1 → l[j]? = some a → s.2[j]? = some ((Pr.e a).map .t)) (fun s => l.length - s.1) 1 (fun _ _ => rfl) (0, List.replicate l.length _) ⟨by simp, by simp, fun el hel => ?_, fun j a h => by simp at h⟩ rfl (.cons rfl rfl (.cons rfl rfl (.cons rfl rfl (.nil)))) ?_
  · rw [List.eq_of_mem_replicate hel]; exact ⟨rfl, rfl⟩
  rintro ⟨k, es⟩ ⟨hk1, hn, h6, hy⟩
  dsimp only at hk1 hn h6 hy
  repeat' (first
    | (refine W.cond rfl ?_ ?_ <;> intro hb <;> try simp at hb)
    | refine cl (Pr.to_ok l[k] (hs _ (List.getElem_mem _))) ?_
    | refine OpK.of (OpOk.ixA D rfl rfl rfl rfl rfl rfl rfl hn.symm rfl (by omega) (by omega)) ?_
    | refine OpK.of (OpOk.stA D rfl rfl rfl rfl hn.symm (List.getElem?_eq_getElem (by simp; omega)) rfl rfl rfl rfl (Nat.le_of_ble_eq_true rfl)) ?_
    | refine goO ?_
    | refine goS ?_
    | (refine WO.gs _ rfl rfl rfl ?_ ?_ <;> intro hb <;> simp only [hb] <;> try simp at hb))
  · obtain ⟨a1, a2, a3⟩ := made_step (e := Pr.e) hb hn h6 hy rfl (by simp; omega)
    exact ⟨(k + 1, _), ⟨hb, a1, a2, a3⟩, by dsimp only; omega, (.cons rfl rfl (.cons rfl rfl (.cons rfl rfl (.nil)))), rfl, low_arr a2⟩
  · exact ⟨.inr rfl, _, _, rfl, .cons (.c (.full rfl rfl (all_of hn fun j a ha => hy j a (by have := (List.getElem?_eq_some_iff.1 ha).1; omega) ha))) .nil, rfl⟩
theorem Pr.eqs_ok (l r : List Pr) (hl : l.length ≤ 1048576) (hs : ∀ a ∈ l, a.Sm) : Pu Tryz.prog 176 [L Pr.e l, L Pr.e r] (B (decide (l = r))) := by
  refine Pu.of D Tryz.func176 rfl rfl rfl ?_
  repeat' (first
    | (refine W.cond rfl ?_ ?_ <;> intro hb <;> try simp at hb)
    | refine goO ?_
    | refine goS ?_
    | (refine WO.gs _ rfl rfl rfl ?_ ?_ <;> intro hb <;> simp only [hb] <;> try simp at hb)
    | (refine WD.gs _ rfl rfl rfl ?_ ?_ <;> intro hb <;> simp only [hb] <;> try simp at hb))
  · refine ⟨.inr rfl, _, _, rfl, .cons (.c (.id rfl)) .nil, ?_⟩
    have : ¬ l = r := by rintro rfl; simp at hb
    simp [resV, X.v, this]
  · have hlr : l.length = r.length := by omega
    refine W.loop (σ := Nat) (fun k => [(5, I k), (1, L Pr.e r), (0, L Pr.e l)]) (fun _ => []) (fun k => k ≤ l.length ∧ (l = r ↔ l.drop k = r.drop k)) (fun k => l.length - k) 0 (fun _ _ => rfl) 0 ⟨by simp, by simp⟩ rfl (.cons rfl rfl (.cons rfl rfl (.cons rfl rfl (.nil)))) ?_
    rintro k ⟨hk1, hy⟩
    repeat' (first
    | (refine W.cond rfl ?_ ?_ <;> intro hb <;> try simp at hb)
    | refine cl (Pr.eq_ok l[k] r[k] (hs _ (List.getElem_mem _))) ?_
    | refine goO ?_
    | refine goS ?_
    | (refine WO.gs _ rfl rfl rfl ?_ ?_ <;> intro hb <;> simp only [hb] <;> try simp at hb)
    | (refine WD.gs _ rfl rfl rfl ?_ ?_ <;> intro hb <;> simp only [hb] <;> try simp at hb))
    · rw [drop_eq (by omega) (by omega)] at hy
      refine ⟨.inr rfl, _, _, rfl, .cons (.c (.id rfl)) .nil, ?_⟩
      simp [resV, X.v, hy, hb]
    · rw [drop_eq (by omega) (by omega)] at hy
      exact ⟨k + 1, ⟨by omega, by simpa [hb] using hy⟩, by omega, (.cons rfl rfl (.cons rfl rfl (.cons rfl rfl (.nil)))), rfl, rfl⟩
    · rw [drop_nil (by omega), drop_nil (by omega)] at hy
      refine ⟨.inr rfl, _, _, rfl, .cons (.c (.id rfl)) .nil, ?_⟩
      have hy := hy.2 rfl
      simp [resV, X.v, hy]
/-! ### Session -/
structure Ses where
  client : Int
  seq : Int
  reply : Int
  deriving DecidableEq
def Ses.e (a : Ses) : List T := [tI a.client, tI a.seq, tI a.reply]
structure Ses.Fit (a : Ses) : Prop where
  client : i64 a.client
  seq : i64 a.seq
  reply : i64 a.reply
theorem Ses.szs_ok (l : List Ses) (hl : l.length ≤ 9223372036854775807) (hk : ∀ a ∈ l, a.Fit) (x : Int) (h0 : 0 ≤ x) (h1 : x ≤ 1048576) : Pu Tryz.prog 154 [L Ses.e l, I x] (I (sz1 l.length x)) := by
  refine Pu.of D Tryz.func154 rfl rfl rfl ?_
  repeat' (first
    | (refine W.cond rfl ?_ ?_ <;> intro hb <;> try simp at hb)
    | refine goO ?_
    | refine goS ?_
    | (refine WO.gs _ rfl rfl rfl ?_ ?_ <;> intro hb <;> simp only [hb] <;> try simp at hb))
  all_goals refine ⟨.inr rfl, _, _, rfl, .cons (.c (.id rfl)) .nil, ?_⟩
  all_goals (simp [resV, X.v, sz1] at * <;> omega)
theorem Ses.to_ok (a : Ses) : Pu Tryz.prog 264 [A a.e] (A a.e) := by
  refine Pu.of D Tryz.func264 rfl rfl rfl ?_
  repeat' (first
    | (refine W.cond rfl ?_ ?_ <;> intro hb <;> try simp at hb)
    | refine goO ?_
    | refine goS ?_
    | (refine WO.gs _ rfl rfl rfl ?_ ?_ <;> intro hb <;> simp only [hb] <;> try simp at hb))
  all_goals refine ⟨.inr rfl, _, _, rfl, .cons (.ag (.cons (.id rfl) (.cons (.id rfl) (.cons (.id rfl) .nil)))) .nil, ?_⟩
  all_goals rfl
theorem Ses.eq_ok (a b : Ses) : Pu Tryz.prog 273 [A a.e, A b.e] (B (decide (a = b))) := by
  refine Pu.of D Tryz.func273 rfl rfl rfl ?_
  repeat' (first
    | (refine W.cond rfl ?_ ?_ <;> intro hb <;> try simp at hb)
    | refine goO ?_
    | refine goS ?_
    | (refine WO.gs _ rfl rfl rfl ?_ ?_ <;> intro hb <;> simp only [hb] <;> try simp at hb))
  all_goals refine ⟨.inr rfl, _, _, rfl, .cons (.c (.id rfl)) .nil, ?_⟩
  all_goals (cases a; cases b; simp [resV, X.v] at *; grind)
theorem Ses.tos_ok (l : List Ses) (hl : l.length ≤ 1048576) : Pu Tryz.prog 166 [L Ses.e l] (L Ses.e l) := by
  refine Pu.of D Tryz.func166 rfl rfl rfl ?_
  repeat' (first
    | (refine W.cond rfl ?_ ?_ <;> intro hb <;> try simp at hb)
    | refine OpK.of (OpOk.mks D rfl rfl rfl rfl rfl rfl (by omega) (by decide) ⟨by dsimp only; omega, by omega⟩) ?_
    | refine goO ?_
    | refine goS ?_
    | (refine WO.gs _ rfl rfl rfl ?_ ?_ <;> intro hb <;> simp only [hb] <;> try simp at hb))
  refine W.loop (σ := Nat × List (List C)) (fun s => [(4, I s.1), (3, .c (.sl 0 l.length 0 l.length)), (0, L Ses.e l)]) (fun s => [.arr s.2 3]) (fun s => s.1 ≤ l.length ∧ s.2.length = l.length ∧ (∀ el ∈ s.2, el.length = 3 ∧ el.all (·.low 1) = true) ∧ ∀ (j : Nat) a, j < s.1 → l[j]? = some a → s.2[j]? = some ((Ses.e a).map .t)) (fun s => l.length - s.1) 1 (fun _ _ => rfl) (0, List.replicate l.length _) ⟨by simp, by simp, fun el hel => ?_, fun j a h => by simp at h⟩ rfl (.cons rfl rfl (.cons rfl rfl (.cons rfl rfl (.nil)))) ?_
  · rw [List.eq_of_mem_replicate hel]; exact ⟨rfl, rfl⟩
  rintro ⟨k, es⟩ ⟨hk1, hn, h6, hy⟩
  dsimp only at hk1 hn h6 hy
  repeat' (first
    | (refine W.cond rfl ?_ ?_ <;> intro hb <;> try simp at hb)
    | refine cl (Ses.to_ok l[k]) ?_
    | refine OpK.of (OpOk.ixA D rfl rfl rfl rfl rfl rfl rfl hn.symm rfl (by omega) (by omega)) ?_
    | refine OpK.of (OpOk.stA D rfl rfl rfl rfl hn.symm (List.getElem?_eq_getElem (by simp; omega)) rfl rfl rfl rfl (Nat.le_of_ble_eq_true rfl)) ?_
    | refine goO ?_
    | refine goS ?_
    | (refine WO.gs _ rfl rfl rfl ?_ ?_ <;> intro hb <;> simp only [hb] <;> try simp at hb))
  · obtain ⟨a1, a2, a3⟩ := made_step (e := Ses.e) hb hn h6 hy rfl (by simp; omega)
    exact ⟨(k + 1, _), ⟨hb, a1, a2, a3⟩, by dsimp only; omega, (.cons rfl rfl (.cons rfl rfl (.cons rfl rfl (.nil)))), rfl, low_arr a2⟩
  · exact ⟨.inr rfl, _, _, rfl, .cons (.c (.full rfl rfl (all_of hn fun j a ha => hy j a (by have := (List.getElem?_eq_some_iff.1 ha).1; omega) ha))) .nil, rfl⟩
theorem Ses.eqs_ok (l r : List Ses) (hl : l.length ≤ 1048576) : Pu Tryz.prog 177 [L Ses.e l, L Ses.e r] (B (decide (l = r))) := by
  refine Pu.of D Tryz.func177 rfl rfl rfl ?_
  repeat' (first
    | (refine W.cond rfl ?_ ?_ <;> intro hb <;> try simp at hb)
    | refine goO ?_
    | refine goS ?_
    | (refine WO.gs _ rfl rfl rfl ?_ ?_ <;> intro hb <;> simp only [hb] <;> try simp at hb)
    | (refine WD.gs _ rfl rfl rfl ?_ ?_ <;> intro hb <;> simp only [hb] <;> try simp at hb))
  · refine ⟨.inr rfl, _, _, rfl, .cons (.c (.id rfl)) .nil, ?_⟩
    have : ¬ l = r := by rintro rfl; simp at hb
    simp [resV, X.v, this]
  · have hlr : l.length = r.length := by omega
    refine W.loop (σ := Nat) (fun k => [(5, I k), (1, L Ses.e r), (0, L Ses.e l)]) (fun _ => []) (fun k => k ≤ l.length ∧ (l = r ↔ l.drop k = r.drop k)) (fun k => l.length - k) 0 (fun _ _ => rfl) 0 ⟨by simp, by simp⟩ rfl (.cons rfl rfl (.cons rfl rfl (.cons rfl rfl (.nil)))) ?_
    rintro k ⟨hk1, hy⟩
    repeat' (first
    | (refine W.cond rfl ?_ ?_ <;> intro hb <;> try simp at hb)
    | refine cl (Ses.eq_ok l[k] r[k]) ?_
    | refine goO ?_
    | refine goS ?_
    | (refine WO.gs _ rfl rfl rfl ?_ ?_ <;> intro hb <;> simp only [hb] <;> try simp at hb)
    | (refine WD.gs _ rfl rfl rfl ?_ ?_ <;> intro hb <;> simp only [hb] <;> try simp at hb))
    · rw [drop_eq (by omega) (by omega)] at hy
      refine ⟨.inr rfl, _, _, rfl, .cons (.c (.id rfl)) .nil, ?_⟩
      simp [resV, X.v, hy, hb]
    · rw [drop_eq (by omega) (by omega)] at hy
      exact ⟨k + 1, ⟨by omega, by simpa [hb] using hy⟩, by omega, (.cons rfl rfl (.cons rfl rfl (.cons rfl rfl (.nil)))), rfl, rfl⟩
    · rw [drop_nil (by omega), drop_nil (by omega)] at hy
      refine ⟨.inr rfl, _, _, rfl, .cons (.c (.id rfl)) .nil, ?_⟩
      have hy := hy.2 rfl
      simp [resV, X.v, hy]
/-! ### Command -/
structure Cmd where
  kind : Int
  key : List UInt8
  val : Int
  old : Int
  deriving DecidableEq
def Cmd.e (a : Cmd) : List T := [tI a.kind, .s a.key, tI a.val, tI a.old]
structure Cmd.Fit (a : Cmd) : Prop where
  kind : i64 a.kind
  key : a.key.length ≤ 9223372036854775807
  val : i64 a.val
  old : i64 a.old
structure Cmd.Sm (a : Cmd) : Prop where
  key : a.key.length ≤ 1048576
def Cmd.sz (a : Cmd) : Int → Int := (sz1 a.key.length)
theorem Cmd.sz_lo (a : Cmd) : Lo a.sz := (sz1_lo _)
theorem Cmd.sz_sm (a : Cmd) {x : Int} (h0 : 0 ≤ x) (h1 : x ≤ 1048576) (h : 0 ≤ a.sz x) : a.Sm := by
  unfold Cmd.sz at h
  have s0 := sz1_sm h0 h1 h
  exact ⟨s0⟩
theorem Cmd.sz_ok (a : Cmd) (hf : a.Fit) (x : Int) (h0 : 0 ≤ x) (h1 : x ≤ 1048576) : Pu Tryz.prog 218 [A a.e, I x] (I (a.sz x)) := by
  have q0 := (sz1_lo _ : Lo (sz1 a.key.length)) x h0
  have l0 := hf.key
  refine Pu.of D Tryz.func218 rfl rfl rfl ?_
  repeat' (first
    | (refine W.cond rfl ?_ ?_ <;> intro hb <;> try simp at hb)
    | refine goO ?_
    | refine goS ?_
    | (refine WO.gs _ rfl rfl rfl ?_ ?_ <;> intro hb <;> simp only [hb] <;> try simp at hb))
  all_goals refine ⟨.inr rfl, _, _, rfl, .cons (.c (.id rfl)) .nil, ?_⟩
  all_goals (simp only [resV, X.v, Cmd.sz, andz, sz1, id, V.c.injEq, C.t.injEq, T.i.injEq, true_and] at *; grind)
def Cmd.szs (l : List Cmd) : Int → Int := andz (sz1 l.length) (szL Cmd.sz l)
theorem Cmd.szs_lo (l : List Cmd) : Lo (Cmd.szs l) := andz_lo (sz1_lo _) (szL_lo Cmd.sz_lo l)
theorem Cmd.szs_sm (l : List Cmd) {x : Int} (h0 : 0 ≤ x) (h1 : x ≤ 1048576) (h : 0 ≤ Cmd.szs l x) : l.length ≤ 1048576 ∧ ∀ a ∈ l, a.Sm := by
  obtain ⟨g0, h⟩ := andz_ge h
  have b0 := Int.le_trans ((sz1_lo _ : Lo (sz1 l.length)) _ h0) h1
  refine ⟨sz1_sm h0 h1 g0, fun a ha => ?_⟩
  obtain ⟨y, y0, y1, y2⟩ := szL_ge Cmd.sz_lo l g0 h a ha
  exact a.sz_sm y0 (by omega) y2
theorem Cmd.to_ok (a : Cmd) (hs : a.Sm) : Pu Tryz.prog 234 [A a.e] (A a.e) := by
  refine Pu.of D Tryz.func234 rfl rfl rfl ?_
  repeat' (first
    | (refine W.cond rfl ?_ ?_ <;> intro hb <;> try simp at hb)
    | refine goO ?_
    | refine goS ?_
    | (refine WO.gs _ rfl rfl rfl ?_ ?_ <;> intro hb <;> simp only [hb] <;> try simp at hb))
  all_goals refine ⟨.inr rfl, _, _, rfl, .cons (.ag (.cons (.id rfl) (.cons (.id rfl) (.cons (.id rfl) (.cons (.id rfl) .nil))))) .nil, ?_⟩
  all_goals rfl
theorem Cmd.eq_ok (a b : Cmd) (hs : a.Sm) : Pu Tryz.prog 295 [A a.e, A b.e] (B (decide (a = b))) := by
  refine Pu.of D Tryz.func295 rfl rfl rfl ?_
  repeat' (first
    | (refine W.cond rfl ?_ ?_ <;> intro hb <;> try simp at hb)
    | refine goO ?_
    | refine goS ?_
    | (refine WO.gs _ rfl rfl rfl ?_ ?_ <;> intro hb <;> simp only [hb] <;> try simp at hb))
  all_goals refine ⟨.inr rfl, _, _, rfl, .cons (.c (.id rfl)) .nil, ?_⟩
  all_goals (cases a; cases b; simp [resV, X.v] at *; grind)
/-! ### Entry -/
structure Ent where
  client : Int
  seq : Int
  cmd : Cmd
  deriving DecidableEq
def Ent.e (a : Ent) : List T := [tI a.client, tI a.seq, tI a.cmd.kind, .s a.cmd.key, tI a.cmd.val, tI a.cmd.old]
structure Ent.Fit (a : Ent) : Prop where
  client : i64 a.client
  seq : i64 a.seq
  cmd : a.cmd.Fit
structure Ent.Sm (a : Ent) : Prop where
  cmd : a.cmd.Sm
def Ent.sz (a : Ent) : Int → Int := andz (Cmd.sz a.cmd) id
theorem Ent.sz_lo (a : Ent) : Lo a.sz := (andz_lo (Cmd.sz_lo _) id_lo)
theorem Ent.sz_sm (a : Ent) {x : Int} (h0 : 0 ≤ x) (h1 : x ≤ 1048576) (h : 0 ≤ a.sz x) : a.Sm := by
  unfold Ent.sz at h
  obtain ⟨g0, h⟩ := andz_ge h
  have s0 := Cmd.sz_sm _ h0 h1 g0
  exact ⟨s0⟩
theorem Ent.sz_ok (a : Ent) (hf : a.Fit) (x : Int) (h0 : 0 ≤ x) (h1 : x ≤ 1048576) : Pu Tryz.prog 119 [A a.e, I x] (I (a.sz x)) := by
  have q0 := (Cmd.sz_lo _ : Lo (Cmd.sz a.cmd)) x h0
  refine Pu.of D Tryz.func119 rfl rfl rfl ?_
  repeat' (first
    | (refine W.cond rfl ?_ ?_ <;> intro hb <;> try simp at hb)
    | refine cl (Cmd.sz_ok a.cmd hf.cmd (x) h0 h1) ?_
    | refine goO ?_
    | refine goS ?_
    | (refine WO.gs _ rfl rfl rfl ?_ ?_ <;> intro hb <;> simp only [hb] <;> try simp at hb))
  all_goals refine ⟨.inr rfl, _, _, rfl, .cons (.c (.id rfl)) .nil, ?_⟩
  all_goals (simp only [resV, X.v, Ent.sz, andz, sz1, id, V.c.injEq, C.t.injEq, T.i.injEq, true_and] at *; grind)
def Ent.szs (l : List Ent) : Int → Int := andz (sz1 l.length) (szL Ent.sz l)
theorem Ent.szs_lo (l : List Ent) : Lo (Ent.szs l) := andz_lo (sz1_lo _) (szL_lo Ent.sz_lo l)
theorem Ent.szs_sm (l : List Ent) {x : Int} (h0 : 0 ≤ x) (h1 : x ≤ 1048576) (h : 0 ≤ Ent.szs l x) : l.length ≤ 1048576 ∧ ∀ a ∈ l, a.Sm := by
  obtain ⟨g0, h⟩ := andz_ge h
  have b0 := Int.le_trans ((sz1_lo _ : Lo (sz1 l.length)) _ h0) h1
  refine ⟨sz1_sm h0 h1 g0, fun a ha => ?_⟩
  obtain ⟨y, y0, y1, y2⟩ := szL_ge Ent.sz_lo l g0 h a ha
  exact a.sz_sm y0 (by omega) y2
theorem Ent.szs_ok (l : List Ent) (hl : l.length ≤ 9223372036854775807) (hk : ∀ a ∈ l, a.Fit) (x : Int) (h0 : 0 ≤ x) (h1 : x ≤ 1048576) : Pu Tryz.prog 255 [L Ent.e l, I x] (I (Ent.szs l x)) := by
  refine Pu.of D Tryz.func255 rfl rfl rfl ?_
  repeat' (first
    | (refine W.cond rfl ?_ ?_ <;> intro hb <;> try simp at hb)
    | refine goO ?_
    | refine goS ?_
    | (refine WO.gs _ rfl rfl rfl ?_ ?_ <;> intro hb <;> simp only [hb] <;> try simp at hb))
  · refine ⟨.inr rfl, _, _, rfl, .cons (.c (.id rfl)) .nil, ?_⟩
    have : sz1 l.length x = -1 := if_pos (by omega)
    simp [resV, X.v, Ent.szs, andz, this]
  have hx : sz1 l.length x = x - l.length := if_neg (by omega)
  have hs : Ent.szs l x = szL Ent.sz l (x - l.length) := by unfold Ent.szs andz; rw [hx, if_neg (by omega)]
  refine W.loop (σ := Nat × Int) (fun s => [(5, I s.1), (1, I s.2), (0, L Ent.e l)]) (fun _ => []) (fun s => s.1 ≤ l.length ∧ 0 ≤ s.2 ∧ s.2 ≤ 1048576 ∧ szL Ent.sz (l.drop s.1) s.2 = Ent.szs l x) (fun s => l.length - s.1) 0 (fun _ _ => rfl) (0, x - l.length) ⟨by simp, by omega, by omega, by simp [hs]⟩ rfl (.cons rfl rfl (.cons rfl rfl (.cons rfl rfl (.nil)))) ?_
  rintro ⟨k, y⟩ ⟨hk1, hy0, hy1, hy⟩
  dsimp only at hk1 hy0 hy1 hy
  repeat' (first
    | (refine W.cond rfl ?_ ?_ <;> intro hb <;> try simp at hb)
    | refine cl (Ent.sz_ok l[k] (hk _ (List.getElem_mem _)) y hy0 hy1) ?_
    | refine goO ?_
    | refine goS ?_
    | (refine WO.gs _ rfl rfl rfl ?_ ?_ <;> intro hb <;> simp only [hb] <;> try simp at hb))
  · have hlt : k < l.length := by assumption
    rw [szL_cons _ hlt, if_pos hb] at hy
    refine ⟨.inr rfl, _, _, rfl, .cons (.c (.id rfl)) .nil, ?_⟩
    simp [resV, X.v, ← hy]
  · have hlt : k < l.length := by assumption
    rw [szL_cons _ hlt, if_neg (by omega)] at hy
    exact ⟨(k + 1, l[k].sz y), ⟨hlt, hb, Int.le_trans (Ent.sz_lo _ _ hy0) hy1, hy⟩, by dsimp only; omega, (.cons rfl rfl (.cons rfl rfl (.cons rfl rfl (.nil)))), rfl, rfl⟩
  · rw [szL_nil _ hb] at hy
    refine ⟨.inr rfl, _, _, rfl, .cons (.c (.id rfl)) .nil, ?_⟩
    simp [resV, X.v, ← hy]
theorem Ent.to_ok (a : Ent) (hs : a.Sm) : Pu Tryz.prog 125 [A a.e] (A a.e) := by
  refine Pu.of D Tryz.func125 rfl rfl rfl ?_
  repeat' (first
    | (refine W.cond rfl ?_ ?_ <;> intro hb <;> try simp at hb)
    | refine cl (Cmd.to_ok a.cmd hs.cmd) ?_
    | refine goO ?_
    | refine goS ?_
    | (refine WO.gs _ rfl rfl rfl ?_ ?_ <;> intro hb <;> simp only [hb] <;> try simp at hb))
  all_goals refine ⟨.inr rfl, _, _, rfl, .cons (.ag (.cons (.id rfl) (.cons (.id rfl) (.cons (.id rfl) (.cons (.id rfl) (.cons (.id rfl) (.cons (.id rfl) .nil))))))) .nil, ?_⟩
  all_goals rfl
theorem Ent.eq_ok (a b : Ent) (hs : a.Sm) : Pu Tryz.prog 247 [A a.e, A b.e] (B (decide (a = b))) := by
  refine Pu.of D Tryz.func247 rfl rfl rfl ?_
  repeat' (first
    | (refine W.cond rfl ?_ ?_ <;> intro hb <;> try simp at hb)
    | refine cl (Cmd.eq_ok a.cmd b.cmd hs.cmd) ?_
    | refine goO ?_
    | refine goS ?_
    | (refine WO.gs _ rfl rfl rfl ?_ ?_ <;> intro hb <;> simp only [hb] <;> try simp at hb))
  all_goals refine ⟨.inr rfl, _, _, rfl, .cons (.c (.id rfl)) .nil, ?_⟩
  all_goals (cases a; cases b; simp [resV, X.v] at *; grind)
theorem Ent.tos_ok (l : List Ent) (hl : l.length ≤ 1048576) (hs : ∀ a ∈ l, a.Sm) : Pu Tryz.prog 265 [L Ent.e l] (L Ent.e l) := by
  refine Pu.of D Tryz.func265 rfl rfl rfl ?_
  repeat' (first
    | (refine W.cond rfl ?_ ?_ <;> intro hb <;> try simp at hb)
    | refine OpK.of (OpOk.mks D rfl rfl rfl rfl rfl rfl (by omega) (by decide) ⟨by dsimp only; omega, by omega⟩) ?_
    | refine goO ?_
    | refine goS ?_
    | (refine WO.gs _ rfl rfl rfl ?_ ?_ <;> intro hb <;> simp only [hb] <;> try simp at hb))
  refine W.loop (σ := Nat × List (List C)) (fun s => [(4, I s.1), (3, .c (.sl 0 l.length 0 l.length)), (0, L Ent.e l)]) (fun s => [.arr s.2 6]) (fun s => s.1 ≤ l.length ∧ s.2.length = l.length ∧ (∀ el ∈ s.2, el.length = 6 ∧ el.all (·.low 1) = true) ∧ ∀ (j : Nat) a, j < s.1 → l[j]? = some a → s.2[j]? = some ((Ent.e a).map .t)) (fun s => l.length - s.1) 1 (fun _ _ => rfl) (0, List.replicate l.length _) ⟨by simp, by simp, fun el hel => ?_, fun j a h => by simp at h⟩ rfl (.cons rfl rfl (.cons rfl rfl (.cons rfl rfl (.nil)))) ?_
  · rw [List.eq_of_mem_replicate hel]; exact ⟨rfl, rfl⟩
  rintro ⟨k, es⟩ ⟨hk1, hn, h6, hy⟩
  dsimp only at hk1 hn h6 hy
  repeat' (first
    | (refine W.cond rfl ?_ ?_ <;> intro hb <;> try simp at hb)
    | refine cl (Ent.to_ok l[k] (hs _ (List.getElem_mem _))) ?_
    | refine OpK.of (OpOk.ixA D rfl rfl rfl rfl rfl rfl rfl hn.symm rfl (by omega) (by omega)) ?_
    | refine OpK.of (OpOk.stA D rfl rfl rfl rfl hn.symm (List.getElem?_eq_getElem (by simp; omega)) rfl rfl rfl rfl (Nat.le_of_ble_eq_true rfl)) ?_
    | refine goO ?_
    | refine goS ?_
    | (refine WO.gs _ rfl rfl rfl ?_ ?_ <;> intro hb <;> simp only [hb] <;> try simp at hb))
  · obtain ⟨a1, a2, a3⟩ := made_step (e := Ent.e) hb hn h6 hy rfl (by simp; omega)
    exact ⟨(k + 1, _), ⟨hb, a1, a2, a3⟩, by dsimp only; omega, (.cons rfl rfl (.cons rfl rfl (.cons rfl rfl (.nil)))), rfl, low_arr a2⟩
  · exact ⟨.inr rfl, _, _, rfl, .cons (.c (.full rfl rfl (all_of hn fun j a ha => hy j a (by have := (List.getElem?_eq_some_iff.1 ha).1; omega) ha))) .nil, rfl⟩
theorem Ent.eqs_ok (l r : List Ent) (hl : l.length ≤ 1048576) (hs : ∀ a ∈ l, a.Sm) : Pu Tryz.prog 274 [L Ent.e l, L Ent.e r] (B (decide (l = r))) := by
  refine Pu.of D Tryz.func274 rfl rfl rfl ?_
  repeat' (first
    | (refine W.cond rfl ?_ ?_ <;> intro hb <;> try simp at hb)
    | refine goO ?_
    | refine goS ?_
    | (refine WO.gs _ rfl rfl rfl ?_ ?_ <;> intro hb <;> simp only [hb] <;> try simp at hb)
    | (refine WD.gs _ rfl rfl rfl ?_ ?_ <;> intro hb <;> simp only [hb] <;> try simp at hb))
  · refine ⟨.inr rfl, _, _, rfl, .cons (.c (.id rfl)) .nil, ?_⟩
    have : ¬ l = r := by rintro rfl; simp at hb
    simp [resV, X.v, this]
  · have hlr : l.length = r.length := by omega
    refine W.loop (σ := Nat) (fun k => [(5, I k), (1, L Ent.e r), (0, L Ent.e l)]) (fun _ => []) (fun k => k ≤ l.length ∧ (l = r ↔ l.drop k = r.drop k)) (fun k => l.length - k) 0 (fun _ _ => rfl) 0 ⟨by simp, by simp⟩ rfl (.cons rfl rfl (.cons rfl rfl (.cons rfl rfl (.nil)))) ?_
    rintro k ⟨hk1, hy⟩
    repeat' (first
    | (refine W.cond rfl ?_ ?_ <;> intro hb <;> try simp at hb)
    | refine cl (Ent.eq_ok l[k] r[k] (hs _ (List.getElem_mem _))) ?_
    | refine goO ?_
    | refine goS ?_
    | (refine WO.gs _ rfl rfl rfl ?_ ?_ <;> intro hb <;> simp only [hb] <;> try simp at hb)
    | (refine WD.gs _ rfl rfl rfl ?_ ?_ <;> intro hb <;> simp only [hb] <;> try simp at hb))
    · rw [drop_eq (by omega) (by omega)] at hy
      refine ⟨.inr rfl, _, _, rfl, .cons (.c (.id rfl)) .nil, ?_⟩
      simp [resV, X.v, hy, hb]
    · rw [drop_eq (by omega) (by omega)] at hy
      exact ⟨k + 1, ⟨by omega, by simpa [hb] using hy⟩, by omega, (.cons rfl rfl (.cons rfl rfl (.cons rfl rfl (.nil)))), rfl, rfl⟩
    · rw [drop_nil (by omega), drop_nil (by omega)] at hy
      refine ⟨.inr rfl, _, _, rfl, .cons (.c (.id rfl)) .nil, ?_⟩
      have hy := hy.2 rfl
      simp [resV, X.v, hy]
end Go.YtakiodehjhpgkaaGreatMc
