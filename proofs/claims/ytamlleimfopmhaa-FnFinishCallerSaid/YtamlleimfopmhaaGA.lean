/- Lemmas of this claim: walks through code, values and memory, and the contracts of functions; under no condition beyond those that each states. -/
import Derived.Test.YtamlleimfopmhaaME
import Derived.Test.YtamlleimfopmhaaProg
set_option maxRecDepth 100000
set_option linter.unusedVariables false
set_option linter.unusedSimpArgs false
namespace Go.YtamlleimfopmhaaMc
open Go.Proofs
def tf : Nat → Option TI
  | 2 => some ⟨.int .i64, 1, 8, [.t (.i .i64 0)]⟩
  | 3 => some ⟨.int .i64, 1, 8, [.t (.i .i64 0)]⟩
  | 4 => some ⟨.bool, 1, 1, [.t (.b false)]⟩
  | 5 => some ⟨.int .u8, 1, 1, [.t (.i .u8 0)]⟩
  | 6 => some ⟨.int .u8, 1, 1, [.t (.i .u8 0)]⟩
  | 7 => some ⟨.st [(0, 1), (1, 1), (2, 1), (3, 1)], 4, 24, [.t (.i .i64 0), .t (.i .i64 0), .t (.b false), .t (.i .u8 0)]⟩
  | 8 => some ⟨.st [(0, 1), (1, 1), (2, 1), (3, 1)], 4, 24, [.t (.i .i64 0), .t (.i .i64 0), .t (.b false), .t (.i .u8 0)]⟩
  | 9 => some ⟨.str, 1, 16, [.t (.s [])]⟩
  | 10 => some ⟨.str, 1, 16, [.t (.s [])]⟩
  | 11 => some ⟨.str, 1, 16, [.t (.s [])]⟩
  | 12 => some ⟨.int .u64, 1, 8, [.t (.i .u64 0)]⟩
  | 13 => some ⟨.st [(0, 1), (1, 1)], 2, 24, [.t (.s []), .t (.i .u64 0)]⟩
  | 14 => some ⟨.st [(0, 1), (1, 1)], 2, 24, [.t (.s []), .t (.i .u64 0)]⟩
  | 15 => some ⟨.ptr, 1, 8, [.np]⟩
  | 16 => some ⟨.ptr, 1, 8, [.np]⟩
  | 17 => some ⟨.ptr, 1, 8, [.np]⟩
  | 18 => some ⟨.st [(0, 1)], 1, 8, [.np]⟩
  | 19 => some ⟨.st [(0, 1)], 1, 8, [.np]⟩
  | 21 => some ⟨.int .i32, 1, 4, [.t (.i .i32 0)]⟩
  | 22 => some ⟨.sl 5, 1, 24, [.emp]⟩
  | 23 => some ⟨.sl 48, 1, 24, [.emp]⟩
  | 29 => some ⟨.sl 68, 1, 24, [.emp]⟩
  | 30 => some ⟨.st [(0, 1), (1, 1), (2, 1), (3, 1)], 4, 40, [.t (.i .i64 0), .t (.s []), .t (.i .i64 0), .t (.i .i64 0)]⟩
  | 31 => some ⟨.st [(0, 1), (1, 1), (2, 1), (3, 1)], 4, 40, [.t (.i .i64 0), .t (.s []), .t (.i .i64 0), .t (.i .i64 0)]⟩
  | 32 => some ⟨.st [(0, 1), (1, 1), (2, 1), (3, 4), (7, 1)], 8, 88, [.emp, .t (.i .i64 0), .t (.b false), .t (.i .i64 0), .t (.s []), .t (.i .i64 0), .t (.i .i64 0), .t (.i .i64 0)]⟩
  | 33 => some ⟨.st [(0, 1), (1, 1), (2, 1), (3, 4), (7, 1)], 8, 88, [.emp, .t (.i .i64 0), .t (.b false), .t (.i .i64 0), .t (.s []), .t (.i .i64 0), .t (.i .i64 0), .t (.i .i64 0)]⟩
  | 43 => some ⟨.st [(0, 1), (1, 1), (2, 4), (6, 1), (7, 1), (8, 1)], 9, 80, [.t (.i .i64 0), .t (.i .i64 0), .t (.i .i64 0), .t (.s []), .t (.i .i64 0), .t (.i .i64 0), .t (.i .i64 0), .t (.i .i64 0), .t (.i .i64 0)]⟩
  | 44 => some ⟨.st [(0, 1), (1, 1), (2, 4), (6, 1), (7, 1), (8, 1)], 9, 80, [.t (.i .i64 0), .t (.i .i64 0), .t (.i .i64 0), .t (.s []), .t (.i .i64 0), .t (.i .i64 0), .t (.i .i64 0), .t (.i .i64 0), .t (.i .i64 0)]⟩
  | 47 => some ⟨.st [(0, 1), (1, 1), (2, 4)], 6, 56, [.t (.i .i64 0), .t (.i .i64 0), .t (.i .i64 0), .t (.s []), .t (.i .i64 0), .t (.i .i64 0)]⟩
  | 48 => some ⟨.st [(0, 1), (1, 1), (2, 4)], 6, 56, [.t (.i .i64 0), .t (.i .i64 0), .t (.i .i64 0), .t (.s []), .t (.i .i64 0), .t (.i .i64 0)]⟩
  | 60 => some ⟨.sl 9, 1, 24, [.emp]⟩
  | 65 => some ⟨.st [(0, 1), (1, 1)], 2, 32, [.t (.s []), .t (.s [])]⟩
  | 66 => some ⟨.st [(0, 1), (1, 1)], 2, 32, [.t (.s []), .t (.s [])]⟩
  | 67 => some ⟨.st [(0, 1), (1, 2)], 3, 40, [.t (.i .i64 0), .t (.s []), .t (.s [])]⟩
  | 68 => some ⟨.st [(0, 1), (1, 2)], 3, 40, [.t (.i .i64 0), .t (.s []), .t (.s [])]⟩
  | 76 => some ⟨.sl 88, 1, 24, [.emp]⟩
  | 77 => some ⟨.st [(0, 1), (1, 1), (2, 1), (3, 1)], 4, 40, [.t (.i .i64 0), .t (.s []), .t (.i .i64 0), .t (.i .i64 0)]⟩
  | 78 => some ⟨.st [(0, 1), (1, 1), (2, 1), (3, 4), (7, 1)], 8, 88, [.emp, .t (.i .i64 0), .t (.b false), .t (.i .i64 0), .t (.s []), .t (.i .i64 0), .t (.i .i64 0), .t (.i .i64 0)]⟩
  | 79 => some ⟨.st [(0, 1), (1, 1), (2, 1), (3, 4), (7, 1)], 8, 88, [.emp, .t (.i .i64 0), .t (.b false), .t (.i .i64 0), .t (.s []), .t (.i .i64 0), .t (.i .i64 0), .t (.i .i64 0)]⟩
  | 86 => some ⟨.st [(0, 1), (1, 1)], 2, 32, [.t (.s []), .t (.s [])]⟩
  | 87 => some ⟨.st [(0, 1), (1, 2)], 3, 40, [.t (.i .i64 0), .t (.s []), .t (.s [])]⟩
  | 88 => some ⟨.st [(0, 1), (1, 2)], 3, 40, [.t (.i .i64 0), .t (.s []), .t (.s [])]⟩
  | 97 => some ⟨.ptr, 1, 8, [.np]⟩
  | 120 => some ⟨.sl 66, 1, 24, [.emp]⟩
  | 132 => some ⟨.st [(0, 1), (1, 1)], 2, 32, [.emp, .t (.i .i64 0)]⟩
  | 133 => some ⟨.st [(0, 1), (1, 1)], 2, 32, [.emp, .t (.i .i64 0)]⟩
  | 134 => some ⟨.sl 3, 1, 24, [.emp]⟩
  | 135 => some ⟨.sl 31, 1, 24, [.emp]⟩
  | 146 => some ⟨.st [(0, 1), (1, 1), (2, 1), (3, 1)], 4, 40, [.np, .np, .np, .t (.s [])]⟩
  | 147 => some ⟨.st [(0, 1), (1, 1), (2, 1), (3, 1)], 4, 40, [.np, .np, .np, .t (.s [])]⟩
  | 152 => some ⟨.int .u32, 1, 4, [.t (.i .u32 0)]⟩
  | 153 => some ⟨.int .u8, 1, 1, [.t (.i .u8 0)]⟩
  | 154 => some ⟨.int .u8, 1, 1, [.t (.i .u8 0)]⟩
  | 156 => some ⟨.ptr, 1, 8, [.np]⟩
  | 157 => some ⟨.int .i32, 1, 4, [.t (.i .i32 0)]⟩
  | 158 => some ⟨.int .i32, 1, 4, [.t (.i .i32 0)]⟩
  | _ => none
theorem tok2 : ∀ x, tf 2 = some x → x.ok Try.prog 2 := fun x hx => by injection hx with hx; subst hx; exact .mk' (.int .i64 0) (by kernel_rfl) rfl rfl Try.underlying2
theorem tok3 : ∀ x, tf 3 = some x → x.ok Try.prog 3 := fun x hx => by injection hx with hx; subst hx; exact .mk' (.int .i64 0) (by kernel_rfl) rfl rfl Try.underlying3
theorem tok4 : ∀ x, tf 4 = some x → x.ok Try.prog 4 := fun x hx => by injection hx with hx; subst hx; exact .mk' (.bool false) (by kernel_rfl) rfl rfl Try.underlying4
theorem tok5 : ∀ x, tf 5 = some x → x.ok Try.prog 5 := fun x hx => by injection hx with hx; subst hx; exact .mk' (.int .u8 0) (by kernel_rfl) rfl rfl Try.underlying5
theorem tok6 : ∀ x, tf 6 = some x → x.ok Try.prog 6 := fun x hx => by injection hx with hx; subst hx; exact .mk' (.int .u8 0) (by kernel_rfl) rfl rfl Try.underlying6
theorem tok7 : ∀ x, tf 7 = some x → x.ok Try.prog 7 := fun x hx => by injection hx with hx; subst hx; exact .mk' (.agg #[.int .i64 0, .int .i64 0, .bool false, .int .u8 0]) (by kernel_rfl) rfl rfl ⟨_, Try.underlying7, by kernel_rfl⟩
theorem tok8 : ∀ x, tf 8 = some x → x.ok Try.prog 8 := fun x hx => by injection hx with hx; subst hx; exact .mk' (.agg #[.int .i64 0, .int .i64 0, .bool false, .int .u8 0]) (by kernel_rfl) rfl rfl ⟨_, Try.underlying8, by kernel_rfl⟩
theorem tok9 : ∀ x, tf 9 = some x → x.ok Try.prog 9 := fun x hx => by injection hx with hx; subst hx; exact .mk' (.string ByteArray.empty) (by kernel_rfl) rfl rfl Try.underlying9
theorem tok10 : ∀ x, tf 10 = some x → x.ok Try.prog 10 := fun x hx => by injection hx with hx; subst hx; exact .mk' (.string ByteArray.empty) (by kernel_rfl) rfl rfl Try.underlying10
theorem tok11 : ∀ x, tf 11 = some x → x.ok Try.prog 11 := fun x hx => by injection hx with hx; subst hx; exact .mk' (.string ByteArray.empty) (by kernel_rfl) rfl rfl Try.underlying11
theorem tok12 : ∀ x, tf 12 = some x → x.ok Try.prog 12 := fun x hx => by injection hx with hx; subst hx; exact .mk' (.int .u64 0) (by kernel_rfl) rfl rfl Try.underlying12
theorem tok13 : ∀ x, tf 13 = some x → x.ok Try.prog 13 := fun x hx => by injection hx with hx; subst hx; exact .mk' (.agg #[.string ByteArray.empty, .int .u64 0]) (by kernel_rfl) rfl rfl ⟨_, Try.underlying13, by kernel_rfl⟩
theorem tok14 : ∀ x, tf 14 = some x → x.ok Try.prog 14 := fun x hx => by injection hx with hx; subst hx; exact .mk' (.agg #[.string ByteArray.empty, .int .u64 0]) (by kernel_rfl) rfl rfl ⟨_, Try.underlying14, by kernel_rfl⟩
theorem tok15 : ∀ x, tf 15 = some x → x.ok Try.prog 15 := fun x hx => by injection hx with hx; subst hx; exact .mk' (.pointer none) (by kernel_rfl) rfl rfl ⟨_, Try.underlying15⟩
theorem tok16 : ∀ x, tf 16 = some x → x.ok Try.prog 16 := fun x hx => by injection hx with hx; subst hx; exact .mk' (.pointer none) (by kernel_rfl) rfl rfl ⟨_, Try.underlying16⟩
theorem tok17 : ∀ x, tf 17 = some x → x.ok Try.prog 17 := fun x hx => by injection hx with hx; subst hx; exact .mk' (.pointer none) (by kernel_rfl) rfl rfl ⟨_, Try.underlying17⟩
theorem tok18 : ∀ x, tf 18 = some x → x.ok Try.prog 18 := fun x hx => by injection hx with hx; subst hx; exact .mk' (.agg #[.pointer none]) (by kernel_rfl) rfl rfl ⟨_, Try.underlying18, by kernel_rfl⟩
theorem tok19 : ∀ x, tf 19 = some x → x.ok Try.prog 19 := fun x hx => by injection hx with hx; subst hx; exact .mk' (.agg #[.pointer none]) (by kernel_rfl) rfl rfl ⟨_, Try.underlying19, by kernel_rfl⟩
theorem tok21 : ∀ x, tf 21 = some x → x.ok Try.prog 21 := fun x hx => by injection hx with hx; subst hx; exact .mk' (.int .i32 0) (by kernel_rfl) rfl rfl Try.underlying21
theorem tok22 : ∀ x, tf 22 = some x → x.ok Try.prog 22 := fun x hx => by injection hx with hx; subst hx; exact .mk' (.slice none 0 0) (by kernel_rfl) rfl rfl Try.underlying22
theorem tok23 : ∀ x, tf 23 = some x → x.ok Try.prog 23 := fun x hx => by injection hx with hx; subst hx; exact .mk' (.slice none 0 0) (by kernel_rfl) rfl rfl Try.underlying23
theorem tok29 : ∀ x, tf 29 = some x → x.ok Try.prog 29 := fun x hx => by injection hx with hx; subst hx; exact .mk' (.slice none 0 0) (by kernel_rfl) rfl rfl Try.underlying29
theorem tok30 : ∀ x, tf 30 = some x → x.ok Try.prog 30 := fun x hx => by injection hx with hx; subst hx; exact .mk' (.agg #[.int .i64 0, .string ByteArray.empty, .int .i64 0, .int .i64 0]) (by kernel_rfl) rfl rfl ⟨_, Try.underlying30, by kernel_rfl⟩
theorem tok31 : ∀ x, tf 31 = some x → x.ok Try.prog 31 := fun x hx => by injection hx with hx; subst hx; exact .mk' (.agg #[.int .i64 0, .string ByteArray.empty, .int .i64 0, .int .i64 0]) (by kernel_rfl) rfl rfl ⟨_, Try.underlying31, by kernel_rfl⟩
theorem tok32 : ∀ x, tf 32 = some x → x.ok Try.prog 32 := fun x hx => by injection hx with hx; subst hx; exact .mk' (.agg #[.slice none 0 0, .int .i64 0, .bool false, .int .i64 0, .string ByteArray.empty, .int .i64 0, .int .i64 0, .int .i64 0]) (by kernel_rfl) rfl rfl ⟨_, Try.underlying32, by kernel_rfl⟩
theorem tok33 : ∀ x, tf 33 = some x → x.ok Try.prog 33 := fun x hx => by injection hx with hx; subst hx; exact .mk' (.agg #[.slice none 0 0, .int .i64 0, .bool false, .int .i64 0, .string ByteArray.empty, .int .i64 0, .int .i64 0, .int .i64 0]) (by kernel_rfl) rfl rfl ⟨_, Try.underlying33, by kernel_rfl⟩
theorem tok43 : ∀ x, tf 43 = some x → x.ok Try.prog 43 := fun x hx => by injection hx with hx; subst hx; exact .mk' (.agg #[.int .i64 0, .int .i64 0, .int .i64 0, .string ByteArray.empty, .int .i64 0, .int .i64 0, .int .i64 0, .int .i64 0, .int .i64 0]) (by kernel_rfl) rfl rfl ⟨_, Try.underlying43, by kernel_rfl⟩
theorem tok44 : ∀ x, tf 44 = some x → x.ok Try.prog 44 := fun x hx => by injection hx with hx; subst hx; exact .mk' (.agg #[.int .i64 0, .int .i64 0, .int .i64 0, .string ByteArray.empty, .int .i64 0, .int .i64 0, .int .i64 0, .int .i64 0, .int .i64 0]) (by kernel_rfl) rfl rfl ⟨_, Try.underlying44, by kernel_rfl⟩
theorem tok47 : ∀ x, tf 47 = some x → x.ok Try.prog 47 := fun x hx => by injection hx with hx; subst hx; exact .mk' (.agg #[.int .i64 0, .int .i64 0, .int .i64 0, .string ByteArray.empty, .int .i64 0, .int .i64 0]) (by kernel_rfl) rfl rfl ⟨_, Try.underlying47, by kernel_rfl⟩
theorem tok48 : ∀ x, tf 48 = some x → x.ok Try.prog 48 := fun x hx => by injection hx with hx; subst hx; exact .mk' (.agg #[.int .i64 0, .int .i64 0, .int .i64 0, .string ByteArray.empty, .int .i64 0, .int .i64 0]) (by kernel_rfl) rfl rfl ⟨_, Try.underlying48, by kernel_rfl⟩
theorem tok60 : ∀ x, tf 60 = some x → x.ok Try.prog 60 := fun x hx => by injection hx with hx; subst hx; exact .mk' (.slice none 0 0) (by kernel_rfl) rfl rfl Try.underlying60
theorem tok65 : ∀ x, tf 65 = some x → x.ok Try.prog 65 := fun x hx => by injection hx with hx; subst hx; exact .mk' (.agg #[.string ByteArray.empty, .string ByteArray.empty]) (by kernel_rfl) rfl rfl ⟨_, Try.underlying65, by kernel_rfl⟩
theorem tok66 : ∀ x, tf 66 = some x → x.ok Try.prog 66 := fun x hx => by injection hx with hx; subst hx; exact .mk' (.agg #[.string ByteArray.empty, .string ByteArray.empty]) (by kernel_rfl) rfl rfl ⟨_, Try.underlying66, by kernel_rfl⟩
theorem tok67 : ∀ x, tf 67 = some x → x.ok Try.prog 67 := fun x hx => by injection hx with hx; subst hx; exact .mk' (.agg #[.int .i64 0, .string ByteArray.empty, .string ByteArray.empty]) (by kernel_rfl) rfl rfl ⟨_, Try.underlying67, by kernel_rfl⟩
theorem tok68 : ∀ x, tf 68 = some x → x.ok Try.prog 68 := fun x hx => by injection hx with hx; subst hx; exact .mk' (.agg #[.int .i64 0, .string ByteArray.empty, .string ByteArray.empty]) (by kernel_rfl) rfl rfl ⟨_, Try.underlying68, by kernel_rfl⟩
theorem tok76 : ∀ x, tf 76 = some x → x.ok Try.prog 76 := fun x hx => by injection hx with hx; subst hx; exact .mk' (.slice none 0 0) (by kernel_rfl) rfl rfl Try.underlying76
theorem tok77 : ∀ x, tf 77 = some x → x.ok Try.prog 77 := fun x hx => by injection hx with hx; subst hx; exact .mk' (.agg #[.int .i64 0, .string ByteArray.empty, .int .i64 0, .int .i64 0]) (by kernel_rfl) rfl rfl ⟨_, Try.underlying77, by kernel_rfl⟩
theorem tok78 : ∀ x, tf 78 = some x → x.ok Try.prog 78 := fun x hx => by injection hx with hx; subst hx; exact .mk' (.agg #[.slice none 0 0, .int .i64 0, .bool false, .int .i64 0, .string ByteArray.empty, .int .i64 0, .int .i64 0, .int .i64 0]) (by kernel_rfl) rfl rfl ⟨_, Try.underlying78, by kernel_rfl⟩
theorem tok79 : ∀ x, tf 79 = some x → x.ok Try.prog 79 := fun x hx => by injection hx with hx; subst hx; exact .mk' (.agg #[.slice none 0 0, .int .i64 0, .bool false, .int .i64 0, .string ByteArray.empty, .int .i64 0, .int .i64 0, .int .i64 0]) (by kernel_rfl) rfl rfl ⟨_, Try.underlying79, by kernel_rfl⟩
theorem tok86 : ∀ x, tf 86 = some x → x.ok Try.prog 86 := fun x hx => by injection hx with hx; subst hx; exact .mk' (.agg #[.string ByteArray.empty, .string ByteArray.empty]) (by kernel_rfl) rfl rfl ⟨_, Try.underlying86, by kernel_rfl⟩
theorem tok87 : ∀ x, tf 87 = some x → x.ok Try.prog 87 := fun x hx => by injection hx with hx; subst hx; exact .mk' (.agg #[.int .i64 0, .string ByteArray.empty, .string ByteArray.empty]) (by kernel_rfl) rfl rfl ⟨_, Try.underlying87, by kernel_rfl⟩
theorem tok88 : ∀ x, tf 88 = some x → x.ok Try.prog 88 := fun x hx => by injection hx with hx; subst hx; exact .mk' (.agg #[.int .i64 0, .string ByteArray.empty, .string ByteArray.empty]) (by kernel_rfl) rfl rfl ⟨_, Try.underlying88, by kernel_rfl⟩
theorem tok97 : ∀ x, tf 97 = some x → x.ok Try.prog 97 := fun x hx => by injection hx with hx; subst hx; exact .mk' (.pointer none) (by kernel_rfl) rfl rfl ⟨_, Try.underlying97⟩
theorem tok120 : ∀ x, tf 120 = some x → x.ok Try.prog 120 := fun x hx => by injection hx with hx; subst hx; exact .mk' (.slice none 0 0) (by kernel_rfl) rfl rfl Try.underlying120
theorem tok132 : ∀ x, tf 132 = some x → x.ok Try.prog 132 := fun x hx => by injection hx with hx; subst hx; exact .mk' (.agg #[.slice none 0 0, .int .i64 0]) (by kernel_rfl) rfl rfl ⟨_, Try.underlying132, by kernel_rfl⟩
theorem tok133 : ∀ x, tf 133 = some x → x.ok Try.prog 133 := fun x hx => by injection hx with hx; subst hx; exact .mk' (.agg #[.slice none 0 0, .int .i64 0]) (by kernel_rfl) rfl rfl ⟨_, Try.underlying133, by kernel_rfl⟩
theorem tok134 : ∀ x, tf 134 = some x → x.ok Try.prog 134 := fun x hx => by injection hx with hx; subst hx; exact .mk' (.slice none 0 0) (by kernel_rfl) rfl rfl Try.underlying134
theorem tok135 : ∀ x, tf 135 = some x → x.ok Try.prog 135 := fun x hx => by injection hx with hx; subst hx; exact .mk' (.slice none 0 0) (by kernel_rfl) rfl rfl Try.underlying135
theorem tok146 : ∀ x, tf 146 = some x → x.ok Try.prog 146 := fun x hx => by injection hx with hx; subst hx; exact .mk' (.agg #[.pointer none, .pointer none, .pointer none, .string ByteArray.empty]) (by kernel_rfl) rfl rfl ⟨_, Try.underlying146, by kernel_rfl⟩
theorem tok147 : ∀ x, tf 147 = some x → x.ok Try.prog 147 := fun x hx => by injection hx with hx; subst hx; exact .mk' (.agg #[.pointer none, .pointer none, .pointer none, .string ByteArray.empty]) (by kernel_rfl) rfl rfl ⟨_, Try.underlying147, by kernel_rfl⟩
theorem tok152 : ∀ x, tf 152 = some x → x.ok Try.prog 152 := fun x hx => by injection hx with hx; subst hx; exact .mk' (.int .u32 0) (by kernel_rfl) rfl rfl Try.underlying152
theorem tok153 : ∀ x, tf 153 = some x → x.ok Try.prog 153 := fun x hx => by injection hx with hx; subst hx; exact .mk' (.int .u8 0) (by kernel_rfl) rfl rfl Try.underlying153
theorem tok154 : ∀ x, tf 154 = some x → x.ok Try.prog 154 := fun x hx => by injection hx with hx; subst hx; exact .mk' (.int .u8 0) (by kernel_rfl) rfl rfl Try.underlying154
theorem tok156 : ∀ x, tf 156 = some x → x.ok Try.prog 156 := fun x hx => by injection hx with hx; subst hx; exact .mk' (.pointer none) (by kernel_rfl) rfl rfl ⟨_, Try.underlying156⟩
theorem tok157 : ∀ x, tf 157 = some x → x.ok Try.prog 157 := fun x hx => by injection hx with hx; subst hx; exact .mk' (.int .i32 0) (by kernel_rfl) rfl rfl Try.underlying157
theorem tok158 : ∀ x, tf 158 = some x → x.ok Try.prog 158 := fun x hx => by injection hx with hx; subst hx; exact .mk' (.int .i32 0) (by kernel_rfl) rfl rfl Try.underlying158
theorem tf_ok (t : Nat) (x : TI) (h : tf t = some x) : x.ok Try.prog t := by
  unfold tf at h
  split at h
  · exact tok2 x h
  · exact tok3 x h
  · exact tok4 x h
  · exact tok5 x h
  · exact tok6 x h
  · exact tok7 x h
  · exact tok8 x h
  · exact tok9 x h
  · exact tok10 x h
  · exact tok11 x h
  · exact tok12 x h
  · exact tok13 x h
  · exact tok14 x h
  · exact tok15 x h
  · exact tok16 x h
  · exact tok17 x h
  · exact tok18 x h
  · exact tok19 x h
  · exact tok21 x h
  · exact tok22 x h
  · exact tok23 x h
  · exact tok29 x h
  · exact tok30 x h
  · exact tok31 x h
  · exact tok32 x h
  · exact tok33 x h
  · exact tok43 x h
  · exact tok44 x h
  · exact tok47 x h
  · exact tok48 x h
  · exact tok60 x h
  · exact tok65 x h
  · exact tok66 x h
  · exact tok67 x h
  · exact tok68 x h
  · exact tok76 x h
  · exact tok77 x h
  · exact tok78 x h
  · exact tok79 x h
  · exact tok86 x h
  · exact tok87 x h
  · exact tok88 x h
  · exact tok97 x h
  · exact tok120 x h
  · exact tok132 x h
  · exact tok133 x h
  · exact tok134 x h
  · exact tok135 x h
  · exact tok146 x h
  · exact tok147 x h
  · exact tok152 x h
  · exact tok153 x h
  · exact tok154 x h
  · exact tok156 x h
  · exact tok157 x h
  · exact tok158 x h
  · cases h
def D : Tab Try.prog := ⟨tf, tf_ok⟩

end Go.YtamlleimfopmhaaMc

namespace Go.YtamlleimfopmhaaMc
open Go.Proofs
theorem mixed : Try.prog.follows .mixedOrders = true := by kernel_rfl
abbrev I (x : Int) : V := .c (.t (.i .i64 x))
abbrev B (x : Bool) : V := .c (.t (.b x))
abbrev Sx (x : List UInt8) : V := .c (.t (.s x))
abbrev tI (x : Int) : T := .i .i64 x
abbrev A (cs : List T) : V := .ag (tc cs)
abbrev L {α : Type} (e : α → List T) (xs : List α) : V := .c (.t (.l (xs.map e)))
theorem drop_cons {α : Type} {xs : List α} {k : Nat} (h : k < xs.length) : xs.drop k = xs[k] :: xs.drop (k + 1) := List.drop_eq_getElem_cons h
theorem drop_nil {α : Type} {xs : List α} {k : Nat} (h : xs.length ≤ k) : xs.drop k = [] := List.drop_eq_nil_of_le h
theorem drop_eq {α : Type} {l r : List α} {k : Nat} (h1 : k < l.length) (h2 : k < r.length) : l.drop k = r.drop k ↔ l[k] = r[k] ∧ l.drop (k + 1) = r.drop (k + 1) := by rw [drop_cons h1, drop_cons h2, List.cons.injEq]
/-! ### Budgets -/
def i64 (n : Int) : Prop := -9223372036854775808 ≤ n ∧ n ≤ 9223372036854775807
abbrev eI (n : Int) : List T := [tI n]
abbrev eB (b : Bool) : List T := [.b b]
def sz1 (n : Nat) (x : Int) : Int := if x - n < 0 then -1 else x - n
def andz (f g : Int → Int) (x : Int) : Int := if f x < 0 then -1 else g (f x)
def szL {α : Type} (f : α → Int → Int) : List α → Int → Int
  | [], x => x
  | a :: l, x => if f a x < 0 then -1 else szL f l (f a x)
theorem szL_cons {α : Type} (f : α → Int → Int) {xs : List α} {k : Nat} (h : k < xs.length) (x : Int) : szL f (xs.drop k) x = if f xs[k] x < 0 then -1 else szL f (xs.drop (k + 1)) (f xs[k] x) := by rw [drop_cons h, szL]
theorem szL_nil {α : Type} (f : α → Int → Int) {xs : List α} {k : Nat} (h : xs.length ≤ k) (x : Int) : szL f (xs.drop k) x = x := by rw [drop_nil h, szL]
/-- A budget that is never raised. -/
def Lo (f : Int → Int) : Prop := ∀ x, 0 ≤ x → f x ≤ x
theorem id_lo : Lo id := fun x _ => Int.le_refl _
theorem sz1_lo (n : Nat) : Lo (sz1 n) := fun x h => by unfold sz1; split <;> omega
theorem andz_lo {f g : Int → Int} (hf : Lo f) (hg : Lo g) : Lo (andz f g) := fun x h => by
  unfold andz; split
  · omega
  · have := hf x h; have := hg (f x) (by omega); omega
theorem andz_ge {f g : Int → Int} {x : Int} (h : 0 ≤ andz f g x) : 0 ≤ f x ∧ 0 ≤ g (f x) := by
  unfold andz at h; split at h
  · omega
  · exact ⟨by omega, h⟩
theorem sz1_sm {n : Nat} {x : Int} (_ : 0 ≤ x) (h1 : x ≤ 1048576) (h : 0 ≤ sz1 n x) : n ≤ 1048576 := by unfold sz1 at h; split at h <;> omega
theorem szL_lo {α : Type} {f : α → Int → Int} (hf : ∀ a, Lo (f a)) : ∀ (l : List α), Lo (szL f l)
  | [], _, _ => Int.le_refl _
  | a :: l, x, h => by
    rw [szL]; split
    · omega
    · have := hf a x h; have := szL_lo hf l (f a x) (by omega); omega
theorem szL_ge {α : Type} {f : α → Int → Int} (hf : ∀ a, Lo (f a)) : ∀ (l : List α) {x : Int}, 0 ≤ x → 0 ≤ szL f l x → ∀ a ∈ l, ∃ y, 0 ≤ y ∧ y ≤ x ∧ 0 ≤ f a y
  | [], _, _, _, _, ha => by cases ha
  | b :: l, x, h0, h, a, ha => by
    rw [szL] at h
    split at h
    · omega
    · rename_i hb
      rcases List.mem_cons.1 ha with rfl | ha
      · exact ⟨x, h0, Int.le_refl _, by omega⟩
      · obtain ⟨y, y0, y1, y2⟩ := szL_ge hf l (by omega) h a ha
        have := hf b x h0
        exact ⟨y, y0, by omega, y2⟩
theorem wr_all {xs el : List C} (h : el.length = xs.length) : wr el 0 xs = xs := by
  apply List.ext_getElem?; intro k
  rw [wr_get]
  by_cases hk : k < xs.length
  · rw [if_pos (by omega)]; simp
  · rw [if_neg (by omega), List.getElem?_eq_none (by omega), List.getElem?_eq_none (by omega)]
theorem all_of {α : Type} {e : α → List T} {xs : List α} {es : List (List C)} (hl : es.length = xs.length) (h : ∀ (j : Nat) a, xs[j]? = some a → es[j]? = some ((e a).map .t)) : es = (xs.map e).map (·.map .t) := by
  apply List.ext_getElem?; intro k
  by_cases hk : k < xs.length
  · rw [h k _ (List.getElem?_eq_getElem hk)]; simp [hk]
  · rw [List.getElem?_eq_none (by omega)]; simp [hk]
theorem FrzC.full {α : Type} {e : α → List T} {l : List α} {h : List Blk} {m b sz : Nat} {es : List (List C)} (hm : m.ble b = true) (hb : h[b]? = some (.arr es sz)) (he : es = (l.map e).map (·.map .t)) : FrzC h m (.sl b l.length 0 l.length) (.t (.l (l.map e))) := by
  have := FrzC.sl (off := 0) (len := l.length) hm hb he
  have hn : es.length = l.length := by rw [he]; simp
  rw [hn, List.drop_zero, List.take_of_length_le (by simp)] at this
  exact this
theorem tc_low (m : Nat) (l : List T) : (tc l).all (·.low m) = true := by simp [tc, C.low]
theorem low_arr {es : List (List C)} {sz m : Nat} (h : ∀ el ∈ es, el.length = sz ∧ el.all (·.low m) = true) : ([Blk.arr es sz].all (·.low m)) = true := by
  simp only [List.all_cons, List.all_nil, Bool.and_true, Blk.low, List.all_eq_true]
  intro el hel
  simpa using (h el hel).2
/-- A list that is made element by element: what is written when the element k is written. -/
theorem made_step {α : Type} {e : α → List T} {l : List α} {es : List (List C)} {k sz m : Nat} (hlt : k < l.length) (hn : es.length = l.length) (h6 : ∀ el ∈ es, el.length = sz ∧ el.all (·.low m) = true) (hy : ∀ (j : Nat) a, j < k → l[j]? = some a → es[j]? = some ((e a).map .t)) (hsz : (e l[k]).length = sz) (hk : 0 + ((k : Nat) : Int).toNat < es.length) :
    (es.set (0 + ((k : Nat) : Int).toNat) (wr es[0 + ((k : Nat) : Int).toNat] 0 (tc (e l[k])))).length = l.length ∧ (∀ el ∈ es.set (0 + ((k : Nat) : Int).toNat) (wr es[0 + ((k : Nat) : Int).toNat] 0 (tc (e l[k]))), el.length = sz ∧ el.all (·.low m) = true) ∧
      ∀ (j : Nat) a, j < k + 1 → l[j]? = some a → (es.set (0 + ((k : Nat) : Int).toNat) (wr es[0 + ((k : Nat) : Int).toNat] 0 (tc (e l[k]))))[j]? = some ((e a).map .t) := by
  have e1 : 0 + ((k : Nat) : Int).toNat = k := by simp
  have e2 : wr es[0 + ((k : Nat) : Int).toNat] 0 (tc (e l[k])) = tc (e l[k]) := wr_all (by rw [(h6 _ (List.getElem_mem hk)).1]; simp [tc, hsz])
  rw [e2, e1]
  refine ⟨by simp [hn], fun el hel => ?_, fun j a hj ha => ?_⟩
  · rcases List.mem_or_eq_of_mem_set hel with hel | rfl
    · exact h6 el hel
    · exact ⟨by simp [tc, hsz], tc_low ..⟩
  · rw [List.getElem?_set]
    by_cases e3 : k = j
    · subst e3
      rw [List.getElem?_eq_getElem hlt] at ha
      injection ha with ha; subst ha
      rw [if_pos rfl, if_pos (by omega)]; rfl
    · rw [if_neg e3]; exact hy j a (by omega) ha
end Go.YtamlleimfopmhaaMc
namespace Go.YtamlleimfopmhaaMc
open Go.Proofs
/-! ### Marks: what a place is told to hold -/
theorem u8_dig (k : Nat) : IntKind.u8.wrap (48 + ((k % 10 : Nat) : Int)) = ((UInt8.ofNat (48 + k % 10)).toNat : Int) := by
  rw [wrap_u8 (by omega) (by omega), UInt8.toNat_ofNat']; omega
theorem mtx_ok (k : Nat) (h0 : 0 < k) (hk : k ≤ 1099511627776) : Pu Try.prog 117 [I k] (Sx (mtx k)) := by
  refine Pu.of D Try.func117 rfl rfl rfl ?_
  repeat' (first
    | (refine W.cond rfl ?_ ?_ <;> intro hb <;> try simp at hb)
    | refine goO ?_
    | refine goN ?_
    | (refine WO.gs _ rfl rfl rfl ?_ ?_ <;> intro hb <;> simp only [hb] <;> try simp at hb))
  all_goals first
    | (exfalso; omega)
    | skip
  refine W.loop (σ := Nat × List UInt8) (fun s => [(0, I s.1), (3, Sx s.2)]) (fun _ => []) (fun s => dig k = dig s.1 ++ s.2 ∧ s.2.length + s.1 ≤ k) (fun s => s.1) 0 (fun _ _ => rfl) (k, []) ⟨by simp, by simp⟩ rfl (.cons rfl rfl (.cons rfl rfl (.nil))) ?_
  rintro ⟨j, o⟩ ⟨hy, hl⟩
  dsimp only at hy hl
  by_cases hj : j = 0
  · repeat' (first
    | (refine W.cond rfl ?_ ?_ <;> intro hb <;> (try simp at hb) <;> try contradiction)
    | refine OpK.of (OpOk.sadd rfl rfl rfl (by simp; omega)) ?_
    | refine goO ?_
    | refine goN ?_
    | (refine WO.gs _ rfl rfl rfl ?_ ?_ <;> intro hb <;> simp only [hb] <;> (try simp at hb) <;> try contradiction))
    all_goals first
      | (exfalso; omega)
      | (refine ⟨.inr rfl, _, _, rfl, .cons (.c (.id rfl)) .nil, ?_⟩; rw [hj, dig_0] at hy; simp only [resV, X.v, mtx, hy]; rfl)
  · rw [dig_s hj, List.append_assoc] at hy
    repeat' (first
    | (refine W.cond rfl ?_ ?_ <;> intro hb <;> (try simp at hb) <;> try contradiction)
    | refine OpK.of (OpOk.remN j 10 rfl rfl rfl rfl rfl (by decide)) ?_
    | refine OpK.of (OpOk.add rfl rfl rfl (by omega)) ?_
    | refine OpK.of (OpOk.i2i D rfl rfl rfl rfl rfl rfl) ?_
    | refine OpK.of (OpOk.bldS D rfl rfl rfl rfl (by decide) (by decide) (by decide) rfl rfl) ?_
    | refine OpK.of (OpOk.b2s D [UInt8.ofNat (48 + j % 10)] rfl rfl rfl rfl rfl rfl rfl rfl rfl (by simp only [List.map_cons, List.map_nil, ← u8_dig]; rfl)) ?_
    | refine OpK.of (OpOk.sadd rfl rfl rfl (by simp; omega)) ?_
    | refine OpK.of (OpOk.quoN j 10 rfl rfl rfl rfl rfl (by decide) (by omega)) ?_
    | refine goO ?_
    | refine goN ?_
    | (refine WO.gs _ rfl rfl rfl ?_ ?_ <;> intro hb <;> simp only [hb] <;> (try simp at hb) <;> try contradiction))
    all_goals first
      | (exfalso; omega)
      | exact ⟨(j / 10, [UInt8.ofNat (48 + j % 10)] ++ o), ⟨hy, by simp; omega⟩, by dsimp only; omega, (.cons rfl rfl (.cons rfl rfl (.nil))), rfl, rfl⟩
end Go.YtamlleimfopmhaaMc

namespace Go.YtamlleimfopmhaaMc
open Go.Proofs
/-! ### Interval -/
structure Iv where
  lo : List UInt8
  hi : List UInt8
  deriving DecidableEq
abbrev Iv.e (a : Iv) : List T := [.s a.lo, .s a.hi]
structure Iv.Fit (a : Iv) : Prop where
  lo : a.lo.length ≤ 9223372036854775807
  hi : a.hi.length ≤ 9223372036854775807
structure Iv.Sm (a : Iv) : Prop where
  lo : a.lo.length ≤ 1048576
  hi : a.hi.length ≤ 1048576
def Iv.sz (a : Iv) : Int → Int := andz (sz1 a.lo.length) ((sz1 a.hi.length))
theorem Iv.sz_lo (a : Iv) : Lo a.sz := (andz_lo (sz1_lo _) (sz1_lo _))
theorem Iv.sz_sm (a : Iv) {x : Int} (h0 : 0 ≤ x) (h1 : x ≤ 1048576) (h : 0 ≤ a.sz x) : a.Sm := by
  unfold Iv.sz at h
  obtain ⟨g0, h⟩ := andz_ge h
  have s0 := sz1_sm h0 h1 g0
  have b0 := Int.le_trans ((sz1_lo _ : Lo (sz1 a.lo.length)) _ h0) h1
  have s1 := sz1_sm g0 b0 h
  exact ⟨s0, s1⟩
theorem Iv.sz_ok (a : Iv) (hf : a.Fit) (x : Int) (h0 : 0 ≤ x) (h1 : x ≤ 1048576) : Pu Try.prog 114 [A a.e, I x] (I (a.sz x)) := by
  have q0 := (sz1_lo _ : Lo (sz1 a.lo.length)) x h0
  have l0 := hf.lo
  have q1 := (sz1_lo _ : Lo (sz1 a.hi.length)) (sz1 a.lo.length x)
  have l1 := hf.hi
  refine Pu.of D Try.func114 rfl rfl rfl ?_
  repeat' (first
    | (refine W.cond rfl ?_ ?_ <;> intro hb <;> try simp at hb)
    | refine goO ?_
    | refine goS ?_
    | (refine WO.gs _ rfl rfl rfl ?_ ?_ <;> intro hb <;> simp only [hb] <;> try simp at hb))
  all_goals refine ⟨.inr rfl, _, _, rfl, .cons (.c (.id rfl)) .nil, ?_⟩
  all_goals (simp only [resV, X.v, Iv.sz, andz, sz1, id, V.c.injEq, C.t.injEq, T.i.injEq, true_and] at *; grind)
def Iv.szs (l : List Iv) : Int → Int := andz (sz1 l.length) (szL Iv.sz l)
theorem Iv.szs_lo (l : List Iv) : Lo (Iv.szs l) := andz_lo (sz1_lo _) (szL_lo Iv.sz_lo l)
theorem Iv.szs_sm (l : List Iv) {x : Int} (h0 : 0 ≤ x) (h1 : x ≤ 1048576) (h : 0 ≤ Iv.szs l x) : l.length ≤ 1048576 ∧ ∀ a ∈ l, a.Sm := by
  obtain ⟨g0, h⟩ := andz_ge h
  have b0 := Int.le_trans ((sz1_lo _ : Lo (sz1 l.length)) _ h0) h1
  refine ⟨sz1_sm h0 h1 g0, fun a ha => ?_⟩
  obtain ⟨y, y0, y1, y2⟩ := szL_ge Iv.sz_lo l g0 h a ha
  exact a.sz_sm y0 (by omega) y2
theorem Iv.to_ok (a : Iv) (hs : a.Sm) : Pu Try.prog 115 [A a.e] (A a.e) := by
  refine Pu.of D Try.func115 rfl rfl rfl ?_
  repeat' (first
    | (refine W.cond rfl ?_ ?_ <;> intro hb <;> try simp at hb)
    | refine goO ?_
    | refine goS ?_
    | (refine WO.gs _ rfl rfl rfl ?_ ?_ <;> intro hb <;> simp only [hb] <;> try simp at hb))
  all_goals refine ⟨.inr rfl, _, _, rfl, .cons (.ag (.cons (.id rfl) (.cons (.id rfl) .nil))) .nil, ?_⟩
  all_goals rfl
theorem Iv.eq_ok (a b : Iv) (hs : a.Sm) : Pu Try.prog 135 [A a.e, A b.e] (B (decide (a = b))) := by
  refine Pu.of D Try.func135 rfl rfl rfl ?_
  repeat' (first
    | (refine W.cond rfl ?_ ?_ <;> intro hb <;> try simp at hb)
    | refine goO ?_
    | refine goS ?_
    | (refine WO.gs _ rfl rfl rfl ?_ ?_ <;> intro hb <;> simp only [hb] <;> try simp at hb))
  all_goals refine ⟨.inr rfl, _, _, rfl, .cons (.c (.id rfl)) .nil, ?_⟩
  all_goals (cases a; cases b; simp [resV, X.v] at *; grind)
/-! ### Pair -/
structure Pr where
  key : List UInt8
  val : Int
  deriving DecidableEq
abbrev Pr.e (a : Pr) : List T := [.s a.key, tI a.val]
structure Pr.Fit (a : Pr) : Prop where
  key : a.key.length ≤ 9223372036854775807
  val : i64 a.val
structure Pr.Sm (a : Pr) : Prop where
  key : a.key.length ≤ 1048576
def Pr.sz (a : Pr) : Int → Int := (sz1 a.key.length)
theorem Pr.sz_lo (a : Pr) : Lo a.sz := (sz1_lo _)
theorem Pr.sz_sm (a : Pr) {x : Int} (h0 : 0 ≤ x) (h1 : x ≤ 1048576) (h : 0 ≤ a.sz x) : a.Sm := by
  unfold Pr.sz at h
  have s0 := sz1_sm h0 h1 h
  exact ⟨s0⟩
def Pr.szs (l : List Pr) : Int → Int := andz (sz1 l.length) (szL Pr.sz l)
theorem Pr.szs_lo (l : List Pr) : Lo (Pr.szs l) := andz_lo (sz1_lo _) (szL_lo Pr.sz_lo l)
theorem Pr.szs_sm (l : List Pr) {x : Int} (h0 : 0 ≤ x) (h1 : x ≤ 1048576) (h : 0 ≤ Pr.szs l x) : l.length ≤ 1048576 ∧ ∀ a ∈ l, a.Sm := by
  obtain ⟨g0, h⟩ := andz_ge h
  have b0 := Int.le_trans ((sz1_lo _ : Lo (sz1 l.length)) _ h0) h1
  refine ⟨sz1_sm h0 h1 g0, fun a ha => ?_⟩
  obtain ⟨y, y0, y1, y2⟩ := szL_ge Pr.sz_lo l g0 h a ha
  exact a.sz_sm y0 (by omega) y2
/-! ### Session -/
structure Ses where
  client : Int
  seq : Int
  reply : Int
  deriving DecidableEq
abbrev Ses.e (a : Ses) : List T := [tI a.client, tI a.seq, tI a.reply]
structure Ses.Fit (a : Ses) : Prop where
  client : i64 a.client
  seq : i64 a.seq
  reply : i64 a.reply
/-! ### Command -/
structure Cmd where
  kind : Int
  key : List UInt8
  val : Int
  old : Int
  deriving DecidableEq
abbrev Cmd.e (a : Cmd) : List T := [tI a.kind, .s a.key, tI a.val, tI a.old]
structure Cmd.Fit (a : Cmd) : Prop where
  kind : i64 a.kind
  key : a.key.length ≤ 9223372036854775807
  val : i64 a.val
  old : i64 a.old
structure Cmd.Sm (a : Cmd) : Prop where
  key : a.key.length ≤ 1048576
def Cmd.sz (a : Cmd) : Int → Int := (sz1 a.key.length)
theorem Cmd.sz_lo (a : Cmd) : Lo a.sz := (sz1_lo _)
theorem Cmd.sz_sm (a : Cmd) {x : Int} (h0 : 0 ≤ x) (h1 : x ≤ 1048576) (h : 0 ≤ a.sz x) : a.Sm := by
  unfold Cmd.sz at h
  have s0 := sz1_sm h0 h1 h
  exact ⟨s0⟩
theorem Cmd.sz_ok (a : Cmd) (hf : a.Fit) (x : Int) (h0 : 0 ≤ x) (h1 : x ≤ 1048576) : Pu Try.prog 47 [A a.e, I x] (I (a.sz x)) := by
  have q0 := (sz1_lo _ : Lo (sz1 a.key.length)) x h0
  have l0 := hf.key
  refine Pu.of D Try.func47 rfl rfl rfl ?_
  repeat' (first
    | (refine W.cond rfl ?_ ?_ <;> intro hb <;> try simp at hb)
    | refine goO ?_
    | refine goS ?_
    | (refine WO.gs _ rfl rfl rfl ?_ ?_ <;> intro hb <;> simp only [hb] <;> try simp at hb))
  all_goals refine ⟨.inr rfl, _, _, rfl, .cons (.c (.id rfl)) .nil, ?_⟩
  all_goals (simp only [resV, X.v, Cmd.sz, andz, sz1, id, V.c.injEq, C.t.injEq, T.i.injEq, true_and] at *; grind)
def Cmd.szs (l : List Cmd) : Int → Int := andz (sz1 l.length) (szL Cmd.sz l)
theorem Cmd.szs_lo (l : List Cmd) : Lo (Cmd.szs l) := andz_lo (sz1_lo _) (szL_lo Cmd.sz_lo l)
theorem Cmd.szs_sm (l : List Cmd) {x : Int} (h0 : 0 ≤ x) (h1 : x ≤ 1048576) (h : 0 ≤ Cmd.szs l x) : l.length ≤ 1048576 ∧ ∀ a ∈ l, a.Sm := by
  obtain ⟨g0, h⟩ := andz_ge h
  have b0 := Int.le_trans ((sz1_lo _ : Lo (sz1 l.length)) _ h0) h1
  refine ⟨sz1_sm h0 h1 g0, fun a ha => ?_⟩
  obtain ⟨y, y0, y1, y2⟩ := szL_ge Cmd.sz_lo l g0 h a ha
  exact a.sz_sm y0 (by omega) y2
theorem Cmd.to_ok (a : Cmd) (hs : a.Sm) : Pu Try.prog 49 [A a.e] (A a.e) := by
  refine Pu.of D Try.func49 rfl rfl rfl ?_
  repeat' (first
    | (refine W.cond rfl ?_ ?_ <;> intro hb <;> try simp at hb)
    | refine goO ?_
    | refine goS ?_
    | (refine WO.gs _ rfl rfl rfl ?_ ?_ <;> intro hb <;> simp only [hb] <;> try simp at hb))
  all_goals refine ⟨.inr rfl, _, _, rfl, .cons (.ag (.cons (.id rfl) (.cons (.id rfl) (.cons (.id rfl) (.cons (.id rfl) .nil))))) .nil, ?_⟩
  all_goals rfl
theorem Cmd.eq_ok (a b : Cmd) (hs : a.Sm) : Pu Try.prog 113 [A a.e, A b.e] (B (decide (a = b))) := by
  refine Pu.of D Try.func113 rfl rfl rfl ?_
  repeat' (first
    | (refine W.cond rfl ?_ ?_ <;> intro hb <;> try simp at hb)
    | refine goO ?_
    | refine goS ?_
    | (refine WO.gs _ rfl rfl rfl ?_ ?_ <;> intro hb <;> simp only [hb] <;> try simp at hb))
  all_goals refine ⟨.inr rfl, _, _, rfl, .cons (.c (.id rfl)) .nil, ?_⟩
  all_goals (cases a; cases b; simp [resV, X.v] at *; grind)
/-! ### Entry -/
structure Ent where
  client : Int
  seq : Int
  cmd : Cmd
  deriving DecidableEq
abbrev Ent.e (a : Ent) : List T := [tI a.client, tI a.seq, tI a.cmd.kind, .s a.cmd.key, tI a.cmd.val, tI a.cmd.old]
structure Ent.Fit (a : Ent) : Prop where
  client : i64 a.client
  seq : i64 a.seq
  cmd : a.cmd.Fit
structure Ent.Sm (a : Ent) : Prop where
  cmd : a.cmd.Sm
def Ent.sz (a : Ent) : Int → Int := andz (Cmd.sz a.cmd) id
theorem Ent.sz_lo (a : Ent) : Lo a.sz := (andz_lo (Cmd.sz_lo _) id_lo)
theorem Ent.sz_sm (a : Ent) {x : Int} (h0 : 0 ≤ x) (h1 : x ≤ 1048576) (h : 0 ≤ a.sz x) : a.Sm := by
  unfold Ent.sz at h
  obtain ⟨g0, h⟩ := andz_ge h
  have s0 := Cmd.sz_sm _ h0 h1 g0
  exact ⟨s0⟩
def Ent.szs (l : List Ent) : Int → Int := andz (sz1 l.length) (szL Ent.sz l)
theorem Ent.szs_lo (l : List Ent) : Lo (Ent.szs l) := andz_lo (sz1_lo _) (szL_lo Ent.sz_lo l)
theorem Ent.szs_sm (l : List Ent) {x : Int} (h0 : 0 ≤ x) (h1 : x ≤ 1048576) (h : 0 ≤ Ent.szs l x) : l.length ≤ 1048576 ∧ ∀ a ∈ l, a.Sm := by
  obtain ⟨g0, h⟩ := andz_ge h
  have b0 := Int.le_trans ((sz1_lo _ : Lo (sz1 l.length)) _ h0) h1
  refine ⟨sz1_sm h0 h1 g0, fun a ha => ?_⟩
  obtain ⟨y, y0, y1, y2⟩ := szL_ge Ent.sz_lo l g0 h a ha
  exact a.sz_sm y0 (by omega) y2
/-! ### Route -/
structure Rou where
  num : Int
  span : Iv
  deriving DecidableEq
abbrev Rou.e (a : Rou) : List T := [tI a.num, .s a.span.lo, .s a.span.hi]
structure Rou.Fit (a : Rou) : Prop where
  num : i64 a.num
  span : a.span.Fit
structure Rou.Sm (a : Rou) : Prop where
  span : a.span.Sm
def Rou.sz (a : Rou) : Int → Int := andz (Iv.sz a.span) id
theorem Rou.sz_lo (a : Rou) : Lo a.sz := (andz_lo (Iv.sz_lo _) id_lo)
theorem Rou.sz_sm (a : Rou) {x : Int} (h0 : 0 ≤ x) (h1 : x ≤ 1048576) (h : 0 ≤ a.sz x) : a.Sm := by
  unfold Rou.sz at h
  obtain ⟨g0, h⟩ := andz_ge h
  have s0 := Iv.sz_sm _ h0 h1 g0
  exact ⟨s0⟩
theorem Rou.sz_ok (a : Rou) (hf : a.Fit) (x : Int) (h0 : 0 ≤ x) (h1 : x ≤ 1048576) : Pu Try.prog 54 [A a.e, I x] (I (a.sz x)) := by
  have q0 := (Iv.sz_lo _ : Lo (Iv.sz a.span)) x h0
  refine Pu.of D Try.func54 rfl rfl rfl ?_
  repeat' (first
    | (refine W.cond rfl ?_ ?_ <;> intro hb <;> try simp at hb)
    | refine cl (Iv.sz_ok a.span hf.span (x) h0 h1) ?_
    | refine goO ?_
    | refine goS ?_
    | (refine WO.gs _ rfl rfl rfl ?_ ?_ <;> intro hb <;> simp only [hb] <;> try simp at hb))
  all_goals refine ⟨.inr rfl, _, _, rfl, .cons (.c (.id rfl)) .nil, ?_⟩
  all_goals (simp only [resV, X.v, Rou.sz, andz, sz1, id, V.c.injEq, C.t.injEq, T.i.injEq, true_and] at *; grind)
def Rou.szs (l : List Rou) : Int → Int := andz (sz1 l.length) (szL Rou.sz l)
theorem Rou.szs_lo (l : List Rou) : Lo (Rou.szs l) := andz_lo (sz1_lo _) (szL_lo Rou.sz_lo l)
theorem Rou.szs_sm (l : List Rou) {x : Int} (h0 : 0 ≤ x) (h1 : x ≤ 1048576) (h : 0 ≤ Rou.szs l x) : l.length ≤ 1048576 ∧ ∀ a ∈ l, a.Sm := by
  obtain ⟨g0, h⟩ := andz_ge h
  have b0 := Int.le_trans ((sz1_lo _ : Lo (sz1 l.length)) _ h0) h1
  refine ⟨sz1_sm h0 h1 g0, fun a ha => ?_⟩
  obtain ⟨y, y0, y1, y2⟩ := szL_ge Rou.sz_lo l g0 h a ha
  exact a.sz_sm y0 (by omega) y2
theorem Rou.szs_ok (l : List Rou) (hl : l.length ≤ 9223372036854775807) (hk : ∀ a ∈ l, a.Fit) (x : Int) (h0 : 0 ≤ x) (h1 : x ≤ 1048576) : Pu Try.prog 53 [L Rou.e l, I x] (I (Rou.szs l x)) := by
  refine Pu.of D Try.func53 rfl rfl rfl ?_
  repeat' (first
    | (refine W.cond rfl ?_ ?_ <;> intro hb <;> try simp at hb)
    | refine goO ?_
    | refine goS ?_
    | (refine WO.gs _ rfl rfl rfl ?_ ?_ <;> intro hb <;> simp only [hb] <;> try simp at hb))
  · refine ⟨.inr rfl, _, _, rfl, .cons (.c (.id rfl)) .nil, ?_⟩
    have : sz1 l.length x = -1 := if_pos (by omega)
    simp [resV, X.v, Rou.szs, andz, this]
  have hx : sz1 l.length x = x - l.length := if_neg (by omega)
  have hs : Rou.szs l x = szL Rou.sz l (x - l.length) := by unfold Rou.szs andz; rw [hx, if_neg (by omega)]
  refine W.loop (σ := Nat × Int) (fun s => [(5, I s.1), (1, I s.2), (0, L Rou.e l)]) (fun _ => []) (fun s => s.1 ≤ l.length ∧ 0 ≤ s.2 ∧ s.2 ≤ 1048576 ∧ szL Rou.sz (l.drop s.1) s.2 = Rou.szs l x) (fun s => l.length - s.1) 0 (fun _ _ => rfl) (0, x - l.length) ⟨by simp, by omega, by omega, by simp [hs]⟩ rfl (.cons rfl rfl (.cons rfl rfl (.cons rfl rfl (.nil)))) ?_
  rintro ⟨k, y⟩ ⟨hk1, hy0, hy1, hy⟩
  dsimp only at hk1 hy0 hy1 hy
  repeat' (first
    | (refine W.cond rfl ?_ ?_ <;> intro hb <;> try simp at hb)
    | refine cl (Rou.sz_ok l[k] (hk _ (List.getElem_mem _)) y hy0 hy1) ?_
    | refine goO ?_
    | refine goS ?_
    | (refine WO.gs _ rfl rfl rfl ?_ ?_ <;> intro hb <;> simp only [hb] <;> try simp at hb))
  · have hlt : k < l.length := by assumption
    rw [szL_cons _ hlt, if_pos hb] at hy
    refine ⟨.inr rfl, _, _, rfl, .cons (.c (.id rfl)) .nil, ?_⟩
    simp [resV, X.v, ← hy]
  · have hlt : k < l.length := by assumption
    rw [szL_cons _ hlt, if_neg (by omega)] at hy
    exact ⟨(k + 1, l[k].sz y), ⟨hlt, hb, Int.le_trans (Rou.sz_lo _ _ hy0) hy1, hy⟩, by dsimp only; omega, (.cons rfl rfl (.cons rfl rfl (.cons rfl rfl (.nil)))), rfl, rfl⟩
  · rw [szL_nil _ hb] at hy
    refine ⟨.inr rfl, _, _, rfl, .cons (.c (.id rfl)) .nil, ?_⟩
    simp [resV, X.v, ← hy]
theorem Rou.to_ok (a : Rou) (hs : a.Sm) : Pu Try.prog 56 [A a.e] (A a.e) := by
  refine Pu.of D Try.func56 rfl rfl rfl ?_
  repeat' (first
    | (refine W.cond rfl ?_ ?_ <;> intro hb <;> try simp at hb)
    | refine cl (Iv.to_ok a.span hs.span) ?_
    | refine goO ?_
    | refine goS ?_
    | (refine WO.gs _ rfl rfl rfl ?_ ?_ <;> intro hb <;> simp only [hb] <;> try simp at hb))
  all_goals refine ⟨.inr rfl, _, _, rfl, .cons (.ag (.cons (.id rfl) (.cons (.id rfl) (.cons (.id rfl) .nil)))) .nil, ?_⟩
  all_goals rfl
theorem Rou.eq_ok (a b : Rou) (hs : a.Sm) : Pu Try.prog 116 [A a.e, A b.e] (B (decide (a = b))) := by
  refine Pu.of D Try.func116 rfl rfl rfl ?_
  repeat' (first
    | (refine W.cond rfl ?_ ?_ <;> intro hb <;> try simp at hb)
    | refine cl (Iv.eq_ok a.span b.span hs.span) ?_
    | refine goO ?_
    | refine goS ?_
    | (refine WO.gs _ rfl rfl rfl ?_ ?_ <;> intro hb <;> simp only [hb] <;> try simp at hb))
  all_goals refine ⟨.inr rfl, _, _, rfl, .cons (.c (.id rfl)) .nil, ?_⟩
  all_goals (cases a; cases b; simp [resV, X.v] at *; grind)
theorem Rou.tos_ok (l : List Rou) (hl : l.length ≤ 1048576) (hs : ∀ a ∈ l, a.Sm) : Pu Try.prog 55 [L Rou.e l] (L Rou.e l) := by
  refine Pu.of D Try.func55 rfl rfl rfl ?_
  repeat' (first
    | (refine W.cond rfl ?_ ?_ <;> intro hb <;> try simp at hb)
    | refine OpK.of (OpOk.mks D rfl rfl rfl rfl rfl rfl (by omega) (by decide) ⟨by dsimp only; omega, by omega⟩) ?_
    | refine goO ?_
    | refine goS ?_
    | (refine WO.gs _ rfl rfl rfl ?_ ?_ <;> intro hb <;> simp only [hb] <;> try simp at hb))
  refine W.loop (σ := Nat × List (List C)) (fun s => [(4, I s.1), (3, .c (.sl 0 l.length 0 l.length)), (0, L Rou.e l)]) (fun s => [.arr s.2 3]) (fun s => s.1 ≤ l.length ∧ s.2.length = l.length ∧ (∀ el ∈ s.2, el.length = 3 ∧ el.all (·.low 1) = true) ∧ ∀ (j : Nat) a, j < s.1 → l[j]? = some a → s.2[j]? = some ((Rou.e a).map .t)) (fun s => l.length - s.1) 1 (fun _ _ => rfl) (0, List.replicate l.length _) ⟨by simp, by simp, fun el hel => ?_, fun j a h => by simp at h⟩ rfl (.cons rfl rfl (.cons rfl rfl (.cons rfl rfl (.nil)))) ?_
  · rw [List.eq_of_mem_replicate hel]; exact ⟨rfl, rfl⟩
  rintro ⟨k, es⟩ ⟨hk1, hn, h6, hy⟩
  dsimp only at hk1 hn h6 hy
  repeat' (first
    | (refine W.cond rfl ?_ ?_ <;> intro hb <;> try simp at hb)
    | refine cl (Rou.to_ok l[k] (hs _ (List.getElem_mem _))) ?_
    | refine OpK.of (OpOk.ixA D rfl rfl rfl rfl rfl rfl rfl hn.symm rfl (by omega) (by omega)) ?_
    | refine OpK.of (OpOk.stA D rfl rfl rfl rfl hn.symm (List.getElem?_eq_getElem (by simp; omega)) rfl rfl rfl rfl (Nat.le_of_ble_eq_true rfl)) ?_
    | refine goO ?_
    | refine goS ?_
    | (refine WO.gs _ rfl rfl rfl ?_ ?_ <;> intro hb <;> simp only [hb] <;> try simp at hb))
  · obtain ⟨a1, a2, a3⟩ := made_step (e := Rou.e) hb hn h6 hy rfl (by simp; omega)
    exact ⟨(k + 1, _), ⟨hb, a1, a2, a3⟩, by dsimp only; omega, (.cons rfl rfl (.cons rfl rfl (.cons rfl rfl (.nil)))), rfl, low_arr a2⟩
  · exact ⟨.inr rfl, _, _, rfl, .cons (.c (.full rfl rfl (all_of hn fun j a ha => hy j a (by have := (List.getElem?_eq_some_iff.1 ha).1; omega) ha))) .nil, rfl⟩
theorem Rou.eqs_ok (l r : List Rou) (hl : l.length ≤ 1048576) (hs : ∀ a ∈ l, a.Sm) : Pu Try.prog 57 [L Rou.e l, L Rou.e r] (B (decide (l = r))) := by
  refine Pu.of D Try.func57 rfl rfl rfl ?_
  repeat' (first
    | (refine W.cond rfl ?_ ?_ <;> intro hb <;> try simp at hb)
    | refine goO ?_
    | refine goS ?_
    | (refine WO.gs _ rfl rfl rfl ?_ ?_ <;> intro hb <;> simp only [hb] <;> try simp at hb)
    | (refine WD.gs _ rfl rfl rfl ?_ ?_ <;> intro hb <;> simp only [hb] <;> try simp at hb))
  · refine ⟨.inr rfl, _, _, rfl, .cons (.c (.id rfl)) .nil, ?_⟩
    have : ¬ l = r := by rintro rfl; simp at hb
    simp [resV, X.v, this]
  · have hlr : l.length = r.length := by omega
    refine W.loop (σ := Nat) (fun k => [(5, I k), (1, L Rou.e r), (0, L Rou.e l)]) (fun _ => []) (fun k => k ≤ l.length ∧ (l = r ↔ l.drop k = r.drop k)) (fun k => l.length - k) 0 (fun _ _ => rfl) 0 ⟨by simp, by simp⟩ rfl (.cons rfl rfl (.cons rfl rfl (.cons rfl rfl (.nil)))) ?_
    rintro k ⟨hk1, hy⟩
    repeat' (first
    | (refine W.cond rfl ?_ ?_ <;> intro hb <;> try simp at hb)
    | refine cl (Rou.eq_ok l[k] r[k] (hs _ (List.getElem_mem _))) ?_
    | refine goO ?_
    | refine goS ?_
    | (refine WO.gs _ rfl rfl rfl ?_ ?_ <;> intro hb <;> simp only [hb] <;> try simp at hb)
    | (refine WD.gs _ rfl rfl rfl ?_ ?_ <;> intro hb <;> simp only [hb] <;> try simp at hb))
    · rw [drop_eq (by omega) (by omega)] at hy
      refine ⟨.inr rfl, _, _, rfl, .cons (.c (.id rfl)) .nil, ?_⟩
      simp [resV, X.v, hy, hb]
    · rw [drop_eq (by omega) (by omega)] at hy
      exact ⟨k + 1, ⟨by omega, by simpa [hb] using hy⟩, by omega, (.cons rfl rfl (.cons rfl rfl (.cons rfl rfl (.nil)))), rfl, rfl⟩
    · rw [drop_nil (by omega), drop_nil (by omega)] at hy
      refine ⟨.inr rfl, _, _, rfl, .cons (.c (.id rfl)) .nil, ?_⟩
      have hy := hy.2 rfl
      simp [resV, X.v, hy]
/-! ### Caller -/
structure Cal where
  cache : List Rou
  seq : Int
  busy : Bool
  wish : Cmd
  called : Int
  deriving DecidableEq
abbrev Cal.e (a : Cal) : List T := [.l (a.cache.map Rou.e), tI a.seq, .b a.busy, tI a.wish.kind, .s a.wish.key, tI a.wish.val, tI a.wish.old, tI a.called]
structure Cal.Fit (a : Cal) : Prop where
  cacheN : a.cache.length ≤ 9223372036854775807
  cache : ∀ x ∈ a.cache, x.Fit
  seq : i64 a.seq
  wish : a.wish.Fit
  called : i64 a.called
structure Cal.Sm (a : Cal) : Prop where
  cacheN : a.cache.length ≤ 1048576
  cache : ∀ x ∈ a.cache, x.Sm
  wish : a.wish.Sm
def Cal.sz (a : Cal) : Int → Int := andz (Rou.szs a.cache) (andz (Cmd.sz a.wish) id)
theorem Cal.sz_lo (a : Cal) : Lo a.sz := (andz_lo (Rou.szs_lo _) (andz_lo (Cmd.sz_lo _) id_lo))
theorem Cal.sz_sm (a : Cal) {x : Int} (h0 : 0 ≤ x) (h1 : x ≤ 1048576) (h : 0 ≤ a.sz x) : a.Sm := by
  unfold Cal.sz at h
  obtain ⟨g0, h⟩ := andz_ge h
  have s0 := Rou.szs_sm _ h0 h1 g0
  have b0 := Int.le_trans ((Rou.szs_lo _ : Lo (Rou.szs a.cache)) _ h0) h1
  obtain ⟨g1, h⟩ := andz_ge h
  have s1 := Cmd.sz_sm _ g0 b0 g1
  exact ⟨s0.1, s0.2, s1⟩
theorem Cal.sz_ok (a : Cal) (hf : a.Fit) (x : Int) (h0 : 0 ≤ x) (h1 : x ≤ 1048576) : Pu Try.prog 46 [A a.e, I x] (I (a.sz x)) := by
  have q0 := (Rou.szs_lo _ : Lo (Rou.szs a.cache)) x h0
  have q1 := (Cmd.sz_lo _ : Lo (Cmd.sz a.wish)) (Rou.szs a.cache x)
  refine Pu.of D Try.func46 rfl rfl rfl ?_
  repeat' (first
    | (refine W.cond rfl ?_ ?_ <;> intro hb <;> try simp at hb)
    | refine cl (Rou.szs_ok a.cache hf.cacheN hf.cache (x) h0 h1) ?_
    | refine cl (Cmd.sz_ok a.wish hf.wish (Rou.szs a.cache x) (by omega) (by omega)) ?_
    | refine goO ?_
    | refine goS ?_
    | (refine WO.gs _ rfl rfl rfl ?_ ?_ <;> intro hb <;> simp only [hb] <;> try simp at hb))
  all_goals refine ⟨.inr rfl, _, _, rfl, .cons (.c (.id rfl)) .nil, ?_⟩
  all_goals (simp only [resV, X.v, Cal.sz, andz, sz1, id, V.c.injEq, C.t.injEq, T.i.injEq, true_and] at *; grind)
def Cal.szs (l : List Cal) : Int → Int := andz (sz1 l.length) (szL Cal.sz l)
theorem Cal.szs_lo (l : List Cal) : Lo (Cal.szs l) := andz_lo (sz1_lo _) (szL_lo Cal.sz_lo l)
theorem Cal.szs_sm (l : List Cal) {x : Int} (h0 : 0 ≤ x) (h1 : x ≤ 1048576) (h : 0 ≤ Cal.szs l x) : l.length ≤ 1048576 ∧ ∀ a ∈ l, a.Sm := by
  obtain ⟨g0, h⟩ := andz_ge h
  have b0 := Int.le_trans ((sz1_lo _ : Lo (sz1 l.length)) _ h0) h1
  refine ⟨sz1_sm h0 h1 g0, fun a ha => ?_⟩
  obtain ⟨y, y0, y1, y2⟩ := szL_ge Cal.sz_lo l g0 h a ha
  exact a.sz_sm y0 (by omega) y2
theorem Cal.to_ok (a : Cal) (hs : a.Sm) : Pu Try.prog 48 [A a.e] (A a.e) := by
  refine Pu.of D Try.func48 rfl rfl rfl ?_
  repeat' (first
    | (refine W.cond rfl ?_ ?_ <;> intro hb <;> try simp at hb)
    | refine cl (Rou.tos_ok a.cache hs.cacheN hs.cache) ?_
    | refine cl (Cmd.to_ok a.wish hs.wish) ?_
    | refine goO ?_
    | refine goS ?_
    | (refine WO.gs _ rfl rfl rfl ?_ ?_ <;> intro hb <;> simp only [hb] <;> try simp at hb))
  all_goals refine ⟨.inr rfl, _, _, rfl, .cons (.ag (.cons (.id rfl) (.cons (.id rfl) (.cons (.id rfl) (.cons (.id rfl) (.cons (.id rfl) (.cons (.id rfl) (.cons (.id rfl) (.cons (.id rfl) .nil))))))))) .nil, ?_⟩
  all_goals rfl
theorem Cal.eq_ok (a b : Cal) (hs : a.Sm) : Pu Try.prog 50 [A a.e, A b.e] (B (decide (a = b))) := by
  refine Pu.of D Try.func50 rfl rfl rfl ?_
  repeat' (first
    | (refine W.cond rfl ?_ ?_ <;> intro hb <;> try simp at hb)
    | refine cl (Rou.eqs_ok a.cache b.cache hs.cacheN hs.cache) ?_
    | refine cl (Cmd.eq_ok a.wish b.wish hs.wish) ?_
    | refine goO ?_
    | refine goS ?_
    | (refine WO.gs _ rfl rfl rfl ?_ ?_ <;> intro hb <;> simp only [hb] <;> try simp at hb))
  all_goals refine ⟨.inr rfl, _, _, rfl, .cons (.c (.id rfl)) .nil, ?_⟩
  all_goals (cases a; cases b; simp [resV, X.v] at *; grind)
/-! ### Result -/
structure Res where
  client : Int
  seq : Int
  wish : Cmd
  reply : Int
  called : Int
  returned : Int
  deriving DecidableEq
abbrev Res.e (a : Res) : List T := [tI a.client, tI a.seq, tI a.wish.kind, .s a.wish.key, tI a.wish.val, tI a.wish.old, tI a.reply, tI a.called, tI a.returned]
structure Res.Fit (a : Res) : Prop where
  client : i64 a.client
  seq : i64 a.seq
  wish : a.wish.Fit
  reply : i64 a.reply
  called : i64 a.called
  returned : i64 a.returned
structure Res.Sm (a : Res) : Prop where
  wish : a.wish.Sm
def Res.sz (a : Res) : Int → Int := andz (Cmd.sz a.wish) id
theorem Res.sz_lo (a : Res) : Lo a.sz := (andz_lo (Cmd.sz_lo _) id_lo)
theorem Res.sz_sm (a : Res) {x : Int} (h0 : 0 ≤ x) (h1 : x ≤ 1048576) (h : 0 ≤ a.sz x) : a.Sm := by
  unfold Res.sz at h
  obtain ⟨g0, h⟩ := andz_ge h
  have s0 := Cmd.sz_sm _ h0 h1 g0
  exact ⟨s0⟩
def Res.szs (l : List Res) : Int → Int := andz (sz1 l.length) (szL Res.sz l)
theorem Res.szs_lo (l : List Res) : Lo (Res.szs l) := andz_lo (sz1_lo _) (szL_lo Res.sz_lo l)
theorem Res.szs_sm (l : List Res) {x : Int} (h0 : 0 ≤ x) (h1 : x ≤ 1048576) (h : 0 ≤ Res.szs l x) : l.length ≤ 1048576 ∧ ∀ a ∈ l, a.Sm := by
  obtain ⟨g0, h⟩ := andz_ge h
  have b0 := Int.le_trans ((sz1_lo _ : Lo (sz1 l.length)) _ h0) h1
  refine ⟨sz1_sm h0 h1 g0, fun a ha => ?_⟩
  obtain ⟨y, y0, y1, y2⟩ := szL_ge Res.sz_lo l g0 h a ha
  exact a.sz_sm y0 (by omega) y2
theorem Res.eq_ok (a b : Res) (hs : a.Sm) : Pu Try.prog 60 [A a.e, A b.e] (B (decide (a = b))) := by
  refine Pu.of D Try.func60 rfl rfl rfl ?_
  repeat' (first
    | (refine W.cond rfl ?_ ?_ <;> intro hb <;> try simp at hb)
    | refine cl (Cmd.eq_ok a.wish b.wish hs.wish) ?_
    | refine goO ?_
    | refine goS ?_
    | (refine WO.gs _ rfl rfl rfl ?_ ?_ <;> intro hb <;> simp only [hb] <;> try simp at hb))
  all_goals refine ⟨.inr rfl, _, _, rfl, .cons (.c (.id rfl)) .nil, ?_⟩
  all_goals (cases a; cases b; simp [resV, X.v] at *; grind)
end Go.YtamlleimfopmhaaMc

namespace Go.YtamlleimfopmhaaMc
open Go.Proofs
/-! ### Route: own copies, marks -/
def mkRou (k : Nat) : Rou := ⟨((k : Nat) : Int), ⟨mtx (k + 1), mtx (k + 2)⟩⟩
def mksRou : Nat → List Rou → List Rou
  | _, [] => []
  | k, _ :: l => mkRou k :: mksRou (k + 3) l
theorem mksRou_len : ∀ (l : List Rou) (k : Nat), (mksRou k l).length = l.length
  | [], _ => rfl
  | _ :: l, k => by simp [mksRou, mksRou_len l]
theorem mksRou_get : ∀ (l : List Rou) (k j : Nat) (h : j < (mksRou k l).length), (mksRou k l)[j] = mkRou (k + 3 * j)
  | [], _, _, h => by simp [mksRou] at h
  | _ :: l, k, 0, _ => rfl
  | _ :: l, k, j + 1, h => by
    simp only [mksRou, List.getElem_cons_succ]
    rw [mksRou_get l]; congr 1; omega
theorem mksRou_snoc (k : Nat) {l : List Rou} {j : Nat} (h : j < l.length) : mksRou k (l.take (j + 1)) = mksRou k (l.take j) ++ [mkRou (k + 3 * j)] := by
  apply List.ext_getElem
  · simp [mksRou_len]; omega
  · intro i h1 h2
    rw [mksRou_get, List.getElem_append]
    split
    · rw [mksRou_get]
    · rename_i h3
      have : i = j := by simp [mksRou_len] at h1 h2 h3; omega
      subst this; simp
theorem mksRou_step (k : Nat) {l : List Rou} {j : Nat} (h : j < l.length) : (mksRou k (l.take j) ++ l.drop j).set j (mkRou (k + 3 * j)) = mksRou k (l.take (j + 1)) ++ l.drop (j + 1) := by
  have : (mksRou k (l.take j)).length = j := by simp [mksRou_len]; omega
  rw [mksRou_snoc k h, List.set_append_right _ _ (by omega), this, Nat.sub_self, List.drop_eq_getElem_cons h, List.append_assoc]
  rfl
set_option maxHeartbeats 1000000 in
theorem ownRou (l : List Rou) (hl : l.length ≤ 1048576) (hs : ∀ a ∈ l, a.Sm) : Po Try.prog 55 [L Rou.e l] [] (.c (.sl 0 l.length 0 l.length)) [.arr (Rs Rou.e l) 3] := by
  refine Po.of D Try.func55 rfl rfl rfl ?_
  repeat' (first
    | (refine W.cond rfl ?_ ?_ <;> intro hb <;> try simp at hb)
    | refine OpK.of (OpOk.mks D rfl rfl rfl rfl rfl rfl (by omega) (by decide) ⟨by dsimp only; omega, by omega⟩) ?_
    | refine goO ?_
    | refine goS ?_
    | (refine WO.gs _ rfl rfl rfl ?_ ?_ <;> intro hb <;> simp only [hb] <;> try simp at hb))
  refine W.loop (σ := Nat × List (List C)) (fun s => [(4, I s.1), (3, .c (.sl 0 l.length 0 l.length)), (0, L Rou.e l)]) (fun s => [.arr s.2 3]) (fun s => s.1 ≤ l.length ∧ s.2.length = l.length ∧ (∀ el ∈ s.2, el.length = 3 ∧ el.all (·.low 1) = true) ∧ ∀ (j : Nat) a, j < s.1 → l[j]? = some a → s.2[j]? = some ((Rou.e a).map .t)) (fun s => l.length - s.1) 1 (fun _ _ => rfl) (0, List.replicate l.length _) ⟨by simp, by simp, fun el hel => ?_, fun j a h => by simp at h⟩ rfl (.cons rfl rfl (.cons rfl rfl (.cons rfl rfl (.nil)))) ?_
  · rw [List.eq_of_mem_replicate hel]; exact ⟨rfl, rfl⟩
  rintro ⟨k, es⟩ ⟨hk1, hn, h6, hy⟩
  dsimp only at hk1 hn h6 hy
  repeat' (first
    | (refine W.cond rfl ?_ ?_ <;> intro hb <;> try simp at hb)
    | refine OpK.of (OpOk.ixA D rfl rfl rfl rfl rfl rfl rfl hn.symm rfl (by omega) (by omega)) ?_
    | refine cl (Rou.to_ok l[k] (hs _ (List.getElem_mem _))) ?_
    | refine OpK.of (OpOk.stA D rfl rfl rfl rfl hn.symm (List.getElem?_eq_getElem (by simp; omega)) rfl rfl rfl rfl (Nat.le_of_ble_eq_true rfl)) ?_
    | refine goO ?_
    | refine goS ?_
    | (refine WO.gs _ rfl rfl rfl ?_ ?_ <;> intro hb <;> simp only [hb] <;> try simp at hb))
  · obtain ⟨a1, a2, a3⟩ := made_step (e := Rou.e) hb hn h6 hy rfl (by simp; omega)
    exact ⟨(k + 1, _), ⟨hb, a1, a2, a3⟩, by dsimp only; omega, (.cons rfl rfl (.cons rfl rfl (.cons rfl rfl (.nil)))), rfl, low_arr a2⟩
  · have he := all_of (e := Rou.e) hn fun j a ha => hy j a (by have := (List.getElem?_eq_some_iff.1 ha).1; omega) ha
    rw [he]
    (first | refine Ro.c1 (.inr rfl) [0] rfl (by decide) (kp rfl) ?_ ?_ | refine Ro.a1 (.inr rfl) [0] rfl (by decide) (kp rfl) ?_ ?_ | refine Ro.t1 (.inr rfl) [0] rfl (by decide) (kp rfl) ?_ ?_ rfl); (repeat' (first | exact .nil | refine .cons rfl ?_ ?_ | refine .cons ?_ ?_ | refine .c ?_ | refine .ag ?_ | refine .box ?_ | exact .arr (rs_low _ _ _) | exact .dead | exact .id rfl | exact .sl rfl | exact .ptr rfl | exact .ap rfl | exact .emp | exact .full rfl rfl rfl rfl rfl | fail))
set_option maxHeartbeats 4000000 in
theorem markRou (l : List Rou) (k : Nat) (h0 : 0 < k) (hl : l.length ≤ 1048576) (hk : k + 3 * l.length ≤ 1099511627776) : Po Try.prog 58 [.c (.sl 0 l.length 0 l.length), I k] [.arr (Rs Rou.e l) 3] (I ((k + 3 * l.length : Nat) : Int)) [.arr (Rs Rou.e (mksRou k l)) 3] := by
  refine Po.of D Try.func58 rfl rfl rfl ?_
  repeat' (first
    | (refine W.cond rfl ?_ ?_ <;> intro hb <;> try simp at hb)
    | refine goO ?_
    | refine goN ?_
    | (refine WO.gs _ rfl rfl rfl ?_ ?_ <;> intro hb <;> simp only [hb] <;> try simp at hb))
  refine W.loop (σ := Nat) (fun j => [(5, I j), (1, I ((k + 3 * j : Nat) : Int)), (0, .c (.sl 0 l.length 0 l.length))]) (fun j => [.arr (Rs Rou.e (mksRou k (l.take j) ++ l.drop j)) 3]) (fun j => j ≤ l.length) (fun j => l.length - j) 1 (fun _ _ => rfl) 0 (by simp) rfl (.cons rfl rfl (.cons rfl rfl (.cons rfl rfl (.nil)))) ?_
  intro j hj
  by_cases hlt : j < l.length
  · have hx0 : (mksRou k (l.take j) ++ l.drop j).length = l.length := by simp [mksRou_len]; omega
    have hxn := mksRou_step k hlt
    have hxq : (mksRou k (l.take j) ++ l.drop j)[j]? = some l[j] := by
      rw [List.getElem?_append_right (by simp [mksRou_len]; omega)]; simp [mksRou_len, Nat.min_eq_left hj, hlt]
    generalize mksRou k (l.take j) ++ l.drop j = xs at hx0 hxn hxq ⊢
    have hjx : j < xs.length := by omega
    have hxj : xs[j] = l[j] := (List.getElem_eq_iff hjx).2 hxq
    repeat' (first
    | (refine W.cond rfl ?_ ?_ <;> intro hb <;> (try simp at hb) <;> try contradiction)
    | refine OpK.of (OpOk.lenA D rfl rfl rfl rfl rfl (by simp; omega)) ?_
    | refine OpK.of (OpOk.ixA D rfl rfl rfl rfl rfl rfl rfl (by first | omega | (simp; omega)) rfl (by omega) (by omega)) ?_
    | refine OpK.of (OpOk.faA D rfl rfl rfl rfl (by decide) rfl rfl (by first | omega | (simp; omega))) ?_
    | refine cl (mtx_ok (k + 3 * j + 1) (by omega) (by omega)) ?_
    | refine cl (mtx_ok (k + 3 * j + 2) (by omega) (by omega)) ?_
    | refine OpK.of (OpOk.stR D (enc := Rou.e) j ⟨((k + 3 * j : Nat) : Int), ⟨l[j].span.lo, l[j].span.hi⟩⟩ rfl rfl rfl rfl (by first | omega | (simp; omega)) (by omega) (by first | omega | (simp; omega)) rfl rfl rfl rfl (Nat.le_of_ble_eq_true rfl) (by simp [hxj, Rou.e]; rfl)) ?_
    | refine OpK.of (OpOk.stR D (enc := Rou.e) j ⟨((k + 3 * j : Nat) : Int), ⟨mtx (k + 3 * j + 1), l[j].span.hi⟩⟩ rfl rfl rfl rfl (by first | omega | (simp; omega)) (by omega) (by first | omega | (simp; omega)) rfl rfl rfl rfl (Nat.le_of_ble_eq_true rfl) (by simp [hxj, Rou.e]; rfl)) ?_
    | refine OpK.of (OpOk.stR D (enc := Rou.e) j ⟨((k + 3 * j : Nat) : Int), ⟨mtx (k + 3 * j + 1), mtx (k + 3 * j + 2)⟩⟩ rfl rfl rfl rfl (by first | omega | (simp; omega)) (by omega) (by first | omega | (simp; omega)) rfl rfl rfl rfl (Nat.le_of_ble_eq_true rfl) (by simp [hxj, Rou.e]; rfl)) ?_
    | refine goO ?_
    | refine goN ?_
    | (refine WO.gs _ rfl rfl rfl ?_ ?_ <;> intro hb <;> simp only [hb] <;> (try simp at hb) <;> try contradiction))
    all_goals first
      | (exfalso; omega)
      | (simp only [List.set_set]
         exact ⟨j + 1, hlt, by omega, (.cons rfl rfl (.cons rfl rfl (.cons rfl rfl (.nil)))), by rw [← hxn]; rfl, LH.lows (by repeat' (first | exact .nil | refine .box rfl ?_ | refine .arr (rs_low _ _ _) ?_ | refine .dead ?_ | fail))⟩)
  · repeat' (first
    | (refine W.cond rfl ?_ ?_ <;> intro hb <;> (try simp at hb) <;> try contradiction)
    | refine OpK.of (OpOk.lenA D rfl rfl rfl rfl rfl (by simp [mksRou_len]; omega)) ?_
    | refine goO ?_
    | refine goN ?_
    | (refine WO.gs _ rfl rfl rfl ?_ ?_ <;> intro hb <;> simp only [hb] <;> (try simp at hb) <;> try contradiction))
    all_goals first
      | (exfalso; omega)
      | (have hjl : j = l.length := by omega
         subst hjl
         rw [List.take_length, List.drop_length, List.append_nil]
         (first | refine Ro.c1 (.inr rfl) [0] rfl (by decide) (kp rfl) ?_ ?_ | refine Ro.a1 (.inr rfl) [0] rfl (by decide) (kp rfl) ?_ ?_ | refine Ro.t1 (.inr rfl) [0] rfl (by decide) (kp rfl) ?_ ?_ rfl); (repeat' (first | exact .nil | refine .cons rfl ?_ ?_ | refine .cons ?_ ?_ | refine .c ?_ | refine .ag ?_ | refine .box ?_ | exact .arr (rs_low _ _ _) | exact .dead | exact .id rfl | exact .sl rfl | exact .ptr rfl | exact .ap rfl | exact .emp | exact .full rfl rfl rfl rfl rfl | fail)))
set_option maxHeartbeats 4000000 in
theorem heldRou (l : List Rou) (k : Nat) (h0 : 0 < k) (hl : l.length ≤ 1048576) (hk : k + 3 * l.length ≤ 1099511627776) : Pu Try.prog 59 [L Rou.e (mksRou k l), I k] (I ((k + 3 * l.length : Nat) : Int)) := by
  have hx0 := mksRou_len l k
  have hxg := mksRou_get l k
  generalize mksRou k l = xs at hx0 hxg ⊢
  refine Pu.of D Try.func59 rfl rfl rfl ?_
  repeat' (first
    | (refine W.cond rfl ?_ ?_ <;> intro hb <;> try simp at hb)
    | refine goO ?_
    | refine goN ?_
    | (refine WO.gs _ rfl rfl rfl ?_ ?_ <;> intro hb <;> simp only [hb] <;> try simp at hb)
    | (refine WD.gs _ rfl rfl rfl ?_ ?_ <;> intro hb <;> simp only [hb] <;> try simp at hb))
  refine W.loop (σ := Nat) (fun j => [(5, I j), (1, I ((k + 3 * j : Nat) : Int)), (0, L Rou.e xs)]) (fun j => []) (fun j => j ≤ l.length) (fun j => l.length - j) 0 (fun _ _ => rfl) 0 (by simp) rfl (.cons rfl rfl (.cons rfl rfl (.cons rfl rfl (.nil)))) ?_
  intro j hj
  by_cases hlt : j < l.length
  · have hjx : j < xs.length := by omega
    have hxj := hxg j hjx
    repeat' (first
    | (refine W.cond rfl ?_ ?_ <;> intro hb <;> (try simp at hb) <;> try contradiction)
    | refine cl (mtx_ok (k + 3 * j + 1) (by omega) (by omega)) ?_
    | refine cl (mtx_ok (k + 3 * j + 2) (by omega) (by omega)) ?_
    | refine goO ?_
    | refine goN ?_
    | (refine WO.gs _ rfl rfl rfl ?_ ?_ <;> intro hb <;> simp only [hb] <;> (try simp at hb) <;> try contradiction)
    | (refine WD.gs _ rfl rfl rfl ?_ ?_ <;> intro hb <;> simp only [hb] <;> (try simp at hb) <;> try contradiction))
    all_goals first
      | (exfalso; omega)
      | (exfalso; simp_all [mkRou]; done)
      | exact ⟨j + 1, hlt, by omega, (.cons rfl rfl (.cons rfl rfl (.cons rfl rfl (.nil)))), rfl, rfl⟩
  · repeat' (first
    | (refine W.cond rfl ?_ ?_ <;> intro hb <;> (try simp at hb) <;> try contradiction)
    | refine goO ?_
    | refine goN ?_
    | (refine WO.gs _ rfl rfl rfl ?_ ?_ <;> intro hb <;> simp only [hb] <;> (try simp at hb) <;> try contradiction)
    | (refine WD.gs _ rfl rfl rfl ?_ ?_ <;> intro hb <;> simp only [hb] <;> (try simp at hb) <;> try contradiction))
    all_goals first
      | (exfalso; omega)
      | (have hjl : j = l.length := by omega
         subst hjl
         refine ⟨.inr rfl, _, _, rfl, .cons (.c (.id rfl)) .nil, ?_⟩; rfl)
end Go.YtamlleimfopmhaaMc

namespace Go.YtamlleimfopmhaaMc
open Go.Proofs
/-! ### Strings, in order -/
abbrev lt (x y : List UInt8) : Bool := Op.bytesLess x y
/-! ### Keys -/
def inR (n lo hi : Int) : Bool := decide (lo ≤ n) && decide (n ≤ hi)
def letter (c : UInt8) : Bool := decide (97 ≤ c.toNat) && decide (c.toNat ≤ 122)
def keyOk (s : List UInt8) : Bool := decide (1 ≤ s.length) && decide (s.length ≤ 4) && s.all letter
theorem in_ok (n lo hi : Int) : Pu Try.prog 74 [I n, I lo, I hi] (B (inR n lo hi)) := by
  refine Pu.of D Try.func74 rfl rfl rfl ?_
  repeat' (first
    | (refine W.cond rfl ?_ ?_ <;> intro hb <;> try simp at hb)
    | refine goO ?_
    | refine goS ?_
    | (refine WO.gs _ rfl rfl rfl ?_ ?_ <;> intro hb <;> simp only [hb] <;> try simp at hb))
  all_goals refine ⟨.inr rfl, _, _, rfl, .cons (.c (.id rfl)) .nil, ?_⟩
  all_goals (simp [resV, X.v, inR, *]; try omega)
theorem lettersOnly_ok : ∀ (s : List UInt8), Pu Try.prog 128 [Sx s] (B (s.all letter))
  | [] => by
    refine Pu.of D Try.func128 rfl rfl rfl ?_
    repeat' (first
    | (refine W.cond rfl ?_ ?_ <;> intro hb <;> try simp at hb)
    | refine goO ?_
    | refine goS ?_
    | (refine WO.gs _ rfl rfl rfl ?_ ?_ <;> intro hb <;> simp only [hb] <;> try simp at hb))
    all_goals first | (exfalso; simp_all; done) | skip
    all_goals refine ⟨.inr rfl, _, _, rfl, .cons (.c (.id rfl)) .nil, ?_⟩
    all_goals rfl
  | c :: s => by
    have ih := lettersOnly_ok s
    refine Pu.of D Try.func128 rfl rfl rfl ?_
    repeat' (first
    | (refine W.cond rfl ?_ ?_ <;> intro hb <;> try simp at hb)
    | refine OpK.of (OpOk.ixS D rfl rfl rfl rfl rfl (by decide) rfl) ?_
    | refine OpK.of (OpOk.slSd D rfl rfl rfl rfl rfl (by simp)) ?_
    | refine cl (ih) ?_
    | refine goO ?_
    | refine goS ?_
    | (refine WO.gs _ rfl rfl rfl ?_ ?_ <;> intro hb <;> simp only [hb] <;> try simp at hb))
    all_goals refine ⟨.inr rfl, _, _, rfl, .cons (.c (.id rfl)) .nil, ?_⟩
    all_goals (simp [resV, X.v, letter]; grind)
theorem keyOk_impl (s : List UInt8) : Pu Try.prog 94 [Sx s] (B (keyOk s)) := by
  refine Pu.of D Try.func94 rfl rfl rfl ?_
  repeat' (first
    | (refine W.cond rfl ?_ ?_ <;> intro hb <;> try simp at hb)
    | refine cl (lettersOnly_ok s) ?_
    | refine goO ?_
    | refine goS ?_
    | (refine WO.gs _ rfl rfl rfl ?_ ?_ <;> intro hb <;> simp only [hb] <;> try simp at hb))
  all_goals refine ⟨.inr rfl, _, _, rfl, .cons (.c (.id rfl)) .nil, ?_⟩
  all_goals (simp [resV, X.v, keyOk]; grind)
theorem keyOk_spec (s : List UInt8) : Pu Try.prog 125 [Sx s] (B (keyOk s)) := by
  refine Pu.of D Try.func125 rfl rfl rfl ?_
  repeat' (first
    | (refine W.cond rfl ?_ ?_ <;> intro hb <;> try simp at hb)
    | refine cl (in_ok _ _ _) ?_
    | refine goO ?_
    | refine goS ?_
    | (refine WO.gs _ rfl rfl rfl ?_ ?_ <;> intro hb <;> simp only [hb] <;> try simp at hb))
  · refine ⟨.inr rfl, _, _, rfl, .cons (.c (.id rfl)) .nil, ?_⟩
    simp [resV, X.v, keyOk, inR] at *; grind
  · refine W.loop (σ := Nat) (fun k => [(3, I k), (0, Sx s)]) (fun _ => []) (fun k => k ≤ s.length ∧ keyOk s = (s.drop k).all letter) (fun k => s.length - k) 0 (fun _ _ => rfl) 0 ⟨by simp, by simp [keyOk, inR] at *; grind⟩ rfl (.cons rfl rfl (.cons rfl rfl (.nil))) ?_
    rintro k ⟨hk, hy⟩
    have hl : s.length ≤ 4 := by simp [inR] at hb; omega
    repeat' (first
    | (refine W.cond rfl ?_ ?_ <;> intro hb <;> try simp at hb)
    | refine OpK.of (OpOk.ixSk D rfl rfl rfl rfl rfl (by assumption)) ?_
    | refine goO ?_
    | refine goS ?_
    | (refine WO.gs _ rfl rfl rfl ?_ ?_ <;> intro hb <;> simp only [hb] <;> try simp at hb))
    · have hlt : k < s.length := by assumption
      refine ⟨.inr rfl, _, _, rfl, .cons (.c (.id rfl)) .nil, ?_⟩
      rw [drop_cons hlt, List.all_cons] at hy
      simp [resV, X.v, hy, letter]; omega
    · have hlt : k < s.length := by assumption
      refine ⟨.inr rfl, _, _, rfl, .cons (.c (.id rfl)) .nil, ?_⟩
      rw [drop_cons hlt, List.all_cons] at hy
      simp [resV, X.v, hy, letter]; omega
    · have hlt : k < s.length := by assumption
      rw [drop_cons hlt, List.all_cons] at hy
      exact ⟨k + 1, ⟨by omega, by rw [hy]; simp [letter]; omega⟩, by omega, (.cons rfl rfl (.cons rfl rfl (.nil))), rfl, rfl⟩
    · refine ⟨.inr rfl, _, _, rfl, .cons (.c (.id rfl)) .nil, ?_⟩
      rw [drop_nil (by omega)] at hy
      simp [resV, X.v, hy]
/-! ### Intervals -/
def ivOk (v : Iv) : Bool := (v.lo == [] || keyOk v.lo) && (v.hi == [] || keyOk v.hi) && (v.hi == [] || (lt v.lo v.hi && (v.lo != [] || v.hi != [97])))
theorem ivOk_spec (v : Iv) : Pu Try.prog 127 [A v.e] (B (ivOk v)) := by
  refine Pu.of D Try.func127 rfl rfl rfl ?_
  repeat' (first
    | (refine W.cond rfl ?_ ?_ <;> intro hb <;> try simp at hb)
    | refine cl (keyOk_spec v.lo) ?_
    | refine cl (keyOk_spec v.hi) ?_
    | refine goO ?_
    | refine goS ?_
    | (refine WO.gs _ rfl rfl rfl ?_ ?_ <;> intro hb <;> simp only [hb] <;> try simp at hb))
  all_goals refine ⟨.inr rfl, _, _, rfl, .cons (.c (.id rfl)) .nil, ?_⟩
  all_goals first | (simp_all [resV, X.v, ivOk, lt]; done) | (simp [resV, X.v, ivOk, lt] at *; grind) | (simp [resV, X.v, ivOk, lt] at *; omega)
def lowKey (v : Iv) : List UInt8 := if v.lo = [] then [97] else v.lo
theorem lowKey_ok (v : Iv) : Pu Try.prog 131 [A v.e] (Sx (lowKey v)) := by
  refine Pu.of D Try.func131 rfl rfl rfl ?_
  repeat' (first
    | (refine W.cond rfl ?_ ?_ <;> intro hb <;> try simp at hb)
    | refine goO ?_
    | refine goS ?_
    | (refine WO.gs _ rfl rfl rfl ?_ ?_ <;> intro hb <;> simp only [hb] <;> try simp at hb))
  all_goals refine ⟨.inr rfl, _, _, rfl, .cons (.c (.id rfl)) .nil, ?_⟩
  all_goals first | (simp_all [resV, X.v, lowKey]; done) | (simp [resV, X.v, lowKey] at *; grind) | (simp [resV, X.v, lowKey] at *; omega)
theorem lt_a {s : List UInt8} (h : keyOk s = true) : Op.bytesLess [97] s = true ↔ s ≠ [97] := by
  cases s with
  | nil => simp [keyOk] at h
  | cons c s =>
    simp only [keyOk, List.all_cons, letter, Bool.and_eq_true, decide_eq_true_eq] at h
    have h1 : 97 ≤ c.toNat := h.2.1.1
    by_cases e : c = 97
    · subst e; cases s <;> simp [Op.bytesLess]
    · have : (97 : UInt8) < c := by rw [UInt8.lt_iff_toNat_lt]; have : c.toNat ≠ 97 := fun h => e (UInt8.toNat_inj.1 (by simpa using h)); simp; omega
      simp [Op.bytesLess, this, e]
theorem lt_e {s : List UInt8} (h : s ≠ []) : Op.bytesLess [] s = true := by cases s <;> simp_all [Op.bytesLess]
theorem ivOk_impl (v : Iv) : Pu Try.prog 106 [A v.e] (B (ivOk v)) := by
  refine Pu.of D Try.func106 rfl rfl rfl ?_
  repeat' (first
    | (refine W.cond rfl ?_ ?_ <;> intro hb <;> try simp at hb)
    | refine cl (keyOk_impl v.lo) ?_
    | refine cl (keyOk_impl v.hi) ?_
    | refine cl (lowKey_ok v) ?_
    | refine goO ?_
    | refine goS ?_
    | (refine WO.gs _ rfl rfl rfl ?_ ?_ <;> intro hb <;> simp only [hb] <;> try simp at hb)
    | (refine WD.gs _ rfl rfl rfl ?_ ?_ <;> intro hb <;> simp only [hb] <;> try simp at hb))
  all_goals refine ⟨.inr rfl, _, _, rfl, .cons (.c (.id rfl)) .nil, ?_⟩
  all_goals
    have ha := @lt_a v.hi
    have he := @lt_e v.hi
    by_cases hl : v.lo = [] <;> simp_all [resV, X.v, ivOk, lt, lowKey]
  all_goals try grind
/-! ### Commands, entries, logs -/
def cmdOk (c : Cmd) : Bool := (keyOk c.key || (decide (c.kind = 5) && decide (c.key = []))) && (((decide (c.kind = 1) || decide (c.kind = 3) || decide (c.kind = 5)) && decide (c.val = 0) && decide (c.old = 0)) || (decide (c.kind = 2) && inR c.val 0 999 && decide (c.old = 0)) || (decide (c.kind = 4) && inR c.val 0 999 && inR c.old (-1) 999))
theorem value_ok (n : Int) : Pu Try.prog 136 [I n] (B (inR n 0 999)) := by
  refine Pu.of D Try.func136 rfl rfl rfl ?_
  repeat' (first
    | (refine W.cond rfl ?_ ?_ <;> intro hb <;> try simp at hb)
    | refine goO ?_
    | refine goS ?_
    | (refine WO.gs _ rfl rfl rfl ?_ ?_ <;> intro hb <;> simp only [hb] <;> try simp at hb))
  all_goals refine ⟨.inr rfl, _, _, rfl, .cons (.c (.id rfl)) .nil, ?_⟩
  all_goals first | (simp_all [resV, X.v, inR]; done) | (simp [resV, X.v, inR] at *; grind) | (simp [resV, X.v, inR] at *; omega)
theorem seq_ok (n : Int) : Pu Try.prog 81 [I n] (B (inR n 1 999)) := by
  refine Pu.of D Try.func81 rfl rfl rfl ?_
  repeat' (first
    | (refine W.cond rfl ?_ ?_ <;> intro hb <;> try simp at hb)
    | refine goO ?_
    | refine goS ?_
    | (refine WO.gs _ rfl rfl rfl ?_ ?_ <;> intro hb <;> simp only [hb] <;> try simp at hb))
  all_goals refine ⟨.inr rfl, _, _, rfl, .cons (.c (.id rfl)) .nil, ?_⟩
  all_goals first | (simp_all [resV, X.v, inR]; done) | (simp [resV, X.v, inR] at *; grind) | (simp [resV, X.v, inR] at *; omega)
set_option maxHeartbeats 2000000 in
theorem cmdOk_spec (c : Cmd) : Pu Try.prog 122 [A c.e] (B (cmdOk c)) := by
  refine Pu.of D Try.func122 rfl rfl rfl ?_
  repeat' (first
    | (refine W.cond rfl ?_ ?_ <;> intro hb <;> try simp at hb)
    | refine cl (keyOk_spec c.key) ?_
    | refine cl (in_ok _ _ _) ?_
    | refine goO ?_
    | refine goS ?_
    | (refine WO.gs _ rfl rfl rfl ?_ ?_ <;> intro hb <;> simp only [hb] <;> try simp at hb))
  all_goals refine ⟨.inr rfl, _, _, rfl, .cons (.c (.id rfl)) .nil, ?_⟩
  all_goals (simp [resV, X.v, cmdOk] at *; grind)
set_option maxHeartbeats 2000000 in
theorem cmdOk_impl (c : Cmd) : Pu Try.prog 121 [A c.e] (B (cmdOk c)) := by
  refine Pu.of D Try.func121 rfl rfl rfl ?_
  repeat' (first
    | (refine W.cond rfl ?_ ?_ <;> intro hb <;> try simp at hb)
    | refine cl (keyOk_impl c.key) ?_
    | refine cl (value_ok _) ?_
    | refine goO ?_
    | refine goS ?_
    | (refine WO.gs _ rfl rfl rfl ?_ ?_ <;> intro hb <;> simp only [hb] <;> try simp at hb))
  all_goals refine ⟨.inr rfl, _, _, rfl, .cons (.c (.id rfl)) .nil, ?_⟩
  all_goals (simp [resV, X.v, cmdOk, inR] at *; grind)
def entOk (a : Ent) : Bool := inR a.client 0 3 && inR a.seq 1 999 && cmdOk a.cmd
def logOk (l : List Ent) : Bool := decide (l.length ≤ 24) && l.all entOk
end Go.YtamlleimfopmhaaMc
namespace Go.YtamlleimfopmhaaMc
open Go.Proofs
/-! ### The order of strings -/
theorem lt_anti : ∀ (a b : List UInt8), Op.bytesLess a b = !(Op.bytesLess b a || b == a)
  | [], [] => rfl
  | [], _ :: _ => by simp [Op.bytesLess]
  | _ :: _, [] => by simp [Op.bytesLess]
  | x :: a, y :: b => by
    have ih := lt_anti a b
    simp only [Op.bytesLess, ih]
    by_cases h1 : x < y
    · have h2 : ¬ y < x := fun h => UInt8.lt_asymm h1 h
      have h3 : ¬ y = x := fun h => by subst h; exact UInt8.lt_irrefl _ h1
      simp [h1, h2, h3]
    · by_cases h2 : y < x
      · have h3 : ¬ x = y := fun h => by subst h; exact UInt8.lt_irrefl _ h2
        simp [h1, h2, h3]
      · have h3 : x = y := UInt8.le_antisymm (UInt8.not_lt.1 h2) (UInt8.not_lt.1 h1)
        subst h3
        simp [UInt8.lt_irrefl]
/-! ### Pairs and sessions, in order -/
/-- What stands ahead of the element k. -/
def ahead {α : Type} (l : List α) (k : Nat) : Option α := if k = 0 then none else l[k - 1]?
def prOk (p : Option Pr) (a : Pr) : Bool := keyOk a.key && inR a.val 0 999 && (match p with | none => true | some q => lt q.key a.key)
def seOk (p : Option Ses) (a : Ses) : Bool := inR a.client 0 3 && inR a.seq 1 999 && inR a.reply (-2) 999 && (match p with | none => true | some q => decide (q.client < a.client))
def rowOk {α : Type} (f : Option α → α → Bool) : Option α → List α → Bool
  | _, [] => true
  | p, a :: l => f p a && rowOk f (some a) l
theorem rowOk_cons {α : Type} (f : Option α → α → Bool) {l : List α} {k : Nat} (h : k < l.length) : rowOk f (ahead l k) (l.drop k) = (f (ahead l k) l[k] && rowOk f (ahead l (k + 1)) (l.drop (k + 1))) := by
  rw [drop_cons h, rowOk]
  have : ahead l (k + 1) = some l[k] := by simp [ahead, h]
  rw [this]
theorem rowOk_nil {α : Type} (f : Option α → α → Bool) {l : List α} {k : Nat} (h : l.length ≤ k) : rowOk f (ahead l k) (l.drop k) = true := by rw [drop_nil h, rowOk]
theorem ahead_0 {α : Type} {l : List α} {k : Nat} (h : k = 0) : ahead l k = none := by simp [ahead, h]
theorem ahead_s {α : Type} {l : List α} {k : Nat} (h : k ≠ 0) (hk : k - 1 < l.length) : ahead l k = some l[k - 1] := by simp [ahead, h, hk]
theorem toNat_pred {k : Nat} (h : k ≠ 0) : ((k : Int) - 1).toNat = k - 1 := by omega
def pairsOk (l : List Pr) : Bool := decide (l.length ≤ 48) && rowOk prOk none l
def sesOk (l : List Ses) : Bool := rowOk seOk none l
end Go.YtamlleimfopmhaaMc
namespace Go.YtamlleimfopmhaaMc
open Go.Proofs
/-! ### Routes: numbers and intervals -/
def rPl (n : Int) : Nat → List Rou → Int
  | _, [] => -1
  | i, r :: l => if r.num = n then (i : Int) else rPl n (i + 1) l
theorem rPl_some {n : Int} : ∀ {l : List Rou} {i : Nat}, decide (rPl n i l ≥ 0) = l.any fun q => decide (q.num = n)
  | [], i => by simp [rPl]
  | r :: l, i => by
    have ih := @rPl_some n l (i + 1)
    unfold rPl
    by_cases e : r.num = n
    · rw [if_pos e, List.any_cons, decide_eq_true e, Bool.true_or, decide_eq_true (by omega)]
    · rw [if_neg e, List.any_cons, decide_eq_false e, Bool.false_or, ih]
theorem rPlace_ok (l : List Rou) (n : Int) (hl : l.length ≤ 1048576) : Pu Try.prog 87 [L Rou.e l, I n] (I (rPl n 0 l)) := by
  refine Pu.of D Try.func87 rfl rfl rfl ?_
  repeat' (first
    | (refine W.cond rfl ?_ ?_ <;> intro hb <;> try simp at hb)
    | refine goO ?_
    | refine goN ?_
    | (refine WO.gs _ rfl rfl rfl ?_ ?_ <;> intro hb <;> simp only [hb] <;> try simp at hb))
  refine W.loop (σ := Nat) (fun k => [(9, I k), (8, I l.length), (7, L Rou.e l), (1, I n)]) (fun _ => []) (fun k => k ≤ l.length ∧ rPl n 0 l = rPl n k (l.drop k)) (fun k => l.length - k) 0 (fun _ _ => rfl) 0 ⟨by simp, by simp⟩ rfl (.cons rfl rfl (.cons rfl rfl (.cons rfl rfl (.cons rfl rfl (.nil))))) ?_
  rintro k ⟨hk1, hy⟩
  by_cases hlt : k < l.length
  · rw [drop_cons hlt, rPl] at hy
    repeat' (first
    | (refine W.cond rfl ?_ ?_ <;> intro hb <;> try simp at hb)
    | refine goO ?_
    | refine goN ?_
    | (refine WO.gs _ rfl rfl rfl ?_ ?_ <;> intro hb <;> simp only [hb] <;> try simp at hb))
    all_goals first
      | (exfalso; omega)
      | (rw [if_pos (by assumption)] at hy
         refine ⟨.inr rfl, _, _, rfl, .cons (.c (.id rfl)) .nil, ?_⟩; rw [hy]; rfl)
      | (rw [if_neg (by assumption)] at hy
         exact ⟨k + 1, ⟨by omega, hy⟩, by omega, (.cons rfl rfl (.cons rfl rfl (.cons rfl rfl (.cons rfl rfl (.nil))))), rfl, rfl⟩)
  · repeat' (first
    | (refine W.cond rfl ?_ ?_ <;> intro hb <;> try simp at hb)
    | refine goO ?_
    | refine goN ?_
    | (refine WO.gs _ rfl rfl rfl ?_ ?_ <;> intro hb <;> simp only [hb] <;> try simp at hb))
    all_goals first
      | (exfalso; omega)
      | (refine ⟨.inr rfl, _, _, rfl, .cons (.c (.id rfl)) .nil, ?_⟩; rw [hy, drop_nil (by omega)]; rfl)
end Go.YtamlleimfopmhaaMc
namespace Go.YtamlleimfopmhaaMc
open Go.Proofs
theorem shardNum_ok (n : Int) : Pu Try.prog 107 [I n] (B (inR n 0 7)) := by
  refine Pu.of D Try.func107 rfl rfl rfl ?_
  repeat' (first
    | (refine W.cond rfl ?_ ?_ <;> intro hb <;> try simp at hb)
    | refine goO ?_
    | refine goS ?_
    | (refine WO.gs _ rfl rfl rfl ?_ ?_ <;> intro hb <;> simp only [hb] <;> try simp at hb))
  all_goals refine ⟨.inr rfl, _, _, rfl, .cons (.c (.id rfl)) .nil, ?_⟩
  all_goals first | (simp_all [resV, X.v, inR]; done) | (simp [resV, X.v, inR] at *; grind) | (simp [resV, X.v, inR] at *; omega)
def spans (l : List Rou) : List Iv := l.map (·.span)
theorem spans_take {l : List Rou} {k : Nat} (h : k < l.length) : spans (l.take (k + 1)) = spans (l.take k) ++ [l[k].span] := by
  unfold spans; rw [List.take_succ_eq_append_getElem h, List.map_append]; rfl
set_option maxHeartbeats 1000000 in
theorem spans_impl (l : List Rou) (hl : l.length ≤ 1000) : Pu Try.prog 99 [L Rou.e l] (L Iv.e (spans l)) := by
  refine Pu.of D Try.func99 rfl rfl rfl ?_
  repeat' (first
    | (refine W.cond rfl ?_ ?_ <;> intro hb <;> try simp at hb)
    | refine goO ?_
    | refine goN ?_
    | (refine WO.gs _ rfl rfl rfl ?_ ?_ <;> intro hb <;> simp only [hb] <;> try simp at hb))
  refine W.ghe Iv.e 3 2 (by decide) rfl ?_
  refine W.loop (σ := Nat) (fun k => [(8, I k), (7, I l.length), (6, L Rou.e l), (3, .c (.sl 0 (spans (l.take k)).length 0 (spans (l.take k)).length))]) (fun k => [.arr (Rs Iv.e (spans (l.take k))) 2]) (fun k => k ≤ l.length) (fun k => l.length - k) 1 (fun _ _ => rfl) 0 (by simp) rfl (.cons rfl rfl (.cons rfl rfl (.cons rfl rfl (.cons rfl rfl (.nil))))) ?_
  intro k hk
  by_cases hlt : k < l.length
  · have h1 : (spans (l.take k)).length = k := by simp [spans]; omega
    have h2 := spans_take hlt
    repeat' (first
    | (refine W.cond rfl ?_ ?_ <;> intro hb <;> try simp at hb)
    | refine OpK.of (OpOk.bldF D [l[k].span] Iv.e rfl rfl rfl rfl (by decide) (by decide) (by decide) rfl rfl rfl) ?_
    | refine OpK.of (OpOk.apM D rfl rfl rfl rfl rfl rfl rfl rfl (by first | rfl | simp) rfl rfl (fun _ => rfl) (by first | assumption | omega | (simp; omega)) (by decide)) ?_
    | refine goO ?_
    | refine goS ?_
    | (refine WO.gs _ rfl rfl rfl ?_ ?_ <;> intro hb <;> simp only [hb] <;> try simp at hb))
    all_goals first
      | (exfalso; omega)
      | exact ⟨k + 1, hlt, by omega, by dsimp only; rw [h2]; exact (.cons rfl rfl (.cons rfl rfl (.cons rfl rfl (.cons rfl rfl (.nil))))), by dsimp only; rw [h2]; rfl, LH.lows (by repeat' (first | exact .nil | refine .box rfl ?_ | refine .arr (rs_low _ _ _) ?_ | refine .dead ?_ | fail))⟩
  · repeat' (first
    | (refine W.cond rfl ?_ ?_ <;> intro hb <;> try simp at hb)
    | refine goO ?_
    | refine goS ?_
    | (refine WO.gs _ rfl rfl rfl ?_ ?_ <;> intro hb <;> simp only [hb] <;> try simp at hb))
    all_goals first
      | (exfalso; omega)
      | (refine ⟨.inr rfl, _, _, rfl, .cons (.c (by first | exact .emp | exact .full rfl rfl rfl | exact .id rfl | fail)) (.nil), ?_⟩; simp only [resV, X.v]; rw [List.take_of_length_le (by omega)])
def freshAt (l : List Rou) (k : Nat) : Bool := match l[k]? with | none => true | some r => inR r.num 0 7 && !((l.take k).any fun q => decide (q.num = r.num))
theorem freshAt_eq {l : List Rou} {k : Nat} (h : k < l.length) : freshAt l k = (inR l[k].num 0 7 && !((l.take k).any fun q => decide (q.num = l[k].num))) := by
  unfold freshAt; rw [List.getElem?_eq_getElem h]
def numsOk (l : List Rou) : Bool := (List.range l.length).all (freshAt l)
theorem rng_drop {n k : Nat} (h : k < n) : (List.range n).drop k = k :: (List.range n).drop (k + 1) := by
  have : k < (List.range n).length := by simpa using h
  rw [drop_cons this]; simp
set_option maxHeartbeats 1000000 in
theorem nums_impl (l : List Rou) (hl : l.length ≤ 1048576) : Pu Try.prog 103 [L Rou.e l] (B (numsOk l)) := by
  refine Pu.of D Try.func103 rfl rfl rfl ?_
  repeat' (first
    | (refine W.cond rfl ?_ ?_ <;> intro hb <;> try simp at hb)
    | refine goO ?_
    | refine goN ?_
    | (refine WO.gs _ rfl rfl rfl ?_ ?_ <;> intro hb <;> simp only [hb] <;> try simp at hb)
    | (refine WD.gs _ rfl rfl rfl ?_ ?_ <;> intro hb <;> simp only [hb] <;> try simp at hb))
  refine W.loop (σ := Nat) (fun k => [(7, I k), (6, I l.length), (5, L Rou.e l), (0, L Rou.e l)]) (fun _ => []) (fun k => k ≤ l.length ∧ numsOk l = ((List.range l.length).drop k).all (freshAt l)) (fun k => l.length - k) 0 (fun _ _ => rfl) 0 ⟨by simp, by simp [numsOk]⟩ rfl (.cons rfl rfl (.cons rfl rfl (.cons rfl rfl (.cons rfl rfl (.nil))))) ?_
  rintro k ⟨hk1, hy⟩
  by_cases hlt : k < l.length
  · rw [rng_drop hlt, List.all_cons, freshAt_eq hlt] at hy
    have ep := rPlace_ok (l.take k) l[k].num (by simp; omega)
    have er : decide (rPl l[k].num 0 (l.take k) ≥ 0) = (l.take k).any fun q => decide (q.num = l[k].num) := rPl_some
    repeat' (first
    | (refine W.cond rfl ?_ ?_ <;> intro hb <;> try simp at hb)
    | refine cl (shardNum_ok l[k].num) ?_
    | refine cl (ep) ?_
    | refine OpK.of (OpOk.slMt D rfl rfl rfl rfl rfl (fun _ => rfl) rfl (by omega)) ?_
    | refine OpD.of (OpOk.slMt D rfl rfl rfl rfl rfl (fun _ => rfl) rfl (by omega)) ?_
    | refine goO ?_
    | refine goN ?_
    | (refine WO.gs _ rfl rfl rfl ?_ ?_ <;> intro hb <;> simp only [hb] <;> try simp at hb)
    | (refine WD.gs _ rfl rfl rfl ?_ ?_ <;> intro hb <;> simp only [hb] <;> try simp at hb))
    all_goals first
      | (exfalso; omega)
      | (refine ⟨.inr rfl, _, _, rfl, .cons (.c (.id rfl)) .nil, ?_⟩; have hb2 : (inR l[k].num 0 7 && !((l.take k).any fun q => decide (q.num = l[k].num))) = false := by rw [← er]; first | (simp_all; done) | (simp at *; grind)
         rw [hy, hb2, Bool.false_and]; rfl)
      | (have hb2 : (inR l[k].num 0 7 && !((l.take k).any fun q => decide (q.num = l[k].num))) = true := by rw [← er]; first | (simp_all; done) | (simp at *; grind)
         rw [hb2, Bool.true_and] at hy
         exact ⟨k + 1, ⟨by omega, hy⟩, by omega, (.cons rfl rfl (.cons rfl rfl (.cons rfl rfl (.cons rfl rfl (.nil))))), rfl, rfl⟩)
  · repeat' (first
    | (refine W.cond rfl ?_ ?_ <;> intro hb <;> try simp at hb)
    | refine goO ?_
    | refine goN ?_
    | (refine WO.gs _ rfl rfl rfl ?_ ?_ <;> intro hb <;> simp only [hb] <;> try simp at hb)
    | (refine WD.gs _ rfl rfl rfl ?_ ?_ <;> intro hb <;> simp only [hb] <;> try simp at hb))
    all_goals first
      | (exfalso; omega)
      | (refine ⟨.inr rfl, _, _, rfl, .cons (.c (.id rfl)) .nil, ?_⟩; rw [hy, drop_nil (by simpa using hlt)]; rfl)
end Go.YtamlleimfopmhaaMc
