/- Go functions as plain Lean functions, and for each a proof that its call comes to what the function says; under the conditions that each theorem names. Written by a program of this session. -/
import Derived.Test.YtkjkokljgbpbbaaPFnGiveUpx0
namespace Go.Proofs.Ytkjkokljgbpbbaa.PFnGiveUp
open Go.RowKit Go.Proofs.YtkjkokljgbpbbaaW.PrintWords Go.Proofs.YtkjkokljgbpbbaaW.PrintLast Go.Proofs.YtkjkokljgbpbbaaW.PrintMore
attribute [local go_sem high] str_gtr str_leq str_geq
attribute [local go_sem] max2_int min2_int max_two min_two max_three min_three max_four min_four   -- for this text's walks alone
set_option linter.unusedVariables false
set_option linter.unusedSimpArgs false

theorem eqA31 (d : Nat) (w : World) (x0 y0 : ByteArray) (x1 y1 : ByteArray) :
    (Op.equalIn (d + 2) 31 (.agg #[.string x0, .string x1]) (.agg #[.string y0, .string y1])).run Try.prog w = .ok (x0.toList == y0.toList && (x1.toList == y1.toList)) w := by
  refine eqA_of Try.underlying31 (by kernel_rfl) ?_
  refine eqf_cons (by rfl) (by go_simp; rfl) (by go_simp; rfl) (by go_simp) ?_
  exact eqf_last (by rfl) (by go_simp; rfl) (by go_simp; rfl) (by go_simp)
theorem eqA35 (d : Nat) (w : World) (x0 y0 : Int) (x1 y1 : ByteArray) (x2 y2 : ByteArray) :
    (Op.equalIn (d + 3) 35 (.agg #[.int .i64 x0, .string x1, .string x2]) (.agg #[.int .i64 y0, .string y1, .string y2])).run Try.prog w = .ok (x0 == y0 && ((x1.toList == y1.toList && (x2.toList == y2.toList)))) w := by
  refine eqA_of Try.underlying35 (by kernel_rfl) ?_
  refine eqf_cons (by rfl) (by go_simp; rfl) (by go_simp; rfl) (by go_simp) ?_
  exact eqf_last (by rfl) (by go_simp) (by go_simp) (eqA31 (d + 0) w _ _ _ _)
end Go.Proofs.Ytkjkokljgbpbbaa.PFnGiveUp
