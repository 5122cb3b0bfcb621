/- The law FnExactPlanValid returns true at every input, and leaves its arguments as they read; under no condition. Written by a program of this session. -/
import Derived.Test.YtoajkkfnblpnlaaRows
import Derived.Test.YtoajkkfnblpnlaaPFnExactPlanValidx3
import Derived.Test.YtoajkkfnblpnlaaPureFnExactPlanValid
import Derived.Test.YtoajkkfnblpnlaaVFnExactPlanValid
import Derived.WalkKit
import Derived.ProofKit
import Derived.OpenShut
import Derived.ShutString
import Derived.ChangeOld
import Derived.Below
import Derived.SizedLaws
namespace Go.Proofs.Ytoajkkfnblpnlaa.fnExactPlanValid
open Go.ChangeShapes Go.WideShapes Go.ChangeAt Go.RowKit Go.Proofs.Ytoajkkfnblpnlaa.Open Go.Proofs.Ytoajkkfnblpnlaa.PFnExactPlanValid Go.Proofs.YtoajkkfnblpnlaaW.PrintWords Go.Proofs.YtoajkkfnblpnlaaW.PrintLast Go.Proofs.YtoajkkfnblpnlaaW.PrintMore
open Go.ChangeMaps (open_string shut_string)
set_option linter.unusedVariables false
theorem own : ownKnob Try.prog.godebug = none := by kernel_rfl
theorem laidOut : laidOutB Try.prog = true := by kernel_rfl
theorem opens23 : Opens Try.prog 23 k23 okS23 := Opens.weaken (opens_struct (fun a => ⟨a.1, a.2.1, a.2.2.1, a.2.2.2.1, a.2.2.2.2.1, a.2.2.2.2.2.1, a.2.2.2.2.2.2⟩) (fun _ => rfl) Try.underlying23 (by kernel_rfl) (opensF_cons (by rfl) (by kernel_rfl) (opens_int Try.underlying3) (opensF_cons (by rfl) (by kernel_rfl) (opens_int Try.underlying3) (opensF_cons (by rfl) (by kernel_rfl) (opens_int Try.underlying3) (opensF_cons (by rfl) (by kernel_rfl) (opens_string Try.underlying9) (opensF_cons (by rfl) (by kernel_rfl) (opens_int Try.underlying3) (opensF_cons (by rfl) (by kernel_rfl) (opens_int Try.underlying3) (opensF_one (by rfl) (by kernel_rfl) (opens_int Try.underlying3))))))))) (fun _ h => h)
set_option maxRecDepth 100000 in
theorem lifted (os : Os) (started : os.Started) (H : Type) (enc : TypeId × Value → H) :
    ReturnsInHanded {} Try.checked os 3 .any (Rows.fnExactPlanValidSpec.pre6 enc Try.prog Try.f3 Rows.fnExactPlanValidRow.domain false) (Rows.fnExactPlanValidSpec.post enc Try.prog Try.f3 false true false false) := by
  refine returnsInHanded_of_change_sized (C := Try.checked) own started (by kernel_rfl) Try.func3
    (ChangeSpec.witness6 (enc := enc) (C := Try.checked) false ⟨#[], #[(.agg #[(.int .i64 0), (.int .i64 0), (.int .i64 0), (.string ⟨#[]⟩), (.int .i64 0), (.int .i64 0), (.int .i64 0)])], []⟩ 8 (by kernel_rfl) (by kernel_rfl) (by kernel_rfl) (by kernel_rfl)) ?_
  intro W base args ds gs before hval0 hW hcnd hsz0 _
  have hval : ∀ (j : Nat) t v, Try.f3.params[j]? = some t → args[j]? = some v → Value.okWide Try.prog W .any base t v := hval0
  have hW' := hW
  obtain ⟨p, q, hA0, hV, rfl, hfz, hnd⟩ := hW
  have hA : DataW.TrodAll enc Try.prog W 0 (fun _ => true) true Try.f3.params.toList args.toList ds p := hA0
  rw [Try.params3] at hA hval
  obtain ⟨v0, vs0, d0, ds0, p0, q0, hargs, rfl, rfl, h0, r0⟩ := trodAll_cons hA
  obtain ⟨rfl, rfl, rfl⟩ := trodAll_nil r0
  obtain rfl : args = #[v0] := by cases args; simp_all
  obtain ⟨rfl, rfl⟩ := trodVars_none hV
  obtain ⟨cs0, rfl, hz0⟩ := okWide_struct Try.underlying23 (hval 0 23 v0 rfl rfl)
  have k0 := h0
  have lt0 : ∀ x ∈ p0, x.block < W.heap.size := by obtain ⟨m, hm⟩ := k0; exact DataW.trod_lt m _ _ _ hm
  obtain ⟨y0, hk0, ho0⟩ : ∃ y, k23.K W y cs0.toList ∧ okS23 y := by
    obtain ⟨fuel, hf⟩ := h0
    exact opens23 enc W _ _ _ _ _ _ hf
  have he0 := k23_open hk0
  obtain rfl := (Array.toList_inj.1 (he0.trans (by rfl)) : cs0 = #[.int .i64 y0.f0, .int .i64 y0.f1, .int .i64 y0.f2, .string y0.f3, .int .i64 y0.f4, .int .i64 y0.f5, .int .i64 y0.f6])
  obtain ⟨o0_0, o0_1, o0_2, o0_3, o0_4, o0_5, o0_6⟩ := ho0
  clear hA0 hval0 hsz0
  obtain ⟨k, hp⟩ := Pure.FnExactPlanValid y0.f0 y0.f1 y0.f2 y0.f3 y0.f4 y0.f5 y0.f6 o0_0 o0_1 o0_2 o0_3 o0_4 o0_5 o0_6
  refine (PFnExactPlanValid.laws_FnExactPlanValid.calls k y0.f0 y0.f1 y0.f2 y0.f3 y0.f4 y0.f5 y0.f6 true W  hp).mono ?_
  rintro e W' ⟨he, hd⟩
  have bel : Below W.heap.size W W' := hd
  subst he
  exact ⟨_, rfl, _, _, _, [], _, [], hW', trodAll_mk1 (shut_bool Try.underlying4 _), (trodAll_cons_mk (Below.trod laidOut (by kernel_rfl) (of_decide_eq_true (by kernel_rfl)) k0 bel lt0) trodAll_mk0), rfl, bel.frame _, fun h => by cases h⟩
theorem over : Rows.fnExactPlanValidRow.holds Try.pinned (OpenSpec.ofChange Rows.fnExactPlanValidSpec) :=
  OpenClaim.holds_of_wide 3 Try.f3 rfl rfl rfl rfl rfl rfl rfl ⟨rfl, rfl, rfl, rfl, rfl⟩ rfl rfl rfl rfl rfl (by kernel_rfl) Try.func3 (by kernel_rfl)
    (of_decide_eq_true (by kernel_rfl)) (by unfold Func.isWrapper; first | (rw [if_pos (by decide +kernel)]; kernel_rfl) | (rw [if_neg (by decide +kernel)]; exact ⟨rfl, rfl⟩))
    (fun os started H enc _ => lifted os started H enc)
theorem proved : Rows.FnExactPlanValidSaid := over
#print axioms proved
end Go.Proofs.Ytoajkkfnblpnlaa.fnExactPlanValid
namespace Go.Proofs.Ytoajkkfnblpnlaa
/-- The row, under a short name, for the claim. -/
theorem fnExactPlanValid_holds : Rows.FnExactPlanValidSaid := fnExactPlanValid.proved
end Go.Proofs.Ytoajkkfnblpnlaa
