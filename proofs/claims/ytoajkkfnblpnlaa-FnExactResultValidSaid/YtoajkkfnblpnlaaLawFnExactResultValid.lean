/- The law FnExactResultValid returns true at every input, and leaves its arguments as they read; under no condition. Written by a program of this session. -/
import Derived.Test.YtoajkkfnblpnlaaRows
import Derived.Test.YtoajkkfnblpnlaaPFnExactResultValidx3
import Derived.Test.YtoajkkfnblpnlaaPureFnExactResultValid
import Derived.Test.YtoajkkfnblpnlaaVFnExactResultValid
import Derived.WalkKit
import Derived.ProofKit
import Derived.OpenShut
import Derived.ShutString
import Derived.ChangeOld
import Derived.Below
import Derived.SizedLaws
namespace Go.Proofs.Ytoajkkfnblpnlaa.fnExactResultValid
open Go.ChangeShapes Go.WideShapes Go.ChangeAt Go.RowKit Go.Proofs.Ytoajkkfnblpnlaa.Open Go.Proofs.Ytoajkkfnblpnlaa.PFnExactResultValid Go.Proofs.YtoajkkfnblpnlaaW.PrintWords Go.Proofs.YtoajkkfnblpnlaaW.PrintLast Go.Proofs.YtoajkkfnblpnlaaW.PrintMore
open Go.ChangeMaps (open_string shut_string)
set_option linter.unusedVariables false
theorem own : ownKnob Try.prog.godebug = none := by kernel_rfl
theorem laidOut : laidOutB Try.prog = true := by kernel_rfl
theorem opens36 : Opens Try.prog 36 k36 okS36 := Opens.weaken (opens_struct (fun a => ⟨a.1, a.2.1, a.2.2.1, a.2.2.2⟩) (fun _ => rfl) Try.underlying36 (by kernel_rfl) (opensF_cons (by rfl) (by kernel_rfl) (opens_int Try.underlying3) (opensF_cons (by rfl) (by kernel_rfl) (opens_string Try.underlying9) (opensF_cons (by rfl) (by kernel_rfl) (opens_int Try.underlying3) (opensF_one (by rfl) (by kernel_rfl) (opens_int Try.underlying3)))))) (fun _ h => h)
theorem opens38 : Opens Try.prog 38 k38 okS38 := Opens.weaken (opens_struct (fun a => ⟨a.1, a.2.1, a.2.2.1, a.2.2.2.1, a.2.2.2.2.1, a.2.2.2.2.2⟩) (fun _ => rfl) Try.underlying38 (by kernel_rfl) (opensF_cons (by rfl) (by kernel_rfl) (opens_int Try.underlying3) (opensF_cons (by rfl) (by kernel_rfl) (opens_int Try.underlying3) (opensF_cons (by rfl) (by kernel_rfl) opens36 (opensF_cons (by rfl) (by kernel_rfl) (opens_int Try.underlying3) (opensF_cons (by rfl) (by kernel_rfl) (opens_int Try.underlying3) (opensF_one (by rfl) (by kernel_rfl) (opens_int Try.underlying3)))))))) (fun _ h => h)
set_option maxRecDepth 100000 in
theorem lifted (os : Os) (started : os.Started) (H : Type) (enc : TypeId × Value → H) :
    ReturnsInHanded {} Try.checked os 5 .any (Rows.fnExactResultValidSpec.pre6 enc Try.prog Try.f5 Rows.fnExactResultValidRow.domain false) (Rows.fnExactResultValidSpec.post enc Try.prog Try.f5 false true false false) := by
  refine returnsInHanded_of_change_sized (C := Try.checked) own started (by kernel_rfl) Try.func5
    (ChangeSpec.witness6 (enc := enc) (C := Try.checked) false ⟨#[], #[(.agg #[(.int .i64 0), (.int .i64 0), (.int .i64 0), (.string ⟨#[]⟩), (.int .i64 0), (.int .i64 0), (.int .i64 0), (.int .i64 0), (.int .i64 0)])], []⟩ 8 (by kernel_rfl) (by kernel_rfl) (by kernel_rfl) (by kernel_rfl)) ?_
  intro W base args ds gs before hval0 hW hcnd hsz0 _
  have hval : ∀ (j : Nat) t v, Try.f5.params[j]? = some t → args[j]? = some v → Value.okWide Try.prog W .any base t v := hval0
  have hW' := hW
  obtain ⟨p, q, hA0, hV, rfl, hfz, hnd⟩ := hW
  have hA : DataW.TrodAll enc Try.prog W 0 (fun _ => true) true Try.f5.params.toList args.toList ds p := hA0
  rw [Try.params5] at hA hval
  obtain ⟨v0, vs0, d0, ds0, p0, q0, hargs, rfl, rfl, h0, r0⟩ := trodAll_cons hA
  obtain ⟨rfl, rfl, rfl⟩ := trodAll_nil r0
  obtain rfl : args = #[v0] := by cases args; simp_all
  obtain ⟨rfl, rfl⟩ := trodVars_none hV
  obtain ⟨cs0, rfl, hz0⟩ := okWide_struct Try.underlying38 (hval 0 38 v0 rfl rfl)
  have k0 := h0
  have lt0 : ∀ x ∈ p0, x.block < W.heap.size := by obtain ⟨m, hm⟩ := k0; exact DataW.trod_lt m _ _ _ hm
  obtain ⟨y0, hk0, ho0⟩ : ∃ y, k38.K W y cs0.toList ∧ okS38 y := by
    obtain ⟨fuel, hf⟩ := h0
    exact opens38 enc W _ _ _ _ _ _ hf
  have he0 := k38_open hk0
  obtain rfl := (Array.toList_inj.1 (he0.trans (by rfl)) : cs0 = #[.int .i64 y0.f0, .int .i64 y0.f1, .int .i64 y0.f2.f0, .string y0.f2.f1, .int .i64 y0.f2.f2, .int .i64 y0.f2.f3, .int .i64 y0.f3, .int .i64 y0.f4, .int .i64 y0.f5])
  obtain ⟨o0_0, o0_1, ⟨o0_2_0, o0_2_1, o0_2_2, o0_2_3⟩, o0_3, o0_4, o0_5⟩ := ho0
  clear hA0 hval0 hsz0
  obtain ⟨k, hp⟩ := Pure.FnExactResultValid y0.f0 y0.f1 y0.f2.f0 y0.f2.f1 y0.f2.f2 y0.f2.f3 y0.f3 y0.f4 y0.f5 o0_0 o0_1 o0_2_0 o0_2_1 o0_2_2 o0_2_3 o0_3 o0_4 o0_5
  refine (PFnExactResultValid.laws_FnExactResultValid.calls k y0.f0 y0.f1 y0.f2.f0 y0.f2.f1 y0.f2.f2 y0.f2.f3 y0.f3 y0.f4 y0.f5 true W  hp).mono ?_
  rintro e W' ⟨he, hd⟩
  have bel : Below W.heap.size W W' := hd
  subst he
  exact ⟨_, rfl, _, _, _, [], _, [], hW', trodAll_mk1 (shut_bool Try.underlying4 _), (trodAll_cons_mk (Below.trod laidOut (by kernel_rfl) (of_decide_eq_true (by kernel_rfl)) k0 bel lt0) trodAll_mk0), rfl, bel.frame _, fun h => by cases h⟩
theorem over : Rows.fnExactResultValidRow.holds Try.pinned (OpenSpec.ofChange Rows.fnExactResultValidSpec) :=
  OpenClaim.holds_of_wide 5 Try.f5 rfl rfl rfl rfl rfl rfl rfl ⟨rfl, rfl, rfl, rfl, rfl⟩ rfl rfl rfl rfl rfl (by kernel_rfl) Try.func5 (by kernel_rfl)
    (of_decide_eq_true (by kernel_rfl)) (by unfold Func.isWrapper; first | (rw [if_pos (by decide +kernel)]; kernel_rfl) | (rw [if_neg (by decide +kernel)]; exact ⟨rfl, rfl⟩))
    (fun os started H enc _ => lifted os started H enc)
theorem proved : Rows.FnExactResultValidSaid := over
#print axioms proved
end Go.Proofs.Ytoajkkfnblpnlaa.fnExactResultValid
namespace Go.Proofs.Ytoajkkfnblpnlaa
/-- The row, under a short name, for the claim. -/
theorem fnExactResultValid_holds : Rows.FnExactResultValidSaid := fnExactResultValid.proved
end Go.Proofs.Ytoajkkfnblpnlaa
