/- The law FnExactGiveUp returns true at every input, and leaves its arguments as they read; under no condition. Written by a program of this session. -/
import Derived.Test.YtkjkokljgbpbbaaRows
import Derived.Test.YtkjkokljgbpbbaaPFnExactGiveUpx12
import Derived.Test.YtkjkokljgbpbbaaPureFnExactGiveUp
import Derived.Test.YtkjkokljgbpbbaaVFnExactGiveUp
import Derived.WalkKit
import Derived.ProofKit
import Derived.OpenShut
import Derived.ShutString
import Derived.ChangeOld
import Derived.Below
import Derived.SizedLaws
namespace Go.Proofs.Ytkjkokljgbpbbaa.fnExactGiveUp
open Go.ChangeShapes Go.WideShapes Go.ChangeAt Go.RowKit Go.Proofs.Ytkjkokljgbpbbaa.Open Go.Proofs.Ytkjkokljgbpbbaa.PFnExactGiveUp Go.Proofs.YtkjkokljgbpbbaaW.PrintWords Go.Proofs.YtkjkokljgbpbbaaW.PrintLast Go.Proofs.YtkjkokljgbpbbaaW.PrintMore
open Go.ChangeMaps (open_string shut_string)
set_option linter.unusedVariables false
theorem own : ownKnob Try.prog.godebug = none := by kernel_rfl
theorem laidOut : laidOutB Try.prog = true := by kernel_rfl
theorem opens72 : Opens Try.prog 72 k72 okS72 := Opens.weaken (opens_struct (fun a => ⟨a.1, a.2⟩) (fun _ => rfl) Try.underlying72 (by kernel_rfl) (opensF_cons (by rfl) (by kernel_rfl) (opens_string Try.underlying9) (opensF_one (by rfl) (by kernel_rfl) (opens_string Try.underlying9)))) (fun _ h => h)
theorem opens74 : Opens Try.prog 74 k74 okS74 := Opens.weaken (opens_struct (fun a => ⟨a.1, a.2⟩) (fun _ => rfl) Try.underlying74 (by kernel_rfl) (opensF_cons (by rfl) (by kernel_rfl) (opens_int Try.underlying3) (opensF_one (by rfl) (by kernel_rfl) opens72))) (fun _ h => h)
theorem opens58 : Opens Try.prog 58 k58 okS58 := Opens.weaken (opens_struct (fun a => ⟨a.1, a.2.1, a.2.2.1, a.2.2.2⟩) (fun _ => rfl) Try.underlying58 (by kernel_rfl) (opensF_cons (by rfl) (by kernel_rfl) (opens_int Try.underlying3) (opensF_cons (by rfl) (by kernel_rfl) (opens_string Try.underlying9) (opensF_cons (by rfl) (by kernel_rfl) (opens_int Try.underlying3) (opensF_one (by rfl) (by kernel_rfl) (opens_int Try.underlying3)))))) (fun _ h => h)
theorem opens60 : Opens Try.prog 60 k60 okS60 := Opens.weaken (opens_struct (fun a => ⟨a.1, a.2.1, a.2.2.1, a.2.2.2.1, a.2.2.2.2⟩) (fun _ => rfl) Try.underlying60 (by kernel_rfl) (opensF_cons (by rfl) (by kernel_rfl) (opens_slice Try.underlying57 (by kernel_rfl) opens74) (opensF_cons (by rfl) (by kernel_rfl) (opens_int Try.underlying3) (opensF_cons (by rfl) (by kernel_rfl) (opens_bool Try.underlying4) (opensF_cons (by rfl) (by kernel_rfl) opens58 (opensF_one (by rfl) (by kernel_rfl) (opens_int Try.underlying3))))))) (fun _ h => h)
set_option maxRecDepth 100000 in
theorem lifted (os : Os) (started : os.Started) (H : Type) (enc : TypeId × Value → H) :
    ReturnsInHanded {} Try.checked os 7 .any (Rows.fnExactGiveUpSpec.pre6 enc Try.prog Try.f7 Rows.fnExactGiveUpRow.domain false) (Rows.fnExactGiveUpSpec.post enc Try.prog Try.f7 false true false false) := by
  refine returnsInHanded_of_change_sized (C := Try.checked) own started (by kernel_rfl) Try.func7
    (ChangeSpec.witness6 (enc := enc) (C := Try.checked) false ⟨#[], #[(.agg #[(.slice none 0 0), (.int .i64 0), (.bool false), (.int .i64 0), (.string ⟨#[]⟩), (.int .i64 0), (.int .i64 0), (.int .i64 0)])], []⟩ 8 (by kernel_rfl) (by kernel_rfl) (by kernel_rfl) (by kernel_rfl)) ?_
  intro W base args ds gs before hval0 hW hcnd hsz0 _
  have hval : ∀ (j : Nat) t v, Try.f7.params[j]? = some t → args[j]? = some v → Value.okWide Try.prog W .any base t v := hval0
  have hW' := hW
  obtain ⟨p, q, hA0, hV, rfl, hfz, hnd⟩ := hW
  have hA : DataW.TrodAll enc Try.prog W 0 (fun _ => true) true Try.f7.params.toList args.toList ds p := hA0
  rw [Try.params7] at hA hval
  obtain ⟨v0, vs0, d0, ds0, p0, q0, hargs, rfl, rfl, h0, r0⟩ := trodAll_cons hA
  obtain ⟨rfl, rfl, rfl⟩ := trodAll_nil r0
  obtain rfl : args = #[v0] := by cases args; simp_all
  obtain ⟨rfl, rfl⟩ := trodVars_none hV
  obtain ⟨cs0, rfl, hz0⟩ := okWide_struct Try.underlying60 (hval 0 60 v0 rfl rfl)
  have k0 := h0
  have lt0 : ∀ x ∈ p0, x.block < W.heap.size := by obtain ⟨m, hm⟩ := k0; exact DataW.trod_lt m _ _ _ hm
  obtain ⟨y0, hk0, ho0⟩ : ∃ y, k60.K W y cs0.toList ∧ okS60 y := by
    obtain ⟨fuel, hf⟩ := h0
    exact opens60 enc W _ _ _ _ _ _ hf
  obtain ⟨A0_0, c0_0, he0, hl0_0, hc0_0⟩ := k60_open hk0
  obtain rfl := (Array.toList_inj.1 (he0.trans (by rfl)) : cs0 = #[.slice A0_0 y0.f0.length c0_0, .int .i64 y0.f1, .bool y0.f2, .int .i64 y0.f3.f0, .string y0.f3.f1, .int .i64 y0.f3.f2, .int .i64 y0.f3.f3, .int .i64 y0.f4])
  obtain ⟨o0_0, o0_1, o0_2, ⟨o0_3_0, o0_3_1, o0_3_2, o0_3_3⟩, o0_4⟩ := ho0
  clear hA0 hval0 hsz0
  obtain ⟨k, hp⟩ := Pure.FnExactGiveUp y0.f0 y0.f1 y0.f2 y0.f3.f0 y0.f3.f1 y0.f3.f2 y0.f3.f3 y0.f4 o0_0 o0_1 o0_3_0 o0_3_1 o0_3_2 o0_3_3 o0_4
  refine (PFnExactGiveUp.laws_FnExactGiveUp.calls k _ _ y0.f0 y0.f1 y0.f2 y0.f3.f0 y0.f3.f1 y0.f3.f2 y0.f3.f3 y0.f4 true W hc0_0 hl0_0 hp).mono ?_
  rintro e W' ⟨he, hd⟩
  have bel : Below W.heap.size W W' := hd
  subst he
  exact ⟨_, rfl, _, _, _, [], _, [], hW', trodAll_mk1 (shut_bool Try.underlying4 _), (trodAll_cons_mk (Below.trod laidOut (by kernel_rfl) (of_decide_eq_true (by kernel_rfl)) k0 bel lt0) trodAll_mk0), rfl, bel.frame _, fun h => by cases h⟩
theorem over : Rows.fnExactGiveUpRow.holds Try.pinned (OpenSpec.ofChange Rows.fnExactGiveUpSpec) :=
  OpenClaim.holds_of_wide 7 Try.f7 rfl rfl rfl rfl rfl rfl rfl ⟨rfl, rfl, rfl, rfl, rfl⟩ rfl rfl rfl rfl rfl (by kernel_rfl) Try.func7 (by kernel_rfl)
    (of_decide_eq_true (by kernel_rfl)) (by unfold Func.isWrapper; first | (rw [if_pos (by decide +kernel)]; kernel_rfl) | (rw [if_neg (by decide +kernel)]; exact ⟨rfl, rfl⟩))
    (fun os started H enc _ => lifted os started H enc)
theorem proved : Rows.FnExactGiveUpSaid := over
#print axioms proved
end Go.Proofs.Ytkjkokljgbpbbaa.fnExactGiveUp
namespace Go.Proofs.Ytkjkokljgbpbbaa
/-- The row, under a short name, for the claim. -/
theorem fnExactGiveUp_holds : Rows.FnExactGiveUpSaid := fnExactGiveUp.proved
end Go.Proofs.Ytkjkokljgbpbbaa
