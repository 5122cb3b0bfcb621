/- The law FnExactRequestOf returns true at every input, and leaves its arguments as they read; under no condition. Written by a program of this session. -/
import Derived.Test.YtinnjgogaidhlaaRows
import Derived.Test.YtinnjgogaidhlaaPFnExactRequestOfx11
import Derived.Test.YtinnjgogaidhlaaPureFnExactRequestOf
import Derived.Test.YtinnjgogaidhlaaVFnExactRequestOf
import Derived.WalkKit
import Derived.ProofKit
import Derived.OpenShut
import Derived.ShutString
import Derived.ChangeOld
import Derived.Below
import Derived.SizedLaws
namespace Go.Proofs.Ytinnjgogaidhlaa.fnExactRequestOf
open Go.ChangeShapes Go.WideShapes Go.ChangeAt Go.RowKit Go.Proofs.Ytinnjgogaidhlaa.Open Go.Proofs.Ytinnjgogaidhlaa.PFnExactRequestOf Go.Proofs.YtinnjgogaidhlaaW.PrintWords Go.Proofs.YtinnjgogaidhlaaW.PrintLast Go.Proofs.YtinnjgogaidhlaaW.PrintMore
open Go.ChangeMaps (open_string shut_string)
set_option linter.unusedVariables false
theorem own : ownKnob Try.prog.godebug = none := by kernel_rfl
theorem laidOut : laidOutB Try.prog = true := by kernel_rfl
theorem opens75 : Opens Try.prog 75 k75 okS75 := Opens.weaken (opens_struct (fun a => ⟨a.1, a.2⟩) (fun _ => rfl) Try.underlying75 (by kernel_rfl) (opensF_cons (by rfl) (by kernel_rfl) (opens_string Try.underlying9) (opensF_one (by rfl) (by kernel_rfl) (opens_string Try.underlying9)))) (fun _ h => h)
theorem opens77 : Opens Try.prog 77 k77 okS77 := Opens.weaken (opens_struct (fun a => ⟨a.1, a.2⟩) (fun _ => rfl) Try.underlying77 (by kernel_rfl) (opensF_cons (by rfl) (by kernel_rfl) (opens_int Try.underlying3) (opensF_one (by rfl) (by kernel_rfl) opens75))) (fun _ h => h)
theorem opens50 : Opens Try.prog 50 k50 okS50 := Opens.weaken (opens_struct (fun a => ⟨a.1, a.2.1, a.2.2.1, a.2.2.2⟩) (fun _ => rfl) Try.underlying50 (by kernel_rfl) (opensF_cons (by rfl) (by kernel_rfl) (opens_int Try.underlying3) (opensF_cons (by rfl) (by kernel_rfl) (opens_string Try.underlying9) (opensF_cons (by rfl) (by kernel_rfl) (opens_int Try.underlying3) (opensF_one (by rfl) (by kernel_rfl) (opens_int Try.underlying3)))))) (fun _ h => h)
theorem opens52 : Opens Try.prog 52 k52 okS52 := Opens.weaken (opens_struct (fun a => ⟨a.1, a.2.1, a.2.2.1, a.2.2.2.1, a.2.2.2.2⟩) (fun _ => rfl) Try.underlying52 (by kernel_rfl) (opensF_cons (by rfl) (by kernel_rfl) (opens_slice Try.underlying22 (by kernel_rfl) opens77) (opensF_cons (by rfl) (by kernel_rfl) (opens_int Try.underlying3) (opensF_cons (by rfl) (by kernel_rfl) (opens_bool Try.underlying4) (opensF_cons (by rfl) (by kernel_rfl) opens50 (opensF_one (by rfl) (by kernel_rfl) (opens_int Try.underlying3))))))) (fun _ h => h)
set_option maxRecDepth 100000 in
theorem lifted (os : Os) (started : os.Started) (H : Type) (enc : TypeId × Value → H) :
    ReturnsInHanded {} Try.checked os 13 .any (Rows.fnExactRequestOfSpec.pre6 enc Try.prog Try.f13 Rows.fnExactRequestOfRow.domain false) (Rows.fnExactRequestOfSpec.post enc Try.prog Try.f13 false true false false) := by
  refine returnsInHanded_of_change_sized (C := Try.checked) own started (by kernel_rfl) Try.func13
    (ChangeSpec.witness6 (enc := enc) (C := Try.checked) false ⟨#[], #[(.agg #[(.slice none 0 0), (.int .i64 0), (.bool false), (.int .i64 0), (.string ⟨#[]⟩), (.int .i64 0), (.int .i64 0), (.int .i64 0)]), .int .i64 0], []⟩ 8 (by kernel_rfl) (by kernel_rfl) (by kernel_rfl) (by kernel_rfl)) ?_
  intro W base args ds gs before hval0 hW hcnd hsz0 _
  have hval : ∀ (j : Nat) t v, Try.f13.params[j]? = some t → args[j]? = some v → Value.okWide Try.prog W .any base t v := hval0
  have hW' := hW
  obtain ⟨p, q, hA0, hV, rfl, hfz, hnd⟩ := hW
  have hA : DataW.TrodAll enc Try.prog W 0 (fun _ => true) true Try.f13.params.toList args.toList ds p := hA0
  rw [Try.params13] at hA hval
  obtain ⟨v0, vs0, d0, ds0, p0, q0, hargs, rfl, rfl, h0, r0⟩ := trodAll_cons hA
  obtain ⟨v1, vs1, d1, ds1, p1, q1, rfl, rfl, rfl, h1, r1⟩ := trodAll_cons r0
  obtain ⟨rfl, rfl, rfl⟩ := trodAll_nil r1
  obtain rfl : args = #[v0, v1] := by cases args; simp_all
  obtain ⟨rfl, rfl⟩ := trodVars_none hV
  obtain ⟨cs0, rfl, hz0⟩ := okWide_struct Try.underlying52 (hval 0 52 v0 rfl rfl)
  have k0 := h0
  have lt0 : ∀ x ∈ p0, x.block < W.heap.size := by obtain ⟨m, hm⟩ := k0; exact DataW.trod_lt m _ _ _ hm
  obtain ⟨y0, hk0, ho0⟩ : ∃ y, k52.K W y cs0.toList ∧ okS52 y := by
    obtain ⟨fuel, hf⟩ := h0
    exact opens52 enc W _ _ _ _ _ _ hf
  obtain ⟨A0_0, c0_0, he0, hl0_0, hc0_0⟩ := k52_open hk0
  obtain rfl := (Array.toList_inj.1 (he0.trans (by rfl)) : cs0 = #[.slice A0_0 y0.f0.length c0_0, .int .i64 y0.f1, .bool y0.f2, .int .i64 y0.f3.f0, .string y0.f3.f1, .int .i64 y0.f3.f2, .int .i64 y0.f3.f3, .int .i64 y0.f4])
  obtain ⟨o0_0, o0_1, o0_2, ⟨o0_3_0, o0_3_1, o0_3_2, o0_3_3⟩, o0_4⟩ := ho0
  obtain ⟨a1, rfl, rfl, rfl, w1⟩ := open_int Try.underlying3 (hval 1 3 v1 rfl rfl) h1
  clear hA0 hval0 hsz0
  obtain ⟨k, hp⟩ := Pure.FnExactRequestOf y0.f0 y0.f1 y0.f2 y0.f3.f0 y0.f3.f1 y0.f3.f2 y0.f3.f3 y0.f4 a1 o0_0 o0_1 o0_3_0 o0_3_1 o0_3_2 o0_3_3 o0_4 w1
  refine (PFnExactRequestOf.laws_FnExactRequestOf.calls k _ _ y0.f0 y0.f1 y0.f2 y0.f3.f0 y0.f3.f1 y0.f3.f2 y0.f3.f3 y0.f4 a1 true W hc0_0 hl0_0 hp).mono ?_
  rintro e W' ⟨he, hd⟩
  have bel : Below W.heap.size W W' := hd
  subst he
  exact ⟨_, rfl, _, _, _, [], _, [], hW', trodAll_mk1 (shut_bool Try.underlying4 _), (trodAll_cons_mk (Below.trod laidOut (by kernel_rfl) (of_decide_eq_true (by kernel_rfl)) k0 bel lt0) (trodAll_cons_mk (shut_int Try.underlying3 w1) trodAll_mk0)), rfl, bel.frame _, fun h => by cases h⟩
theorem over : Rows.fnExactRequestOfRow.holds Try.pinned (OpenSpec.ofChange Rows.fnExactRequestOfSpec) :=
  OpenClaim.holds_of_wide 13 Try.f13 rfl rfl rfl rfl rfl rfl rfl ⟨rfl, rfl, rfl, rfl, rfl⟩ rfl rfl rfl rfl rfl (by kernel_rfl) Try.func13 (by kernel_rfl)
    (of_decide_eq_true (by kernel_rfl)) (by unfold Func.isWrapper; first | (rw [if_pos (by decide +kernel)]; kernel_rfl) | (rw [if_neg (by decide +kernel)]; exact ⟨rfl, rfl⟩))
    (fun os started H enc _ => lifted os started H enc)
theorem proved : Rows.FnExactRequestOfSaid := over
#print axioms proved
end Go.Proofs.Ytinnjgogaidhlaa.fnExactRequestOf
namespace Go.Proofs.Ytinnjgogaidhlaa
/-- The row, under a short name, for the claim. -/
theorem fnExactRequestOf_holds : Rows.FnExactRequestOfSaid := fnExactRequestOf.proved
end Go.Proofs.Ytinnjgogaidhlaa
