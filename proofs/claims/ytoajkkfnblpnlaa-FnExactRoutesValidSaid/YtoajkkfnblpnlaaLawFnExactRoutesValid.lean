/- The law FnExactRoutesValid returns true at every input, and leaves its arguments as they read; under no condition. Written by a program of this session. -/
import Derived.Test.YtoajkkfnblpnlaaRows
import Derived.Test.YtoajkkfnblpnlaaPFnExactRoutesValidx8
import Derived.Test.YtoajkkfnblpnlaaPureFnExactRoutesValid
import Derived.Test.YtoajkkfnblpnlaaVFnExactRoutesValid
import Derived.WalkKit
import Derived.ProofKit
import Derived.OpenShut
import Derived.ShutString
import Derived.ChangeOld
import Derived.Below
import Derived.SizedLaws
namespace Go.Proofs.Ytoajkkfnblpnlaa.fnExactRoutesValid
open Go.ChangeShapes Go.WideShapes Go.ChangeAt Go.RowKit Go.Proofs.Ytoajkkfnblpnlaa.Open Go.Proofs.Ytoajkkfnblpnlaa.PFnExactRoutesValid Go.Proofs.YtoajkkfnblpnlaaW.PrintWords Go.Proofs.YtoajkkfnblpnlaaW.PrintLast Go.Proofs.YtoajkkfnblpnlaaW.PrintMore
open Go.ChangeMaps (open_string shut_string)
set_option linter.unusedVariables false
theorem own : ownKnob Try.prog.godebug = none := by kernel_rfl
theorem laidOut : laidOutB Try.prog = true := by kernel_rfl
theorem opens92 : Opens Try.prog 92 k92 okS92 := Opens.weaken (opens_struct (fun a => ⟨a.1, a.2⟩) (fun _ => rfl) Try.underlying92 (by kernel_rfl) (opensF_cons (by rfl) (by kernel_rfl) (opens_string Try.underlying9) (opensF_one (by rfl) (by kernel_rfl) (opens_string Try.underlying9)))) (fun _ h => h)
theorem opens94 : Opens Try.prog 94 k94 okS94 := Opens.weaken (opens_struct (fun a => ⟨a.1, a.2⟩) (fun _ => rfl) Try.underlying94 (by kernel_rfl) (opensF_cons (by rfl) (by kernel_rfl) (opens_int Try.underlying3) (opensF_one (by rfl) (by kernel_rfl) opens92))) (fun _ h => h)
set_option maxRecDepth 100000 in
theorem lifted (os : Os) (started : os.Started) (H : Type) (enc : TypeId × Value → H) :
    ReturnsInHanded {} Try.checked os 13 .any (Rows.fnExactRoutesValidSpec.pre6 enc Try.prog Try.f13 Rows.fnExactRoutesValidRow.domain false) (Rows.fnExactRoutesValidSpec.post enc Try.prog Try.f13 false true false false) := by
  refine returnsInHanded_of_change_sized (C := Try.checked) own started (by kernel_rfl) Try.func13
    (ChangeSpec.witness6 (enc := enc) (C := Try.checked) false ⟨#[], #[.slice none 0 0], []⟩ 8 (by kernel_rfl) (by kernel_rfl) (by kernel_rfl) (by kernel_rfl)) ?_
  intro W base args ds gs before hval0 hW hcnd hsz0 _
  have hval : ∀ (j : Nat) t v, Try.f13.params[j]? = some t → args[j]? = some v → Value.okWide Try.prog W .any base t v := hval0
  have hW' := hW
  obtain ⟨p, q, hA0, hV, rfl, hfz, hnd⟩ := hW
  have hA : DataW.TrodAll enc Try.prog W 0 (fun _ => true) true Try.f13.params.toList args.toList ds p := hA0
  rw [Try.params13] at hA hval
  obtain ⟨v0, vs0, d0, ds0, p0, q0, hargs, rfl, rfl, h0, r0⟩ := trodAll_cons hA
  obtain ⟨rfl, rfl, rfl⟩ := trodAll_nil r0
  obtain rfl : args = #[v0] := by cases args; simp_all
  obtain ⟨rfl, rfl⟩ := trodVars_none hV
  obtain ⟨a0, len0, cap0, rfl⟩ := okWide_slice Try.underlying56 (hval 0 56 v0 rfl rfl)
  have k0 := h0
  have lt0 : ∀ x ∈ p0, x.block < W.heap.size := by obtain ⟨m, hm⟩ := k0; exact DataW.trod_lt m _ _ _ hm
  obtain ⟨y0, A0, c0, e0, hl0, hc0, hm0, ho0⟩ : ∃ (ys : List (S94)) (A : Option Addr) (c : Nat), [Value.slice a0 len0 cap0] = [.slice A ys.length c] ∧ ys.length ≤ c ∧ Kd.C k94 W A ys.length ys ∧ ys.length ≤ maxLen ∧ ∀ y ∈ ys, okS94 y := by
    obtain ⟨fuel, hf⟩ := h0
    exact slice_parts Try.underlying56 (by kernel_rfl) opens94 enc W _ _ _ _ _ _ hf
  obtain ⟨ea0, en0, ec0⟩ : a0 = A0 ∧ len0 = y0.length ∧ cap0 = c0 := by simpa using e0
  subst ea0; subst en0; subst ec0
  clear hA0 hval0 hsz0
  obtain ⟨k, hp⟩ := Pure.FnExactRoutesValid y0 ⟨hm0, ho0⟩
  refine (PFnExactRoutesValid.laws_FnExactRoutesValid.calls k _ _ y0 true W hc0 hl0 hp).mono ?_
  rintro e W' ⟨he, hd⟩
  have bel : Below W.heap.size W W' := hd
  subst he
  exact ⟨_, rfl, _, _, _, [], _, [], hW', trodAll_mk1 (shut_bool Try.underlying4 _), (trodAll_cons_mk (Below.trod laidOut (by kernel_rfl) (of_decide_eq_true (by kernel_rfl)) k0 bel lt0) trodAll_mk0), rfl, bel.frame _, fun h => by cases h⟩
theorem over : Rows.fnExactRoutesValidRow.holds Try.pinned (OpenSpec.ofChange Rows.fnExactRoutesValidSpec) :=
  OpenClaim.holds_of_wide 13 Try.f13 rfl rfl rfl rfl rfl rfl rfl ⟨rfl, rfl, rfl, rfl, rfl⟩ rfl rfl rfl rfl rfl (by kernel_rfl) Try.func13 (by kernel_rfl)
    (of_decide_eq_true (by kernel_rfl)) (by unfold Func.isWrapper; first | (rw [if_pos (by decide +kernel)]; kernel_rfl) | (rw [if_neg (by decide +kernel)]; exact ⟨rfl, rfl⟩))
    (fun os started H enc _ => lifted os started H enc)
theorem proved : Rows.FnExactRoutesValidSaid := over
#print axioms proved
end Go.Proofs.Ytoajkkfnblpnlaa.fnExactRoutesValid
namespace Go.Proofs.Ytoajkkfnblpnlaa
/-- The row, under a short name, for the claim. -/
theorem fnExactRoutesValid_holds : Rows.FnExactRoutesValidSaid := fnExactRoutesValid.proved
end Go.Proofs.Ytoajkkfnblpnlaa
