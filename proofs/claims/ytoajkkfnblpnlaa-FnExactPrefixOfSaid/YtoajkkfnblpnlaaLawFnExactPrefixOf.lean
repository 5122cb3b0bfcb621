/- The law FnExactPrefixOf returns true at every input, and leaves its arguments as they read; under no condition. Written by a program of this session. -/
import Derived.Test.YtoajkkfnblpnlaaRows
import Derived.Test.YtoajkkfnblpnlaaPFnExactPrefixOfx3
import Derived.Test.YtoajkkfnblpnlaaPureFnExactPrefixOf
import Derived.Test.YtoajkkfnblpnlaaVFnExactPrefixOf
import Derived.WalkKit
import Derived.ProofKit
import Derived.OpenShut
import Derived.ShutString
import Derived.ChangeOld
import Derived.Below
import Derived.SizedLaws
namespace Go.Proofs.Ytoajkkfnblpnlaa.fnExactPrefixOf
open Go.ChangeShapes Go.WideShapes Go.ChangeAt Go.RowKit Go.Proofs.Ytoajkkfnblpnlaa.Open Go.Proofs.Ytoajkkfnblpnlaa.PFnExactPrefixOf Go.Proofs.YtoajkkfnblpnlaaW.PrintWords Go.Proofs.YtoajkkfnblpnlaaW.PrintLast Go.Proofs.YtoajkkfnblpnlaaW.PrintMore
open Go.ChangeMaps (open_string shut_string)
set_option linter.unusedVariables false
theorem own : ownKnob Try.prog.godebug = none := by kernel_rfl
theorem laidOut : laidOutB Try.prog = true := by kernel_rfl
theorem opens36 : Opens Try.prog 36 k36 okS36 := Opens.weaken (opens_struct (fun a => ⟨a.1, a.2.1, a.2.2.1, a.2.2.2⟩) (fun _ => rfl) Try.underlying36 (by kernel_rfl) (opensF_cons (by rfl) (by kernel_rfl) (opens_int Try.underlying3) (opensF_cons (by rfl) (by kernel_rfl) (opens_string Try.underlying9) (opensF_cons (by rfl) (by kernel_rfl) (opens_int Try.underlying3) (opensF_one (by rfl) (by kernel_rfl) (opens_int Try.underlying3)))))) (fun _ h => h)
theorem opens81 : Opens Try.prog 81 k81 okS81 := Opens.weaken (opens_struct (fun a => ⟨a.1, a.2.1, a.2.2⟩) (fun _ => rfl) Try.underlying81 (by kernel_rfl) (opensF_cons (by rfl) (by kernel_rfl) (opens_int Try.underlying3) (opensF_cons (by rfl) (by kernel_rfl) (opens_int Try.underlying3) (opensF_one (by rfl) (by kernel_rfl) opens36)))) (fun _ h => h)
set_option maxRecDepth 100000 in
theorem lifted (os : Os) (started : os.Started) (H : Type) (enc : TypeId × Value → H) :
    ReturnsInHanded {} Try.checked os 4 .any (Rows.fnExactPrefixOfSpec.pre6 enc Try.prog Try.f4 Rows.fnExactPrefixOfRow.domain false) (Rows.fnExactPrefixOfSpec.post enc Try.prog Try.f4 false true false false) := by
  refine returnsInHanded_of_change_sized (C := Try.checked) own started (by kernel_rfl) Try.func4
    (ChangeSpec.witness6 (enc := enc) (C := Try.checked) false ⟨#[], #[.slice none 0 0, .slice none 0 0], []⟩ 8 (by kernel_rfl) (by kernel_rfl) (by kernel_rfl) (by kernel_rfl)) ?_
  intro W base args ds gs before hval0 hW hcnd hsz0 _
  have hval : ∀ (j : Nat) t v, Try.f4.params[j]? = some t → args[j]? = some v → Value.okWide Try.prog W .any base t v := hval0
  have hW' := hW
  obtain ⟨p, q, hA0, hV, rfl, hfz, hnd⟩ := hW
  have hA : DataW.TrodAll enc Try.prog W 0 (fun _ => true) true Try.f4.params.toList args.toList ds p := hA0
  rw [Try.params4] at hA hval
  obtain ⟨v0, vs0, d0, ds0, p0, q0, hargs, rfl, rfl, h0, r0⟩ := trodAll_cons hA
  obtain ⟨v1, vs1, d1, ds1, p1, q1, rfl, rfl, rfl, h1, r1⟩ := trodAll_cons r0
  obtain ⟨rfl, rfl, rfl⟩ := trodAll_nil r1
  obtain rfl : args = #[v0, v1] := by cases args; simp_all
  obtain ⟨rfl, rfl⟩ := trodVars_none hV
  obtain ⟨a0, len0, cap0, rfl⟩ := okWide_slice Try.underlying29 (hval 0 29 v0 rfl rfl)
  have k0 := h0
  have lt0 : ∀ x ∈ p0, x.block < W.heap.size := by obtain ⟨m, hm⟩ := k0; exact DataW.trod_lt m _ _ _ hm
  obtain ⟨y0, A0, c0, e0, hl0, hc0, hm0, ho0⟩ : ∃ (ys : List (S81)) (A : Option Addr) (c : Nat), [Value.slice a0 len0 cap0] = [.slice A ys.length c] ∧ ys.length ≤ c ∧ Kd.C k81 W A ys.length ys ∧ ys.length ≤ maxLen ∧ ∀ y ∈ ys, okS81 y := by
    obtain ⟨fuel, hf⟩ := h0
    exact slice_parts Try.underlying29 (by kernel_rfl) opens81 enc W _ _ _ _ _ _ hf
  obtain ⟨ea0, en0, ec0⟩ : a0 = A0 ∧ len0 = y0.length ∧ cap0 = c0 := by simpa using e0
  subst ea0; subst en0; subst ec0
  obtain ⟨a1, len1, cap1, rfl⟩ := okWide_slice Try.underlying29 (hval 1 29 v1 rfl rfl)
  have k1 := h1
  have lt1 : ∀ x ∈ p1, x.block < W.heap.size := by obtain ⟨m, hm⟩ := k1; exact DataW.trod_lt m _ _ _ hm
  obtain ⟨y1, A1, c1, e1, hl1, hc1, hm1, ho1⟩ : ∃ (ys : List (S81)) (A : Option Addr) (c : Nat), [Value.slice a1 len1 cap1] = [.slice A ys.length c] ∧ ys.length ≤ c ∧ Kd.C k81 W A ys.length ys ∧ ys.length ≤ maxLen ∧ ∀ y ∈ ys, okS81 y := by
    obtain ⟨fuel, hf⟩ := h1
    exact slice_parts Try.underlying29 (by kernel_rfl) opens81 enc W _ _ _ _ _ _ hf
  obtain ⟨ea1, en1, ec1⟩ : a1 = A1 ∧ len1 = y1.length ∧ cap1 = c1 := by simpa using e1
  subst ea1; subst en1; subst ec1
  clear hA0 hval0 hsz0
  obtain ⟨k, hp⟩ := Pure.FnExactPrefixOf y0 y1 ⟨hm0, ho0⟩ ⟨hm1, ho1⟩
  refine (PFnExactPrefixOf.laws_FnExactPrefixOf.calls k _ _ y0 _ _ y1 true W hc0 hl0 hc1 hl1 hp).mono ?_
  rintro e W' ⟨he, hd⟩
  have bel : Below W.heap.size W W' := hd
  subst he
  exact ⟨_, rfl, _, _, _, [], _, [], hW', trodAll_mk1 (shut_bool Try.underlying4 _), (trodAll_cons_mk (Below.trod laidOut (by kernel_rfl) (of_decide_eq_true (by kernel_rfl)) k0 bel lt0) (trodAll_cons_mk (Below.trod laidOut (by kernel_rfl) (of_decide_eq_true (by kernel_rfl)) k1 bel lt1) trodAll_mk0)), rfl, bel.frame _, fun h => by cases h⟩
theorem over : Rows.fnExactPrefixOfRow.holds Try.pinned (OpenSpec.ofChange Rows.fnExactPrefixOfSpec) :=
  OpenClaim.holds_of_wide 4 Try.f4 rfl rfl rfl rfl rfl rfl rfl ⟨rfl, rfl, rfl, rfl, rfl⟩ rfl rfl rfl rfl rfl (by kernel_rfl) Try.func4 (by kernel_rfl)
    (of_decide_eq_true (by kernel_rfl)) (by unfold Func.isWrapper; first | (rw [if_pos (by decide +kernel)]; kernel_rfl) | (rw [if_neg (by decide +kernel)]; exact ⟨rfl, rfl⟩))
    (fun os started H enc _ => lifted os started H enc)
theorem proved : Rows.FnExactPrefixOfSaid := over
#print axioms proved
end Go.Proofs.Ytoajkkfnblpnlaa.fnExactPrefixOf
namespace Go.Proofs.Ytoajkkfnblpnlaa
/-- The row, under a short name, for the claim. -/
theorem fnExactPrefixOf_holds : Rows.FnExactPrefixOfSaid := fnExactPrefixOf.proved
end Go.Proofs.Ytoajkkfnblpnlaa
