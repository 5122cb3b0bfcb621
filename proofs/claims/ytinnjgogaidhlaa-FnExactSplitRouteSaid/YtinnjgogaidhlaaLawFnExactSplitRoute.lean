/- The law FnExactSplitRoute returns true at every input, and leaves its arguments as they read; under no condition. Written by a program of this session. -/
import Derived.Test.YtinnjgogaidhlaaRows
import Derived.Test.YtinnjgogaidhlaaPFnExactSplitRoutex12
import Derived.Test.YtinnjgogaidhlaaPureFnExactSplitRoute
import Derived.Test.YtinnjgogaidhlaaVFnExactSplitRoute
import Derived.WalkKit
import Derived.ProofKit
import Derived.OpenShut
import Derived.ShutString
import Derived.ChangeOld
import Derived.Below
import Derived.SizedLaws
namespace Go.Proofs.Ytinnjgogaidhlaa.fnExactSplitRoute
open Go.ChangeShapes Go.WideShapes Go.ChangeAt Go.RowKit Go.Proofs.Ytinnjgogaidhlaa.Open Go.Proofs.Ytinnjgogaidhlaa.PFnExactSplitRoute Go.Proofs.YtinnjgogaidhlaaW.PrintWords Go.Proofs.YtinnjgogaidhlaaW.PrintLast Go.Proofs.YtinnjgogaidhlaaW.PrintMore
open Go.ChangeMaps (open_string shut_string)
set_option linter.unusedVariables false
theorem own : ownKnob Try.prog.godebug = none := by kernel_rfl
theorem laidOut : laidOutB Try.prog = true := by kernel_rfl
theorem opens75 : Opens Try.prog 75 k75 okS75 := Opens.weaken (opens_struct (fun a => ⟨a.1, a.2⟩) (fun _ => rfl) Try.underlying75 (by kernel_rfl) (opensF_cons (by rfl) (by kernel_rfl) (opens_string Try.underlying9) (opensF_one (by rfl) (by kernel_rfl) (opens_string Try.underlying9)))) (fun _ h => h)
theorem opens77 : Opens Try.prog 77 k77 okS77 := Opens.weaken (opens_struct (fun a => ⟨a.1, a.2⟩) (fun _ => rfl) Try.underlying77 (by kernel_rfl) (opensF_cons (by rfl) (by kernel_rfl) (opens_int Try.underlying3) (opensF_one (by rfl) (by kernel_rfl) opens75))) (fun _ h => h)
set_option maxRecDepth 100000 in
theorem lifted (os : Os) (started : os.Started) (H : Type) (enc : TypeId × Value → H) :
    ReturnsInHanded {} Try.checked os 12 .any (Rows.fnExactSplitRouteSpec.pre6 enc Try.prog Try.f12 Rows.fnExactSplitRouteRow.domain false) (Rows.fnExactSplitRouteSpec.post enc Try.prog Try.f12 false true false false) := by
  refine returnsInHanded_of_change_sized (C := Try.checked) own started (by kernel_rfl) Try.func12
    (ChangeSpec.witness6 (enc := enc) (C := Try.checked) false ⟨#[], #[.slice none 0 0, .int .i64 0, .string ByteArray.empty, .int .i64 0, .int .i64 0], []⟩ 8 (by kernel_rfl) (by kernel_rfl) (by kernel_rfl) (by kernel_rfl)) ?_
  intro W base args ds gs before hval0 hW hcnd hsz0 _
  have hval : ∀ (j : Nat) t v, Try.f12.params[j]? = some t → args[j]? = some v → Value.okWide Try.prog W .any base t v := hval0
  have hW' := hW
  obtain ⟨p, q, hA0, hV, rfl, hfz, hnd⟩ := hW
  have hA : DataW.TrodAll enc Try.prog W 0 (fun _ => true) true Try.f12.params.toList args.toList ds p := hA0
  rw [Try.params12] at hA hval
  obtain ⟨v0, vs0, d0, ds0, p0, q0, hargs, rfl, rfl, h0, r0⟩ := trodAll_cons hA
  obtain ⟨v1, vs1, d1, ds1, p1, q1, rfl, rfl, rfl, h1, r1⟩ := trodAll_cons r0
  obtain ⟨v2, vs2, d2, ds2, p2, q2, rfl, rfl, rfl, h2, r2⟩ := trodAll_cons r1
  obtain ⟨v3, vs3, d3, ds3, p3, q3, rfl, rfl, rfl, h3, r3⟩ := trodAll_cons r2
  obtain ⟨v4, vs4, d4, ds4, p4, q4, rfl, rfl, rfl, h4, r4⟩ := trodAll_cons r3
  obtain ⟨rfl, rfl, rfl⟩ := trodAll_nil r4
  obtain rfl : args = #[v0, v1, v2, v3, v4] := by cases args; simp_all
  obtain ⟨rfl, rfl⟩ := trodVars_none hV
  obtain ⟨a0, len0, cap0, rfl⟩ := okWide_slice Try.underlying22 (hval 0 22 v0 rfl rfl)
  have k0 := h0
  have lt0 : ∀ x ∈ p0, x.block < W.heap.size := by obtain ⟨m, hm⟩ := k0; exact DataW.trod_lt m _ _ _ hm
  obtain ⟨y0, A0, c0, e0, hl0, hc0, hm0, ho0⟩ : ∃ (ys : List (S77)) (A : Option Addr) (c : Nat), [Value.slice a0 len0 cap0] = [.slice A ys.length c] ∧ ys.length ≤ c ∧ Kd.C k77 W A ys.length ys ∧ ys.length ≤ maxLen ∧ ∀ y ∈ ys, okS77 y := by
    obtain ⟨fuel, hf⟩ := h0
    exact slice_parts Try.underlying22 (by kernel_rfl) opens77 enc W _ _ _ _ _ _ hf
  obtain ⟨ea0, en0, ec0⟩ : a0 = A0 ∧ len0 = y0.length ∧ cap0 = c0 := by simpa using e0
  subst ea0; subst en0; subst ec0
  obtain ⟨a1, rfl, rfl, rfl, w1⟩ := open_int Try.underlying3 (hval 1 3 v1 rfl rfl) h1
  obtain ⟨a2, rfl, rfl, rfl, w2⟩ := open_string Try.underlying9 (hval 2 9 v2 rfl rfl) h2
  obtain ⟨a3, rfl, rfl, rfl, w3⟩ := open_int Try.underlying3 (hval 3 3 v3 rfl rfl) h3
  obtain ⟨a4, rfl, rfl, rfl, w4⟩ := open_int Try.underlying3 (hval 4 3 v4 rfl rfl) h4
  clear hA0 hval0 hsz0
  obtain ⟨k, hp⟩ := Pure.FnExactSplitRoute y0 a1 a2 a3 a4 ⟨hm0, ho0⟩ w1 w2 w3 w4
  refine (PFnExactSplitRoute.laws_FnExactSplitRoute.calls k _ _ y0 a1 a2 a3 a4 true W hc0 hl0 hp).mono ?_
  rintro e W' ⟨he, hd⟩
  have bel : Below W.heap.size W W' := hd
  subst he
  exact ⟨_, rfl, _, _, _, [], _, [], hW', trodAll_mk1 (shut_bool Try.underlying4 _), (trodAll_cons_mk (Below.trod laidOut (by kernel_rfl) (of_decide_eq_true (by kernel_rfl)) k0 bel lt0) (trodAll_cons_mk (shut_int Try.underlying3 w1) (trodAll_cons_mk (shut_string Try.underlying9 w2) (trodAll_cons_mk (shut_int Try.underlying3 w3) (trodAll_cons_mk (shut_int Try.underlying3 w4) trodAll_mk0))))), rfl, bel.frame _, fun h => by cases h⟩
theorem over : Rows.fnExactSplitRouteRow.holds Try.pinned (OpenSpec.ofChange Rows.fnExactSplitRouteSpec) :=
  OpenClaim.holds_of_wide 12 Try.f12 rfl rfl rfl rfl rfl rfl rfl ⟨rfl, rfl, rfl, rfl, rfl⟩ rfl rfl rfl rfl rfl (by kernel_rfl) Try.func12 (by kernel_rfl)
    (of_decide_eq_true (by kernel_rfl)) (by unfold Func.isWrapper; first | (rw [if_pos (by decide +kernel)]; kernel_rfl) | (rw [if_neg (by decide +kernel)]; exact ⟨rfl, rfl⟩))
    (fun os started H enc _ => lifted os started H enc)
theorem proved : Rows.FnExactSplitRouteSaid := over
#print axioms proved
end Go.Proofs.Ytinnjgogaidhlaa.fnExactSplitRoute
namespace Go.Proofs.Ytinnjgogaidhlaa
/-- The row, under a short name, for the claim. -/
theorem fnExactSplitRoute_holds : Rows.FnExactSplitRouteSaid := fnExactSplitRoute.proved
end Go.Proofs.Ytinnjgogaidhlaa
