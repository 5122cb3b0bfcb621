/- The law FnFinishCaller returns true at every input, and leaves its arguments as they read; under no condition. -/
import Derived.Test.YtamlleimfopmhaaRows
import Derived.Test.YtamlleimfopmhaaGE
import Derived.WalkKit
import Derived.ProofKit
import Derived.OpenShut
import Derived.ShutString
import Derived.ChangeOld
import Derived.Below
import Derived.SizedLaws
set_option maxRecDepth 100000
set_option linter.unusedVariables false
set_option linter.unusedSimpArgs false
namespace Go.YtamlleimfopmhaaMc
open Go.Proofs
theorem i64_of {n : Int} (h : (Lit.int .i64 n).wf = true) : i64 n := by
  simp only [Lit.wf] at h
  simp [IntKind.min, IntKind.max, IntKind.bits, IntKind.signed] at h
  unfold i64; omega
theorem iOf {e : List T} (h : Fits [.i .i64] e) : ∃ n : Int, e = eI n ∧ i64 n := by
  obtain ⟨t, e, rfl, f, h⟩ := h.cons
  obtain rfl := h.nil
  obtain ⟨n, rfl, w⟩ := f.inI
  exact ⟨n, rfl, i64_of w⟩
theorem bOf {e : List T} (h : Fits [.b] e) : ∃ b : Bool, e = eB b ∧ True := by
  obtain ⟨t, e, rfl, f, h⟩ := h.cons
  obtain rfl := h.nil
  obtain ⟨b, rfl⟩ := f.inB
  exact ⟨b, rfl, trivial⟩
theorem uOf {e : List T} (h : Fits [.i .u8] e) : ∃ n : UInt8, e = eU n ∧ True := by
  obtain ⟨t, e, rfl, f, h⟩ := h.cons
  obtain rfl := h.nil
  obtain ⟨n, rfl, w⟩ := f.inI
  simp only [Lit.wf] at w
  simp [IntKind.min, IntKind.max, IntKind.bits, IntKind.signed] at w
  refine ⟨UInt8.ofNat n.toNat, ?_, trivial⟩
  have : ((UInt8.ofNat n.toNat).toNat : Int) = n := by rw [UInt8.toNat_ofNat']; omega
  unfold eU; rw [this]
end Go.YtamlleimfopmhaaMc
namespace Go.Proofs.Ytamlleimfopmhaa.fnFinishCaller
open Go.ChangeShapes Go.WideShapes Go.ChangeAt Go.RowKit Go.YtamlleimfopmhaaMc
theorem own : ownKnob Try.prog.godebug = none := by kernel_rfl
theorem laidOut : laidOutB Try.prog = true := by kernel_rfl
theorem agg_of {P : Program} {W : World} {base : Nat} {t : TypeId} {v : Value} {F : Array Field} (hu : P.underlying t = some (.struct F)) (h : Value.okWide P W .any base t v) : ∃ cs, v = .agg cs := by
  unfold Value.okWide at h
  rw [hu] at h
  obtain ⟨cs, e, _⟩ := h
  exact ⟨cs, e⟩
theorem one_of {P : Program} {W : World} {base : Nat} {t : TypeId} {v : Value} {d : TypeDesc} (hu : P.underlying t = some d) (hd : (match d with | .int _ => true | .bool => true | .string => true | .slice _ => true | _ => false) = true) (h : Value.okWide P W .any base t v) : v.oneCell' = true := by
  unfold Value.okWide at h
  rw [hu] at h
  cases d <;> first | (cases hd; done) | skip
  all_goals (cases v <;> first | rfl | (exfalso; simp [Cell.okWide, Cell.ok, hu] at h; done))
theorem lifted (os : Os) (started : os.Started) (H : Type) (enc : TypeId × Value → H) :
    ReturnsInHanded {} Try.checked os 5 .any (Rows.fnFinishCallerSpec.pre6 enc Try.prog Try.f5 Rows.fnFinishCallerRow.domain false) (Rows.fnFinishCallerSpec.post enc Try.prog Try.f5 false true false false) := by
  refine returnsInHanded_of_change_sized (C := Try.checked) own started (by kernel_rfl) Try.func5
    (ChangeSpec.witness6 (enc := enc) (C := Try.checked) false ⟨#[], #[.slice none 0 0], []⟩ 8 (by kernel_rfl) (by kernel_rfl) (by kernel_rfl) (by kernel_rfl)) ?_
  intro W base args ds gs before hval0 hW hcnd hsz0 _
  have hval : ∀ (j : Nat) t v, Try.f5.params[j]? = some t → args[j]? = some v → Value.okWide Try.prog W .any base t v := hval0
  have hW' := hW
  obtain ⟨p, q, hA0, hV, rfl, hfz, hnd⟩ := hW
  have hA : DataW.TrodAll enc Try.prog W 0 (fun _ => true) true Try.f5.params.toList args.toList ds p := hA0
  rw [Try.params5] at hA hval
  obtain ⟨v0, vs0, d0, ds0, p0, q0, hargs, rfl, rfl, h0, r0⟩ := trodAll_cons hA
  obtain ⟨rfl, rfl, rfl⟩ := trodAll_nil r0
  obtain rfl : args = #[v0] := by cases args; simp_all
  obtain ⟨rfl, rfl⟩ := trodVars_none hV
  have lt0 : ∀ x ∈ p0, x.block < W.heap.size := by obtain ⟨m, hm⟩ := h0; exact DataW.trod_lt m _ _ _ hm
  obtain ⟨x0, f0, R0⟩ := arg_c (.l (e := 5) (by kernel_rfl) (by kernel_rfl) (.i (by kernel_rfl) (by kernel_rfl)) (Nat.succ_pos 0)) (one_of (d := .slice 5) (by kernel_rfl) rfl (hval 0 22 v0 rfl rfl)) h0
  obtain ⟨es0, rfl, l0, g0⟩ := f0.inL
  obtain ⟨y0, rfl, t0⟩ := list_of (fun e he => uOf (g0 e he))
  have l0 := (by simpa using l0 : y0.length ≤ 9223372036854775807)
  refine (law_run (law_find y0 l0) W _ (rvs_cons R0 rvs_nil)).mono ?_
  rintro e W' ⟨he, bel⟩
  subst he
  exact ⟨_, rfl, _, _, _, [], _, [], hW', trodAll_mk1 (shut_bool (by kernel_rfl) _), (trodAll_cons_mk (Below.trod laidOut (by kernel_rfl) (of_decide_eq_true (by kernel_rfl)) h0 bel lt0) trodAll_mk0), rfl, bel.frame _, fun h => by cases h⟩
theorem and_i {a b : Bool} (h1 : a = true) (h2 : b = true) : (a && b) = true := by rw [h1, h2]; rfl
set_option maxHeartbeats 400000000 in
theorem closed : joinedFacts Try.prog 5 Try.f5 Rows.fnFinishCallerSpec Rows.fnFinishCallerRow = true := by
  unfold joinedFacts
  repeat' (with_reducible refine and_i ?_ ?_)
  all_goals (as_aux_lemma => kernel_rfl)
theorem over : Rows.fnFinishCallerRow.holds Try.pinned (OpenSpec.ofChange Rows.fnFinishCallerSpec) :=
  OpenClaim.holds_of_wide 5 Try.f5 rfl rfl rfl rfl rfl rfl rfl ⟨rfl, rfl, rfl, rfl, rfl⟩ rfl rfl rfl rfl rfl (by kernel_rfl) Try.func5 closed
    (of_decide_eq_true (by kernel_rfl)) (by unfold Func.isWrapper; first | (rw [if_pos (by decide +kernel)]; kernel_rfl) | (rw [if_neg (by decide +kernel)]; exact ⟨rfl, rfl⟩))
    (fun os started H enc _ => lifted os started H enc)
theorem proved : Rows.FnFinishCallerSaid := over
end Go.Proofs.Ytamlleimfopmhaa.fnFinishCaller
namespace Go.Proofs.Ytamlleimfopmhaa
/-- The row, under a short name, for the claim. -/
theorem fnFinishCaller_holds : Rows.FnFinishCallerSaid := fnFinishCaller.proved
#print axioms fnFinishCaller_holds
end Go.Proofs.Ytamlleimfopmhaa
