/- The law FnExactFinishCaller returns true at every input, and leaves its arguments as they read; under no condition. -/
import Derived.Test.YtamlleimfopmhaaRows
import Derived.Test.YtamlleimfopmhaaGC
import Derived.WalkKit
import Derived.ProofKit
import Derived.OpenShut
import Derived.ShutString
import Derived.ChangeOld
import Derived.Below
import Derived.SizedLaws
set_option maxRecDepth 100000
set_option linter.unusedVariables false
set_option linter.unusedSimpArgs false
namespace Go.YtamlleimfopmhaaMc
open Go.Proofs
theorem i64_of {n : Int} (h : (Lit.int .i64 n).wf = true) : i64 n := by
  simp only [Lit.wf] at h
  simp [IntKind.min, IntKind.max, IntKind.bits, IntKind.signed] at h
  unfold i64; omega
theorem iOf {e : List T} (h : Fits [.i .i64] e) : ∃ n : Int, e = eI n ∧ i64 n := by
  obtain ⟨t, e, rfl, f, h⟩ := h.cons
  obtain rfl := h.nil
  obtain ⟨n, rfl, w⟩ := f.inI
  exact ⟨n, rfl, i64_of w⟩
theorem bOf {e : List T} (h : Fits [.b] e) : ∃ b : Bool, e = eB b ∧ True := by
  obtain ⟨t, e, rfl, f, h⟩ := h.cons
  obtain rfl := h.nil
  obtain ⟨b, rfl⟩ := f.inB
  exact ⟨b, rfl, trivial⟩
theorem rdIv : Rd Try.prog 86 [.s, .s] := .st [(0, 9, [.s]), (1, 9, [.s])] (by kernel_rfl) (by kernel_rfl) (by kernel_rfl) rfl rfl (.cons (.s (by kernel_rfl) (by kernel_rfl)) (.cons (.s (by kernel_rfl) (by kernel_rfl)) .nil))
theorem Iv.of {e : List T} (h : Fits [.s, .s] e) : ∃ a : Iv, e = a.e ∧ a.Fit := by
  obtain ⟨t0, e, rfl, f0, h⟩ := h.cons
  obtain ⟨t1, e, rfl, f1, h⟩ := h.cons
  obtain rfl := h.nil
  obtain ⟨n0, rfl, w0⟩ := f0.inS
  obtain ⟨n1, rfl, w1⟩ := f1.inS
  exact ⟨⟨n0, n1⟩, rfl, ⟨w0, w1⟩⟩
theorem rdRou : Rd Try.prog 88 [.i .i64, .s, .s] := .st [(0, 3, [.i .i64]), (1, 86, [.s, .s])] (by kernel_rfl) (by kernel_rfl) (by kernel_rfl) rfl rfl (.cons (.i (by kernel_rfl) (by kernel_rfl)) (.cons rdIv .nil))
theorem Rou.of {e : List T} (h : Fits [.i .i64, .s, .s] e) : ∃ a : Rou, e = a.e ∧ a.Fit := by
  obtain ⟨t0, e, rfl, f0, h⟩ := h.cons
  obtain ⟨t1, e, rfl, f1, h⟩ := h.cons
  obtain ⟨t2, e, rfl, f2, h⟩ := h.cons
  obtain rfl := h.nil
  obtain ⟨n0, rfl, w0⟩ := f0.inI
  obtain ⟨n1, rfl, w1⟩ := f1.inS
  obtain ⟨n2, rfl, w2⟩ := f2.inS
  exact ⟨⟨n0, ⟨n1, n2⟩⟩, rfl, ⟨i64_of w0, ⟨w1, w2⟩⟩⟩
theorem rdCmd : Rd Try.prog 77 [.i .i64, .s, .i .i64, .i .i64] := .st [(0, 3, [.i .i64]), (1, 9, [.s]), (2, 3, [.i .i64]), (3, 3, [.i .i64])] (by kernel_rfl) (by kernel_rfl) (by kernel_rfl) rfl rfl (.cons (.i (by kernel_rfl) (by kernel_rfl)) (.cons (.s (by kernel_rfl) (by kernel_rfl)) (.cons (.i (by kernel_rfl) (by kernel_rfl)) (.cons (.i (by kernel_rfl) (by kernel_rfl)) .nil))))
theorem Cmd.of {e : List T} (h : Fits [.i .i64, .s, .i .i64, .i .i64] e) : ∃ a : Cmd, e = a.e ∧ a.Fit := by
  obtain ⟨t0, e, rfl, f0, h⟩ := h.cons
  obtain ⟨t1, e, rfl, f1, h⟩ := h.cons
  obtain ⟨t2, e, rfl, f2, h⟩ := h.cons
  obtain ⟨t3, e, rfl, f3, h⟩ := h.cons
  obtain rfl := h.nil
  obtain ⟨n0, rfl, w0⟩ := f0.inI
  obtain ⟨n1, rfl, w1⟩ := f1.inS
  obtain ⟨n2, rfl, w2⟩ := f2.inI
  obtain ⟨n3, rfl, w3⟩ := f3.inI
  exact ⟨⟨n0, n1, n2, n3⟩, rfl, ⟨i64_of w0, w1, i64_of w2, i64_of w3⟩⟩
theorem rdCal : Rd Try.prog 79 [.l [.i .i64, .s, .s], .i .i64, .b, .i .i64, .s, .i .i64, .i .i64, .i .i64] := .st [(0, 76, [.l [.i .i64, .s, .s]]), (1, 3, [.i .i64]), (2, 4, [.b]), (3, 77, [.i .i64, .s, .i .i64, .i .i64]), (7, 3, [.i .i64])] (by kernel_rfl) (by kernel_rfl) (by kernel_rfl) rfl rfl (.cons (.l (e := 88) (by kernel_rfl) (by kernel_rfl) rdRou (by decide)) (.cons (.i (by kernel_rfl) (by kernel_rfl)) (.cons (.b (by kernel_rfl) (by kernel_rfl)) (.cons rdCmd (.cons (.i (by kernel_rfl) (by kernel_rfl)) .nil)))))
theorem Cal.of {e : List T} (h : Fits [.l [.i .i64, .s, .s], .i .i64, .b, .i .i64, .s, .i .i64, .i .i64, .i .i64] e) : ∃ a : Cal, e = a.e ∧ a.Fit := by
  obtain ⟨t0, e, rfl, f0, h⟩ := h.cons
  obtain ⟨t1, e, rfl, f1, h⟩ := h.cons
  obtain ⟨t2, e, rfl, f2, h⟩ := h.cons
  obtain ⟨t3, e, rfl, f3, h⟩ := h.cons
  obtain ⟨t4, e, rfl, f4, h⟩ := h.cons
  obtain ⟨t5, e, rfl, f5, h⟩ := h.cons
  obtain ⟨t6, e, rfl, f6, h⟩ := h.cons
  obtain ⟨t7, e, rfl, f7, h⟩ := h.cons
  obtain rfl := h.nil
  obtain ⟨x0, rfl, w0, g0⟩ := f0.inL
  obtain ⟨n0, rfl, z0⟩ := list_of (fun e he => Rou.of (g0 e he))
  obtain ⟨n1, rfl, w1⟩ := f1.inI
  obtain ⟨n2, rfl⟩ := f2.inB
  obtain ⟨n3, rfl, w3⟩ := f3.inI
  obtain ⟨n4, rfl, w4⟩ := f4.inS
  obtain ⟨n5, rfl, w5⟩ := f5.inI
  obtain ⟨n6, rfl, w6⟩ := f6.inI
  obtain ⟨n7, rfl, w7⟩ := f7.inI
  exact ⟨⟨n0, n1, n2, ⟨n3, n4, n5, n6⟩, n7⟩, rfl, ⟨by simpa using w0, z0, i64_of w1, ⟨i64_of w3, w4, i64_of w5, i64_of w6⟩, i64_of w7⟩⟩
end Go.YtamlleimfopmhaaMc
namespace Go.Proofs.Ytamlleimfopmhaa.fnExactFinishCaller
open Go.ChangeShapes Go.WideShapes Go.ChangeAt Go.RowKit Go.YtamlleimfopmhaaMc
theorem own : ownKnob Try.prog.godebug = none := by kernel_rfl
theorem laidOut : laidOutB Try.prog = true := by kernel_rfl
theorem agg_of {P : Program} {W : World} {base : Nat} {t : TypeId} {v : Value} {F : Array Field} (hu : P.underlying t = some (.struct F)) (h : Value.okWide P W .any base t v) : ∃ cs, v = .agg cs := by
  unfold Value.okWide at h
  rw [hu] at h
  obtain ⟨cs, e, _⟩ := h
  exact ⟨cs, e⟩
theorem one_of {P : Program} {W : World} {base : Nat} {t : TypeId} {v : Value} {d : TypeDesc} (hu : P.underlying t = some d) (hd : (match d with | .int _ => true | .bool => true | .string => true | .slice _ => true | _ => false) = true) (h : Value.okWide P W .any base t v) : v.oneCell' = true := by
  unfold Value.okWide at h
  rw [hu] at h
  cases d <;> first | (cases hd; done) | skip
  all_goals (cases v <;> first | rfl | (exfalso; simp [Cell.okWide, Cell.ok, hu] at h; done))
theorem lifted (os : Os) (started : os.Started) (H : Type) (enc : TypeId × Value → H) :
    ReturnsInHanded {} Try.checked os 10 .any (Rows.fnExactFinishCallerSpec.pre6 enc Try.prog Try.f10 Rows.fnExactFinishCallerRow.domain false) (Rows.fnExactFinishCallerSpec.post enc Try.prog Try.f10 false true false false) := by
  refine returnsInHanded_of_change_sized (C := Try.checked) own started (by kernel_rfl) Try.func10
    (ChangeSpec.witness6 (enc := enc) (C := Try.checked) false ⟨#[], #[.agg #[.slice none 0 0, .int .i64 0, .bool false, .int .i64 0, .string .empty, .int .i64 0, .int .i64 0, .int .i64 0], .int .i64 0, .int .i64 0, .int .i64 0], []⟩ 8 (by kernel_rfl) (by kernel_rfl) (by kernel_rfl) (by kernel_rfl)) ?_
  intro W base args ds gs before hval0 hW hcnd hsz0 _
  have hval : ∀ (j : Nat) t v, Try.f10.params[j]? = some t → args[j]? = some v → Value.okWide Try.prog W .any base t v := hval0
  have hW' := hW
  obtain ⟨p, q, hA0, hV, rfl, hfz, hnd⟩ := hW
  have hA : DataW.TrodAll enc Try.prog W 0 (fun _ => true) true Try.f10.params.toList args.toList ds p := hA0
  rw [Try.params10] at hA hval
  obtain ⟨v0, vs0, d0, ds0, p0, q0, hargs, rfl, rfl, h0, r0⟩ := trodAll_cons hA
  obtain ⟨v1, vs1, d1, ds1, p1, q1, rfl, rfl, rfl, h1, r1⟩ := trodAll_cons r0
  obtain ⟨v2, vs2, d2, ds2, p2, q2, rfl, rfl, rfl, h2, r2⟩ := trodAll_cons r1
  obtain ⟨v3, vs3, d3, ds3, p3, q3, rfl, rfl, rfl, h3, r3⟩ := trodAll_cons r2
  obtain ⟨rfl, rfl, rfl⟩ := trodAll_nil r3
  obtain rfl : args = #[v0, v1, v2, v3] := by cases args; simp_all
  obtain ⟨rfl, rfl⟩ := trodVars_none hV
  have lt0 : ∀ x ∈ p0, x.block < W.heap.size := by obtain ⟨m, hm⟩ := h0; exact DataW.trod_lt m _ _ _ hm
  have lt1 : ∀ x ∈ p1, x.block < W.heap.size := by obtain ⟨m, hm⟩ := h1; exact DataW.trod_lt m _ _ _ hm
  have lt2 : ∀ x ∈ p2, x.block < W.heap.size := by obtain ⟨m, hm⟩ := h2; exact DataW.trod_lt m _ _ _ hm
  have lt3 : ∀ x ∈ p3, x.block < W.heap.size := by obtain ⟨m, hm⟩ := h3; exact DataW.trod_lt m _ _ _ hm
  obtain ⟨c0, rfl⟩ := agg_of (F := Try.prog.fieldsOf 79) (by kernel_rfl) (hval 0 79 v0 rfl rfl)
  obtain ⟨x0, f0, R0⟩ := arg_st rdCal h0
  obtain ⟨y0, rfl, t0⟩ := Cal.of f0
  obtain ⟨x1, f1, R1⟩ := arg_c (.i (by kernel_rfl) (by kernel_rfl)) (one_of (d := .int .i64) (by kernel_rfl) rfl (hval 1 3 v1 rfl rfl)) h1
  obtain ⟨y1, rfl, w1⟩ := f1.inI
  have t1 := i64_of w1
  obtain ⟨x2, f2, R2⟩ := arg_c (.i (by kernel_rfl) (by kernel_rfl)) (one_of (d := .int .i64) (by kernel_rfl) rfl (hval 2 3 v2 rfl rfl)) h2
  obtain ⟨y2, rfl, w2⟩ := f2.inI
  have t2 := i64_of w2
  obtain ⟨x3, f3, R3⟩ := arg_c (.i (by kernel_rfl) (by kernel_rfl)) (one_of (d := .int .i64) (by kernel_rfl) rfl (hval 3 3 v3 rfl rfl)) h3
  obtain ⟨y3, rfl, w3⟩ := f3.inI
  have t3 := i64_of w3
  refine (law_run (law_fin y0 y1 y2 y3 t0 t1 t2 t3) W _ (rvs_cons R0 (rvs_cons R1 (rvs_cons R2 (rvs_cons R3 rvs_nil))))).mono ?_
  rintro e W' ⟨he, bel⟩
  subst he
  exact ⟨_, rfl, _, _, _, [], _, [], hW', trodAll_mk1 (shut_bool (by kernel_rfl) _), (trodAll_cons_mk (Below.trod laidOut (by kernel_rfl) (of_decide_eq_true (by kernel_rfl)) h0 bel lt0) (trodAll_cons_mk (Below.trod laidOut (by kernel_rfl) (of_decide_eq_true (by kernel_rfl)) h1 bel lt1) (trodAll_cons_mk (Below.trod laidOut (by kernel_rfl) (of_decide_eq_true (by kernel_rfl)) h2 bel lt2) (trodAll_cons_mk (Below.trod laidOut (by kernel_rfl) (of_decide_eq_true (by kernel_rfl)) h3 bel lt3) trodAll_mk0)))), rfl, bel.frame _, fun h => by cases h⟩
theorem and_i {a b : Bool} (h1 : a = true) (h2 : b = true) : (a && b) = true := by rw [h1, h2]; rfl
set_option maxHeartbeats 400000000 in
theorem closed : joinedFacts Try.prog 10 Try.f10 Rows.fnExactFinishCallerSpec Rows.fnExactFinishCallerRow = true := by
  unfold joinedFacts
  repeat' (with_reducible refine and_i ?_ ?_)
  all_goals (as_aux_lemma => kernel_rfl)
theorem over : Rows.fnExactFinishCallerRow.holds Try.pinned (OpenSpec.ofChange Rows.fnExactFinishCallerSpec) :=
  OpenClaim.holds_of_wide 10 Try.f10 rfl rfl rfl rfl rfl rfl rfl ⟨rfl, rfl, rfl, rfl, rfl⟩ rfl rfl rfl rfl rfl (by kernel_rfl) Try.func10 closed
    (of_decide_eq_true (by kernel_rfl)) (by unfold Func.isWrapper; first | (rw [if_pos (by decide +kernel)]; kernel_rfl) | (rw [if_neg (by decide +kernel)]; exact ⟨rfl, rfl⟩))
    (fun os started H enc _ => lifted os started H enc)
theorem proved : Rows.FnExactFinishCallerSaid := over
end Go.Proofs.Ytamlleimfopmhaa.fnExactFinishCaller
namespace Go.Proofs.Ytamlleimfopmhaa
/-- The row, under a short name, for the claim. -/
theorem fnExactFinishCaller_holds : Rows.FnExactFinishCallerSaid := fnExactFinishCaller.proved
#print axioms fnExactFinishCaller_holds
end Go.Proofs.Ytamlleimfopmhaa
