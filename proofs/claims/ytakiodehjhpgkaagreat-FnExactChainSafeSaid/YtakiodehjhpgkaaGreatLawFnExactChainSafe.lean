/- The law FnExactChainSafe returns true at every input, and leaves its arguments as they read; under no condition. -/
import Derived.Test.YtakiodehjhpgkaaGreatRows
import Derived.Test.YtakiodehjhpgkaaGreatGI
import Derived.WalkKit
import Derived.ProofKit
import Derived.OpenShut
import Derived.ShutString
import Derived.ChangeOld
import Derived.Below
import Derived.SizedLaws
set_option maxRecDepth 100000
set_option linter.unusedVariables false
set_option linter.unusedSimpArgs false
namespace Go.YtakiodehjhpgkaaGreatMc
open Go.Proofs
theorem i64_of {n : Int} (h : (Lit.int .i64 n).wf = true) : i64 n := by
  simp only [Lit.wf] at h
  simp [IntKind.min, IntKind.max, IntKind.bits, IntKind.signed] at h
  unfold i64; omega
theorem iOf {e : List T} (h : Fits [.i .i64] e) : ∃ n : Int, e = eI n ∧ i64 n := by
  obtain ⟨t, e, rfl, f, h⟩ := h.cons
  obtain rfl := h.nil
  obtain ⟨n, rfl, w⟩ := f.inI
  exact ⟨n, rfl, i64_of w⟩
theorem bOf {e : List T} (h : Fits [.b] e) : ∃ b : Bool, e = eB b ∧ True := by
  obtain ⟨t, e, rfl, f, h⟩ := h.cons
  obtain rfl := h.nil
  obtain ⟨b, rfl⟩ := f.inB
  exact ⟨b, rfl, trivial⟩
theorem rdIv : Rd Tryz.prog 23 [.s, .s] := .st [(0, 9, [.s]), (1, 9, [.s])] (by kernel_rfl) (by kernel_rfl) (by kernel_rfl) rfl rfl (.cons (.s (by kernel_rfl) (by kernel_rfl)) (.cons (.s (by kernel_rfl) (by kernel_rfl)) .nil))
theorem Iv.of {e : List T} (h : Fits [.s, .s] e) : ∃ a : Iv, e = a.e ∧ a.Fit := by
  obtain ⟨t0, e, rfl, f0, h⟩ := h.cons
  obtain ⟨t1, e, rfl, f1, h⟩ := h.cons
  obtain rfl := h.nil
  obtain ⟨n0, rfl, w0⟩ := f0.inS
  obtain ⟨n1, rfl, w1⟩ := f1.inS
  exact ⟨⟨n0, n1⟩, rfl, ⟨w0, w1⟩⟩
theorem rdPr : Rd Tryz.prog 281 [.s, .i .i64] := .st [(0, 9, [.s]), (1, 3, [.i .i64])] (by kernel_rfl) (by kernel_rfl) (by kernel_rfl) rfl rfl (.cons (.s (by kernel_rfl) (by kernel_rfl)) (.cons (.i (by kernel_rfl) (by kernel_rfl)) .nil))
theorem Pr.of {e : List T} (h : Fits [.s, .i .i64] e) : ∃ a : Pr, e = a.e ∧ a.Fit := by
  obtain ⟨t0, e, rfl, f0, h⟩ := h.cons
  obtain ⟨t1, e, rfl, f1, h⟩ := h.cons
  obtain rfl := h.nil
  obtain ⟨n0, rfl, w0⟩ := f0.inS
  obtain ⟨n1, rfl, w1⟩ := f1.inI
  exact ⟨⟨n0, n1⟩, rfl, ⟨w0, i64_of w1⟩⟩
theorem rdSes : Rd Tryz.prog 294 [.i .i64, .i .i64, .i .i64] := .st [(0, 3, [.i .i64]), (1, 3, [.i .i64]), (2, 3, [.i .i64])] (by kernel_rfl) (by kernel_rfl) (by kernel_rfl) rfl rfl (.cons (.i (by kernel_rfl) (by kernel_rfl)) (.cons (.i (by kernel_rfl) (by kernel_rfl)) (.cons (.i (by kernel_rfl) (by kernel_rfl)) .nil)))
theorem Ses.of {e : List T} (h : Fits [.i .i64, .i .i64, .i .i64] e) : ∃ a : Ses, e = a.e ∧ a.Fit := by
  obtain ⟨t0, e, rfl, f0, h⟩ := h.cons
  obtain ⟨t1, e, rfl, f1, h⟩ := h.cons
  obtain ⟨t2, e, rfl, f2, h⟩ := h.cons
  obtain rfl := h.nil
  obtain ⟨n0, rfl, w0⟩ := f0.inI
  obtain ⟨n1, rfl, w1⟩ := f1.inI
  obtain ⟨n2, rfl, w2⟩ := f2.inI
  exact ⟨⟨n0, n1, n2⟩, rfl, ⟨i64_of w0, i64_of w1, i64_of w2⟩⟩
theorem rdStt : Rd Tryz.prog 27 [.s, .s, .l [.s, .i .i64], .l [.i .i64, .i .i64, .i .i64], .b, .s] := .st [(0, 23, [.s, .s]), (2, 24, [.l [.s, .i .i64]]), (3, 25, [.l [.i .i64, .i .i64, .i .i64]]), (4, 4, [.b]), (5, 9, [.s])] (by kernel_rfl) (by kernel_rfl) (by kernel_rfl) rfl rfl (.cons rdIv (.cons (.l (e := 281) (by kernel_rfl) (by kernel_rfl) rdPr (by decide)) (.cons (.l (e := 294) (by kernel_rfl) (by kernel_rfl) rdSes (by decide)) (.cons (.b (by kernel_rfl) (by kernel_rfl)) (.cons (.s (by kernel_rfl) (by kernel_rfl)) .nil)))))
theorem Stt.of {e : List T} (h : Fits [.s, .s, .l [.s, .i .i64], .l [.i .i64, .i .i64, .i .i64], .b, .s] e) : ∃ a : Stt, e = a.e ∧ a.Fit := by
  obtain ⟨t0, e, rfl, f0, h⟩ := h.cons
  obtain ⟨t1, e, rfl, f1, h⟩ := h.cons
  obtain ⟨t2, e, rfl, f2, h⟩ := h.cons
  obtain ⟨t3, e, rfl, f3, h⟩ := h.cons
  obtain ⟨t4, e, rfl, f4, h⟩ := h.cons
  obtain ⟨t5, e, rfl, f5, h⟩ := h.cons
  obtain rfl := h.nil
  obtain ⟨n0, rfl, w0⟩ := f0.inS
  obtain ⟨n1, rfl, w1⟩ := f1.inS
  obtain ⟨x2, rfl, w2, g2⟩ := f2.inL
  obtain ⟨n2, rfl, z2⟩ := list_of (fun e he => Pr.of (g2 e he))
  obtain ⟨x3, rfl, w3, g3⟩ := f3.inL
  obtain ⟨n3, rfl, z3⟩ := list_of (fun e he => Ses.of (g3 e he))
  obtain ⟨n4, rfl⟩ := f4.inB
  obtain ⟨n5, rfl, w5⟩ := f5.inS
  exact ⟨⟨⟨n0, n1⟩, n2, n3, n4, n5⟩, rfl, ⟨⟨w0, w1⟩, by simpa using w2, z2, by simpa using w3, z3, w5⟩⟩
theorem rdCfg : Rd Tryz.prog 30 [.i .i64, .l [.i .i64], .b] := .st [(0, 3, [.i .i64]), (1, 28, [.l [.i .i64]]), (2, 4, [.b])] (by kernel_rfl) (by kernel_rfl) (by kernel_rfl) rfl rfl (.cons (.i (by kernel_rfl) (by kernel_rfl)) (.cons (.l (e := 3) (by kernel_rfl) (by kernel_rfl) (.i (by kernel_rfl) (by kernel_rfl)) (by decide)) (.cons (.b (by kernel_rfl) (by kernel_rfl)) .nil)))
theorem Cfg.of {e : List T} (h : Fits [.i .i64, .l [.i .i64], .b] e) : ∃ a : Cfg, e = a.e ∧ a.Fit := by
  obtain ⟨t0, e, rfl, f0, h⟩ := h.cons
  obtain ⟨t1, e, rfl, f1, h⟩ := h.cons
  obtain ⟨t2, e, rfl, f2, h⟩ := h.cons
  obtain rfl := h.nil
  obtain ⟨n0, rfl, w0⟩ := f0.inI
  obtain ⟨x1, rfl, w1, g1⟩ := f1.inL
  obtain ⟨n1, rfl, z1⟩ := list_of (fun e he => iOf (g1 e he))
  obtain ⟨n2, rfl⟩ := f2.inB
  exact ⟨⟨n0, n1, n2⟩, rfl, ⟨i64_of w0, by simpa using w1, z1⟩⟩
theorem rdCmd : Rd Tryz.prog 77 [.i .i64, .s, .i .i64, .i .i64] := .st [(0, 3, [.i .i64]), (1, 9, [.s]), (2, 3, [.i .i64]), (3, 3, [.i .i64])] (by kernel_rfl) (by kernel_rfl) (by kernel_rfl) rfl rfl (.cons (.i (by kernel_rfl) (by kernel_rfl)) (.cons (.s (by kernel_rfl) (by kernel_rfl)) (.cons (.i (by kernel_rfl) (by kernel_rfl)) (.cons (.i (by kernel_rfl) (by kernel_rfl)) .nil))))
theorem Cmd.of {e : List T} (h : Fits [.i .i64, .s, .i .i64, .i .i64] e) : ∃ a : Cmd, e = a.e ∧ a.Fit := by
  obtain ⟨t0, e, rfl, f0, h⟩ := h.cons
  obtain ⟨t1, e, rfl, f1, h⟩ := h.cons
  obtain ⟨t2, e, rfl, f2, h⟩ := h.cons
  obtain ⟨t3, e, rfl, f3, h⟩ := h.cons
  obtain rfl := h.nil
  obtain ⟨n0, rfl, w0⟩ := f0.inI
  obtain ⟨n1, rfl, w1⟩ := f1.inS
  obtain ⟨n2, rfl, w2⟩ := f2.inI
  obtain ⟨n3, rfl, w3⟩ := f3.inI
  exact ⟨⟨n0, n1, n2, n3⟩, rfl, ⟨i64_of w0, w1, i64_of w2, i64_of w3⟩⟩
theorem rdEnt : Rd Tryz.prog 79 [.i .i64, .i .i64, .i .i64, .s, .i .i64, .i .i64] := .st [(0, 3, [.i .i64]), (1, 3, [.i .i64]), (2, 77, [.i .i64, .s, .i .i64, .i .i64])] (by kernel_rfl) (by kernel_rfl) (by kernel_rfl) rfl rfl (.cons (.i (by kernel_rfl) (by kernel_rfl)) (.cons (.i (by kernel_rfl) (by kernel_rfl)) (.cons rdCmd .nil)))
theorem Ent.of {e : List T} (h : Fits [.i .i64, .i .i64, .i .i64, .s, .i .i64, .i .i64] e) : ∃ a : Ent, e = a.e ∧ a.Fit := by
  obtain ⟨t0, e, rfl, f0, h⟩ := h.cons
  obtain ⟨t1, e, rfl, f1, h⟩ := h.cons
  obtain ⟨t2, e, rfl, f2, h⟩ := h.cons
  obtain ⟨t3, e, rfl, f3, h⟩ := h.cons
  obtain ⟨t4, e, rfl, f4, h⟩ := h.cons
  obtain ⟨t5, e, rfl, f5, h⟩ := h.cons
  obtain rfl := h.nil
  obtain ⟨n0, rfl, w0⟩ := f0.inI
  obtain ⟨n1, rfl, w1⟩ := f1.inI
  obtain ⟨n2, rfl, w2⟩ := f2.inI
  obtain ⟨n3, rfl, w3⟩ := f3.inS
  obtain ⟨n4, rfl, w4⟩ := f4.inI
  obtain ⟨n5, rfl, w5⟩ := f5.inI
  exact ⟨⟨n0, n1, ⟨n2, n3, n4, n5⟩⟩, rfl, ⟨i64_of w0, i64_of w1, ⟨i64_of w2, w3, i64_of w4, i64_of w5⟩⟩⟩
theorem rdRep : Rd Tryz.prog 193 [.i .i64, .l [.i .i64], .b, .b, .l [.i .i64, .i .i64, .i .i64, .s, .i .i64, .i .i64]] := .st [(0, 30, [.i .i64, .l [.i .i64], .b]), (3, 4, [.b]), (4, 191, [.l [.i .i64, .i .i64, .i .i64, .s, .i .i64, .i .i64]])] (by kernel_rfl) (by kernel_rfl) (by kernel_rfl) rfl rfl (.cons rdCfg (.cons (.b (by kernel_rfl) (by kernel_rfl)) (.cons (.l (e := 79) (by kernel_rfl) (by kernel_rfl) rdEnt (by decide)) .nil)))
theorem Rep.of {e : List T} (h : Fits [.i .i64, .l [.i .i64], .b, .b, .l [.i .i64, .i .i64, .i .i64, .s, .i .i64, .i .i64]] e) : ∃ a : Rep, e = a.e ∧ a.Fit := by
  obtain ⟨t0, e, rfl, f0, h⟩ := h.cons
  obtain ⟨t1, e, rfl, f1, h⟩ := h.cons
  obtain ⟨t2, e, rfl, f2, h⟩ := h.cons
  obtain ⟨t3, e, rfl, f3, h⟩ := h.cons
  obtain ⟨t4, e, rfl, f4, h⟩ := h.cons
  obtain rfl := h.nil
  obtain ⟨n0, rfl, w0⟩ := f0.inI
  obtain ⟨x1, rfl, w1, g1⟩ := f1.inL
  obtain ⟨n1, rfl, z1⟩ := list_of (fun e he => iOf (g1 e he))
  obtain ⟨n2, rfl⟩ := f2.inB
  obtain ⟨n3, rfl⟩ := f3.inB
  obtain ⟨x4, rfl, w4, g4⟩ := f4.inL
  obtain ⟨n4, rfl, z4⟩ := list_of (fun e he => Ent.of (g4 e he))
  exact ⟨⟨⟨n0, n1, n2⟩, n3, n4⟩, rfl, ⟨⟨i64_of w0, by simpa using w1, z1⟩, by simpa using w4, z4⟩⟩
theorem rdMsg : Rd Tryz.prog 196 [.i .i64, .i .i64, .i .i64, .i .i64, .l [.i .i64], .b, .l [.i .i64, .i .i64, .i .i64, .s, .i .i64, .i .i64]] := .st [(0, 3, [.i .i64]), (1, 3, [.i .i64]), (2, 3, [.i .i64]), (3, 30, [.i .i64, .l [.i .i64], .b]), (6, 191, [.l [.i .i64, .i .i64, .i .i64, .s, .i .i64, .i .i64]])] (by kernel_rfl) (by kernel_rfl) (by kernel_rfl) rfl rfl (.cons (.i (by kernel_rfl) (by kernel_rfl)) (.cons (.i (by kernel_rfl) (by kernel_rfl)) (.cons (.i (by kernel_rfl) (by kernel_rfl)) (.cons rdCfg (.cons (.l (e := 79) (by kernel_rfl) (by kernel_rfl) rdEnt (by decide)) .nil)))))
theorem Msg.of {e : List T} (h : Fits [.i .i64, .i .i64, .i .i64, .i .i64, .l [.i .i64], .b, .l [.i .i64, .i .i64, .i .i64, .s, .i .i64, .i .i64]] e) : ∃ a : Msg, e = a.e ∧ a.Fit := by
  obtain ⟨t0, e, rfl, f0, h⟩ := h.cons
  obtain ⟨t1, e, rfl, f1, h⟩ := h.cons
  obtain ⟨t2, e, rfl, f2, h⟩ := h.cons
  obtain ⟨t3, e, rfl, f3, h⟩ := h.cons
  obtain ⟨t4, e, rfl, f4, h⟩ := h.cons
  obtain ⟨t5, e, rfl, f5, h⟩ := h.cons
  obtain ⟨t6, e, rfl, f6, h⟩ := h.cons
  obtain rfl := h.nil
  obtain ⟨n0, rfl, w0⟩ := f0.inI
  obtain ⟨n1, rfl, w1⟩ := f1.inI
  obtain ⟨n2, rfl, w2⟩ := f2.inI
  obtain ⟨n3, rfl, w3⟩ := f3.inI
  obtain ⟨x4, rfl, w4, g4⟩ := f4.inL
  obtain ⟨n4, rfl, z4⟩ := list_of (fun e he => iOf (g4 e he))
  obtain ⟨n5, rfl⟩ := f5.inB
  obtain ⟨x6, rfl, w6, g6⟩ := f6.inL
  obtain ⟨n6, rfl, z6⟩ := list_of (fun e he => Ent.of (g6 e he))
  exact ⟨⟨n0, n1, n2, ⟨n3, n4, n5⟩, n6⟩, rfl, ⟨i64_of w0, i64_of w1, i64_of w2, ⟨i64_of w3, by simpa using w4, z4⟩, by simpa using w6, z6⟩⟩
theorem rdAns : Rd Tryz.prog 199 [.i .i64, .i .i64, .i .i64, .s, .i .i64, .i .i64, .i .i64] := .st [(0, 79, [.i .i64, .i .i64, .i .i64, .s, .i .i64, .i .i64]), (6, 3, [.i .i64])] (by kernel_rfl) (by kernel_rfl) (by kernel_rfl) rfl rfl (.cons rdEnt (.cons (.i (by kernel_rfl) (by kernel_rfl)) .nil))
theorem Ans.of {e : List T} (h : Fits [.i .i64, .i .i64, .i .i64, .s, .i .i64, .i .i64, .i .i64] e) : ∃ a : Ans, e = a.e ∧ a.Fit := by
  obtain ⟨t0, e, rfl, f0, h⟩ := h.cons
  obtain ⟨t1, e, rfl, f1, h⟩ := h.cons
  obtain ⟨t2, e, rfl, f2, h⟩ := h.cons
  obtain ⟨t3, e, rfl, f3, h⟩ := h.cons
  obtain ⟨t4, e, rfl, f4, h⟩ := h.cons
  obtain ⟨t5, e, rfl, f5, h⟩ := h.cons
  obtain ⟨t6, e, rfl, f6, h⟩ := h.cons
  obtain rfl := h.nil
  obtain ⟨n0, rfl, w0⟩ := f0.inI
  obtain ⟨n1, rfl, w1⟩ := f1.inI
  obtain ⟨n2, rfl, w2⟩ := f2.inI
  obtain ⟨n3, rfl, w3⟩ := f3.inS
  obtain ⟨n4, rfl, w4⟩ := f4.inI
  obtain ⟨n5, rfl, w5⟩ := f5.inI
  obtain ⟨n6, rfl, w6⟩ := f6.inI
  exact ⟨⟨⟨n0, n1, ⟨n2, n3, n4, n5⟩⟩, n6⟩, rfl, ⟨⟨i64_of w0, i64_of w1, ⟨i64_of w2, w3, i64_of w4, i64_of w5⟩⟩, i64_of w6⟩⟩
theorem rdChn : Rd Tryz.prog 36 [.s, .s, .l [.s, .i .i64], .l [.i .i64, .i .i64, .i .i64], .b, .s, .i .i64, .l [.i .i64], .b, .l [.i .i64, .l [.i .i64], .b, .b, .l [.i .i64, .i .i64, .i .i64, .s, .i .i64, .i .i64]], .l [.b], .l [.i .i64, .i .i64, .i .i64, .i .i64, .l [.i .i64], .b, .l [.i .i64, .i .i64, .i .i64, .s, .i .i64, .i .i64]], .l [.i .i64, .i .i64, .i .i64, .s, .i .i64, .i .i64, .i .i64]] := .st [(0, 27, [.s, .s, .l [.s, .i .i64], .l [.i .i64, .i .i64, .i .i64], .b, .s]), (6, 30, [.i .i64, .l [.i .i64], .b]), (9, 31, [.l [.i .i64, .l [.i .i64], .b, .b, .l [.i .i64, .i .i64, .i .i64, .s, .i .i64, .i .i64]]]), (10, 32, [.l [.b]]), (11, 33, [.l [.i .i64, .i .i64, .i .i64, .i .i64, .l [.i .i64], .b, .l [.i .i64, .i .i64, .i .i64, .s, .i .i64, .i .i64]]]), (12, 34, [.l [.i .i64, .i .i64, .i .i64, .s, .i .i64, .i .i64, .i .i64]])] (by kernel_rfl) (by kernel_rfl) (by kernel_rfl) rfl rfl (.cons rdStt (.cons rdCfg (.cons (.l (e := 193) (by kernel_rfl) (by kernel_rfl) rdRep (by decide)) (.cons (.l (e := 4) (by kernel_rfl) (by kernel_rfl) (.b (by kernel_rfl) (by kernel_rfl)) (by decide)) (.cons (.l (e := 196) (by kernel_rfl) (by kernel_rfl) rdMsg (by decide)) (.cons (.l (e := 199) (by kernel_rfl) (by kernel_rfl) rdAns (by decide)) .nil))))))
theorem Chn.of {e : List T} (h : Fits [.s, .s, .l [.s, .i .i64], .l [.i .i64, .i .i64, .i .i64], .b, .s, .i .i64, .l [.i .i64], .b, .l [.i .i64, .l [.i .i64], .b, .b, .l [.i .i64, .i .i64, .i .i64, .s, .i .i64, .i .i64]], .l [.b], .l [.i .i64, .i .i64, .i .i64, .i .i64, .l [.i .i64], .b, .l [.i .i64, .i .i64, .i .i64, .s, .i .i64, .i .i64]], .l [.i .i64, .i .i64, .i .i64, .s, .i .i64, .i .i64, .i .i64]] e) : ∃ a : Chn, e = a.e ∧ a.Fit := by
  obtain ⟨t0, e, rfl, f0, h⟩ := h.cons
  obtain ⟨t1, e, rfl, f1, h⟩ := h.cons
  obtain ⟨t2, e, rfl, f2, h⟩ := h.cons
  obtain ⟨t3, e, rfl, f3, h⟩ := h.cons
  obtain ⟨t4, e, rfl, f4, h⟩ := h.cons
  obtain ⟨t5, e, rfl, f5, h⟩ := h.cons
  obtain ⟨t6, e, rfl, f6, h⟩ := h.cons
  obtain ⟨t7, e, rfl, f7, h⟩ := h.cons
  obtain ⟨t8, e, rfl, f8, h⟩ := h.cons
  obtain ⟨t9, e, rfl, f9, h⟩ := h.cons
  obtain ⟨t10, e, rfl, f10, h⟩ := h.cons
  obtain ⟨t11, e, rfl, f11, h⟩ := h.cons
  obtain ⟨t12, e, rfl, f12, h⟩ := h.cons
  obtain rfl := h.nil
  obtain ⟨n0, rfl, w0⟩ := f0.inS
  obtain ⟨n1, rfl, w1⟩ := f1.inS
  obtain ⟨x2, rfl, w2, g2⟩ := f2.inL
  obtain ⟨n2, rfl, z2⟩ := list_of (fun e he => Pr.of (g2 e he))
  obtain ⟨x3, rfl, w3, g3⟩ := f3.inL
  obtain ⟨n3, rfl, z3⟩ := list_of (fun e he => Ses.of (g3 e he))
  obtain ⟨n4, rfl⟩ := f4.inB
  obtain ⟨n5, rfl, w5⟩ := f5.inS
  obtain ⟨n6, rfl, w6⟩ := f6.inI
  obtain ⟨x7, rfl, w7, g7⟩ := f7.inL
  obtain ⟨n7, rfl, z7⟩ := list_of (fun e he => iOf (g7 e he))
  obtain ⟨n8, rfl⟩ := f8.inB
  obtain ⟨x9, rfl, w9, g9⟩ := f9.inL
  obtain ⟨n9, rfl, z9⟩ := list_of (fun e he => Rep.of (g9 e he))
  obtain ⟨x10, rfl, w10, g10⟩ := f10.inL
  obtain ⟨n10, rfl, z10⟩ := list_of (fun e he => bOf (g10 e he))
  obtain ⟨x11, rfl, w11, g11⟩ := f11.inL
  obtain ⟨n11, rfl, z11⟩ := list_of (fun e he => Msg.of (g11 e he))
  obtain ⟨x12, rfl, w12, g12⟩ := f12.inL
  obtain ⟨n12, rfl, z12⟩ := list_of (fun e he => Ans.of (g12 e he))
  exact ⟨⟨⟨⟨n0, n1⟩, n2, n3, n4, n5⟩, ⟨n6, n7, n8⟩, n9, n10, n11, n12⟩, rfl, ⟨⟨⟨w0, w1⟩, by simpa using w2, z2, by simpa using w3, z3, w5⟩, ⟨i64_of w6, by simpa using w7, z7⟩, by simpa using w9, z9, by simpa using w10, by simpa using w11, z11, by simpa using w12, z12⟩⟩
end Go.YtakiodehjhpgkaaGreatMc
namespace Go.Proofs.YtakiodehjhpgkaaGreat.fnExactChainSafe
open Go.ChangeShapes Go.WideShapes Go.ChangeAt Go.RowKit Go.YtakiodehjhpgkaaGreatMc
theorem own : ownKnob Tryz.prog.godebug = none := by kernel_rfl
theorem laidOut : laidOutB Tryz.prog = true := by kernel_rfl
theorem agg_of {P : Program} {W : World} {base : Nat} {t : TypeId} {v : Value} {F : Array Field} (hu : P.underlying t = some (.struct F)) (h : Value.okWide P W .any base t v) : ∃ cs, v = .agg cs := by
  unfold Value.okWide at h
  rw [hu] at h
  obtain ⟨cs, e, _⟩ := h
  exact ⟨cs, e⟩
theorem one_of {P : Program} {W : World} {base : Nat} {t : TypeId} {v : Value} {d : TypeDesc} (hu : P.underlying t = some d) (hd : (match d with | .int _ => true | .bool => true | .string => true | .slice _ => true | _ => false) = true) (h : Value.okWide P W .any base t v) : v.oneCell' = true := by
  unfold Value.okWide at h
  rw [hu] at h
  cases d <;> first | (cases hd; done) | skip
  all_goals (cases v <;> first | rfl | (exfalso; simp [Cell.okWide, Cell.ok, hu] at h; done))
theorem lifted (os : Os) (started : os.Started) (H : Type) (enc : TypeId × Value → H) :
    ReturnsInHanded {} Tryz.checked os 6 .any (Rows.fnExactChainSafeSpec.pre6 enc Tryz.prog Tryz.f6 Rows.fnExactChainSafeRow.domain false) (Rows.fnExactChainSafeSpec.post enc Tryz.prog Tryz.f6 false true false false) := by
  refine returnsInHanded_of_change_sized (C := Tryz.checked) own started (by kernel_rfl) Tryz.func6
    (ChangeSpec.witness6 (enc := enc) (C := Tryz.checked) false ⟨#[], #[.agg #[.string .empty, .string .empty, .slice none 0 0, .slice none 0 0, .bool false, .string .empty, .int .i64 0, .slice none 0 0, .bool false, .slice none 0 0, .slice none 0 0, .slice none 0 0, .slice none 0 0]], []⟩ 8 (by kernel_rfl) (by kernel_rfl) (by kernel_rfl) (by kernel_rfl)) ?_
  intro W base args ds gs before hval0 hW hcnd hsz0 _
  have hval : ∀ (j : Nat) t v, Tryz.f6.params[j]? = some t → args[j]? = some v → Value.okWide Tryz.prog W .any base t v := hval0
  have hW' := hW
  obtain ⟨p, q, hA0, hV, rfl, hfz, hnd⟩ := hW
  have hA : DataW.TrodAll enc Tryz.prog W 0 (fun _ => true) true Tryz.f6.params.toList args.toList ds p := hA0
  rw [Tryz.params6] at hA hval
  obtain ⟨v0, vs0, d0, ds0, p0, q0, hargs, rfl, rfl, h0, r0⟩ := trodAll_cons hA
  obtain ⟨rfl, rfl, rfl⟩ := trodAll_nil r0
  obtain rfl : args = #[v0] := by cases args; simp_all
  obtain ⟨rfl, rfl⟩ := trodVars_none hV
  have lt0 : ∀ x ∈ p0, x.block < W.heap.size := by obtain ⟨m, hm⟩ := h0; exact DataW.trod_lt m _ _ _ hm
  obtain ⟨c0, rfl⟩ := agg_of (F := Tryz.prog.fieldsOf 36) (by kernel_rfl) (hval 0 36 v0 rfl rfl)
  obtain ⟨x0, f0, R0⟩ := arg_st rdChn h0
  obtain ⟨y0, rfl, t0⟩ := Chn.of f0
  refine (law_run (law_safe y0 t0) W _ (rvs_cons R0 rvs_nil)).mono ?_
  rintro e W' ⟨he, bel⟩
  subst he
  exact ⟨_, rfl, _, _, _, [], _, [], hW', trodAll_mk1 (shut_bool (by kernel_rfl) _), (trodAll_cons_mk (Below.trod laidOut (by kernel_rfl) (of_decide_eq_true (by kernel_rfl)) h0 bel lt0) trodAll_mk0), rfl, bel.frame _, fun h => by cases h⟩
theorem and_i {a b : Bool} (h1 : a = true) (h2 : b = true) : (a && b) = true := by rw [h1, h2]; rfl
set_option maxHeartbeats 400000000 in
theorem closed : joinedFacts Tryz.prog 6 Tryz.f6 Rows.fnExactChainSafeSpec Rows.fnExactChainSafeRow = true := by
  unfold joinedFacts
  repeat' (with_reducible refine and_i ?_ ?_)
  all_goals (as_aux_lemma => kernel_rfl)
theorem over : Rows.fnExactChainSafeRow.holds Tryz.pinned (OpenSpec.ofChange Rows.fnExactChainSafeSpec) :=
  OpenClaim.holds_of_wide 6 Tryz.f6 rfl rfl rfl rfl rfl rfl rfl ⟨rfl, rfl, rfl, rfl, rfl⟩ rfl rfl rfl rfl rfl (by kernel_rfl) Tryz.func6 closed
    (of_decide_eq_true (by kernel_rfl)) (by unfold Func.isWrapper; first | (rw [if_pos (by decide +kernel)]; kernel_rfl) | (rw [if_neg (by decide +kernel)]; exact ⟨rfl, rfl⟩))
    (fun os started H enc _ => lifted os started H enc)
theorem proved : Rows.FnExactChainSafeSaid := over
end Go.Proofs.YtakiodehjhpgkaaGreat.fnExactChainSafe
namespace Go.Proofs.YtakiodehjhpgkaaGreat
/-- The row, under a short name, for the claim. -/
theorem fnExactChainSafe_holds : Rows.FnExactChainSafeSaid := fnExactChainSafe.proved
#print axioms fnExactChainSafe_holds
end Go.Proofs.YtakiodehjhpgkaaGreat
