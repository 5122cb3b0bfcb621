/- Lemmas of this claim: walks through code, values and memory, and the contracts of functions; under no condition beyond those that each states. -/
import Derived.Test.YtakiodehjhpgkaaGreatGD
set_option maxRecDepth 100000
set_option linter.unusedVariables false
set_option linter.unusedSimpArgs false
namespace Go.YtakiodehjhpgkaaGreatMc
open Go.Proofs
set_option maxHeartbeats 4000000 in
theorem applyEnt_impl (s : Stt) (e : Ent) (hs : s.Sm) : Pu Tryz.prog 190 [A s.e, A e.e] (SI (applyEnt s e)) := by
  have hk := hs.knownN
  have hp := hs.pairsN
  by_cases h : stOk s = true
  · by_cases he : entOk e = true
    · have hd := stOk_d h
      have hso := hd.2.2.1
      have hpl := sPlace_impl s.known e.client hso
      by_cases hf : fndS e.client s.known = true
      · have h0 := fndS_lt hf
        have eq := sesAt_eq h0
        rw [hf] at hpl
        by_cases hq : e.seq = (s.known[plcS e.client s.known]).seq
        · have hle : e.seq ≤ (s.known[plcS e.client s.known]).seq := by omega
          have hnl : ¬ (s.known[plcS e.client s.known]).seq < e.seq := by omega
          refine Pu.of D Tryz.func190 rfl rfl rfl ?_
          repeat' (first
    | (refine W.cond rfl ?_ ?_ <;> intro hb <;> (try simp at hb) <;> try contradiction)
    | refine W.db 7 [0, 0, 2, 0, 12, 16, 32, 1, 255] mixed (by decide +kernel) ?_
    | refine cl (stOk_impl s hs) ?_
    | refine cl (entOk_impl e) ?_
    | refine cl (copySt_impl s hs) ?_
    | refine cl (hpl) ?_
    | refine goO ?_
    | refine WB.done rfl ?_
    | refine WB.step rfl ?_
    | refine WBI.r D rfl rfl ?_
    | refine WBI.g rfl rfl rfl rfl ?_
    | refine WBI.g0 rfl rfl ?_
    | exact WBL.nil
    | refine WBL.cons ?_ ?_
    | exact WBL.on rfl
    | refine WBL.oc rfl ?_ ?_
    | refine goN ?_
    | (refine WO.gs _ rfl rfl rfl ?_ ?_ <;> intro hb <;> simp only [hb] <;> (try simp at hb) <;> try contradiction)
    | (refine WD.gs _ rfl rfl rfl ?_ ?_ <;> intro hb <;> simp only [hb] <;> (try simp at hb) <;> try contradiction)
    | (refine WBI.gs _ rfl rfl rfl ?_ ?_ <;> intro hb <;> simp only [hb] <;> (try simp at hb) <;> try contradiction))
          all_goals first
            | (exfalso; simp_all; done)
            | (refine ⟨.inr rfl, _, _, rfl, .cons (.ag (.cons (by first | exact .emp | exact .full rfl rfl rfl | exact .id rfl | fail) (.cons (by first | exact .emp | exact .full rfl rfl rfl | exact .id rfl | fail) (.cons (by first | exact .emp | exact .full rfl rfl rfl | exact .id rfl | fail) (.cons (by first | exact .emp | exact .full rfl rfl rfl | exact .id rfl | fail) (.cons (by first | exact .emp | exact .full rfl rfl rfl | exact .id rfl | fail) (.cons (by first | exact .emp | exact .full rfl rfl rfl | exact .id rfl | fail) .nil))))))) (.cons (.c (by first | exact .emp | exact .full rfl rfl rfl | exact .id rfl | fail)) (.nil)), ?_⟩; simp only [resV, X.v]; unfold applyEnt; rw [if_pos (by simp [h, he]), hf, eq, Bool.true_and, decide_eq_true hle, if_pos rfl, if_pos hq]; rfl)
        · refine Pu.of D Tryz.func190 rfl rfl rfl ?_
          repeat' (first
    | (refine W.cond rfl ?_ ?_ <;> intro hb <;> (try simp at hb) <;> try contradiction)
    | refine W.db 7 [0, 0, 2, 0, 12, 16, 32, 1, 255] mixed (by decide +kernel) ?_
    | refine cl (stOk_impl s hs) ?_
    | refine cl (entOk_impl e) ?_
    | refine cl (copySt_impl s hs) ?_
    | refine cl (hpl) ?_
    | refine cl (takes_impl s e.cmd) ?_
    | refine cl (applyCmd_impl s.pairs e.cmd hp) ?_
    | refine cl (sesPut_impl s.known ⟨e.client, e.seq, 0⟩ hk) ?_
    | refine cl (sesPut_impl s.known ⟨e.client, e.seq, (applyCmd s.pairs e.cmd).2⟩ hk) ?_
    | refine goO ?_
    | refine WB.done rfl ?_
    | refine WB.step rfl ?_
    | refine WBI.r D rfl rfl ?_
    | refine WBI.g rfl rfl rfl rfl ?_
    | refine WBI.g0 rfl rfl ?_
    | exact WBL.nil
    | refine WBL.cons ?_ ?_
    | exact WBL.on rfl
    | refine WBL.oc rfl ?_ ?_
    | refine goN ?_
    | (refine WO.gs _ rfl rfl rfl ?_ ?_ <;> intro hb <;> simp only [hb] <;> (try simp at hb) <;> try contradiction)
    | (refine WD.gs _ rfl rfl rfl ?_ ?_ <;> intro hb <;> simp only [hb] <;> (try simp at hb) <;> try contradiction)
    | (refine WBI.gs _ rfl rfl rfl ?_ ?_ <;> intro hb <;> simp only [hb] <;> (try simp at hb) <;> try contradiction))
          all_goals first
            | (exfalso; simp_all; done)
            | (refine ⟨.inr rfl, _, _, rfl, .cons (.ag (.cons (by first | exact .emp | exact .full rfl rfl rfl | exact .id rfl | fail) (.cons (by first | exact .emp | exact .full rfl rfl rfl | exact .id rfl | fail) (.cons (by first | exact .emp | exact .full rfl rfl rfl | exact .id rfl | fail) (.cons (by first | exact .emp | exact .full rfl rfl rfl | exact .id rfl | fail) (.cons (by first | exact .emp | exact .full rfl rfl rfl | exact .id rfl | fail) (.cons (by first | exact .emp | exact .full rfl rfl rfl | exact .id rfl | fail) .nil))))))) (.cons (.c (by first | exact .emp | exact .full rfl rfl rfl | exact .id rfl | fail)) (.nil)), ?_⟩; simp only [resV, X.v]; unfold applyEnt noted doneCmd; rw [eq]; (repeat' split) <;> first | rfl | (exfalso; simp_all; done) | (exfalso; simp_all; omega) | (simp_all; done))
      · rw [show fndS e.client s.known = false by simpa using hf] at hpl
        refine Pu.of D Tryz.func190 rfl rfl rfl ?_
        repeat' (first
    | (refine W.cond rfl ?_ ?_ <;> intro hb <;> (try simp at hb) <;> try contradiction)
    | refine W.db 7 [0, 0, 2, 0, 12, 16, 32, 1, 255] mixed (by decide +kernel) ?_
    | refine cl (stOk_impl s hs) ?_
    | refine cl (entOk_impl e) ?_
    | refine cl (copySt_impl s hs) ?_
    | refine cl (hpl) ?_
    | refine cl (takes_impl s e.cmd) ?_
    | refine cl (applyCmd_impl s.pairs e.cmd hp) ?_
    | refine cl (sesPut_impl s.known ⟨e.client, e.seq, 0⟩ hk) ?_
    | refine cl (sesPut_impl s.known ⟨e.client, e.seq, (applyCmd s.pairs e.cmd).2⟩ hk) ?_
    | refine goO ?_
    | refine WB.done rfl ?_
    | refine WB.step rfl ?_
    | refine WBI.r D rfl rfl ?_
    | refine WBI.g rfl rfl rfl rfl ?_
    | refine WBI.g0 rfl rfl ?_
    | exact WBL.nil
    | refine WBL.cons ?_ ?_
    | exact WBL.on rfl
    | refine WBL.oc rfl ?_ ?_
    | refine goN ?_
    | (refine WO.gs _ rfl rfl rfl ?_ ?_ <;> intro hb <;> simp only [hb] <;> (try simp at hb) <;> try contradiction)
    | (refine WD.gs _ rfl rfl rfl ?_ ?_ <;> intro hb <;> simp only [hb] <;> (try simp at hb) <;> try contradiction)
    | (refine WBI.gs _ rfl rfl rfl ?_ ?_ <;> intro hb <;> simp only [hb] <;> (try simp at hb) <;> try contradiction))
        all_goals first
          | (exfalso; simp_all; done)
          | (refine ⟨.inr rfl, _, _, rfl, .cons (.ag (.cons (by first | exact .emp | exact .full rfl rfl rfl | exact .id rfl | fail) (.cons (by first | exact .emp | exact .full rfl rfl rfl | exact .id rfl | fail) (.cons (by first | exact .emp | exact .full rfl rfl rfl | exact .id rfl | fail) (.cons (by first | exact .emp | exact .full rfl rfl rfl | exact .id rfl | fail) (.cons (by first | exact .emp | exact .full rfl rfl rfl | exact .id rfl | fail) (.cons (by first | exact .emp | exact .full rfl rfl rfl | exact .id rfl | fail) .nil))))))) (.cons (.c (by first | exact .emp | exact .full rfl rfl rfl | exact .id rfl | fail)) (.nil)), ?_⟩; simp only [resV, X.v]; unfold applyEnt noted doneCmd; (repeat' split) <;> first | rfl | (exfalso; simp_all; done) | (exfalso; simp_all; omega) | (simp_all; done))
    · refine Pu.of D Tryz.func190 rfl rfl rfl ?_
      repeat' (first
    | (refine W.cond rfl ?_ ?_ <;> intro hb <;> try simp at hb)
    | refine W.db 7 [0, 0, 2, 0, 12, 16, 32, 1, 255] mixed (by decide +kernel) ?_
    | refine cl (stOk_impl s hs) ?_
    | refine cl (entOk_impl e) ?_
    | refine goO ?_
    | refine WB.done rfl ?_
    | refine WB.step rfl ?_
    | refine WBI.r D rfl rfl ?_
    | refine WBI.g rfl rfl rfl rfl ?_
    | refine WBI.g0 rfl rfl ?_
    | exact WBL.nil
    | refine WBL.cons ?_ ?_
    | exact WBL.on rfl
    | refine WBL.oc rfl ?_ ?_
    | refine goS ?_
    | (refine WO.gs _ rfl rfl rfl ?_ ?_ <;> intro hb <;> simp only [hb] <;> try simp at hb)
    | (refine WD.gs _ rfl rfl rfl ?_ ?_ <;> intro hb <;> simp only [hb] <;> try simp at hb)
    | (refine WBI.gs _ rfl rfl rfl ?_ ?_ <;> intro hb <;> simp only [hb] <;> try simp at hb))
      all_goals first
        | (exfalso; simp_all; done)
        | (refine ⟨.inr rfl, _, _, rfl, .cons (.ag (.cons (by first | exact .emp | exact .full rfl rfl rfl | exact .id rfl | fail) (.cons (by first | exact .emp | exact .full rfl rfl rfl | exact .id rfl | fail) (.cons (by first | exact .emp | exact .full rfl rfl rfl | exact .id rfl | fail) (.cons (by first | exact .emp | exact .full rfl rfl rfl | exact .id rfl | fail) (.cons (by first | exact .emp | exact .full rfl rfl rfl | exact .id rfl | fail) (.cons (by first | exact .emp | exact .full rfl rfl rfl | exact .id rfl | fail) .nil))))))) (.cons (.c (by first | exact .emp | exact .full rfl rfl rfl | exact .id rfl | fail)) (.nil)), ?_⟩; simp only [resV, X.v]; unfold applyEnt; rw [if_neg (by simp [he])]; rfl)
  · refine Pu.of D Tryz.func190 rfl rfl rfl ?_
    repeat' (first
    | (refine W.cond rfl ?_ ?_ <;> intro hb <;> try simp at hb)
    | refine W.db 7 [0, 0, 2, 0, 12, 16, 32, 1, 255] mixed (by decide +kernel) ?_
    | refine cl (stOk_impl s hs) ?_
    | refine cl (entOk_impl e) ?_
    | refine goO ?_
    | refine WB.done rfl ?_
    | refine WB.step rfl ?_
    | refine WBI.r D rfl rfl ?_
    | refine WBI.g rfl rfl rfl rfl ?_
    | refine WBI.g0 rfl rfl ?_
    | exact WBL.nil
    | refine WBL.cons ?_ ?_
    | exact WBL.on rfl
    | refine WBL.oc rfl ?_ ?_
    | refine goS ?_
    | (refine WO.gs _ rfl rfl rfl ?_ ?_ <;> intro hb <;> simp only [hb] <;> try simp at hb)
    | (refine WD.gs _ rfl rfl rfl ?_ ?_ <;> intro hb <;> simp only [hb] <;> try simp at hb)
    | (refine WBI.gs _ rfl rfl rfl ?_ ?_ <;> intro hb <;> simp only [hb] <;> try simp at hb))
    all_goals first
      | (exfalso; simp_all; done)
      | (refine ⟨.inr rfl, _, _, rfl, .cons (.ag (.cons (by first | exact .emp | exact .full rfl rfl rfl | exact .id rfl | fail) (.cons (by first | exact .emp | exact .full rfl rfl rfl | exact .id rfl | fail) (.cons (by first | exact .emp | exact .full rfl rfl rfl | exact .id rfl | fail) (.cons (by first | exact .emp | exact .full rfl rfl rfl | exact .id rfl | fail) (.cons (by first | exact .emp | exact .full rfl rfl rfl | exact .id rfl | fail) (.cons (by first | exact .emp | exact .full rfl rfl rfl | exact .id rfl | fail) .nil))))))) (.cons (.c (by first | exact .emp | exact .full rfl rfl rfl | exact .id rfl | fail)) (.nil)), ?_⟩; simp only [resV, X.v]; unfold applyEnt; rw [if_neg (by simp [h])]; rfl)
end Go.YtakiodehjhpgkaaGreatMc
