/- Lemmas of this claim: walks through code, values and memory, and the contracts of functions; under no condition beyond those that each states. -/
import Derived.Test.YtakiodehjhpgkaaGreatGF
set_option maxRecDepth 100000
set_option linter.unusedVariables false
set_option linter.unusedSimpArgs false
namespace Go.YtakiodehjhpgkaaGreatMc
open Go.Proofs
theorem l10Copy_spec (s : Stt) (hs : s.Sm) : Pu Tryz.prog 186 [A s.e] (A s.e) := by
  have h1 := hs.pairsN; have h2 := hs.knownN
  refine Pu.of D Tryz.func186 rfl rfl rfl ?_
  repeat' (first
    | (refine W.cond rfl ?_ ?_ <;> intro hb <;> try simp at hb)
    | refine OpK.of (OpOk.cpM D rfl rfl rfl rfl rfl rfl rfl rfl (by decide) (fun _ => rfl) (by first | assumption | omega | (simp; omega)) (by decide)) ?_
    | refine OpM.v (OpOk.cpM D rfl rfl rfl rfl rfl rfl rfl rfl (by decide) (fun _ => rfl) (by first | assumption | omega | (simp; omega)) (by decide)) rfl ?_
    | refine OpK.of (OpOk.bldE D rfl rfl rfl rfl) ?_
    | refine OpM.v (OpOk.bldE D rfl rfl rfl rfl) rfl ?_
    | refine goO ?_
    | refine goM ?_
    | (refine WO.gs _ rfl rfl rfl ?_ ?_ <;> intro hb <;> simp only [hb] <;> try simp at hb)
    | (refine WM.gs _ rfl rfl rfl ?_ ?_ <;> intro hb <;> simp only [hb] <;> try simp at hb))
  all_goals (refine ⟨.inr rfl, _, _, rfl, .cons (.ag (.cons (by first | exact .emp | exact .full rfl rfl rfl | exact .id rfl | fail) (.cons (by first | exact .emp | exact .full rfl rfl rfl | exact .id rfl | fail) (.cons (by first | exact .emp | exact .full rfl rfl rfl | exact .id rfl | fail) (.cons (by first | exact .emp | exact .full rfl rfl rfl | exact .id rfl | fail) (.cons (by first | exact .emp | exact .full rfl rfl rfl | exact .id rfl | fail) (.cons (by first | exact .emp | exact .full rfl rfl rfl | exact .id rfl | fail) .nil))))))) (.nil), ?_⟩; rfl)
end Go.YtakiodehjhpgkaaGreatMc

namespace Go.YtakiodehjhpgkaaGreatMc
open Go.Proofs
theorem cmdOk_key {c : Cmd} (h : cmdOk c = true) : (keyOk c.key = true) ∨ (c.kind = 5 ∧ c.key = []) := by
  simp only [cmdOk, Bool.and_eq_true, Bool.or_eq_true, decide_eq_true_eq] at h; exact h.1
def knownOf (s : Stt) (c : Int) : Ses := if fndS c s.known then sesAt s.known c else ⟨0, 0, 0⟩
theorem applyEnt_q {s : Stt} {e : Ent} (h : stOk s = true) (he : entOk e = true) : applyEnt s e =
    if (knownOf s e.client).seq = e.seq then (s, (knownOf s e.client).reply) else if e.seq < (knownOf s e.client).seq then (s, -4) else if s.sealed || !takes s e.cmd then (s, -3) else noted s (doneCmd s e) e := by
  have hsq : 1 ≤ e.seq := by have := (entOk_d he).2.1; simp [inR] at this; omega
  unfold applyEnt knownOf
  rw [if_pos (by simp [h, he])]
  by_cases hf : fndS e.client s.known = true
  · rw [hf]; simp only [if_true, Bool.true_and, decide_eq_true_eq]
    by_cases h1 : e.seq = (sesAt s.known e.client).seq
    · rw [if_pos (show e.seq ≤ (sesAt s.known e.client).seq by omega), if_pos h1, if_pos h1.symm]
    · by_cases h2 : e.seq < (sesAt s.known e.client).seq
      · rw [if_pos (show e.seq ≤ (sesAt s.known e.client).seq by omega), if_neg h1, if_neg (show ¬ (sesAt s.known e.client).seq = e.seq from fun g => h1 g.symm), if_pos h2]
      · rw [if_neg (show ¬ e.seq ≤ (sesAt s.known e.client).seq by omega), if_neg (show ¬ (sesAt s.known e.client).seq = e.seq from fun g => h1 g.symm), if_neg h2]
  · rw [show fndS e.client s.known = false by simpa using hf]; simp only [Bool.false_and, Bool.false_eq_true, if_false]
    rw [if_neg (show ¬ (0 : Int) = e.seq by omega), if_neg (show ¬ e.seq < 0 by omega)]
set_option maxHeartbeats 4000000 in
theorem applyEnt_spec (s : Stt) (e : Ent) (hs : s.Sm) : Pu Tryz.prog 187 [A s.e, A e.e] (SI (applyEnt s e)) := by
  have hk := hs.knownN
  have hp := hs.pairsN
  by_cases h : stOk s = true
  · by_cases he : entOk e = true
    · have hd := stOk_d h
      have hck := cmdOk_key (entOk_d he).2.2
      have hfi : Pu Tryz.prog 275 [L Ses.e s.known, I e.client] (A (knownOf s e.client).e) := find_spec s.known e.client hd.2.2.1
      have hq := applyEnt_q h he
      have e3 := cut_spec2 s.span e.cmd.key
      have e4 := has_ok s.span e.cmd.key
      have h1 := hd.1
      clear hd
      unfold cutW at e3
      generalize knownOf s e.client = q at hq hfi
      by_cases hsq : q.seq = e.seq
      · rw [if_pos hsq] at hq
        rw [hq]
        refine Pu.of D Tryz.func187 rfl rfl rfl ?_
        repeat' (first
    | (refine W.cond rfl ?_ ?_ <;> intro hb <;> (try simp at hb) <;> try contradiction)
    | refine W.db 6 [0, 0, 2, 1, 15] mixed (by decide +kernel) ?_
    | refine cl (stOk_spec s hs) ?_
    | refine cl (entOk_spec e) ?_
    | refine cl (l10Copy_spec s hs) ?_
    | refine cl (hfi) ?_
    | refine cl (e3) ?_
    | refine cl (e4) ?_
    | refine cl (applyCmd_spec s.pairs e.cmd hp) ?_
    | refine cl (sesPut_spec s.known ⟨e.client, e.seq, 0⟩ hk) ?_
    | refine cl (sesPut_spec s.known ⟨e.client, e.seq, (applyCmd s.pairs e.cmd).2⟩ hk) ?_
    | refine goO ?_
    | refine WB.done rfl ?_
    | refine WB.step rfl ?_
    | refine WBI.r D rfl rfl ?_
    | refine WBI.g rfl rfl rfl rfl ?_
    | refine WBI.g0 rfl rfl ?_
    | exact WBL.nil
    | refine WBL.cons ?_ ?_
    | exact WBL.on rfl
    | refine WBL.oc rfl ?_ ?_
    | refine goN ?_
    | (refine WO.gs _ rfl rfl rfl ?_ ?_ <;> intro hb <;> simp only [hb] <;> (try simp at hb) <;> try contradiction)
    | (refine WBI.gs _ rfl rfl rfl ?_ ?_ <;> intro hb <;> simp only [hb] <;> (try simp at hb) <;> try contradiction))
        all_goals first
          | (exfalso; simp_all; done)
          | (refine ⟨.inr rfl, _, _, rfl, .cons (.ag (.cons (by first | exact .emp | exact .full rfl rfl rfl | exact .id rfl | fail) (.cons (by first | exact .emp | exact .full rfl rfl rfl | exact .id rfl | fail) (.cons (by first | exact .emp | exact .full rfl rfl rfl | exact .id rfl | fail) (.cons (by first | exact .emp | exact .full rfl rfl rfl | exact .id rfl | fail) (.cons (by first | exact .emp | exact .full rfl rfl rfl | exact .id rfl | fail) (.cons (by first | exact .emp | exact .full rfl rfl rfl | exact .id rfl | fail) .nil))))))) (.cons (.c (by first | exact .emp | exact .full rfl rfl rfl | exact .id rfl | fail)) (.nil)), ?_⟩; rfl)
          | (refine ⟨.inr rfl, _, _, rfl, .cons (.ag (.cons (by first | exact .emp | exact .full rfl rfl rfl | exact .id rfl | fail) (.cons (by first | exact .emp | exact .full rfl rfl rfl | exact .id rfl | fail) (.cons (by first | exact .emp | exact .full rfl rfl rfl | exact .id rfl | fail) (.cons (by first | exact .emp | exact .full rfl rfl rfl | exact .id rfl | fail) (.cons (by first | exact .emp | exact .full rfl rfl rfl | exact .id rfl | fail) (.cons (by first | exact .emp | exact .full rfl rfl rfl | exact .id rfl | fail) .nil))))))) (.cons (.c (by first | exact .emp | exact .full rfl rfl rfl | exact .id rfl | fail)) (.nil)), ?_⟩; simp only [resV, X.v]; simp [noted, doneCmd, takes, *]; done)
          | (refine ⟨.inr rfl, _, _, rfl, .cons (.ag (.cons (by first | exact .emp | exact .full rfl rfl rfl | exact .id rfl | fail) (.cons (by first | exact .emp | exact .full rfl rfl rfl | exact .id rfl | fail) (.cons (by first | exact .emp | exact .full rfl rfl rfl | exact .id rfl | fail) (.cons (by first | exact .emp | exact .full rfl rfl rfl | exact .id rfl | fail) (.cons (by first | exact .emp | exact .full rfl rfl rfl | exact .id rfl | fail) (.cons (by first | exact .emp | exact .full rfl rfl rfl | exact .id rfl | fail) .nil))))))) (.cons (.c (by first | exact .emp | exact .full rfl rfl rfl | exact .id rfl | fail)) (.nil)), ?_⟩; simp only [resV, X.v]; unfold noted doneCmd takes; (repeat' split) <;> first | rfl | (exfalso; simp_all; done) | (exfalso; omega) | (simp_all; done))
      · rw [if_neg hsq] at hq
        by_cases hk5 : e.cmd.kind = 5
        · by_cases hk0 : e.cmd.key = []
          · rw [hq]
            refine Pu.of D Tryz.func187 rfl rfl rfl ?_
            repeat' (first
    | (refine W.cond rfl ?_ ?_ <;> intro hb <;> (try simp at hb) <;> try contradiction)
    | refine W.db 6 [0, 0, 2, 1, 15] mixed (by decide +kernel) ?_
    | refine cl (stOk_spec s hs) ?_
    | refine cl (entOk_spec e) ?_
    | refine cl (l10Copy_spec s hs) ?_
    | refine cl (hfi) ?_
    | refine cl (e3) ?_
    | refine cl (e4) ?_
    | refine cl (applyCmd_spec s.pairs e.cmd hp) ?_
    | refine cl (sesPut_spec s.known ⟨e.client, e.seq, 0⟩ hk) ?_
    | refine cl (sesPut_spec s.known ⟨e.client, e.seq, (applyCmd s.pairs e.cmd).2⟩ hk) ?_
    | refine goO ?_
    | refine WB.done rfl ?_
    | refine WB.step rfl ?_
    | refine WBI.r D rfl rfl ?_
    | refine WBI.g rfl rfl rfl rfl ?_
    | refine WBI.g0 rfl rfl ?_
    | exact WBL.nil
    | refine WBL.cons ?_ ?_
    | exact WBL.on rfl
    | refine WBL.oc rfl ?_ ?_
    | refine goN ?_
    | (refine WO.gs _ rfl rfl rfl ?_ ?_ <;> intro hb <;> simp only [hb] <;> (try simp at hb) <;> try contradiction)
    | (refine WBI.gs _ rfl rfl rfl ?_ ?_ <;> intro hb <;> simp only [hb] <;> (try simp at hb) <;> try contradiction))
            all_goals first
              | (exfalso; simp_all; done)
              | (refine ⟨.inr rfl, _, _, rfl, .cons (.ag (.cons (by first | exact .emp | exact .full rfl rfl rfl | exact .id rfl | fail) (.cons (by first | exact .emp | exact .full rfl rfl rfl | exact .id rfl | fail) (.cons (by first | exact .emp | exact .full rfl rfl rfl | exact .id rfl | fail) (.cons (by first | exact .emp | exact .full rfl rfl rfl | exact .id rfl | fail) (.cons (by first | exact .emp | exact .full rfl rfl rfl | exact .id rfl | fail) (.cons (by first | exact .emp | exact .full rfl rfl rfl | exact .id rfl | fail) .nil))))))) (.cons (.c (by first | exact .emp | exact .full rfl rfl rfl | exact .id rfl | fail)) (.nil)), ?_⟩; rfl)
              | (refine ⟨.inr rfl, _, _, rfl, .cons (.ag (.cons (by first | exact .emp | exact .full rfl rfl rfl | exact .id rfl | fail) (.cons (by first | exact .emp | exact .full rfl rfl rfl | exact .id rfl | fail) (.cons (by first | exact .emp | exact .full rfl rfl rfl | exact .id rfl | fail) (.cons (by first | exact .emp | exact .full rfl rfl rfl | exact .id rfl | fail) (.cons (by first | exact .emp | exact .full rfl rfl rfl | exact .id rfl | fail) (.cons (by first | exact .emp | exact .full rfl rfl rfl | exact .id rfl | fail) .nil))))))) (.cons (.c (by first | exact .emp | exact .full rfl rfl rfl | exact .id rfl | fail)) (.nil)), ?_⟩; simp only [resV, X.v]; simp [noted, doneCmd, takes, *]; done)
              | (refine ⟨.inr rfl, _, _, rfl, .cons (.ag (.cons (by first | exact .emp | exact .full rfl rfl rfl | exact .id rfl | fail) (.cons (by first | exact .emp | exact .full rfl rfl rfl | exact .id rfl | fail) (.cons (by first | exact .emp | exact .full rfl rfl rfl | exact .id rfl | fail) (.cons (by first | exact .emp | exact .full rfl rfl rfl | exact .id rfl | fail) (.cons (by first | exact .emp | exact .full rfl rfl rfl | exact .id rfl | fail) (.cons (by first | exact .emp | exact .full rfl rfl rfl | exact .id rfl | fail) .nil))))))) (.cons (.c (by first | exact .emp | exact .full rfl rfl rfl | exact .id rfl | fail)) (.nil)), ?_⟩; simp only [resV, X.v]; unfold noted doneCmd takes; (repeat' split) <;> first | rfl | (exfalso; simp_all; done) | (exfalso; omega) | (simp_all; done))
          · by_cases hcu : cutOk s.span e.cmd.key = true
            · rw [hcu] at e3
              rw [hq]
              refine Pu.of D Tryz.func187 rfl rfl rfl ?_
              repeat' (first
    | (refine W.cond rfl ?_ ?_ <;> intro hb <;> (try simp at hb) <;> try contradiction)
    | refine W.db 6 [0, 0, 2, 1, 15] mixed (by decide +kernel) ?_
    | refine cl (stOk_spec s hs) ?_
    | refine cl (entOk_spec e) ?_
    | refine cl (l10Copy_spec s hs) ?_
    | refine cl (hfi) ?_
    | refine cl (e3) ?_
    | refine cl (e4) ?_
    | refine cl (applyCmd_spec s.pairs e.cmd hp) ?_
    | refine cl (sesPut_spec s.known ⟨e.client, e.seq, 0⟩ hk) ?_
    | refine cl (sesPut_spec s.known ⟨e.client, e.seq, (applyCmd s.pairs e.cmd).2⟩ hk) ?_
    | refine goO ?_
    | refine WB.done rfl ?_
    | refine WB.step rfl ?_
    | refine WBI.r D rfl rfl ?_
    | refine WBI.g rfl rfl rfl rfl ?_
    | refine WBI.g0 rfl rfl ?_
    | exact WBL.nil
    | refine WBL.cons ?_ ?_
    | exact WBL.on rfl
    | refine WBL.oc rfl ?_ ?_
    | refine goN ?_
    | (refine WO.gs _ rfl rfl rfl ?_ ?_ <;> intro hb <;> simp only [hb] <;> (try simp at hb) <;> try contradiction)
    | (refine WBI.gs _ rfl rfl rfl ?_ ?_ <;> intro hb <;> simp only [hb] <;> (try simp at hb) <;> try contradiction))
              all_goals first
                | (exfalso; simp_all; done)
                | (refine ⟨.inr rfl, _, _, rfl, .cons (.ag (.cons (by first | exact .emp | exact .full rfl rfl rfl | exact .id rfl | fail) (.cons (by first | exact .emp | exact .full rfl rfl rfl | exact .id rfl | fail) (.cons (by first | exact .emp | exact .full rfl rfl rfl | exact .id rfl | fail) (.cons (by first | exact .emp | exact .full rfl rfl rfl | exact .id rfl | fail) (.cons (by first | exact .emp | exact .full rfl rfl rfl | exact .id rfl | fail) (.cons (by first | exact .emp | exact .full rfl rfl rfl | exact .id rfl | fail) .nil))))))) (.cons (.c (by first | exact .emp | exact .full rfl rfl rfl | exact .id rfl | fail)) (.nil)), ?_⟩; rfl)
                | (refine ⟨.inr rfl, _, _, rfl, .cons (.ag (.cons (by first | exact .emp | exact .full rfl rfl rfl | exact .id rfl | fail) (.cons (by first | exact .emp | exact .full rfl rfl rfl | exact .id rfl | fail) (.cons (by first | exact .emp | exact .full rfl rfl rfl | exact .id rfl | fail) (.cons (by first | exact .emp | exact .full rfl rfl rfl | exact .id rfl | fail) (.cons (by first | exact .emp | exact .full rfl rfl rfl | exact .id rfl | fail) (.cons (by first | exact .emp | exact .full rfl rfl rfl | exact .id rfl | fail) .nil))))))) (.cons (.c (by first | exact .emp | exact .full rfl rfl rfl | exact .id rfl | fail)) (.nil)), ?_⟩; simp only [resV, X.v]; simp [noted, doneCmd, takes, *]; done)
                | (refine ⟨.inr rfl, _, _, rfl, .cons (.ag (.cons (by first | exact .emp | exact .full rfl rfl rfl | exact .id rfl | fail) (.cons (by first | exact .emp | exact .full rfl rfl rfl | exact .id rfl | fail) (.cons (by first | exact .emp | exact .full rfl rfl rfl | exact .id rfl | fail) (.cons (by first | exact .emp | exact .full rfl rfl rfl | exact .id rfl | fail) (.cons (by first | exact .emp | exact .full rfl rfl rfl | exact .id rfl | fail) (.cons (by first | exact .emp | exact .full rfl rfl rfl | exact .id rfl | fail) .nil))))))) (.cons (.c (by first | exact .emp | exact .full rfl rfl rfl | exact .id rfl | fail)) (.nil)), ?_⟩; simp only [resV, X.v]; unfold noted doneCmd takes; (repeat' split) <;> first | rfl | (exfalso; simp_all; done) | (exfalso; omega) | (simp_all; done))
            · have hcu := Bool.eq_false_iff.2 hcu
              rw [hcu] at e3
              rw [hq]
              refine Pu.of D Tryz.func187 rfl rfl rfl ?_
              repeat' (first
    | (refine W.cond rfl ?_ ?_ <;> intro hb <;> (try simp at hb) <;> try contradiction)
    | refine W.db 6 [0, 0, 2, 1, 15] mixed (by decide +kernel) ?_
    | refine cl (stOk_spec s hs) ?_
    | refine cl (entOk_spec e) ?_
    | refine cl (l10Copy_spec s hs) ?_
    | refine cl (hfi) ?_
    | refine cl (e3) ?_
    | refine cl (e4) ?_
    | refine cl (applyCmd_spec s.pairs e.cmd hp) ?_
    | refine cl (sesPut_spec s.known ⟨e.client, e.seq, 0⟩ hk) ?_
    | refine cl (sesPut_spec s.known ⟨e.client, e.seq, (applyCmd s.pairs e.cmd).2⟩ hk) ?_
    | refine goO ?_
    | refine WB.done rfl ?_
    | refine WB.step rfl ?_
    | refine WBI.r D rfl rfl ?_
    | refine WBI.g rfl rfl rfl rfl ?_
    | refine WBI.g0 rfl rfl ?_
    | exact WBL.nil
    | refine WBL.cons ?_ ?_
    | exact WBL.on rfl
    | refine WBL.oc rfl ?_ ?_
    | refine goN ?_
    | (refine WO.gs _ rfl rfl rfl ?_ ?_ <;> intro hb <;> simp only [hb] <;> (try simp at hb) <;> try contradiction)
    | (refine WBI.gs _ rfl rfl rfl ?_ ?_ <;> intro hb <;> simp only [hb] <;> (try simp at hb) <;> try contradiction))
              all_goals first
                | (exfalso; simp_all; done)
                | (refine ⟨.inr rfl, _, _, rfl, .cons (.ag (.cons (by first | exact .emp | exact .full rfl rfl rfl | exact .id rfl | fail) (.cons (by first | exact .emp | exact .full rfl rfl rfl | exact .id rfl | fail) (.cons (by first | exact .emp | exact .full rfl rfl rfl | exact .id rfl | fail) (.cons (by first | exact .emp | exact .full rfl rfl rfl | exact .id rfl | fail) (.cons (by first | exact .emp | exact .full rfl rfl rfl | exact .id rfl | fail) (.cons (by first | exact .emp | exact .full rfl rfl rfl | exact .id rfl | fail) .nil))))))) (.cons (.c (by first | exact .emp | exact .full rfl rfl rfl | exact .id rfl | fail)) (.nil)), ?_⟩; rfl)
                | (refine ⟨.inr rfl, _, _, rfl, .cons (.ag (.cons (by first | exact .emp | exact .full rfl rfl rfl | exact .id rfl | fail) (.cons (by first | exact .emp | exact .full rfl rfl rfl | exact .id rfl | fail) (.cons (by first | exact .emp | exact .full rfl rfl rfl | exact .id rfl | fail) (.cons (by first | exact .emp | exact .full rfl rfl rfl | exact .id rfl | fail) (.cons (by first | exact .emp | exact .full rfl rfl rfl | exact .id rfl | fail) (.cons (by first | exact .emp | exact .full rfl rfl rfl | exact .id rfl | fail) .nil))))))) (.cons (.c (by first | exact .emp | exact .full rfl rfl rfl | exact .id rfl | fail)) (.nil)), ?_⟩; simp only [resV, X.v]; simp [noted, doneCmd, takes, *]; done)
                | (refine ⟨.inr rfl, _, _, rfl, .cons (.ag (.cons (by first | exact .emp | exact .full rfl rfl rfl | exact .id rfl | fail) (.cons (by first | exact .emp | exact .full rfl rfl rfl | exact .id rfl | fail) (.cons (by first | exact .emp | exact .full rfl rfl rfl | exact .id rfl | fail) (.cons (by first | exact .emp | exact .full rfl rfl rfl | exact .id rfl | fail) (.cons (by first | exact .emp | exact .full rfl rfl rfl | exact .id rfl | fail) (.cons (by first | exact .emp | exact .full rfl rfl rfl | exact .id rfl | fail) .nil))))))) (.cons (.c (by first | exact .emp | exact .full rfl rfl rfl | exact .id rfl | fail)) (.nil)), ?_⟩; simp only [resV, X.v]; unfold noted doneCmd takes; (repeat' split) <;> first | rfl | (exfalso; simp_all; done) | (exfalso; omega) | (simp_all; done))
        · have hky : keyOk e.cmd.key = true := by simp_all
          rw [h1, hky, Bool.true_and, Bool.true_and] at e4
          by_cases hha : hasK s.span e.cmd.key = true
          · rw [hha] at e4
            rw [hq]
            refine Pu.of D Tryz.func187 rfl rfl rfl ?_
            repeat' (first
    | (refine W.cond rfl ?_ ?_ <;> intro hb <;> (try simp at hb) <;> try contradiction)
    | refine W.db 6 [0, 0, 2, 1, 15] mixed (by decide +kernel) ?_
    | refine cl (stOk_spec s hs) ?_
    | refine cl (entOk_spec e) ?_
    | refine cl (l10Copy_spec s hs) ?_
    | refine cl (hfi) ?_
    | refine cl (e3) ?_
    | refine cl (e4) ?_
    | refine cl (applyCmd_spec s.pairs e.cmd hp) ?_
    | refine cl (sesPut_spec s.known ⟨e.client, e.seq, 0⟩ hk) ?_
    | refine cl (sesPut_spec s.known ⟨e.client, e.seq, (applyCmd s.pairs e.cmd).2⟩ hk) ?_
    | refine goO ?_
    | refine WB.done rfl ?_
    | refine WB.step rfl ?_
    | refine WBI.r D rfl rfl ?_
    | refine WBI.g rfl rfl rfl rfl ?_
    | refine WBI.g0 rfl rfl ?_
    | exact WBL.nil
    | refine WBL.cons ?_ ?_
    | exact WBL.on rfl
    | refine WBL.oc rfl ?_ ?_
    | refine goN ?_
    | (refine WO.gs _ rfl rfl rfl ?_ ?_ <;> intro hb <;> simp only [hb] <;> (try simp at hb) <;> try contradiction)
    | (refine WBI.gs _ rfl rfl rfl ?_ ?_ <;> intro hb <;> simp only [hb] <;> (try simp at hb) <;> try contradiction))
            all_goals first
              | (exfalso; simp_all; done)
              | (refine ⟨.inr rfl, _, _, rfl, .cons (.ag (.cons (by first | exact .emp | exact .full rfl rfl rfl | exact .id rfl | fail) (.cons (by first | exact .emp | exact .full rfl rfl rfl | exact .id rfl | fail) (.cons (by first | exact .emp | exact .full rfl rfl rfl | exact .id rfl | fail) (.cons (by first | exact .emp | exact .full rfl rfl rfl | exact .id rfl | fail) (.cons (by first | exact .emp | exact .full rfl rfl rfl | exact .id rfl | fail) (.cons (by first | exact .emp | exact .full rfl rfl rfl | exact .id rfl | fail) .nil))))))) (.cons (.c (by first | exact .emp | exact .full rfl rfl rfl | exact .id rfl | fail)) (.nil)), ?_⟩; rfl)
              | (refine ⟨.inr rfl, _, _, rfl, .cons (.ag (.cons (by first | exact .emp | exact .full rfl rfl rfl | exact .id rfl | fail) (.cons (by first | exact .emp | exact .full rfl rfl rfl | exact .id rfl | fail) (.cons (by first | exact .emp | exact .full rfl rfl rfl | exact .id rfl | fail) (.cons (by first | exact .emp | exact .full rfl rfl rfl | exact .id rfl | fail) (.cons (by first | exact .emp | exact .full rfl rfl rfl | exact .id rfl | fail) (.cons (by first | exact .emp | exact .full rfl rfl rfl | exact .id rfl | fail) .nil))))))) (.cons (.c (by first | exact .emp | exact .full rfl rfl rfl | exact .id rfl | fail)) (.nil)), ?_⟩; simp only [resV, X.v]; simp [noted, doneCmd, takes, *]; done)
              | (refine ⟨.inr rfl, _, _, rfl, .cons (.ag (.cons (by first | exact .emp | exact .full rfl rfl rfl | exact .id rfl | fail) (.cons (by first | exact .emp | exact .full rfl rfl rfl | exact .id rfl | fail) (.cons (by first | exact .emp | exact .full rfl rfl rfl | exact .id rfl | fail) (.cons (by first | exact .emp | exact .full rfl rfl rfl | exact .id rfl | fail) (.cons (by first | exact .emp | exact .full rfl rfl rfl | exact .id rfl | fail) (.cons (by first | exact .emp | exact .full rfl rfl rfl | exact .id rfl | fail) .nil))))))) (.cons (.c (by first | exact .emp | exact .full rfl rfl rfl | exact .id rfl | fail)) (.nil)), ?_⟩; simp only [resV, X.v]; unfold noted doneCmd takes; (repeat' split) <;> first | rfl | (exfalso; simp_all; done) | (exfalso; omega) | (simp_all; done))
          · have hha := Bool.eq_false_iff.2 hha
            rw [hha] at e4
            rw [hq]
            refine Pu.of D Tryz.func187 rfl rfl rfl ?_
            repeat' (first
    | (refine W.cond rfl ?_ ?_ <;> intro hb <;> (try simp at hb) <;> try contradiction)
    | refine W.db 6 [0, 0, 2, 1, 15] mixed (by decide +kernel) ?_
    | refine cl (stOk_spec s hs) ?_
    | refine cl (entOk_spec e) ?_
    | refine cl (l10Copy_spec s hs) ?_
    | refine cl (hfi) ?_
    | refine cl (e3) ?_
    | refine cl (e4) ?_
    | refine cl (applyCmd_spec s.pairs e.cmd hp) ?_
    | refine cl (sesPut_spec s.known ⟨e.client, e.seq, 0⟩ hk) ?_
    | refine cl (sesPut_spec s.known ⟨e.client, e.seq, (applyCmd s.pairs e.cmd).2⟩ hk) ?_
    | refine goO ?_
    | refine WB.done rfl ?_
    | refine WB.step rfl ?_
    | refine WBI.r D rfl rfl ?_
    | refine WBI.g rfl rfl rfl rfl ?_
    | refine WBI.g0 rfl rfl ?_
    | exact WBL.nil
    | refine WBL.cons ?_ ?_
    | exact WBL.on rfl
    | refine WBL.oc rfl ?_ ?_
    | refine goN ?_
    | (refine WO.gs _ rfl rfl rfl ?_ ?_ <;> intro hb <;> simp only [hb] <;> (try simp at hb) <;> try contradiction)
    | (refine WBI.gs _ rfl rfl rfl ?_ ?_ <;> intro hb <;> simp only [hb] <;> (try simp at hb) <;> try contradiction))
            all_goals first
              | (exfalso; simp_all; done)
              | (refine ⟨.inr rfl, _, _, rfl, .cons (.ag (.cons (by first | exact .emp | exact .full rfl rfl rfl | exact .id rfl | fail) (.cons (by first | exact .emp | exact .full rfl rfl rfl | exact .id rfl | fail) (.cons (by first | exact .emp | exact .full rfl rfl rfl | exact .id rfl | fail) (.cons (by first | exact .emp | exact .full rfl rfl rfl | exact .id rfl | fail) (.cons (by first | exact .emp | exact .full rfl rfl rfl | exact .id rfl | fail) (.cons (by first | exact .emp | exact .full rfl rfl rfl | exact .id rfl | fail) .nil))))))) (.cons (.c (by first | exact .emp | exact .full rfl rfl rfl | exact .id rfl | fail)) (.nil)), ?_⟩; rfl)
              | (refine ⟨.inr rfl, _, _, rfl, .cons (.ag (.cons (by first | exact .emp | exact .full rfl rfl rfl | exact .id rfl | fail) (.cons (by first | exact .emp | exact .full rfl rfl rfl | exact .id rfl | fail) (.cons (by first | exact .emp | exact .full rfl rfl rfl | exact .id rfl | fail) (.cons (by first | exact .emp | exact .full rfl rfl rfl | exact .id rfl | fail) (.cons (by first | exact .emp | exact .full rfl rfl rfl | exact .id rfl | fail) (.cons (by first | exact .emp | exact .full rfl rfl rfl | exact .id rfl | fail) .nil))))))) (.cons (.c (by first | exact .emp | exact .full rfl rfl rfl | exact .id rfl | fail)) (.nil)), ?_⟩; simp only [resV, X.v]; simp [noted, doneCmd, takes, *]; done)
              | (refine ⟨.inr rfl, _, _, rfl, .cons (.ag (.cons (by first | exact .emp | exact .full rfl rfl rfl | exact .id rfl | fail) (.cons (by first | exact .emp | exact .full rfl rfl rfl | exact .id rfl | fail) (.cons (by first | exact .emp | exact .full rfl rfl rfl | exact .id rfl | fail) (.cons (by first | exact .emp | exact .full rfl rfl rfl | exact .id rfl | fail) (.cons (by first | exact .emp | exact .full rfl rfl rfl | exact .id rfl | fail) (.cons (by first | exact .emp | exact .full rfl rfl rfl | exact .id rfl | fail) .nil))))))) (.cons (.c (by first | exact .emp | exact .full rfl rfl rfl | exact .id rfl | fail)) (.nil)), ?_⟩; simp only [resV, X.v]; unfold noted doneCmd takes; (repeat' split) <;> first | rfl | (exfalso; simp_all; done) | (exfalso; omega) | (simp_all; done))
    · refine Pu.of D Tryz.func187 rfl rfl rfl ?_
      repeat' (first
    | (refine W.cond rfl ?_ ?_ <;> intro hb <;> try simp at hb)
    | refine W.db 6 [0, 0, 2, 1, 15] mixed (by decide +kernel) ?_
    | refine cl (stOk_spec s hs) ?_
    | refine cl (entOk_spec e) ?_
    | refine goO ?_
    | refine WB.done rfl ?_
    | refine WB.step rfl ?_
    | refine WBI.r D rfl rfl ?_
    | refine WBI.g rfl rfl rfl rfl ?_
    | refine WBI.g0 rfl rfl ?_
    | exact WBL.nil
    | refine WBL.cons ?_ ?_
    | exact WBL.on rfl
    | refine WBL.oc rfl ?_ ?_
    | refine goS ?_
    | (refine WO.gs _ rfl rfl rfl ?_ ?_ <;> intro hb <;> simp only [hb] <;> try simp at hb)
    | (refine WBI.gs _ rfl rfl rfl ?_ ?_ <;> intro hb <;> simp only [hb] <;> try simp at hb))
      all_goals first
        | (exfalso; simp_all; done)
        | (refine ⟨.inr rfl, _, _, rfl, .cons (.ag (.cons (by first | exact .emp | exact .full rfl rfl rfl | exact .id rfl | fail) (.cons (by first | exact .emp | exact .full rfl rfl rfl | exact .id rfl | fail) (.cons (by first | exact .emp | exact .full rfl rfl rfl | exact .id rfl | fail) (.cons (by first | exact .emp | exact .full rfl rfl rfl | exact .id rfl | fail) (.cons (by first | exact .emp | exact .full rfl rfl rfl | exact .id rfl | fail) (.cons (by first | exact .emp | exact .full rfl rfl rfl | exact .id rfl | fail) .nil))))))) (.cons (.c (by first | exact .emp | exact .full rfl rfl rfl | exact .id rfl | fail)) (.nil)), ?_⟩; simp only [resV, X.v]; unfold applyEnt; rw [if_neg (by simp [he])]; rfl)
  · refine Pu.of D Tryz.func187 rfl rfl rfl ?_
    repeat' (first
    | (refine W.cond rfl ?_ ?_ <;> intro hb <;> try simp at hb)
    | refine W.db 6 [0, 0, 2, 1, 15] mixed (by decide +kernel) ?_
    | refine cl (stOk_spec s hs) ?_
    | refine cl (entOk_spec e) ?_
    | refine goO ?_
    | refine WB.done rfl ?_
    | refine WB.step rfl ?_
    | refine WBI.r D rfl rfl ?_
    | refine WBI.g rfl rfl rfl rfl ?_
    | refine WBI.g0 rfl rfl ?_
    | exact WBL.nil
    | refine WBL.cons ?_ ?_
    | exact WBL.on rfl
    | refine WBL.oc rfl ?_ ?_
    | refine goS ?_
    | (refine WO.gs _ rfl rfl rfl ?_ ?_ <;> intro hb <;> simp only [hb] <;> try simp at hb)
    | (refine WBI.gs _ rfl rfl rfl ?_ ?_ <;> intro hb <;> simp only [hb] <;> try simp at hb))
    all_goals first
      | (exfalso; simp_all; done)
      | (refine ⟨.inr rfl, _, _, rfl, .cons (.ag (.cons (by first | exact .emp | exact .full rfl rfl rfl | exact .id rfl | fail) (.cons (by first | exact .emp | exact .full rfl rfl rfl | exact .id rfl | fail) (.cons (by first | exact .emp | exact .full rfl rfl rfl | exact .id rfl | fail) (.cons (by first | exact .emp | exact .full rfl rfl rfl | exact .id rfl | fail) (.cons (by first | exact .emp | exact .full rfl rfl rfl | exact .id rfl | fail) (.cons (by first | exact .emp | exact .full rfl rfl rfl | exact .id rfl | fail) .nil))))))) (.cons (.c (by first | exact .emp | exact .full rfl rfl rfl | exact .id rfl | fail)) (.nil)), ?_⟩; simp only [resV, X.v]; unfold applyEnt; rw [if_neg (by simp [h])]; rfl)
end Go.YtakiodehjhpgkaaGreatMc

namespace Go.YtakiodehjhpgkaaGreatMc
open Go.Proofs
set_option maxHeartbeats 4000000 in
theorem replay_spec (s : Stt) (l : List Ent) (hs : s.Sm) : Pu Tryz.prog 88 [A s.e, L Ent.e l] (RI (replay s l)) := by
  have e1 := stOk_spec s hs
  have e2 := logOk_spec l
  by_cases h : stOk s = true
  · by_cases hl : logOk l = true
    · rw [h] at e1; rw [hl] at e2
      obtain ⟨h24, hle⟩ := logOk_d hl
      refine Pu.of D Tryz.func88 rfl rfl rfl ?_
      repeat' (first
    | (refine W.cond rfl ?_ ?_ <;> intro hb <;> try simp at hb)
    | refine W.db 8 [0, 0, 0, 6, 8, 17, 32, 64, 64, 0, 767, 2047] mixed (by decide +kernel) ?_
    | refine cl (e1) ?_
    | refine cl (e2) ?_
    | refine cl (l10Copy_spec s hs) ?_
    | refine OpK.of (OpOk.mk0e D eI rfl rfl rfl rfl rfl rfl (by omega) (by decide) ⟨by dsimp only; omega, by omega⟩) ?_
    | refine OpK.of (OpOk.bldE D rfl rfl rfl rfl) ?_
    | refine goO ?_
    | refine WB.done rfl ?_
    | refine WB.step rfl ?_
    | refine WBI.r D rfl rfl ?_
    | refine WBI.g rfl rfl rfl rfl ?_
    | refine WBI.g0 rfl rfl ?_
    | exact WBL.nil
    | refine WBL.cons ?_ ?_
    | exact WBL.on rfl
    | refine WBL.oc rfl ?_ ?_
    | refine goS ?_
    | (refine WO.gs _ rfl rfl rfl ?_ ?_ <;> intro hb <;> simp only [hb] <;> try simp at hb)
    | (refine WBI.gs _ rfl rfl rfl ?_ ?_ <;> intro hb <;> simp only [hb] <;> try simp at hb))
      all_goals first | (exfalso; simp_all; done) | skip
      refine W.ghe eI 6 1 (by decide) rfl ?_
      refine W.loop (σ := Nat × Stt × List Int) (fun q => [(8, I q.1), (1, L Ent.e l), (6, .c (.sl 3 q.2.2.length 0 q.2.2.length)), (7, .c (.ptr 2 0)), (4, .c (.ptr 1 0)), (2, .c (.ptr 0 0))]) (fun q => [.box (tc s.e), .box zSt, .box (tc q.2.1.e), .arr (Rs eI q.2.2) 1])
        (fun q => q.1 ≤ l.length ∧ q.2.2.length = q.1 ∧ stOk q.2.1 = true ∧ runE s l = ((runE q.2.1 (l.drop q.1)).1, q.2.2 ++ (runE q.2.1 (l.drop q.1)).2)) (fun q => l.length - q.1) 4 (fun _ _ => rfl) (0, s, []) ⟨by simp, rfl, h, by simp⟩ rfl (.cons rfl rfl (.cons rfl rfl (.cons rfl rfl (.cons rfl rfl (.cons rfl rfl (.cons rfl rfl (.nil))))))) ?_
      rintro ⟨k, t, acc⟩ ⟨hk1, hk2, ht, hy⟩
      dsimp only at hk1 hk2 ht hy
      have hsm := stOk_sm ht
      by_cases hlt : k < l.length
      · rw [drop_cons hlt, runE] at hy
        repeat' (first
    | (refine W.cond rfl ?_ ?_ <;> intro hb <;> try simp at hb)
    | refine W.df 8 10 38 mixed (by decide +kernel) (by repeat' (first | exact .nil | refine .box rfl ?_ | refine .arr (rs_low _ _ _) ?_ | refine .dead ?_ | fail)) ?_
    | (refine TF.mk ?_ ?_ <;> dsimp only [dropE, Nat.reduceBEq, cond_true, cond_false, List.size_toArray, List.length_cons, List.length_nil, Nat.reduceAdd, Nat.reduceSub])
    | refine cl (applyEnt_spec t l[k] hsm) ?_
    | refine OpK.of (OpOk.bldF D [(applyEnt t l[k]).2] eI rfl rfl rfl rfl (by decide) (by decide) (by decide) rfl rfl rfl) ?_
    | refine OpM.v (OpOk.bldF D [(applyEnt t l[k]).2] eI rfl rfl rfl rfl (by decide) (by decide) (by decide) rfl rfl rfl) rfl ?_
    | refine OpK.of (OpOk.apM D rfl rfl rfl rfl rfl rfl rfl rfl (by first | rfl | simp) rfl rfl (fun _ => rfl) (by first | assumption | omega | (simp; omega)) (by decide)) ?_
    | refine OpM.v (OpOk.apM D rfl rfl rfl rfl rfl rfl rfl rfl (by first | rfl | simp) rfl rfl (fun _ => rfl) (by first | assumption | omega | (simp; omega)) (by decide)) rfl ?_
    | refine OpM.bl (OpOk.apM D rfl rfl rfl rfl rfl rfl rfl rfl (by first | rfl | simp) rfl rfl (fun _ => rfl) (by first | assumption | omega | (simp; omega)) (by decide)) ?_
    | refine goO ?_
    | refine WE.done (by with_unfolding_all rfl) ?_
    | refine WE.step (by with_unfolding_all rfl) ?_
    | refine WI.r D rfl ?_
    | refine WI.g rfl rfl rfl ?_
    | refine WI.g0 rfl ?_
    | refine WL.cons ?_ ?_
    | exact WL.nil
    | exact WL.on (by with_unfolding_all rfl)
    | refine WL.oc (by with_unfolding_all rfl) ?_ ?_
    | refine goN ?_
    | (refine WO.gs _ rfl rfl rfl ?_ ?_ <;> intro hb <;> simp only [hb] <;> try simp at hb)
    | (refine WM.gs _ rfl rfl rfl ?_ ?_ <;> intro hb <;> simp only [hb] <;> try simp at hb)
    | (refine WF.gs _ rfl rfl rfl ?_ ?_ <;> intro hb <;> simp only [hb] <;> try simp at hb)
    | (refine WI.gs _ rfl rfl rfl ?_ ?_ <;> intro hb <;> simp only [hb] <;> try simp at hb))
        all_goals first
          | (exfalso; omega)
          | exact ⟨(k + 1, (applyEnt t l[k]).1, acc ++ [(applyEnt t l[k]).2]), ⟨hlt, by simp [hk2], applyEnt_ok ht (hle _ (List.getElem_mem _)), by rw [hy]; simp⟩, by dsimp only; omega, (.cons rfl rfl (.cons rfl rfl (.cons rfl rfl (.cons rfl rfl (.cons rfl rfl (.cons rfl rfl (.nil))))))), rfl, LH.lows (by repeat' (first | exact .nil | refine .box rfl ?_ | refine .arr (rs_low _ _ _) ?_ | refine .dead ?_ | fail))⟩
      · repeat' (first
    | (refine W.cond rfl ?_ ?_ <;> intro hb <;> try simp at hb)
    | refine W.db 8 [0, 0, 0, 6, 8, 17, 32, 64, 64, 0, 767, 2047] mixed (by decide +kernel) ?_
    | refine goO ?_
    | refine WB.done rfl ?_
    | refine WB.step rfl ?_
    | refine WBI.r D rfl rfl ?_
    | refine WBI.g rfl rfl rfl rfl ?_
    | refine WBI.g0 rfl rfl ?_
    | exact WBL.nil
    | refine WBL.cons ?_ ?_
    | exact WBL.on rfl
    | refine WBL.oc rfl ?_ ?_
    | refine goS ?_
    | (refine WO.gs _ rfl rfl rfl ?_ ?_ <;> intro hb <;> simp only [hb] <;> try simp at hb)
    | (refine WBI.gs _ rfl rfl rfl ?_ ?_ <;> intro hb <;> simp only [hb] <;> try simp at hb))
        all_goals first
          | (exfalso; omega)
          | (rw [drop_nil (by omega), runE] at hy
             refine ⟨.inr rfl, _, _, rfl, .cons (.ag (.cons (by first | exact .emp | exact .full rfl rfl rfl | exact .id rfl | fail) (.cons (by first | exact .emp | exact .full rfl rfl rfl | exact .id rfl | fail) (.cons (by first | exact .emp | exact .full rfl rfl rfl | exact .id rfl | fail) (.cons (by first | exact .emp | exact .full rfl rfl rfl | exact .id rfl | fail) (.cons (by first | exact .emp | exact .full rfl rfl rfl | exact .id rfl | fail) (.cons (by first | exact .emp | exact .full rfl rfl rfl | exact .id rfl | fail) .nil))))))) (.cons (.c (by first | exact .emp | exact .full rfl rfl rfl | exact .id rfl | fail)) (.nil)), ?_⟩
             simp only [resV, X.v, replay, h, hl, hy, List.append_nil]; rfl)
    · rw [h] at e1; rw [show logOk l = false by simpa using hl] at e2
      refine Pu.of D Tryz.func88 rfl rfl rfl ?_
      repeat' (first
    | (refine W.cond rfl ?_ ?_ <;> intro hb <;> try simp at hb)
    | refine W.db 8 [0, 0, 0, 6, 8, 17, 32, 64, 64, 0, 767, 2047] mixed (by decide +kernel) ?_
    | refine cl (e1) ?_
    | refine cl (e2) ?_
    | refine OpK.of (OpOk.bldE D rfl rfl rfl rfl) ?_
    | refine goO ?_
    | refine WB.done rfl ?_
    | refine WB.step rfl ?_
    | refine WBI.r D rfl rfl ?_
    | refine WBI.g rfl rfl rfl rfl ?_
    | refine WBI.g0 rfl rfl ?_
    | exact WBL.nil
    | refine WBL.cons ?_ ?_
    | exact WBL.on rfl
    | refine WBL.oc rfl ?_ ?_
    | refine goS ?_
    | (refine WO.gs _ rfl rfl rfl ?_ ?_ <;> intro hb <;> simp only [hb] <;> try simp at hb)
    | (refine WBI.gs _ rfl rfl rfl ?_ ?_ <;> intro hb <;> simp only [hb] <;> try simp at hb))
      all_goals first
        | (exfalso; simp_all; done)
        | (refine ⟨.inr rfl, _, _, rfl, .cons (.ag (.cons (by first | exact .emp | exact .full rfl rfl rfl | exact .id rfl | fail) (.cons (by first | exact .emp | exact .full rfl rfl rfl | exact .id rfl | fail) (.cons (by first | exact .emp | exact .full rfl rfl rfl | exact .id rfl | fail) (.cons (by first | exact .emp | exact .full rfl rfl rfl | exact .id rfl | fail) (.cons (by first | exact .emp | exact .full rfl rfl rfl | exact .id rfl | fail) (.cons (by first | exact .emp | exact .full rfl rfl rfl | exact .id rfl | fail) .nil))))))) (.cons (.c (by first | exact .emp | exact .full rfl rfl rfl | exact .id rfl | fail)) (.nil)), ?_⟩; simp [resV, X.v, replay, hl]; rfl)
  · rw [show stOk s = false by simpa using h] at e1
    refine Pu.of D Tryz.func88 rfl rfl rfl ?_
    repeat' (first
    | (refine W.cond rfl ?_ ?_ <;> intro hb <;> try simp at hb)
    | refine W.db 8 [0, 0, 0, 6, 8, 17, 32, 64, 64, 0, 767, 2047] mixed (by decide +kernel) ?_
    | refine cl (e1) ?_
    | refine OpK.of (OpOk.bldE D rfl rfl rfl rfl) ?_
    | refine goO ?_
    | refine WB.done rfl ?_
    | refine WB.step rfl ?_
    | refine WBI.r D rfl rfl ?_
    | refine WBI.g rfl rfl rfl rfl ?_
    | refine WBI.g0 rfl rfl ?_
    | exact WBL.nil
    | refine WBL.cons ?_ ?_
    | exact WBL.on rfl
    | refine WBL.oc rfl ?_ ?_
    | refine goS ?_
    | (refine WO.gs _ rfl rfl rfl ?_ ?_ <;> intro hb <;> simp only [hb] <;> try simp at hb)
    | (refine WBI.gs _ rfl rfl rfl ?_ ?_ <;> intro hb <;> simp only [hb] <;> try simp at hb))
    all_goals first
      | (exfalso; simp_all; done)
      | (refine ⟨.inr rfl, _, _, rfl, .cons (.ag (.cons (by first | exact .emp | exact .full rfl rfl rfl | exact .id rfl | fail) (.cons (by first | exact .emp | exact .full rfl rfl rfl | exact .id rfl | fail) (.cons (by first | exact .emp | exact .full rfl rfl rfl | exact .id rfl | fail) (.cons (by first | exact .emp | exact .full rfl rfl rfl | exact .id rfl | fail) (.cons (by first | exact .emp | exact .full rfl rfl rfl | exact .id rfl | fail) (.cons (by first | exact .emp | exact .full rfl rfl rfl | exact .id rfl | fail) .nil))))))) (.cons (.c (by first | exact .emp | exact .full rfl rfl rfl | exact .id rfl | fail)) (.nil)), ?_⟩; simp [resV, X.v, replay, h]; rfl)
end Go.YtakiodehjhpgkaaGreatMc
