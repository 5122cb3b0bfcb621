/- Lemmas of this claim: walks through code, values and memory, and the contracts of functions; under no condition beyond those that each states. -/
import Derived.Test.YtakiodehjhpgkaaGreatGH
import Derived.Test.YtakiodehjhpgkaaGreatGG
set_option maxRecDepth 100000
set_option linter.unusedVariables false
set_option linter.unusedSimpArgs false
namespace Go.YtakiodehjhpgkaaGreatMc
open Go.Proofs
set_option maxHeartbeats 4000000 in
theorem safe_spec (c : Chn) (hs : c.Sm) : Pu Tryz.prog 26 [A c.e] (B (safe c)) := by
  have h1 := chOk_spec c hs
  by_cases hc : chOk c = true
  · have d := chOk_d hc
    have has := answered_spec c hs
    rw [if_pos hc] at has
    rw [hc] at h1
    have hn5 := d.nodes
    have h24 := d.ans24
    have hco := compl_spec c.conf hs.conf.memN
    have hcs := compl_in d.conf
    have hsf : safe c = (rowOk (safeN c (asked c.answers)) none (compl c.conf) && decide ((replay c.base (asked c.answers)).2 = c.answers.map (·.reply))) := by unfold safe; rw [hc, Bool.true_and, (safe_eq c (asked c.answers) (compl c.conf)).1]
    have hrl := reps_len hc
    have hrp := replay_spec c.base (asked c.answers) (stOk_sm d.base)
    have hal : (asked c.answers).length ≤ 24 := by simpa [asked] using h24
    rw [hsf]
    clear hsf
    generalize compl c.conf = l at hco hcs ⊢
    generalize asked c.answers = a at hrl hrp hal has ⊢
    generalize replay c.base a = rr at hrl hrp ⊢
    obtain ⟨hl4, hin⟩ := hcs
    have hnode : ∀ (x : Int) (hx : x ∈ l), ∃ hm : x.toNat < c.nodes.length, nodeAt c x = c.nodes[x.toNat] ∧ c.nodes[x.toNat].log.length ≤ 24 := fun x hx => by
      have h0 := hin x hx
      have hm5 : x.toNat < c.nodes.length := by rw [hn5]; exact h0.2
      exact ⟨hm5, nodeAt_eq hm5, (repOk_log (d.nodeIn _ (List.getElem_mem hm5)).1).1⟩
    refine Pu.of D Tryz.func26 rfl rfl rfl ?_
    repeat' (first
    | (refine W.cond rfl ?_ ?_ <;> intro hb <;> try simp at hb)
    | refine cl (h1) ?_
    | refine cl (has) ?_
    | refine cl (hco) ?_
    | refine goO ?_
    | refine goN ?_
    | (refine WO.gs _ rfl rfl rfl ?_ ?_ <;> intro hb <;> simp only [hb] <;> try simp at hb)
    | (refine WD.gs _ rfl rfl rfl ?_ ?_ <;> intro hb <;> simp only [hb] <;> try simp at hb)
    | (refine WM.gs _ rfl rfl rfl ?_ ?_ <;> intro hb <;> simp only [hb] <;> try simp at hb))
    all_goals first
      | (exfalso; simp_all; done)
      | skip
    refine W.loop (σ := Nat) (fun k => [(5, I k), (4, L Ent.e a), (3, L eI l), (1, .c (.ptr 0 0))]) (fun _ => [.box (tc c.e)]) (fun k => k ≤ l.length ∧ rowOk (safeN c a) none l = rowOk (safeN c a) (ahead l k) (l.drop k)) (fun k => l.length - k) 1 (fun _ _ => rfl) 0 ⟨by simp, by simp [ahead]⟩ rfl (.cons rfl rfl (.cons rfl rfl (.cons rfl rfl (.cons rfl rfl (.nil))))) ?_
    rintro k ⟨hk1, hy⟩
    by_cases hlt : k < l.length
    · have hk0 := hin l[k] (List.getElem_mem hlt)
      obtain ⟨hm5, hn, hr24⟩ := hnode l[k] (List.getElem_mem hlt)
      have hpa := pre_spec c.nodes[(l[k]).toNat].log a (by omega) (by omega)
      rw [rowOk_cons _ hlt] at hy
      by_cases hz : k = 0
      · rw [ahead_0 hz] at hy
        repeat' (first
    | (refine W.cond rfl ?_ ?_ <;> intro hb <;> try simp at hb)
    | refine OpK.of (OpOk.ixI D rfl rfl rfl rfl rfl rfl hk0.1 hm5 (fun _ => rfl)) ?_
    | refine OpD.of (OpOk.ixI D rfl rfl rfl rfl rfl rfl hk0.1 hm5 (fun _ => rfl)) ?_
    | refine OpM.v (OpOk.ixI D rfl rfl rfl rfl rfl rfl hk0.1 hm5 (fun _ => rfl)) rfl ?_
    | refine cl (hpa) ?_
    | refine goO ?_
    | refine goN ?_
    | (refine WO.gs _ rfl rfl rfl ?_ ?_ <;> intro hb <;> simp only [hb] <;> try simp at hb)
    | (refine WD.gs _ rfl rfl rfl ?_ ?_ <;> intro hb <;> simp only [hb] <;> try simp at hb)
    | (refine WM.gs _ rfl rfl rfl ?_ ?_ <;> intro hb <;> simp only [hb] <;> try simp at hb))
        all_goals first
          | (exfalso; omega)
          | (refine ⟨.inr rfl, _, _, rfl, .cons (.c (.id rfl)) .nil, ?_⟩; have hb2 : safeN c a none l[k] = false := by unfold safeN okAt; (try dsimp only); rw [hn]; first | (simp_all; done) | (simp at *; grind)
             rw [hy, hb2, Bool.false_and, Bool.false_and]; rfl)
          | (have hb2 : safeN c a none l[k] = true := by unfold safeN okAt; (try dsimp only); rw [hn]; first | (simp_all; done) | (simp at *; grind)
             rw [hb2, Bool.true_and] at hy
             exact ⟨k + 1, ⟨by omega, hy⟩, by omega, (.cons rfl rfl (.cons rfl rfl (.cons rfl rfl (.cons rfl rfl (.nil))))), rfl, rfl⟩)
      · have hk2 : k - 1 < l.length := by omega
        rw [ahead_s hz hk2] at hy
        have hj0 := hin l[k - 1] (List.getElem_mem hk2)
        obtain ⟨hj5, hnj, hjr⟩ := hnode l[k - 1] (List.getElem_mem hk2)
        have hpb := pre_spec c.nodes[(l[k - 1]).toNat].log c.nodes[(l[k]).toNat].log (by omega) (by omega)
        repeat' (first
    | (refine W.cond rfl ?_ ?_ <;> intro hb <;> try simp at hb)
    | refine OpK.of (OpOk.ixI D rfl rfl rfl rfl rfl rfl hk0.1 hm5 (fun _ => rfl)) ?_
    | refine OpD.of (OpOk.ixI D rfl rfl rfl rfl rfl rfl hk0.1 hm5 (fun _ => rfl)) ?_
    | refine OpM.v (OpOk.ixI D rfl rfl rfl rfl rfl rfl hk0.1 hm5 (fun _ => rfl)) rfl ?_
    | refine OpK.of (OpOk.ixJ D (k - 1) rfl rfl rfl rfl rfl rfl (by omega) (by omega) (fun _ => rfl)) ?_
    | refine OpD.of (OpOk.ixJ D (k - 1) rfl rfl rfl rfl rfl rfl (by omega) (by omega) (fun _ => rfl)) ?_
    | refine OpM.v (OpOk.ixJ D (k - 1) rfl rfl rfl rfl rfl rfl (by omega) (by omega) (fun _ => rfl)) rfl ?_
    | refine OpK.of (OpOk.ixI D rfl rfl rfl rfl rfl rfl hj0.1 hj5 (fun _ => rfl)) ?_
    | refine OpD.of (OpOk.ixI D rfl rfl rfl rfl rfl rfl hj0.1 hj5 (fun _ => rfl)) ?_
    | refine OpM.v (OpOk.ixI D rfl rfl rfl rfl rfl rfl hj0.1 hj5 (fun _ => rfl)) rfl ?_
    | refine cl (hpa) ?_
    | refine cl (hpb) ?_
    | refine OpK.of (OpOk.sub rfl rfl rfl (by omega)) ?_
    | refine OpD.of (OpOk.sub rfl rfl rfl (by omega)) ?_
    | refine OpM.v (OpOk.sub rfl rfl rfl (by omega)) rfl ?_
    | refine goO ?_
    | refine goN ?_
    | (refine WO.gs _ rfl rfl rfl ?_ ?_ <;> intro hb <;> simp only [hb] <;> try simp at hb)
    | (refine WD.gs _ rfl rfl rfl ?_ ?_ <;> intro hb <;> simp only [hb] <;> try simp at hb)
    | (refine WM.gs _ rfl rfl rfl ?_ ?_ <;> intro hb <;> simp only [hb] <;> try simp at hb))
        all_goals first
          | (exfalso; omega)
          | (refine ⟨.inr rfl, _, _, rfl, .cons (.c (.id rfl)) .nil, ?_⟩; have hb2 : safeN c a (some l[k - 1]) l[k] = false := by unfold safeN okAt aftr; (try dsimp only); rw [hn, hnj]; first | (simp_all; done) | (simp at *; grind)
             rw [hy, hb2, Bool.false_and, Bool.false_and]; rfl)
          | (have hb2 : safeN c a (some l[k - 1]) l[k] = true := by unfold safeN okAt aftr; (try dsimp only); rw [hn, hnj]; first | (simp_all; done) | (simp at *; grind)
             rw [hb2, Bool.true_and] at hy
             exact ⟨k + 1, ⟨by omega, hy⟩, by omega, (.cons rfl rfl (.cons rfl rfl (.cons rfl rfl (.cons rfl rfl (.nil))))), rfl, rfl⟩)
    · repeat' (first
    | (refine W.cond rfl ?_ ?_ <;> intro hb <;> try simp at hb)
    | refine cl (hrp) ?_
    | refine goO ?_
    | refine goN ?_
    | (refine WO.gs _ rfl rfl rfl ?_ ?_ <;> intro hb <;> simp only [hb] <;> try simp at hb)
    | (refine WD.gs _ rfl rfl rfl ?_ ?_ <;> intro hb <;> simp only [hb] <;> try simp at hb)
    | (refine WM.gs _ rfl rfl rfl ?_ ?_ <;> intro hb <;> simp only [hb] <;> try simp at hb))
      all_goals first | (exfalso; omega) | skip
      rw [rowOk_nil _ (by omega)] at hy
      rw [hy, Bool.true_and]
      generalize hrs : rr.2 = rs at hrl
      refine W.loop (σ := Nat) (fun k => [(9, I k), (8, L eI rs), (1, .c (.ptr 0 0))]) (fun _ => [.box (tc c.e), .box (tc rr.1.e)]) (fun k => k ≤ c.answers.length ∧ decide (rs = c.answers.map (·.reply)) = decide (rs.drop k = (c.answers.drop k).map (·.reply))) (fun k => c.answers.length - k) 2 (fun _ _ => rfl) 0 ⟨by simp, by simp⟩ rfl (by rw [← hrs]; exact (.cons rfl rfl (.cons rfl rfl (.cons rfl rfl (.nil))))) ?_
      rintro j ⟨hj1, hz⟩
      by_cases hjl : j < c.answers.length
      · have hjr : j < rs.length := by omega
        rw [drop_cons hjl, drop_cons hjr, List.map_cons] at hz
        repeat' (first
    | (refine W.cond rfl ?_ ?_ <;> intro hb <;> try simp at hb)
    | refine goO ?_
    | refine goN ?_
    | (refine WO.gs _ rfl rfl rfl ?_ ?_ <;> intro hb <;> simp only [hb] <;> try simp at hb)
    | (refine WD.gs _ rfl rfl rfl ?_ ?_ <;> intro hb <;> simp only [hb] <;> try simp at hb)
    | (refine WM.gs _ rfl rfl rfl ?_ ?_ <;> intro hb <;> simp only [hb] <;> try simp at hb))
        all_goals first
          | (exfalso; omega)
          | (refine ⟨.inr rfl, _, _, rfl, .cons (.c (.id rfl)) .nil, ?_⟩; have hne : ¬ rs[j] = c.answers[j].reply := by first | exact fun e => hb e.symm | exact hb | (simp_all; done)
             rw [hz, decide_eq_false (fun e => hne (List.cons.inj e).1)]; rfl)
          | (have heq : rs[j] = c.answers[j].reply := by first | exact hb.symm | exact hb | (simp_all; done)
             exact ⟨j + 1, ⟨by omega, by rw [hz]; simp [heq]⟩, by omega, (.cons rfl rfl (.cons rfl rfl (.cons rfl rfl (.nil)))), rfl, rfl⟩)
      · repeat' (first
    | (refine W.cond rfl ?_ ?_ <;> intro hb <;> try simp at hb)
    | refine goO ?_
    | refine goN ?_
    | (refine WO.gs _ rfl rfl rfl ?_ ?_ <;> intro hb <;> simp only [hb] <;> try simp at hb)
    | (refine WD.gs _ rfl rfl rfl ?_ ?_ <;> intro hb <;> simp only [hb] <;> try simp at hb)
    | (refine WM.gs _ rfl rfl rfl ?_ ?_ <;> intro hb <;> simp only [hb] <;> try simp at hb))
        all_goals first
          | (exfalso; omega)
          | (refine ⟨.inr rfl, _, _, rfl, .cons (.c (.id rfl)) .nil, ?_⟩; rw [hz, drop_nil (by omega), drop_nil (by omega)]; rfl)
  · refine Pu.of D Tryz.func26 rfl rfl rfl ?_
    repeat' (first
    | (refine W.cond rfl ?_ ?_ <;> intro hb <;> try simp at hb)
    | refine cl (h1) ?_
    | refine goO ?_
    | refine goS ?_
    | (refine WO.gs _ rfl rfl rfl ?_ ?_ <;> intro hb <;> simp only [hb] <;> try simp at hb)
    | (refine WD.gs _ rfl rfl rfl ?_ ?_ <;> intro hb <;> simp only [hb] <;> try simp at hb)
    | (refine WM.gs _ rfl rfl rfl ?_ ?_ <;> intro hb <;> simp only [hb] <;> try simp at hb))
    all_goals first
      | (exfalso; simp_all; done)
      | (refine ⟨.inr rfl, _, _, rfl, .cons (.c (.id rfl)) .nil, ?_⟩; simp [resV, X.v, safe, hc]; done)
end Go.YtakiodehjhpgkaaGreatMc

namespace Go.YtakiodehjhpgkaaGreatMc
open Go.Proofs
/-! ### The law -/
theorem law_safe (c : Chn) (fc : c.Fit) : Pu Tryz.prog 6 [A c.e] (B true) := by
  refine Pu.of D Tryz.func6 rfl rfl rfl ?_
  repeat' (first
    | (refine W.cond rfl ?_ ?_ <;> intro hb <;> try simp at hb)
    | refine cl (Chn.sz_ok c fc 1048576 (by omega) (by omega)) ?_
    | refine goO ?_
    | refine goS ?_
    | (refine WO.gs _ rfl rfl rfl ?_ ?_ <;> intro hb <;> simp only [hb] <;> try simp at hb)
    | (refine WD.gs _ rfl rfl rfl ?_ ?_ <;> intro hb <;> simp only [hb] <;> try simp at hb))
  all_goals first | (refine ⟨.inr rfl, _, _, rfl, .cons (.c (.id rfl)) .nil, ?_⟩; rfl) | skip
  have s1 := Chn.sz_sm c (x := 1048576) (by omega) (by omega) hb
  repeat' (first
    | (refine W.cond rfl ?_ ?_ <;> intro hb <;> try simp at hb)
    | refine cl (Chn.to_ok c s1) ?_
    | refine cl (safe_spec c s1) ?_
    | refine cl (safe_impl c s1) ?_
    | refine cl (Chn.eq_ok c c s1) ?_
    | refine goO ?_
    | refine goS ?_
    | (refine WO.gs _ rfl rfl rfl ?_ ?_ <;> intro hb <;> simp only [hb] <;> try simp at hb)
    | (refine WD.gs _ rfl rfl rfl ?_ ?_ <;> intro hb <;> simp only [hb] <;> try simp at hb))
  all_goals (refine ⟨.inr rfl, _, _, rfl, .cons (.c (.id rfl)) .nil, ?_⟩; rfl)
end Go.YtakiodehjhpgkaaGreatMc
