/- Lemmas of this claim: walks through code, values and memory, and the contracts of functions; under no condition beyond those that each states. -/
import Derived.Test.YtakiodehjhpgkaaGreatGC
import Derived.Test.YtakiodehjhpgkaaGreatGF
set_option maxRecDepth 100000
set_option linter.unusedVariables false
set_option linter.unusedSimpArgs false
namespace Go.YtakiodehjhpgkaaGreatMc
open Go.Proofs
/-! ### Complete members -/
def compl (c : Cfg) : List Int := if confOk c then (if c.fresh then c.mem.take (c.mem.length - 1) else c.mem) else []
theorem compl_impl (c : Cfg) (hs : c.mem.length ≤ 1048576) : Pu Tryz.prog 90 [A c.e] (L eI (compl c)) := by
  have e1 := confOk_impl c hs
  by_cases h : confOk c = true
  · have h1 := (confOk_mem h).1
    rw [h] at e1
    by_cases hf : c.fresh = true
    · refine Pu.of D Tryz.func90 rfl rfl rfl ?_
      repeat' (first
    | (refine W.cond rfl ?_ ?_ <;> intro hb <;> (try simp at hb) <;> try contradiction)
    | refine cl (e1) ?_
    | refine cl (cpIs (c.mem.take (c.mem.length - 1)) (by simp; omega)) ?_
    | refine cl (cpIs c.mem hs) ?_
    | refine OpK.of (OpOk.sub rfl rfl rfl (by omega)) ?_
    | refine OpK.of (OpOk.slMtI D (c.mem.length - 1) rfl rfl rfl rfl rfl (fun _ => rfl) rfl (by omega) (by omega)) ?_
    | refine goO ?_
    | refine goS ?_
    | (refine WO.gs _ rfl rfl rfl ?_ ?_ <;> intro hb <;> simp only [hb] <;> (try simp at hb) <;> try contradiction))
      all_goals first
        | (exfalso; simp_all; done)
        | (refine ⟨.inr rfl, _, _, rfl, .cons (.c (.id rfl)) .nil, ?_⟩; simp [resV, X.v, compl, h, hf]; done)
    · refine Pu.of D Tryz.func90 rfl rfl rfl ?_
      repeat' (first
    | (refine W.cond rfl ?_ ?_ <;> intro hb <;> (try simp at hb) <;> try contradiction)
    | refine cl (e1) ?_
    | refine cl (cpIs c.mem hs) ?_
    | refine goO ?_
    | refine goS ?_
    | (refine WO.gs _ rfl rfl rfl ?_ ?_ <;> intro hb <;> simp only [hb] <;> (try simp at hb) <;> try contradiction))
      all_goals first
        | (exfalso; simp_all; done)
        | (refine ⟨.inr rfl, _, _, rfl, .cons (.c (.id rfl)) .nil, ?_⟩; simp [resV, X.v, compl, h, hf]; done)
  · rw [show confOk c = false by simpa using h] at e1
    refine Pu.of D Tryz.func90 rfl rfl rfl ?_
    repeat' (first
    | (refine W.cond rfl ?_ ?_ <;> intro hb <;> try simp at hb)
    | refine cl (e1) ?_
    | refine goO ?_
    | refine goS ?_
    | (refine WO.gs _ rfl rfl rfl ?_ ?_ <;> intro hb <;> simp only [hb] <;> try simp at hb))
    all_goals first
      | (exfalso; simp_all; done)
      | (refine ⟨.inr rfl, _, _, rfl, .cons (.c .emp) .nil, ?_⟩; simp [resV, X.v, compl, h]; done)
theorem compl_spec (c : Cfg) (hs : c.mem.length ≤ 1048576) : Pu Tryz.prog 86 [A c.e] (L eI (compl c)) := by
  have e1 := confOk_spec c hs
  by_cases h : confOk c = true
  · have h1 := (confOk_mem h).1
    rw [h] at e1
    by_cases hf : c.fresh = true
    · refine Pu.of D Tryz.func86 rfl rfl rfl ?_
      repeat' (first
    | (refine W.cond rfl ?_ ?_ <;> intro hb <;> (try simp at hb) <;> try contradiction)
    | refine cl (e1) ?_
    | refine OpK.of (OpOk.bldE D rfl rfl rfl rfl) ?_
    | refine OpK.of (OpOk.cpM D rfl rfl rfl rfl rfl rfl rfl rfl (by decide) (fun _ => rfl) (by first | assumption | omega | (simp; omega)) (by decide)) ?_
    | refine OpK.of (OpOk.sub rfl rfl rfl (by omega)) ?_
    | refine OpK.of (OpOk.slMtI D (c.mem.length - 1) rfl rfl rfl rfl rfl (fun _ => rfl) rfl (by omega) (by omega)) ?_
    | refine goO ?_
    | refine goS ?_
    | (refine WO.gs _ rfl rfl rfl ?_ ?_ <;> intro hb <;> simp only [hb] <;> (try simp at hb) <;> try contradiction))
      all_goals first
        | (exfalso; simp_all; done)
        | (refine ⟨.inr rfl, _, _, rfl, .cons (.c (.id rfl)) .nil, ?_⟩; simp [resV, X.v, compl, h, hf]; done)
    · refine Pu.of D Tryz.func86 rfl rfl rfl ?_
      repeat' (first
    | (refine W.cond rfl ?_ ?_ <;> intro hb <;> (try simp at hb) <;> try contradiction)
    | refine cl (e1) ?_
    | refine OpK.of (OpOk.bldE D rfl rfl rfl rfl) ?_
    | refine OpK.of (OpOk.cpM D rfl rfl rfl rfl rfl rfl rfl rfl (by decide) (fun _ => rfl) (by first | assumption | omega | (simp; omega)) (by decide)) ?_
    | refine goO ?_
    | refine goS ?_
    | (refine WO.gs _ rfl rfl rfl ?_ ?_ <;> intro hb <;> simp only [hb] <;> (try simp at hb) <;> try contradiction))
      all_goals first
        | (exfalso; simp_all; done)
        | (refine ⟨.inr rfl, _, _, rfl, .cons (.c (.id rfl)) .nil, ?_⟩; simp [resV, X.v, compl, h, hf]; done)
  · rw [show confOk c = false by simpa using h] at e1
    refine Pu.of D Tryz.func86 rfl rfl rfl ?_
    repeat' (first
    | (refine W.cond rfl ?_ ?_ <;> intro hb <;> try simp at hb)
    | refine cl (e1) ?_
    | refine OpK.of (OpOk.bldE D rfl rfl rfl rfl) ?_
    | refine goO ?_
    | refine goS ?_
    | (refine WO.gs _ rfl rfl rfl ?_ ?_ <;> intro hb <;> simp only [hb] <;> try simp at hb))
    all_goals first
      | (exfalso; simp_all; done)
      | (refine ⟨.inr rfl, _, _, rfl, .cons (.c .emp) .nil, ?_⟩; simp [resV, X.v, compl, h]; done)
/-! ### What was asked -/
def asked (l : List Ans) : List Ent := l.map (·.asked)
theorem asked_take {l : List Ans} {k : Nat} (h : k < l.length) : asked (l.take (k + 1)) = asked (l.take k) ++ [l[k].asked] := by
  unfold asked; rw [List.take_succ_eq_append_getElem h, List.map_append]; rfl
set_option maxHeartbeats 1000000 in
theorem asked_impl (l : List Ans) (hl : l.length ≤ 24) : Pu Tryz.prog 89 [L Ans.e l] (L Ent.e (asked l)) := by
  refine Pu.of D Tryz.func89 rfl rfl rfl ?_
  repeat' (first
    | (refine W.cond rfl ?_ ?_ <;> intro hb <;> try simp at hb)
    | refine goO ?_
    | refine goS ?_
    | (refine WO.gs _ rfl rfl rfl ?_ ?_ <;> intro hb <;> simp only [hb] <;> try simp at hb))
  refine W.ghe Ent.e 3 6 (by decide) rfl ?_
  refine W.loop (σ := Nat) (fun k => [(8, I k), (7, I l.length), (6, L Ans.e l), (3, .c (.sl 0 (asked (l.take k)).length 0 (asked (l.take k)).length))]) (fun k => [.arr (Rs Ent.e (asked (l.take k))) 6]) (fun k => k ≤ l.length) (fun k => l.length - k) 1 (fun _ _ => rfl) 0 (by simp) rfl (.cons rfl rfl (.cons rfl rfl (.cons rfl rfl (.cons rfl rfl (.nil))))) ?_
  intro k hk
  by_cases hlt : k < l.length
  · have h1 : (asked (l.take k)).length = k := by simp [asked]; omega
    have h2 := asked_take hlt
    repeat' (first
    | (refine W.cond rfl ?_ ?_ <;> intro hb <;> try simp at hb)
    | refine OpK.of (OpOk.bldF D [l[k].asked] Ent.e rfl rfl rfl rfl (by decide) (by decide) (by decide) rfl rfl rfl) ?_
    | refine OpK.of (OpOk.apM D rfl rfl rfl rfl rfl rfl rfl rfl (by first | rfl | simp) rfl rfl (fun _ => rfl) (by first | assumption | omega | (simp; omega)) (by decide)) ?_
    | refine goO ?_
    | refine goS ?_
    | (refine WO.gs _ rfl rfl rfl ?_ ?_ <;> intro hb <;> simp only [hb] <;> try simp at hb))
    all_goals first
      | (exfalso; omega)
      | exact ⟨k + 1, hlt, by omega, by dsimp only; rw [h2]; exact (.cons rfl rfl (.cons rfl rfl (.cons rfl rfl (.cons rfl rfl (.nil))))), by dsimp only; rw [h2]; rfl, LH.lows (by repeat' (first | exact .nil | refine .box rfl ?_ | refine .arr (rs_low _ _ _) ?_ | refine .dead ?_ | fail))⟩
  · repeat' (first
    | (refine W.cond rfl ?_ ?_ <;> intro hb <;> try simp at hb)
    | refine goO ?_
    | refine goS ?_
    | (refine WO.gs _ rfl rfl rfl ?_ ?_ <;> intro hb <;> simp only [hb] <;> try simp at hb))
    all_goals first
      | (exfalso; omega)
      | (refine ⟨.inr rfl, _, _, rfl, .cons (.c (by first | exact .emp | exact .full rfl rfl rfl | exact .id rfl | fail)) (.nil), ?_⟩; simp only [resV, X.v]; rw [List.take_of_length_le (by omega)])
end Go.YtakiodehjhpgkaaGreatMc

namespace Go.YtakiodehjhpgkaaGreatMc
open Go.Proofs
set_option maxHeartbeats 1000000 in
theorem answered_spec (c : Chn) (hs : c.Sm) : Pu Tryz.prog 87 [A c.e] (L Ent.e (if chOk c then asked c.answers else [])) := by
  have e1 := chOk_spec c hs
  by_cases h : chOk c = true
  · rw [h] at e1
    have h24 := (chOk_d h).ans24
    refine Pu.of D Tryz.func87 rfl rfl rfl ?_
    repeat' (first
    | (refine W.cond rfl ?_ ?_ <;> intro hb <;> try simp at hb)
    | refine OpK.of (OpOk.bldE D rfl rfl rfl rfl) ?_
    | refine goO ?_
    | refine goS ?_
    | (refine WO.gs _ rfl rfl rfl ?_ ?_ <;> intro hb <;> simp only [hb] <;> try simp at hb))
    refine W.ghe Ent.e 3 6 (by decide) rfl ?_
    refine W.loop (σ := Nat) (fun k => [(4, I k), (3, .c (.sl 1 (asked (c.answers.take k)).length 0 (asked (c.answers.take k)).length)), (1, .c (.ptr 0 0))]) (fun k => [.box (tc c.e), .arr (Rs Ent.e (asked (c.answers.take k))) 6]) (fun k => k ≤ c.answers.length) (fun k => c.answers.length - k) 2 (fun _ _ => rfl) 0 (by simp) rfl (.cons rfl rfl (.cons rfl rfl (.cons rfl rfl (.nil)))) ?_
    intro k hk
    by_cases hlt : k < c.answers.length
    · have h1 : (asked (c.answers.take k)).length = k := by simp [asked]; omega
      have h2 := asked_take hlt
      repeat' (first
    | (refine W.cond rfl ?_ ?_ <;> intro hb <;> try simp at hb)
    | refine cl (e1) ?_
    | refine OpK.of (OpOk.bldF D [c.answers[k].asked] Ent.e rfl rfl rfl rfl (by decide) (by decide) (by decide) rfl rfl rfl) ?_
    | refine OpK.of (OpOk.apM D rfl rfl rfl rfl rfl rfl rfl rfl (by first | rfl | simp) rfl rfl (fun _ => rfl) (by first | assumption | omega | (simp; omega)) (by decide)) ?_
    | refine goO ?_
    | refine goS ?_
    | (refine WO.gs _ rfl rfl rfl ?_ ?_ <;> intro hb <;> simp only [hb] <;> try simp at hb))
      all_goals first
        | (exfalso; omega)
        | (exfalso; simp_all; done)
        | exact ⟨k + 1, hlt, by omega, by (try dsimp only); rw [h2]; exact (.cons rfl rfl (.cons rfl rfl (.cons rfl rfl (.nil)))), by (try dsimp only); rw [h2]; rfl, LH.lows (by repeat' (first | exact .nil | refine .box rfl ?_ | refine .arr (rs_low _ _ _) ?_ | refine .dead ?_ | fail))⟩
    · repeat' (first
    | (refine W.cond rfl ?_ ?_ <;> intro hb <;> try simp at hb)
    | refine cl (e1) ?_
    | refine goO ?_
    | refine goS ?_
    | (refine WO.gs _ rfl rfl rfl ?_ ?_ <;> intro hb <;> simp only [hb] <;> try simp at hb))
      all_goals first
        | (exfalso; omega)
        | (refine ⟨.inr rfl, _, _, rfl, .cons (.c (by first | exact .emp | exact .full rfl rfl rfl | exact .id rfl | fail)) (.nil), ?_⟩; simp only [resV, X.v]; rw [List.take_of_length_le (by omega), if_pos h])
        | (exfalso; simp_all; omega)
  · rw [show chOk c = false by simpa using h] at e1
    refine Pu.of D Tryz.func87 rfl rfl rfl ?_
    repeat' (first
    | (refine W.cond rfl ?_ ?_ <;> intro hb <;> try simp at hb)
    | refine OpK.of (OpOk.bldE D rfl rfl rfl rfl) ?_
    | refine goO ?_
    | refine goS ?_
    | (refine WO.gs _ rfl rfl rfl ?_ ?_ <;> intro hb <;> simp only [hb] <;> try simp at hb))
    refine W.loop (σ := Nat) (fun k => [(4, I k), (3, .c .emp), (1, .c (.ptr 0 0))]) (fun k => [.box (tc c.e)]) (fun k => k = 0) (fun k => 1 - k) 1 (fun _ _ => rfl) 0 rfl rfl (.cons rfl rfl (.cons rfl rfl (.cons rfl rfl (.nil)))) ?_
    intro k hk
    subst hk
    repeat' (first
    | (refine W.cond rfl ?_ ?_ <;> intro hb <;> try simp at hb)
    | refine cl (e1) ?_
    | refine goO ?_
    | refine goS ?_
    | (refine WO.gs _ rfl rfl rfl ?_ ?_ <;> intro hb <;> simp only [hb] <;> try simp at hb))
    all_goals first
      | (exfalso; simp_all; done)
      | (refine ⟨.inr rfl, _, _, rfl, .cons (.c .emp) .nil, ?_⟩; rw [if_neg h]; rfl)
/-! ### Safe chains -/
theorem pre_trans {a b c : List Ent} (h1 : pre a b = true) (h2 : pre b c = true) : pre a c = true := by
  simp only [pre, Bool.and_eq_true, decide_eq_true_eq] at *
  refine ⟨by omega, ?_⟩
  have := congrArg (List.take c.length) h1.2
  rw [List.take_take, Nat.min_eq_left h2.1] at this
  rw [this]; exact h2.2
def okAt (c : Chn) (a : List Ent) (m : Int) : Bool := (nodeAt c m).ready && pre (nodeAt c m).log a
def aftr (c : Chn) (m m' : Int) : Bool := pre (nodeAt c m).log (nodeAt c m').log
def safeL (c : Chn) (a : List Ent) : List Int → Bool
  | [] => true
  | m :: l => okAt c a m && (l.all (aftr c m) && safeL c a l)
def safeN (c : Chn) (a : List Ent) : Option Int → Int → Bool := fun p m => okAt c a m && (match p with | none => true | some q => aftr c q m)
theorem safe_eq (c : Chn) (a : List Ent) : ∀ (l : List Int), rowOk (safeN c a) none l = safeL c a l ∧ ∀ q, rowOk (safeN c a) (some q) l = (l.all (aftr c q) && safeL c a l)
  | [] => ⟨rfl, fun _ => rfl⟩
  | m :: l => by
    obtain ⟨i1, i2⟩ := safe_eq c a l
    have e1 : rowOk (safeN c a) none (m :: l) = safeL c a (m :: l) := by
      simp only [rowOk, safeL, safeN, Bool.and_true]; rw [i2]
    refine ⟨e1, fun q => ?_⟩
    simp only [rowOk, safeL, safeN, List.all_cons]; rw [i2]
    cases hq : aftr c q m with
    | false => simp
    | true =>
      cases hm : l.all (aftr c m) with
      | false => simp
      | true =>
        have : l.all (aftr c q) = true := by
          rw [List.all_eq_true] at hm ⊢
          intro x hx; exact pre_trans hq (hm x hx)
        rw [this]; simp
def safe (c : Chn) : Bool := chOk c && (safeL c (asked c.answers) (compl c.conf) && decide ((replay c.base (asked c.answers)).2 = c.answers.map (·.reply)))
theorem runE_len (s : Stt) : ∀ (l : List Ent), (runE s l).2.length = l.length
  | [] => rfl
  | e :: l => by rw [runE, List.length_cons, List.length_cons, runE_len _ l]
theorem asked_ok {l : List Ans} (h : answersOk l = true) : logOk (asked l) = true := by
  simp only [answersOk, logOk, asked, Bool.and_eq_true, decide_eq_true_eq, List.all_eq_true, List.length_map] at *
  refine ⟨h.1, fun e he => ?_⟩
  obtain ⟨x, hx, rfl⟩ := List.mem_map.1 he
  have := h.2 x hx
  simp only [ansOk, Bool.and_eq_true] at this
  exact this.1
theorem reps_len {c : Chn} (h : chOk c = true) : (replay c.base (asked c.answers)).2.length = c.answers.length := by
  have d := chOk_d h
  unfold replay
  rw [if_pos (by rw [d.base, asked_ok d.ans]; rfl), runE_len]; simp [asked]
end Go.YtakiodehjhpgkaaGreatMc

namespace Go.YtakiodehjhpgkaaGreatMc
open Go.Proofs
theorem compl_in {c : Cfg} (h : confOk c = true) : (compl c).length ≤ 4 ∧ ∀ x ∈ compl c, 0 ≤ x ∧ x.toNat < 5 := by
  obtain ⟨h1, h2, h3⟩ := confOk_mem h
  unfold compl; rw [if_pos h]
  split
  · refine ⟨by simp; omega, fun x hx => ?_⟩
    have := h3 x (List.mem_of_mem_take hx); omega
  · refine ⟨h2, fun x hx => ?_⟩
    have := h3 x hx; omega
set_option maxHeartbeats 4000000 in
theorem safe_impl (c : Chn) (hs : c.Sm) : Pu Tryz.prog 27 [A c.e] (B (safe c)) := by
  have h1 := chOk_impl c hs
  by_cases hc : chOk c = true
  · rw [hc] at h1
    have d := chOk_d hc
    have hn5 := d.nodes
    have h24 := d.ans24
    have hco := compl_impl c.conf hs.conf.memN
    have hcs := compl_in d.conf
    have hsf : safe c = (safeL c (asked c.answers) (compl c.conf) && decide ((replay c.base (asked c.answers)).2 = c.answers.map (·.reply))) := by unfold safe; rw [hc, Bool.true_and]
    have hrl := reps_len hc
    have hrp := replay_impl c.base (asked c.answers) (stOk_sm d.base)
    have hal : (asked c.answers).length ≤ 24 := by simpa [asked] using h24
    have has := asked_impl c.answers h24
    rw [hsf]
    clear hsf
    generalize compl c.conf = l at hco hcs ⊢
    generalize asked c.answers = a at hrl hrp hal has ⊢
    generalize replay c.base a = rr at hrl hrp ⊢
    obtain ⟨hl4, hin⟩ := hcs
    refine Pu.of D Tryz.func27 rfl rfl rfl ?_
    repeat' (first
    | (refine W.cond rfl ?_ ?_ <;> intro hb <;> try simp at hb)
    | refine cl (h1) ?_
    | refine cl (has) ?_
    | refine cl (hco) ?_
    | refine goO ?_
    | refine goN ?_
    | (refine WO.gs _ rfl rfl rfl ?_ ?_ <;> intro hb <;> simp only [hb] <;> try simp at hb)
    | (refine WD.gs _ rfl rfl rfl ?_ ?_ <;> intro hb <;> simp only [hb] <;> try simp at hb))
    all_goals first
      | (exfalso; simp_all; done)
      | skip
    refine W.loop (σ := Nat) (fun k => [(25, I k), (24, I l.length), (23, L eI l), (4, L eI l), (3, L Ent.e a), (1, .c (.ptr 0 0))]) (fun _ => [.box (tc c.e)]) (fun k => k ≤ l.length ∧ safeL c a l = safeL c a (l.drop k)) (fun k => l.length - k) 1 (fun _ _ => rfl) 0 ⟨by simp, by simp⟩ rfl (.cons rfl rfl (.cons rfl rfl (.cons rfl rfl (.cons rfl rfl (.cons rfl rfl (.cons rfl rfl (.nil))))))) ?_
    rintro k ⟨hk1, hy⟩
    by_cases hlt : k < l.length
    · have hk0 := hin l[k] (List.getElem_mem hlt)
      have hm5 : (l[k]).toNat < c.nodes.length := by rw [hn5]; exact hk0.2
      have hn := nodeAt_eq hm5
      have hsm := hs.nodes _ (List.getElem_mem hm5)
      have hrl24 := (repOk_log (d.nodeIn _ (List.getElem_mem hm5)).1).1
      rw [drop_cons hlt, safeL] at hy
      have hpa := pre_impl c.nodes[(l[k]).toNat].log a (by omega) (by omega)
      repeat' (first
    | (refine W.cond rfl ?_ ?_ <;> intro hb <;> try simp at hb)
    | refine OpK.of (OpOk.ixI D rfl rfl rfl rfl rfl rfl hk0.1 hm5 (fun _ => rfl)) ?_
    | refine OpD.of (OpOk.ixI D rfl rfl rfl rfl rfl rfl hk0.1 hm5 (fun _ => rfl)) ?_
    | refine cl (hpa) ?_
    | refine OpK.of (OpOk.slMdI D (k + 1) rfl rfl rfl rfl rfl (fun _ => rfl) rfl (by omega) (by omega)) ?_
    | refine OpD.of (OpOk.slMdI D (k + 1) rfl rfl rfl rfl rfl (fun _ => rfl) rfl (by omega) (by omega)) ?_
    | refine goO ?_
    | refine goN ?_
    | (refine WO.gs _ rfl rfl rfl ?_ ?_ <;> intro hb <;> simp only [hb] <;> try simp at hb)
    | (refine WD.gs _ rfl rfl rfl ?_ ?_ <;> intro hb <;> simp only [hb] <;> try simp at hb))
      all_goals first
        | (exfalso; omega)
        | (refine ⟨.inr rfl, _, _, rfl, .cons (.c (.id rfl)) .nil, ?_⟩; have hb2 : okAt c a l[k] = false := by unfold okAt; rw [hn]; first | (simp_all; done) | (simp at *; grind)
           rw [hy, hb2, Bool.false_and, Bool.false_and]; rfl)
        | skip
      have hok : okAt c a l[k] = true := by unfold okAt; rw [hn]; first | (simp_all; done) | (simp at *; grind)
      rw [hok, Bool.true_and] at hy
      generalize hl' : l.drop (k + 1) = l'
      rw [hl'] at hy
      have hl4' : l'.length ≤ 4 := by rw [← hl', List.length_drop]; omega
      have hin' : ∀ x ∈ l', 0 ≤ x ∧ x.toNat < 5 := fun x hx => hin x (List.mem_of_mem_drop (by rw [hl']; exact hx))
      refine W.loop (σ := Nat) (fun j => [(50, I j), (49, I l'.length), (48, L eI l'), (7, .c (.ptr 1 0)), (25, I k), (24, I l.length), (23, L eI l), (4, L eI l), (3, L Ent.e a), (1, .c (.ptr 0 0))]) (fun _ => [.box (tc c.e), .box (tc c.nodes[(l[k]).toNat].e)]) (fun j => j ≤ l'.length ∧ l'.all (aftr c l[k]) = (l'.drop j).all (aftr c l[k])) (fun j => l'.length - j) 2 (fun _ _ => rfl) 0 ⟨by simp, by simp⟩ rfl (.cons rfl rfl (.cons rfl rfl (.cons rfl rfl (.cons rfl rfl (.cons rfl rfl (.cons rfl rfl (.cons rfl rfl (.cons rfl rfl (.cons rfl rfl (.cons rfl rfl (.nil))))))))))) ?_
      rintro j ⟨hj1, hz⟩
      by_cases hjl : j < l'.length
      · have hj0 := hin' l'[j] (List.getElem_mem hjl)
        have hj5 : (l'[j]).toNat < c.nodes.length := by rw [hn5]; exact hj0.2
        have hnj := nodeAt_eq hj5
        have hjr := (repOk_log (d.nodeIn _ (List.getElem_mem hj5)).1).1
        have hpb := pre_impl c.nodes[(l[k]).toNat].log c.nodes[(l'[j]).toNat].log (by omega) (by omega)
        rw [drop_cons hjl, List.all_cons] at hz
        repeat' (first
    | (refine W.cond rfl ?_ ?_ <;> intro hb <;> try simp at hb)
    | refine OpK.of (OpOk.ixI D rfl rfl rfl rfl rfl rfl hj0.1 hj5 (fun _ => rfl)) ?_
    | refine OpD.of (OpOk.ixI D rfl rfl rfl rfl rfl rfl hj0.1 hj5 (fun _ => rfl)) ?_
    | refine cl (hpb) ?_
    | refine goO ?_
    | refine goN ?_
    | (refine WO.gs _ rfl rfl rfl ?_ ?_ <;> intro hb <;> simp only [hb] <;> try simp at hb)
    | (refine WD.gs _ rfl rfl rfl ?_ ?_ <;> intro hb <;> simp only [hb] <;> try simp at hb))
        all_goals first
          | (exfalso; omega)
          | (refine ⟨.inr rfl, _, _, rfl, .cons (.c (.id rfl)) .nil, ?_⟩; have hb2 : aftr c l[k] l'[j] = false := by unfold aftr; rw [hn, hnj]; first | assumption | (simp_all; done)
             rw [hy, hz, hb2, Bool.false_and, Bool.false_and, Bool.false_and]; rfl)
          | (have hb2 : aftr c l[k] l'[j] = true := by unfold aftr; rw [hn, hnj]; first | assumption | (simp_all; done)
             rw [hb2, Bool.true_and] at hz
             exact ⟨j + 1, ⟨by omega, hz⟩, by omega, (.cons rfl rfl (.cons rfl rfl (.cons rfl rfl (.cons rfl rfl (.cons rfl rfl (.cons rfl rfl (.cons rfl rfl (.cons rfl rfl (.cons rfl rfl (.cons rfl rfl (.nil))))))))))), rfl, rfl⟩)
      · repeat' (first
    | (refine W.cond rfl ?_ ?_ <;> intro hb <;> try simp at hb)
    | refine goO ?_
    | refine goN ?_
    | (refine WO.gs _ rfl rfl rfl ?_ ?_ <;> intro hb <;> simp only [hb] <;> try simp at hb)
    | (refine WD.gs _ rfl rfl rfl ?_ ?_ <;> intro hb <;> simp only [hb] <;> try simp at hb))
        all_goals first
          | (exfalso; omega)
          | (rw [drop_nil (by omega)] at hz
             rw [hz] at hy
             exact ⟨k + 1, ⟨by omega, by rw [hy, hl']; simp⟩, by omega, (.cons rfl rfl (.cons rfl rfl (.cons rfl rfl (.cons rfl rfl (.cons rfl rfl (.cons rfl rfl (.nil))))))), rfl, rfl⟩)
    · repeat' (first
    | (refine W.cond rfl ?_ ?_ <;> intro hb <;> try simp at hb)
    | refine cl (hrp) ?_
    | refine goO ?_
    | refine goN ?_
    | (refine WO.gs _ rfl rfl rfl ?_ ?_ <;> intro hb <;> simp only [hb] <;> try simp at hb)
    | (refine WD.gs _ rfl rfl rfl ?_ ?_ <;> intro hb <;> simp only [hb] <;> try simp at hb))
      all_goals first | (exfalso; omega) | skip
      rw [drop_nil (by omega), safeL] at hy
      rw [hy, Bool.true_and]
      generalize hrs : rr.2 = rs at hrl
      refine W.loop (σ := Nat) (fun k => [(76, I k), (75, I c.answers.length), (74, L Ans.e c.answers), (11, L eI rs), (1, .c (.ptr 0 0))]) (fun _ => [.box (tc c.e), .box (tc rr.1.e)]) (fun k => k ≤ c.answers.length ∧ decide (rs = c.answers.map (·.reply)) = decide (rs.drop k = (c.answers.drop k).map (·.reply))) (fun k => c.answers.length - k) 2 (fun _ _ => rfl) 0 ⟨by simp, by simp⟩ rfl (by rw [← hrs]; exact (.cons rfl rfl (.cons rfl rfl (.cons rfl rfl (.cons rfl rfl (.cons rfl rfl (.nil))))))) ?_
      rintro j ⟨hj1, hz⟩
      by_cases hjl : j < c.answers.length
      · have hjr : j < rs.length := by omega
        rw [drop_cons hjl, drop_cons hjr, List.map_cons] at hz
        repeat' (first
    | (refine W.cond rfl ?_ ?_ <;> intro hb <;> try simp at hb)
    | refine goO ?_
    | refine goN ?_
    | (refine WO.gs _ rfl rfl rfl ?_ ?_ <;> intro hb <;> simp only [hb] <;> try simp at hb)
    | (refine WD.gs _ rfl rfl rfl ?_ ?_ <;> intro hb <;> simp only [hb] <;> try simp at hb))
        all_goals first
          | (exfalso; omega)
          | (refine ⟨.inr rfl, _, _, rfl, .cons (.c (.id rfl)) .nil, ?_⟩; have hne : ¬ rs[j] = c.answers[j].reply := by first | exact fun e => hb e.symm | exact hb | (simp_all; done)
             rw [hz, decide_eq_false (fun e => hne (List.cons.inj e).1)]; rfl)
          | (have heq : rs[j] = c.answers[j].reply := by first | exact hb.symm | exact hb | (simp_all; done)
             exact ⟨j + 1, ⟨by omega, by rw [hz]; simp [heq]⟩, by omega, (.cons rfl rfl (.cons rfl rfl (.cons rfl rfl (.cons rfl rfl (.cons rfl rfl (.nil)))))), rfl, rfl⟩)
      · repeat' (first
    | (refine W.cond rfl ?_ ?_ <;> intro hb <;> try simp at hb)
    | refine goO ?_
    | refine goN ?_
    | (refine WO.gs _ rfl rfl rfl ?_ ?_ <;> intro hb <;> simp only [hb] <;> try simp at hb)
    | (refine WD.gs _ rfl rfl rfl ?_ ?_ <;> intro hb <;> simp only [hb] <;> try simp at hb))
        all_goals first
          | (exfalso; omega)
          | (refine ⟨.inr rfl, _, _, rfl, .cons (.c (.id rfl)) .nil, ?_⟩; rw [hz, drop_nil (by omega), drop_nil (by omega)]; rfl)
  · refine Pu.of D Tryz.func27 rfl rfl rfl ?_
    repeat' (first
    | (refine W.cond rfl ?_ ?_ <;> intro hb <;> try simp at hb)
    | refine cl (h1) ?_
    | refine goO ?_
    | refine goS ?_
    | (refine WO.gs _ rfl rfl rfl ?_ ?_ <;> intro hb <;> simp only [hb] <;> try simp at hb)
    | (refine WD.gs _ rfl rfl rfl ?_ ?_ <;> intro hb <;> simp only [hb] <;> try simp at hb))
    all_goals first
      | (exfalso; simp_all; done)
      | (refine ⟨.inr rfl, _, _, rfl, .cons (.c (.id rfl)) .nil, ?_⟩; simp [resV, X.v, safe, hc]; done)
end Go.YtakiodehjhpgkaaGreatMc
