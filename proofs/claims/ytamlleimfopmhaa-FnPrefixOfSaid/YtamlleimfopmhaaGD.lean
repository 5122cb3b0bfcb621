/- Lemmas of this claim: walks through code, values and memory, and the contracts of functions; under no condition beyond those that each states. -/
import Derived.Test.YtamlleimfopmhaaGC
set_option maxRecDepth 100000
set_option linter.unusedVariables false
set_option linter.unusedSimpArgs false
namespace Go.YtamlleimfopmhaaMc
open Go.Proofs
/-! ### Logs that begin with each other (r7) -/
theorem entC (m : Nat) : EqC Try.prog 48 [.i .i64, .i .i64, .i .i64, .s, .i .i64, .i .i64] (m + 2) true :=
  .st' [(0, 3, [.i .i64]), (1, 3, [.i .i64]), (2, 31, [.i .i64, .s, .i .i64, .i .i64])] (by kernel_rfl) (by kernel_rfl) (by kernel_rfl) rfl rfl (.cons (.i _ (by kernel_rfl)) (.cons (.i _ (by kernel_rfl)) (.cons (cmdC m) .nil)))
theorem eqTs_ent (a b : Ent) : eqTs a.e b.e = decide (a = b) := by
  obtain ⟨a1, a2, a3, a4, a5, a6⟩ := a; obtain ⟨b1, b2, b3, b4, b5, b6⟩ := b
  simp [Ent.e, eqTs, T.eq]; grind
def pre (a b : List Ent) : Bool := decide (b.length ≤ a.length) && decide (a.take b.length = b)
theorem pre_spec (a b : List Ent) (ha : a.length ≤ 1048576) (hb : b.length ≤ 1048576) : Pu Try.prog 13 [L Ent.e a, L Ent.e b] (B (pre a b)) := by
  refine Pu.of D Try.func13 rfl rfl rfl ?_
  repeat' (first
    | (refine W.cond rfl ?_ ?_ <;> intro hb <;> try simp at hb)
    | refine goO ?_
    | refine goS ?_
    | (refine WO.gs _ rfl rfl rfl ?_ ?_ <;> intro hb <;> simp only [hb] <;> try simp at hb)
    | (refine WD.gs _ rfl rfl rfl ?_ ?_ <;> intro hb <;> simp only [hb] <;> try simp at hb))
  · refine ⟨.inr rfl, _, _, rfl, .cons (.c (.id rfl)) .nil, ?_⟩
    have : ¬ b.length ≤ a.length := by omega
    simp [resV, X.v, pre, this]
  · have hba : b.length ≤ a.length := by omega
    refine W.loop (σ := Nat) (fun k => [(5, I k), (1, L Ent.e b), (0, L Ent.e a)]) (fun _ => []) (fun k => k ≤ b.length ∧ (a.take b.length = b ↔ (a.take b.length).drop k = b.drop k)) (fun k => b.length - k) 0 (fun _ _ => rfl) 0 ⟨by simp, by simp⟩ rfl (.cons rfl rfl (.cons rfl rfl (.cons rfl rfl (.nil)))) ?_
    rintro k ⟨hk1, hy⟩
    repeat' (first
    | (refine W.cond rfl ?_ ?_ <;> intro hb <;> try simp at hb)
    | refine OpK.of (OpOk.eqN a[k].e b[k].e rfl (entC 0) (by decide) (by kernel_rfl) rfl rfl rfl rfl) ?_
    | refine OpD.of (OpOk.eqN a[k].e b[k].e rfl (entC 0) (by decide) (by kernel_rfl) rfl rfl rfl rfl) ?_
    | refine goO ?_
    | refine goS ?_
    | (refine WO.gs _ rfl rfl rfl ?_ ?_ <;> intro hb <;> simp only [hb] <;> try simp at hb)
    | (refine WD.gs _ rfl rfl rfl ?_ ?_ <;> intro hb <;> simp only [hb] <;> try simp at hb))
    · rw [drop_eq (by simp; omega) (by omega)] at hy
      simp only [List.getElem_take] at hy
      refine ⟨.inr rfl, _, _, rfl, .cons (.c (.id rfl)) .nil, ?_⟩
      have hne : ¬ a[k] = b[k] := by simpa [eqTs_ent] using hb
      simp [resV, X.v, pre, hy, hne]
    · rw [drop_eq (by simp; omega) (by omega)] at hy
      simp only [List.getElem_take] at hy
      have hne : a[k] = b[k] := by simpa [eqTs_ent] using hb
      exact ⟨k + 1, ⟨by omega, by simpa [hne] using hy⟩, by omega, (.cons rfl rfl (.cons rfl rfl (.cons rfl rfl (.nil)))), rfl, rfl⟩
    · rw [drop_nil (by simp; omega), drop_nil (by omega)] at hy
      refine ⟨.inr rfl, _, _, rfl, .cons (.c (.id rfl)) .nil, ?_⟩
      have hy := hy.2 rfl
      simp [resV, X.v, pre, hy, hba]
theorem equal_ok (a b : List Ent) (ha : a.length ≤ 1048576) : Pu Try.prog 65 [L Ent.e a, L Ent.e b] (B (decide (a = b))) := by
  refine Pu.of D Try.func65 rfl rfl rfl ?_
  repeat' (first
    | (refine W.cond rfl ?_ ?_ <;> intro hb <;> try simp at hb)
    | refine goO ?_
    | refine goS ?_
    | (refine WO.gs _ rfl rfl rfl ?_ ?_ <;> intro hb <;> simp only [hb] <;> try simp at hb)
    | (refine WD.gs _ rfl rfl rfl ?_ ?_ <;> intro hb <;> simp only [hb] <;> try simp at hb))
  · refine ⟨.inr rfl, _, _, rfl, .cons (.c (.id rfl)) .nil, ?_⟩
    have : ¬ a = b := by rintro rfl; simp at hb
    simp [resV, X.v, this]
  · have hlr : a.length = b.length := by omega
    refine W.loop (σ := Nat) (fun k => [(13, I k), (12, I a.length), (1, L Ent.e b), (0, L Ent.e a)]) (fun _ => []) (fun k => k ≤ a.length ∧ (a = b ↔ a.drop k = b.drop k)) (fun k => a.length - k) 0 (fun _ _ => rfl) 0 ⟨by simp, by simp⟩ rfl (.cons rfl rfl (.cons rfl rfl (.cons rfl rfl (.cons rfl rfl (.nil))))) ?_
    rintro k ⟨hk1, hy⟩
    repeat' (first
    | (refine W.cond rfl ?_ ?_ <;> intro hb <;> try simp at hb)
    | refine OpK.of (OpOk.eqN a[k].e b[k].e rfl (entC 0) (by decide) (by kernel_rfl) rfl rfl rfl rfl) ?_
    | refine OpD.of (OpOk.eqN a[k].e b[k].e rfl (entC 0) (by decide) (by kernel_rfl) rfl rfl rfl rfl) ?_
    | refine goO ?_
    | refine goS ?_
    | (refine WO.gs _ rfl rfl rfl ?_ ?_ <;> intro hb <;> simp only [hb] <;> try simp at hb)
    | (refine WD.gs _ rfl rfl rfl ?_ ?_ <;> intro hb <;> simp only [hb] <;> try simp at hb))
    · rw [drop_eq (by omega) (by omega)] at hy
      refine ⟨.inr rfl, _, _, rfl, .cons (.c (.id rfl)) .nil, ?_⟩
      have hne : ¬ a[k] = b[k] := by simpa [eqTs_ent] using hb
      simp [resV, X.v, hy, hne]
    · rw [drop_eq (by omega) (by omega)] at hy
      have hne : a[k] = b[k] := by simpa [eqTs_ent] using hb
      exact ⟨k + 1, ⟨by omega, by simpa [hne] using hy⟩, by omega, (.cons rfl rfl (.cons rfl rfl (.cons rfl rfl (.cons rfl rfl (.nil))))), rfl, rfl⟩
    · rw [drop_nil (by omega), drop_nil (by omega)] at hy
      refine ⟨.inr rfl, _, _, rfl, .cons (.c (.id rfl)) .nil, ?_⟩
      have hy := hy.2 rfl
      simp [resV, X.v, hy]
theorem pre_impl (a b : List Ent) (ha : a.length ≤ 1048576) (hb : b.length ≤ 1048576) : Pu Try.prog 12 [L Ent.e a, L Ent.e b] (B (pre a b)) := by
  refine Pu.of D Try.func12 rfl rfl rfl ?_
  repeat' (first
    | (refine W.cond rfl ?_ ?_ <;> intro hb <;> try simp at hb)
    | refine cl (equal_ok (a.take b.length) b (by simp; omega)) ?_
    | refine OpK.of (OpOk.slMt D rfl rfl rfl rfl rfl (fun _ => rfl) rfl (by omega)) ?_
    | refine goO ?_
    | refine goS ?_
    | (refine WO.gs _ rfl rfl rfl ?_ ?_ <;> intro hb <;> simp only [hb] <;> try simp at hb))
  all_goals refine ⟨.inr rfl, _, _, rfl, .cons (.c (.id rfl)) .nil, ?_⟩
  · simp [resV, X.v, pre, hb]
  · have : ¬ b.length ≤ a.length := by omega
    simp [resV, X.v, pre, this]
theorem sLog_ok (a b : List Ent) (ha : a.length ≤ 1048576) : Pu Try.prog 14 [L Ent.e a, L Ent.e b] (B (decide (a = b))) := by
  refine Pu.of D Try.func14 rfl rfl rfl ?_
  repeat' (first
    | (refine W.cond rfl ?_ ?_ <;> intro hb <;> try simp at hb)
    | refine goO ?_
    | refine goS ?_
    | (refine WO.gs _ rfl rfl rfl ?_ ?_ <;> intro hb <;> simp only [hb] <;> try simp at hb)
    | (refine WD.gs _ rfl rfl rfl ?_ ?_ <;> intro hb <;> simp only [hb] <;> try simp at hb))
  · refine ⟨.inr rfl, _, _, rfl, .cons (.c (.id rfl)) .nil, ?_⟩
    have : ¬ a = b := by rintro rfl; simp at hb
    simp [resV, X.v, this]
  · have hlr : a.length = b.length := by omega
    refine W.loop (σ := Nat) (fun k => [(5, I k), (1, L Ent.e b), (0, L Ent.e a)]) (fun _ => []) (fun k => k ≤ a.length ∧ (a = b ↔ a.drop k = b.drop k)) (fun k => a.length - k) 0 (fun _ _ => rfl) 0 ⟨by simp, by simp⟩ rfl (.cons rfl rfl (.cons rfl rfl (.cons rfl rfl (.nil)))) ?_
    rintro k ⟨hk1, hy⟩
    repeat' (first
    | (refine W.cond rfl ?_ ?_ <;> intro hb <;> try simp at hb)
    | refine OpK.of (OpOk.eqN a[k].e b[k].e rfl (entC 0) (by decide) (by kernel_rfl) rfl rfl rfl rfl) ?_
    | refine OpD.of (OpOk.eqN a[k].e b[k].e rfl (entC 0) (by decide) (by kernel_rfl) rfl rfl rfl rfl) ?_
    | refine goO ?_
    | refine goS ?_
    | (refine WO.gs _ rfl rfl rfl ?_ ?_ <;> intro hb <;> simp only [hb] <;> try simp at hb)
    | (refine WD.gs _ rfl rfl rfl ?_ ?_ <;> intro hb <;> simp only [hb] <;> try simp at hb))
    · rw [drop_eq (by omega) (by omega)] at hy
      refine ⟨.inr rfl, _, _, rfl, .cons (.c (.id rfl)) .nil, ?_⟩
      have hne : ¬ a[k] = b[k] := by simpa [eqTs_ent] using hb
      simp [resV, X.v, hy, hne]
    · rw [drop_eq (by omega) (by omega)] at hy
      have hne : a[k] = b[k] := by simpa [eqTs_ent] using hb
      exact ⟨k + 1, ⟨by omega, by simpa [hne] using hy⟩, by omega, (.cons rfl rfl (.cons rfl rfl (.cons rfl rfl (.nil)))), rfl, rfl⟩
    · rw [drop_nil (by omega), drop_nil (by omega)] at hy
      refine ⟨.inr rfl, _, _, rfl, .cons (.c (.id rfl)) .nil, ?_⟩
      have hy := hy.2 rfl
      simp [resV, X.v, hy]
theorem pre_nil (a : List Ent) : pre a [] = true := by simp [pre]
theorem pre_self (a : List Ent) : pre a a = true := by simp [pre]
theorem pre_both (a b : List Ent) : (pre a b && pre b a) = decide (a = b) := by
  unfold pre
  by_cases h : a = b
  · subst h; simp
  · rw [decide_eq_false h]
    by_cases hl : a.length = b.length
    · have : a.take b.length = a := List.take_of_length_le (by omega)
      simp [this, h]
    · by_cases h2 : b.length ≤ a.length
      · have : ¬ a.length ≤ b.length := by omega
        simp [this]
      · simp [h2]
end Go.YtamlleimfopmhaaMc

namespace Go.YtamlleimfopmhaaMc
open Go.Proofs
/-! ### Draws: logs -/
/-- The entry of a round, before its number is drawn. -/
inductive LogA (bs : List UInt8) (p : Nat) : Ent → Nat → Prop
  | plain {e : Ent} {p1 : Nat} (hk : e.cmd.kind ≠ 5) (c : Po Try.prog 64 [Rp, I 0] (rdH bs p) (A e.e) (rdH bs p1)) : LogA bs p e p1
  | seal0 {e : Ent} {p1 : Nat} (hk : e.cmd.kind = 5) (c : Po Try.prog 64 [Rp, I 0] (rdH bs p) (A e.e) (rdH bs p1)) (c2 : Po Try.prog 63 [Rp, I 3] (rdH bs p1) (I 0) (rdH bs (p1 + 1))) : LogA bs p e (p1 + 1)
  | seal1 {e : Ent} {p1 k p2 : Nat} {m : Cmd} (hk : e.cmd.kind = 5) (c : Po Try.prog 64 [Rp, I 0] (rdH bs p) (A e.e) (rdH bs p1)) (c2 : Po Try.prog 63 [Rp, I 3] (rdH bs p1) (I k) (rdH bs (p1 + 1))) (h0 : 0 < k) (c3 : Po Try.prog 67 [Rp, I 0] (rdH bs (p1 + 1)) (A m.e) (rdH bs p2)) : LogA bs p ⟨e.client, e.seq, m⟩ p2
/-- What a round adds: the entry, or one that is there already. -/
inductive LogB (bs : List UInt8) (out : List Ent) (e : Ent) (p : Nat) : Ent → Nat → Prop
  | first (h : out = []) : LogB bs out e p e p
  | new {k : Nat} (h : 0 < out.length) (c : Po Try.prog 63 [Rp, I 6] (rdH bs p) (I k) (rdH bs (p + 1))) (hk : 0 < k) : LogB bs out e p e (p + 1)
  | old {i : Nat} (h : i < out.length) (c : Po Try.prog 63 [Rp, I 6] (rdH bs p) (I 0) (rdH bs (p + 1))) (c2 : Po Try.prog 63 [Rp, I out.length] (rdH bs (p + 1)) (I i) (rdH bs (p + 1 + 1))) : LogB bs out e p out[i] (p + 1 + 1)
structure LogR (bs : List UInt8) (s s' : List Ent × Nat) : Prop where
  out : ∃ (e : Ent) (p1 k : Nat) (e2 : Ent) (p2 : Nat), LogA bs s.2 e p1 ∧ k < 8 ∧ Po Try.prog 63 [Rp, I 8] (rdH bs p1) (I k) (rdH bs (p1 + 1)) ∧ LogB bs s.1 ⟨e.client, 1 + k, e.cmd⟩ (p1 + 1) e2 p2 ∧ s' = (s.1 ++ [e2], p2)
def shE (l : List Ent) : Prop := ∀ e ∈ l, e.cmd.key.length ≤ 5
theorem logA_ex {bs : List UInt8} {p : Nat} (ro : Rok bs p) (hq : p + 100 ≤ 1099511627776) : ∃ (e : Ent) (p' : Nat), p ≤ p' ∧ p' ≤ p + 95 ∧ e.cmd.key.length ≤ 5 ∧ LogA bs p e p' := by
  obtain ⟨e, p1, a1, a2, _, a4, c⟩ := ent_ex ro (by omega) 0 (by omega)
  by_cases hk : e.cmd.kind = 5
  · obtain ⟨k, k1, _, c2⟩ := pick_ex (p := p1) ⟨ro.b, by omega⟩ 3 (by omega)
    by_cases h0 : k = 0
    · subst h0
      exact ⟨e, p1 + 1, by omega, by omega, a4, .seal0 hk c c2⟩
    · obtain ⟨m, p2, b1, b2, _, b4, c3⟩ := cmd_ex (p := p1 + 1) ⟨ro.b, by omega⟩ (by omega) 0 (by omega)
      exact ⟨_, p2, by omega, by omega, b4, .seal1 hk c c2 (by omega) c3⟩
  · exact ⟨e, p1, a1, by omega, a4, .plain hk c⟩
theorem logR_ex {bs : List UInt8} {s : List Ent × Nat} (ro : Rok bs s.2) (hq : s.2 + 100 ≤ 1099511627776) (hs : shE s.1) (hl : s.1.length ≤ 900) : ∃ s', LogR bs s s' ∧ s.2 ≤ s'.2 ∧ s'.2 ≤ s.2 + 100 ∧ shE s'.1 ∧ s'.1.length = s.1.length + 1 := by
  obtain ⟨out, p⟩ := s
  dsimp only at ro hq hs hl
  obtain ⟨e, p1, a1, a2, a4, hA⟩ := logA_ex ro hq
  obtain ⟨k, k1, _, c⟩ := pick_ex (p := p1) ⟨ro.b, by omega⟩ 8 (by omega)
  have k1 := k1 (by omega)
  have put : ∀ e2 : Ent, e2.cmd.key.length ≤ 5 → shE (out ++ [e2]) := fun e2 h2 x hx => by
    rcases List.mem_append.1 hx with hx | hx
    · exact hs x hx
    · rw [List.mem_singleton] at hx; rw [hx]; exact h2
  by_cases h0 : out = []
  · exact ⟨(out ++ [⟨e.client, 1 + k, e.cmd⟩], p1 + 1), ⟨e, p1, k, _, _, hA, by omega, c, .first h0, rfl⟩, by dsimp only; omega, by dsimp only; omega, put _ a4, by simp⟩
  · have hpos : 0 < out.length := List.length_pos_iff.2 h0
    obtain ⟨q, _, _, c2⟩ := pick_ex (p := p1 + 1) ⟨ro.b, by omega⟩ 6 (by omega)
    by_cases hq0 : q = 0
    · subst hq0
      obtain ⟨i, i1, _, c3⟩ := pick_ex (p := p1 + 1 + 1) ⟨ro.b, by omega⟩ (out.length : Int) (by omega)
      have i1 := i1 (by omega)
      have hi : i < out.length := by omega
      exact ⟨(out ++ [out[i]], p1 + 1 + 1 + 1), ⟨e, p1, k, _, _, hA, by omega, c, .old hi c2 c3, rfl⟩, by dsimp only; omega, by dsimp only; omega, put _ (hs _ (List.getElem_mem hi)), by simp⟩
    · exact ⟨(out ++ [⟨e.client, 1 + k, e.cmd⟩], p1 + 1 + 1), ⟨e, p1, k, _, _, hA, by omega, c, .new hpos c2 (by omega), rfl⟩, by dsimp only; omega, by dsimp only; omega, put _ a4, by simp⟩
theorem rounds_ex {bs : List UInt8} {p : Nat} (ro : Rok bs p) (hq : p + 1000 ≤ 1099511627776) : ∃ f : Nat → List Ent × Nat, f 0 = ([], p) ∧ (∀ j, j ≤ 9 → p ≤ (f j).2 ∧ (f j).2 ≤ p + 100 * j ∧ shE (f j).1 ∧ (f j).1.length = j) ∧ ∀ j, j < 9 → LogR bs (f j) (f (j + 1)) := by
  obtain ⟨f, f0, hf⟩ := iter_ex (fun j s => j ≤ 9 → p ≤ s.2 ∧ s.2 ≤ p + 100 * j ∧ shE s.1 ∧ s.1.length = j) (fun j s s' => j < 9 → LogR bs s s') (fun j s hs => by
    by_cases hj : j < 9
    · obtain ⟨h1, h2, h3, h4⟩ := hs (by omega)
      obtain ⟨s', g1, g2, g3, g4, g5⟩ := logR_ex (s := s) ⟨ro.b, by omega⟩ (by omega) h3 (by omega)
      exact ⟨s', fun _ => g1, fun _ => ⟨by omega, by omega, g4, by omega⟩⟩
    · exact ⟨s, fun h => absurd h hj, fun h => by omega⟩) ([], p) (fun _ => ⟨Nat.le_refl _, Nat.le_refl _, fun e h => (by cases h), rfl⟩)
  exact ⟨f, f0, fun j hj => (hf j).1 hj, fun j hj => (hf j).2 hj⟩
end Go.YtamlleimfopmhaaMc

namespace Go.YtamlleimfopmhaaMc
open Go.Proofs
abbrev logEnv (n : Int) (f : Nat → List Ent × Nat) (N : Nat) : Nat → Env := fun j => [(6, I ((N - j : Nat) : Int)), (5, .c (.sl 1 (f j).1.length 0 (f j).1.length)), (4, .c .emp), (1, I n), (0, Rp)]
abbrev logHp (bs : List UInt8) (f : Nat → List Ent × Nat) : Nat → List Blk := fun j => [.box [.t (.l (bs.map eU)), .t (tI (f j).2)], .arr (Rs Ent.e (f j).1) 6]
set_option maxHeartbeats 4000000 in
theorem log_ex {bs : List UInt8} {p : Nat} (ro : Rok bs p) (hq : p + 5000 ≤ 1099511627776) : ∃ (l : List Ent) (p' : Nat), p ≤ p' ∧ p' ≤ p + 1000 ∧ shE l ∧ l.length ≤ 8 ∧ Po Try.prog 62 [Rp, I 0] (rdH bs p) (L Ent.e l) (rdH bs p') := by
  obtain ⟨N, N1, _, e9⟩ := pick_ex ro 9 (by omega)
  have N1 := N1 (by omega)
  obtain ⟨f, f0, f1, f2⟩ := rounds_ex (p := p + 1) ⟨ro.b, by omega⟩ (by omega)
  obtain ⟨g1, g2, g3, g4⟩ := f1 N (by omega)
  obtain ⟨b, p2, a1, a2, a3, eo⟩ := odd_ex (p := (f N).2) ⟨ro.b, by omega⟩ 0 (by omega)
  have hb := a3 (Int.le_refl _)
  subst hb
  refine ⟨(f N).1, p2, by omega, by omega, g3, by omega, ?_⟩
  refine Po.of D Try.func62 rfl rfl rfl ?_
  repeat' (first
    | (refine W.cond rfl ?_ ?_ <;> intro hb <;> (try simp at hb) <;> (try contradiction) <;> (try (exfalso; omega)))
    | (refine OpK.at 10 ?_; refine co [0] (e9) ?_)
    | refine OpK.of (OpOk.bldE D rfl rfl rfl rfl) ?_
    | refine goO ?_
    | refine goN ?_
    | (refine WO.gs _ rfl rfl rfl ?_ ?_ <;> intro hb <;> simp only [hb] <;> (try simp at hb) <;> (try contradiction) <;> (try (exfalso; omega))))
  refine W.ghe Ent.e 5 6 (by decide) rfl ?_
  refine W.loop (σ := Nat) (logEnv 0 f N) (logHp bs f) (fun j => j ≤ N) (fun j => N - j) 2 (fun _ _ => rfl) 0 (Nat.zero_le _) (by simp only [logHp, f0]; rfl) (by simp only [logEnv, f0]; exact (.cons rfl rfl (.cons rfl rfl (.cons rfl rfl (.cons rfl rfl (.cons rfl rfl (.nil))))))) ?_
  intro j hj
  by_cases hlt : j < N
  · obtain ⟨h1, h2, h3, h4⟩ := f1 j (by omega)
    obtain ⟨h5, h6, h7, h8⟩ := f1 (j + 1) (by omega)
    obtain ⟨e, p1, k, e2, q2, hA, k8, ck, hB, hs⟩ := (f2 j (by omega)).out
    have hok : j + 1 ≤ N := hlt
    have hmu : N - (j + 1) < N - j := by omega
    have hjl : (f j).1.length ≤ 900 := by omega
    clear h1 h2 h3 h5 h6 h7 h8 f1 f2 g1 g2 g3 g4 f0
    dsimp only [logEnv, logHp]
    generalize f j = s at hA hB hs h4 hjl ⊢
    obtain ⟨out, q⟩ := s
    dsimp only at hA hB hs h4 hjl ⊢
    cases hA with
    | plain hk c =>
      cases hB with
      | first h0 =>
        repeat' (first
    | (refine W.cond rfl ?_ ?_ <;> intro hb <;> (try simp at hb) <;> (try contradiction) <;> (try (exfalso; omega)))
    | (refine OpK.at 16 ?_; refine co [0] (c) ?_)
    | (refine OpK.at 30 ?_; refine co [0] (ck) ?_)
    | (refine OpK.at 34 ?_; refine OpK.of (OpOk.lenO D rfl rfl rfl rfl rfl rfl) ?_)
    | (refine OpK.at 14 ?_; refine OpK.of (OpOk.subN (N - j) 1 rfl rfl rfl rfl rfl (by omega) (by omega)) ?_)
    | refine OpK.of (OpOk.bldF D [(⟨e.client, 1 + k, e.cmd⟩ : Ent)] Ent.e rfl rfl rfl rfl (by decide) (by decide) (by decide) rfl rfl rfl) ?_
    | refine OpK.of (OpOk.apM D rfl rfl rfl rfl rfl rfl rfl rfl (by first | rfl | simp) rfl rfl (fun _ => rfl) (by first | assumption | omega | (simp; omega)) (by decide)) ?_
    | refine goO ?_
    | refine goN ?_
    | (refine WO.gs _ rfl rfl rfl ?_ ?_ <;> intro hb <;> simp only [hb] <;> (try simp at hb) <;> (try contradiction) <;> (try (exfalso; omega))))
        all_goals first
          | (exfalso; omega)
          | (exfalso; simp_all; done)
          | exact ⟨j + 1, hok, hmu, by rw [hs]; exact (.cons rfl rfl (.cons rfl rfl (.cons rfl rfl (.cons rfl rfl (.cons rfl rfl (.nil)))))), by rw [hs]; rfl, by rw [hs]; exact LH.lows (by repeat' (first | exact .nil | refine .box rfl ?_ | refine .arr (rs_low _ _ _) ?_ | refine .dead ?_ | fail))⟩
          | trace_state
      | new h0 d2 hk0 =>
        repeat' (first
    | (refine W.cond rfl ?_ ?_ <;> intro hb <;> (try simp at hb) <;> (try contradiction) <;> (try (exfalso; omega)))
    | (refine OpK.at 16 ?_; refine co [0] (c) ?_)
    | (refine OpK.at 30 ?_; refine co [0] (ck) ?_)
    | (refine OpK.at 38 ?_; refine co [0] (d2) ?_)
    | (refine OpK.at 34 ?_; refine OpK.of (OpOk.lenO D rfl rfl rfl rfl rfl rfl) ?_)
    | (refine OpK.at 14 ?_; refine OpK.of (OpOk.subN (N - j) 1 rfl rfl rfl rfl rfl (by omega) (by omega)) ?_)
    | refine OpK.of (OpOk.bldF D [(⟨e.client, 1 + k, e.cmd⟩ : Ent)] Ent.e rfl rfl rfl rfl (by decide) (by decide) (by decide) rfl rfl rfl) ?_
    | refine OpK.of (OpOk.apM D rfl rfl rfl rfl rfl rfl rfl rfl (by first | rfl | simp) rfl rfl (fun _ => rfl) (by first | assumption | omega | (simp; omega)) (by decide)) ?_
    | refine goO ?_
    | refine goN ?_
    | (refine WO.gs _ rfl rfl rfl ?_ ?_ <;> intro hb <;> simp only [hb] <;> (try simp at hb) <;> (try contradiction) <;> (try (exfalso; omega))))
        all_goals first
          | (exfalso; omega)
          | (exfalso; simp_all; done)
          | exact ⟨j + 1, hok, hmu, by rw [hs]; exact (.cons rfl rfl (.cons rfl rfl (.cons rfl rfl (.cons rfl rfl (.cons rfl rfl (.nil)))))), by rw [hs]; rfl, by rw [hs]; exact LH.lows (by repeat' (first | exact .nil | refine .box rfl ?_ | refine .arr (rs_low _ _ _) ?_ | refine .dead ?_ | fail))⟩
          | trace_state
      | @old i h0 d2 d3 =>
        have hne : out ≠ [] := by intro e; subst e; simp at h0
        repeat' (first
    | (refine W.cond rfl ?_ ?_ <;> intro hb <;> (try simp at hb) <;> (try contradiction) <;> (try (exfalso; omega)))
    | (refine OpK.at 16 ?_; refine co [0] (c) ?_)
    | (refine OpK.at 30 ?_; refine co [0] (ck) ?_)
    | (refine OpK.at 38 ?_; refine co [0] (d2) ?_)
    | (refine OpK.at 45 ?_; refine co [0] (d3) ?_)
    | (refine OpK.at 44 ?_; refine OpK.of (OpOk.lenO D rfl rfl rfl rfl rfl rfl) ?_)
    | (refine OpK.at 46 ?_; refine OpK.of (OpOk.ixO D i rfl rfl rfl rfl rfl rfl rfl rfl rfl rfl h0) ?_)
    | (refine OpK.at 47 ?_; refine OpK.of (OpOk.ldO D rfl rfl rfl rfl rfl h0 rfl) ?_)
    | (refine OpK.at 34 ?_; refine OpK.of (OpOk.lenO D rfl rfl rfl rfl rfl rfl) ?_)
    | (refine OpK.at 14 ?_; refine OpK.of (OpOk.subN (N - j) 1 rfl rfl rfl rfl rfl (by omega) (by omega)) ?_)
    | refine OpK.of (OpOk.bldF D [out[i]] Ent.e rfl rfl rfl rfl (by decide) (by decide) (by decide) rfl rfl rfl) ?_
    | refine OpK.of (OpOk.apM D rfl rfl rfl rfl rfl rfl rfl rfl (by first | rfl | simp) rfl rfl (fun _ => rfl) (by first | assumption | omega | (simp; omega)) (by decide)) ?_
    | refine goO ?_
    | refine goN ?_
    | (refine WO.gs _ rfl rfl rfl ?_ ?_ <;> intro hb <;> simp only [hb] <;> (try simp at hb) <;> (try contradiction) <;> (try (exfalso; omega))))
        all_goals first
          | (exfalso; omega)
          | (exfalso; simp_all; done)
          | exact ⟨j + 1, hok, hmu, by rw [hs]; exact (.cons rfl rfl (.cons rfl rfl (.cons rfl rfl (.cons rfl rfl (.cons rfl rfl (.nil)))))), by rw [hs]; rfl, by rw [hs]; exact LH.lows (by repeat' (first | exact .nil | refine .box rfl ?_ | refine .arr (rs_low _ _ _) ?_ | refine .dead ?_ | fail))⟩
          | trace_state
    | seal0 hk c c2 =>
      cases hB with
      | first h0 =>
        repeat' (first
    | (refine W.cond rfl ?_ ?_ <;> intro hb <;> (try simp at hb) <;> (try contradiction) <;> (try (exfalso; omega)))
    | (refine OpK.at 16 ?_; refine co [0] (c) ?_)
    | (refine OpK.at 23 ?_; refine co [0] (c2) ?_)
    | (refine OpK.at 30 ?_; refine co [0] (ck) ?_)
    | (refine OpK.at 34 ?_; refine OpK.of (OpOk.lenO D rfl rfl rfl rfl rfl rfl) ?_)
    | (refine OpK.at 14 ?_; refine OpK.of (OpOk.subN (N - j) 1 rfl rfl rfl rfl rfl (by omega) (by omega)) ?_)
    | refine OpK.of (OpOk.bldF D [(⟨e.client, 1 + k, e.cmd⟩ : Ent)] Ent.e rfl rfl rfl rfl (by decide) (by decide) (by decide) rfl rfl rfl) ?_
    | refine OpK.of (OpOk.apM D rfl rfl rfl rfl rfl rfl rfl rfl (by first | rfl | simp) rfl rfl (fun _ => rfl) (by first | assumption | omega | (simp; omega)) (by decide)) ?_
    | refine goO ?_
    | refine goN ?_
    | (refine WO.gs _ rfl rfl rfl ?_ ?_ <;> intro hb <;> simp only [hb] <;> (try simp at hb) <;> (try contradiction) <;> (try (exfalso; omega))))
        all_goals first
          | (exfalso; omega)
          | (exfalso; simp_all; done)
          | exact ⟨j + 1, hok, hmu, by rw [hs]; exact (.cons rfl rfl (.cons rfl rfl (.cons rfl rfl (.cons rfl rfl (.cons rfl rfl (.nil)))))), by rw [hs]; rfl, by rw [hs]; exact LH.lows (by repeat' (first | exact .nil | refine .box rfl ?_ | refine .arr (rs_low _ _ _) ?_ | refine .dead ?_ | fail))⟩
          | trace_state
      | new h0 d2 hk0 =>
        repeat' (first
    | (refine W.cond rfl ?_ ?_ <;> intro hb <;> (try simp at hb) <;> (try contradiction) <;> (try (exfalso; omega)))
    | (refine OpK.at 16 ?_; refine co [0] (c) ?_)
    | (refine OpK.at 23 ?_; refine co [0] (c2) ?_)
    | (refine OpK.at 30 ?_; refine co [0] (ck) ?_)
    | (refine OpK.at 38 ?_; refine co [0] (d2) ?_)
    | (refine OpK.at 34 ?_; refine OpK.of (OpOk.lenO D rfl rfl rfl rfl rfl rfl) ?_)
    | (refine OpK.at 14 ?_; refine OpK.of (OpOk.subN (N - j) 1 rfl rfl rfl rfl rfl (by omega) (by omega)) ?_)
    | refine OpK.of (OpOk.bldF D [(⟨e.client, 1 + k, e.cmd⟩ : Ent)] Ent.e rfl rfl rfl rfl (by decide) (by decide) (by decide) rfl rfl rfl) ?_
    | refine OpK.of (OpOk.apM D rfl rfl rfl rfl rfl rfl rfl rfl (by first | rfl | simp) rfl rfl (fun _ => rfl) (by first | assumption | omega | (simp; omega)) (by decide)) ?_
    | refine goO ?_
    | refine goN ?_
    | (refine WO.gs _ rfl rfl rfl ?_ ?_ <;> intro hb <;> simp only [hb] <;> (try simp at hb) <;> (try contradiction) <;> (try (exfalso; omega))))
        all_goals first
          | (exfalso; omega)
          | (exfalso; simp_all; done)
          | exact ⟨j + 1, hok, hmu, by rw [hs]; exact (.cons rfl rfl (.cons rfl rfl (.cons rfl rfl (.cons rfl rfl (.cons rfl rfl (.nil)))))), by rw [hs]; rfl, by rw [hs]; exact LH.lows (by repeat' (first | exact .nil | refine .box rfl ?_ | refine .arr (rs_low _ _ _) ?_ | refine .dead ?_ | fail))⟩
          | trace_state
      | @old i h0 d2 d3 =>
        have hne : out ≠ [] := by intro e; subst e; simp at h0
        repeat' (first
    | (refine W.cond rfl ?_ ?_ <;> intro hb <;> (try simp at hb) <;> (try contradiction) <;> (try (exfalso; omega)))
    | (refine OpK.at 16 ?_; refine co [0] (c) ?_)
    | (refine OpK.at 23 ?_; refine co [0] (c2) ?_)
    | (refine OpK.at 30 ?_; refine co [0] (ck) ?_)
    | (refine OpK.at 38 ?_; refine co [0] (d2) ?_)
    | (refine OpK.at 45 ?_; refine co [0] (d3) ?_)
    | (refine OpK.at 44 ?_; refine OpK.of (OpOk.lenO D rfl rfl rfl rfl rfl rfl) ?_)
    | (refine OpK.at 46 ?_; refine OpK.of (OpOk.ixO D i rfl rfl rfl rfl rfl rfl rfl rfl rfl rfl h0) ?_)
    | (refine OpK.at 47 ?_; refine OpK.of (OpOk.ldO D rfl rfl rfl rfl rfl h0 rfl) ?_)
    | (refine OpK.at 34 ?_; refine OpK.of (OpOk.lenO D rfl rfl rfl rfl rfl rfl) ?_)
    | (refine OpK.at 14 ?_; refine OpK.of (OpOk.subN (N - j) 1 rfl rfl rfl rfl rfl (by omega) (by omega)) ?_)
    | refine OpK.of (OpOk.bldF D [out[i]] Ent.e rfl rfl rfl rfl (by decide) (by decide) (by decide) rfl rfl rfl) ?_
    | refine OpK.of (OpOk.apM D rfl rfl rfl rfl rfl rfl rfl rfl (by first | rfl | simp) rfl rfl (fun _ => rfl) (by first | assumption | omega | (simp; omega)) (by decide)) ?_
    | refine goO ?_
    | refine goN ?_
    | (refine WO.gs _ rfl rfl rfl ?_ ?_ <;> intro hb <;> simp only [hb] <;> (try simp at hb) <;> (try contradiction) <;> (try (exfalso; omega))))
        all_goals first
          | (exfalso; omega)
          | (exfalso; simp_all; done)
          | exact ⟨j + 1, hok, hmu, by rw [hs]; exact (.cons rfl rfl (.cons rfl rfl (.cons rfl rfl (.cons rfl rfl (.cons rfl rfl (.nil)))))), by rw [hs]; rfl, by rw [hs]; exact LH.lows (by repeat' (first | exact .nil | refine .box rfl ?_ | refine .arr (rs_low _ _ _) ?_ | refine .dead ?_ | fail))⟩
          | trace_state
    | @seal1 e p1 k3 p2' m hk c c2 h3 c3 =>
      cases hB with
      | first h0 =>
        repeat' (first
    | (refine W.cond rfl ?_ ?_ <;> intro hb <;> (try simp at hb) <;> (try contradiction) <;> (try (exfalso; omega)))
    | (refine OpK.at 16 ?_; refine co [0] (c) ?_)
    | (refine OpK.at 23 ?_; refine co [0] (c2) ?_)
    | (refine OpK.at 27 ?_; refine co [0] (c3) ?_)
    | (refine OpK.at 30 ?_; refine co [0] (ck) ?_)
    | (refine OpK.at 34 ?_; refine OpK.of (OpOk.lenO D rfl rfl rfl rfl rfl rfl) ?_)
    | (refine OpK.at 14 ?_; refine OpK.of (OpOk.subN (N - j) 1 rfl rfl rfl rfl rfl (by omega) (by omega)) ?_)
    | refine OpK.of (OpOk.bldF D [(⟨e.client, 1 + k, m⟩ : Ent)] Ent.e rfl rfl rfl rfl (by decide) (by decide) (by decide) rfl rfl rfl) ?_
    | refine OpK.of (OpOk.apM D rfl rfl rfl rfl rfl rfl rfl rfl (by first | rfl | simp) rfl rfl (fun _ => rfl) (by first | assumption | omega | (simp; omega)) (by decide)) ?_
    | refine goO ?_
    | refine goN ?_
    | (refine WO.gs _ rfl rfl rfl ?_ ?_ <;> intro hb <;> simp only [hb] <;> (try simp at hb) <;> (try contradiction) <;> (try (exfalso; omega))))
        all_goals first
          | (exfalso; omega)
          | (exfalso; simp_all; done)
          | exact ⟨j + 1, hok, hmu, by rw [hs]; exact (.cons rfl rfl (.cons rfl rfl (.cons rfl rfl (.cons rfl rfl (.cons rfl rfl (.nil)))))), by rw [hs]; rfl, by rw [hs]; exact LH.lows (by repeat' (first | exact .nil | refine .box rfl ?_ | refine .arr (rs_low _ _ _) ?_ | refine .dead ?_ | fail))⟩
          | trace_state
      | new h0 d2 hk0 =>
        repeat' (first
    | (refine W.cond rfl ?_ ?_ <;> intro hb <;> (try simp at hb) <;> (try contradiction) <;> (try (exfalso; omega)))
    | (refine OpK.at 16 ?_; refine co [0] (c) ?_)
    | (refine OpK.at 23 ?_; refine co [0] (c2) ?_)
    | (refine OpK.at 27 ?_; refine co [0] (c3) ?_)
    | (refine OpK.at 30 ?_; refine co [0] (ck) ?_)
    | (refine OpK.at 38 ?_; refine co [0] (d2) ?_)
    | (refine OpK.at 34 ?_; refine OpK.of (OpOk.lenO D rfl rfl rfl rfl rfl rfl) ?_)
    | (refine OpK.at 14 ?_; refine OpK.of (OpOk.subN (N - j) 1 rfl rfl rfl rfl rfl (by omega) (by omega)) ?_)
    | refine OpK.of (OpOk.bldF D [(⟨e.client, 1 + k, m⟩ : Ent)] Ent.e rfl rfl rfl rfl (by decide) (by decide) (by decide) rfl rfl rfl) ?_
    | refine OpK.of (OpOk.apM D rfl rfl rfl rfl rfl rfl rfl rfl (by first | rfl | simp) rfl rfl (fun _ => rfl) (by first | assumption | omega | (simp; omega)) (by decide)) ?_
    | refine goO ?_
    | refine goN ?_
    | (refine WO.gs _ rfl rfl rfl ?_ ?_ <;> intro hb <;> simp only [hb] <;> (try simp at hb) <;> (try contradiction) <;> (try (exfalso; omega))))
        all_goals first
          | (exfalso; omega)
          | (exfalso; simp_all; done)
          | exact ⟨j + 1, hok, hmu, by rw [hs]; exact (.cons rfl rfl (.cons rfl rfl (.cons rfl rfl (.cons rfl rfl (.cons rfl rfl (.nil)))))), by rw [hs]; rfl, by rw [hs]; exact LH.lows (by repeat' (first | exact .nil | refine .box rfl ?_ | refine .arr (rs_low _ _ _) ?_ | refine .dead ?_ | fail))⟩
          | trace_state
      | @old i h0 d2 d3 =>
        have hne : out ≠ [] := by intro e; subst e; simp at h0
        repeat' (first
    | (refine W.cond rfl ?_ ?_ <;> intro hb <;> (try simp at hb) <;> (try contradiction) <;> (try (exfalso; omega)))
    | (refine OpK.at 16 ?_; refine co [0] (c) ?_)
    | (refine OpK.at 23 ?_; refine co [0] (c2) ?_)
    | (refine OpK.at 27 ?_; refine co [0] (c3) ?_)
    | (refine OpK.at 30 ?_; refine co [0] (ck) ?_)
    | (refine OpK.at 38 ?_; refine co [0] (d2) ?_)
    | (refine OpK.at 45 ?_; refine co [0] (d3) ?_)
    | (refine OpK.at 44 ?_; refine OpK.of (OpOk.lenO D rfl rfl rfl rfl rfl rfl) ?_)
    | (refine OpK.at 46 ?_; refine OpK.of (OpOk.ixO D i rfl rfl rfl rfl rfl rfl rfl rfl rfl rfl h0) ?_)
    | (refine OpK.at 47 ?_; refine OpK.of (OpOk.ldO D rfl rfl rfl rfl rfl h0 rfl) ?_)
    | (refine OpK.at 34 ?_; refine OpK.of (OpOk.lenO D rfl rfl rfl rfl rfl rfl) ?_)
    | (refine OpK.at 14 ?_; refine OpK.of (OpOk.subN (N - j) 1 rfl rfl rfl rfl rfl (by omega) (by omega)) ?_)
    | refine OpK.of (OpOk.bldF D [out[i]] Ent.e rfl rfl rfl rfl (by decide) (by decide) (by decide) rfl rfl rfl) ?_
    | refine OpK.of (OpOk.apM D rfl rfl rfl rfl rfl rfl rfl rfl (by first | rfl | simp) rfl rfl (fun _ => rfl) (by first | assumption | omega | (simp; omega)) (by decide)) ?_
    | refine goO ?_
    | refine goN ?_
    | (refine WO.gs _ rfl rfl rfl ?_ ?_ <;> intro hb <;> simp only [hb] <;> (try simp at hb) <;> (try contradiction) <;> (try (exfalso; omega))))
        all_goals first
          | (exfalso; omega)
          | (exfalso; simp_all; done)
          | exact ⟨j + 1, hok, hmu, by rw [hs]; exact (.cons rfl rfl (.cons rfl rfl (.cons rfl rfl (.cons rfl rfl (.cons rfl rfl (.nil)))))), by rw [hs]; rfl, by rw [hs]; exact LH.lows (by repeat' (first | exact .nil | refine .box rfl ?_ | refine .arr (rs_low _ _ _) ?_ | refine .dead ?_ | fail))⟩
          | trace_state
  · have hjN : j = N := by omega
    subst hjN
    repeat' (first
    | (refine W.cond rfl ?_ ?_ <;> intro hb <;> (try simp at hb) <;> (try contradiction) <;> (try (exfalso; omega)))
    | (refine OpK.at 54 ?_; refine co [0] (eo) ?_)
    | refine goO ?_
    | refine goN ?_
    | (refine WO.gs _ rfl rfl rfl ?_ ?_ <;> intro hb <;> simp only [hb] <;> (try simp at hb) <;> (try contradiction) <;> (try (exfalso; omega))))
    all_goals first
      | (exfalso; omega)
      | (first | refine Ro.c1 (.inr rfl) [0] rfl (by decide) (kp rfl) ?_ ?_ | refine Ro.a1 (.inr rfl) [0] rfl (by decide) (kp rfl) ?_ ?_ | refine Ro.t1 (.inr rfl) [0] rfl (by decide) (kp rfl) ?_ ?_ rfl); (repeat' (first | exact .nil | refine .cons rfl ?_ ?_ | refine .cons ?_ ?_ | refine .c ?_ | refine .ag ?_ | refine .box ?_ | exact .arr (rs_low _ _ _) | exact .dead | exact .id rfl | exact .sl rfl | exact .ptr rfl | exact .ap rfl | exact .emp | exact .full rfl rfl rfl rfl rfl | fail))
end Go.YtamlleimfopmhaaMc

namespace Go.YtamlleimfopmhaaMc
open Go.Proofs
/-! ### Draws: two logs (DrawPrefixOf) -/
set_option maxHeartbeats 4000000 in
theorem drawPre_ex (bs : List UInt8) (hb : bs.length ≤ 1048576) : ∃ a b : List Ent, a.length ≤ 1048576 ∧ b.length ≤ 1048576 ∧ Pu Try.prog 11 [L eU bs] (.tu [.c (.t (.l (a.map Ent.e))), .c (.t (.l (b.map Ent.e)))]) := by
  have eo := open_ok bs hb
  have r0 : Rok (bs.take 2000) 0 := ⟨by simp; omega, by omega⟩
  generalize bs.take 2000 = cs at eo r0
  obtain ⟨a, p1, a1, a2, a3, a4, el⟩ := log_ex r0 (by omega)
  obtain ⟨k, k1, _, e1⟩ := pick_ex (p := p1) ⟨r0.b, by omega⟩ ((a.length + 1 : Nat) : Int) (by omega)
  have k1 := k1 (by omega)
  have hk : k ≤ a.length := by omega
  obtain ⟨q, _, _, e2⟩ := pick_ex (p := p1 + 1) ⟨r0.b, by omega⟩ 5 (by omega)
  have hkl : (a.take k).length ≤ 8 := by simp; omega
  by_cases q0 : (q : Int) = 0
  · obtain ⟨b, p2, b1, b2, b3, b4, e3⟩ := log_ex (p := p1 + 1 + 1) ⟨r0.b, by omega⟩ (by omega)
    refine ⟨a, b, by omega, by omega, ?_⟩
    refine Pu.of D Try.func11 rfl rfl rfl ?_
    repeat' (first
    | (refine W.cond rfl ?_ ?_ <;> intro hb <;> (try simp at hb) <;> (try contradiction) <;> (try (exfalso; omega)))
    | (refine OpK.at 8 ?_; refine co [] (eo) ?_)
    | (refine OpK.at 10 ?_; refine co [0] (el) ?_)
    | (refine OpK.at 17 ?_; refine co [0] (e1) ?_)
    | (refine OpK.at 16 ?_; refine OpK.of (OpOk.addN a.length 1 rfl rfl rfl rfl rfl (by omega)) ?_)
    | (refine OpK.at 18 ?_; refine OpK.of (OpOk.slMt D (r := k) rfl rfl rfl rfl rfl (fun _ => rfl) rfl hk) ?_)
    | refine OpK.of (OpOk.bldE D rfl rfl rfl rfl) ?_
    | refine OpK.of (OpOk.cpO D rfl rfl rfl rfl rfl rfl rfl rfl (by decide) (fun _ => rfl) (by first | assumption | omega | (simp; omega)) (by decide)) ?_
    | (refine OpK.at 21 ?_; refine co [0] (e2) ?_)
    | (refine OpK.at 26 ?_; refine co [0] (e3) ?_)
    | refine goO ?_
    | refine goN ?_
    | (refine WO.gs _ rfl rfl rfl ?_ ?_ <;> intro hb <;> simp only [hb] <;> (try simp at hb) <;> (try contradiction) <;> (try (exfalso; omega))))
    all_goals first
      | (exfalso; omega)
      | (refine ⟨.inr rfl, _, _, rfl, .cons (.c (by first | exact .emp | exact .full rfl rfl rfl | exact .id rfl | fail)) (.cons (.c (by first | exact .emp | exact .full rfl rfl rfl | exact .id rfl | fail)) (.nil)), ?_⟩; rfl)
      | trace_state
  by_cases q1 : (q : Int) = 1
  · obtain ⟨e, p2, b1, b2, _, b4, e3⟩ := ent_ex (p := p1 + 1 + 1) ⟨r0.b, by omega⟩ (by omega) 3 (by omega)
    refine ⟨a, a.take k ++ [e], by omega, by simp; omega, ?_⟩
    refine Pu.of D Try.func11 rfl rfl rfl ?_
    repeat' (first
    | (refine W.cond rfl ?_ ?_ <;> intro hb <;> (try simp at hb) <;> (try contradiction) <;> (try (exfalso; omega)))
    | (refine OpK.at 8 ?_; refine co [] (eo) ?_)
    | (refine OpK.at 10 ?_; refine co [0] (el) ?_)
    | (refine OpK.at 17 ?_; refine co [0] (e1) ?_)
    | (refine OpK.at 16 ?_; refine OpK.of (OpOk.addN a.length 1 rfl rfl rfl rfl rfl (by omega)) ?_)
    | (refine OpK.at 18 ?_; refine OpK.of (OpOk.slMt D (r := k) rfl rfl rfl rfl rfl (fun _ => rfl) rfl hk) ?_)
    | refine OpK.of (OpOk.bldE D rfl rfl rfl rfl) ?_
    | refine OpK.of (OpOk.cpO D rfl rfl rfl rfl rfl rfl rfl rfl (by decide) (fun _ => rfl) (by first | assumption | omega | (simp; omega)) (by decide)) ?_
    | (refine OpK.at 21 ?_; refine co [0] (e2) ?_)
    | (refine OpK.at 32 ?_; refine co [0] (e3) ?_)
    | refine OpK.of (OpOk.bldF D [e] Ent.e rfl rfl rfl rfl (by decide) (by decide) (by decide) rfl rfl rfl) ?_
    | refine OpK.of (OpOk.apM D rfl rfl rfl rfl rfl rfl rfl rfl (by first | rfl | simp) rfl rfl (fun _ => rfl) (by first | assumption | omega | (simp; omega)) (by decide)) ?_
    | refine goO ?_
    | refine goN ?_
    | (refine WO.gs _ rfl rfl rfl ?_ ?_ <;> intro hb <;> simp only [hb] <;> (try simp at hb) <;> (try contradiction) <;> (try (exfalso; omega))))
    all_goals first
      | (exfalso; omega)
      | (refine ⟨.inr rfl, _, _, rfl, .cons (.c (by first | exact .emp | exact .full rfl rfl rfl | exact .id rfl | fail)) (.cons (.c (by first | exact .emp | exact .full rfl rfl rfl | exact .id rfl | fail)) (.nil)), ?_⟩; rfl)
      | trace_state
  by_cases q2 : (q : Int) = 2
  · refine ⟨a.take k, a, by omega, by omega, ?_⟩
    refine Pu.of D Try.func11 rfl rfl rfl ?_
    repeat' (first
    | (refine W.cond rfl ?_ ?_ <;> intro hb <;> (try simp at hb) <;> (try contradiction) <;> (try (exfalso; omega)))
    | (refine OpK.at 8 ?_; refine co [] (eo) ?_)
    | (refine OpK.at 10 ?_; refine co [0] (el) ?_)
    | (refine OpK.at 17 ?_; refine co [0] (e1) ?_)
    | (refine OpK.at 16 ?_; refine OpK.of (OpOk.addN a.length 1 rfl rfl rfl rfl rfl (by omega)) ?_)
    | (refine OpK.at 18 ?_; refine OpK.of (OpOk.slMt D (r := k) rfl rfl rfl rfl rfl (fun _ => rfl) rfl hk) ?_)
    | refine OpK.of (OpOk.bldE D rfl rfl rfl rfl) ?_
    | refine OpK.of (OpOk.cpO D rfl rfl rfl rfl rfl rfl rfl rfl (by decide) (fun _ => rfl) (by first | assumption | omega | (simp; omega)) (by decide)) ?_
    | (refine OpK.at 21 ?_; refine co [0] (e2) ?_)
    | refine goO ?_
    | refine goN ?_
    | (refine WO.gs _ rfl rfl rfl ?_ ?_ <;> intro hb <;> simp only [hb] <;> (try simp at hb) <;> (try contradiction) <;> (try (exfalso; omega))))
    all_goals first
      | (exfalso; omega)
      | (refine ⟨.inr rfl, _, _, rfl, .cons (.c (by first | exact .emp | exact .full rfl rfl rfl | exact .id rfl | fail)) (.cons (.c (by first | exact .emp | exact .full rfl rfl rfl | exact .id rfl | fail)) (.nil)), ?_⟩; rfl)
      | trace_state
  · refine ⟨a, a.take k, by omega, by omega, ?_⟩
    refine Pu.of D Try.func11 rfl rfl rfl ?_
    repeat' (first
    | (refine W.cond rfl ?_ ?_ <;> intro hb <;> (try simp at hb) <;> (try contradiction) <;> (try (exfalso; omega)))
    | (refine OpK.at 8 ?_; refine co [] (eo) ?_)
    | (refine OpK.at 10 ?_; refine co [0] (el) ?_)
    | (refine OpK.at 17 ?_; refine co [0] (e1) ?_)
    | (refine OpK.at 16 ?_; refine OpK.of (OpOk.addN a.length 1 rfl rfl rfl rfl rfl (by omega)) ?_)
    | (refine OpK.at 18 ?_; refine OpK.of (OpOk.slMt D (r := k) rfl rfl rfl rfl rfl (fun _ => rfl) rfl hk) ?_)
    | refine OpK.of (OpOk.bldE D rfl rfl rfl rfl) ?_
    | refine OpK.of (OpOk.cpO D rfl rfl rfl rfl rfl rfl rfl rfl (by decide) (fun _ => rfl) (by first | assumption | omega | (simp; omega)) (by decide)) ?_
    | (refine OpK.at 21 ?_; refine co [0] (e2) ?_)
    | refine goO ?_
    | refine goN ?_
    | (refine WO.gs _ rfl rfl rfl ?_ ?_ <;> intro hb <;> simp only [hb] <;> (try simp at hb) <;> (try contradiction) <;> (try (exfalso; omega))))
    all_goals first
      | (exfalso; omega)
      | (refine ⟨.inr rfl, _, _, rfl, .cons (.c (by first | exact .emp | exact .full rfl rfl rfl | exact .id rfl | fail)) (.cons (.c (by first | exact .emp | exact .full rfl rfl rfl | exact .id rfl | fail)) (.nil)), ?_⟩; rfl)
      | trace_state
end Go.YtamlleimfopmhaaMc

namespace Go.YtamlleimfopmhaaMc
open Go.Proofs
theorem law_pre1 (bs : List UInt8) (hb : bs.length ≤ 1048576) (a b : List Ent) (ed : Pu Try.prog 11 [L eU bs] (.tu [.c (.t (.l (a.map Ent.e))), .c (.t (.l (b.map Ent.e)))])) (e1 : Pu Try.prog 12 [L Ent.e a, L Ent.e b] (B true)) (e2 : Pu Try.prog 13 [L Ent.e a, L Ent.e b] (B true)) (e3 : Pu Try.prog 12 [L Ent.e a, L Ent.e []] (B true)) (e4 : Pu Try.prog 12 [L Ent.e a, L Ent.e a] (B true)) (e5 : Pu Try.prog 12 [L Ent.e b, L Ent.e a] (B true)) (e6 : Pu Try.prog 14 [L Ent.e a, L Ent.e b] (B (true && true))) : Pu Try.prog 3 [L eU bs] (B true) := by
  refine Pu.of D Try.func3 rfl rfl rfl ?_
  repeat' (first
    | (refine W.cond rfl ?_ ?_ <;> intro hb <;> (try simp at hb) <;> (try contradiction) <;> (try (exfalso; omega)))
    | refine cl (ed) ?_
    | refine cl (e1) ?_
    | refine cl (e2) ?_
    | (refine OpK.at 23 ?_; refine coz [] (Pu.po (e3)) ?_)
    | refine cl (e4) ?_
    | refine cl (e5) ?_
    | refine cl (e6) ?_
    | refine cl (alive_ok) ?_
    | refine goO ?_
    | refine goN ?_
    | (refine WO.gs _ rfl rfl rfl ?_ ?_ <;> intro hb <;> simp only [hb] <;> (try simp at hb) <;> (try contradiction) <;> (try (exfalso; omega))))
  all_goals first
    | (exfalso; omega)
    | (refine ⟨.inr rfl, _, _, rfl, .cons (.c (.id rfl)) .nil, ?_⟩; rfl)
    | trace_state
theorem law_pre2 (bs : List UInt8) (hb : bs.length ≤ 1048576) (a b : List Ent) (ed : Pu Try.prog 11 [L eU bs] (.tu [.c (.t (.l (a.map Ent.e))), .c (.t (.l (b.map Ent.e)))])) (e1 : Pu Try.prog 12 [L Ent.e a, L Ent.e b] (B true)) (e2 : Pu Try.prog 13 [L Ent.e a, L Ent.e b] (B true)) (e3 : Pu Try.prog 12 [L Ent.e a, L Ent.e []] (B true)) (e4 : Pu Try.prog 12 [L Ent.e a, L Ent.e a] (B true)) (e5 : Pu Try.prog 12 [L Ent.e b, L Ent.e a] (B false)) (e6 : Pu Try.prog 14 [L Ent.e a, L Ent.e b] (B (true && false))) : Pu Try.prog 3 [L eU bs] (B true) := by
  refine Pu.of D Try.func3 rfl rfl rfl ?_
  repeat' (first
    | (refine W.cond rfl ?_ ?_ <;> intro hb <;> (try simp at hb) <;> (try contradiction) <;> (try (exfalso; omega)))
    | refine cl (ed) ?_
    | refine cl (e1) ?_
    | refine cl (e2) ?_
    | (refine OpK.at 23 ?_; refine coz [] (Pu.po (e3)) ?_)
    | refine cl (e4) ?_
    | refine cl (e5) ?_
    | refine cl (e6) ?_
    | refine cl (alive_ok) ?_
    | refine goO ?_
    | refine goN ?_
    | (refine WO.gs _ rfl rfl rfl ?_ ?_ <;> intro hb <;> simp only [hb] <;> (try simp at hb) <;> (try contradiction) <;> (try (exfalso; omega))))
  all_goals first
    | (exfalso; omega)
    | (refine ⟨.inr rfl, _, _, rfl, .cons (.c (.id rfl)) .nil, ?_⟩; rfl)
    | trace_state
theorem law_pre3 (bs : List UInt8) (hb : bs.length ≤ 1048576) (a b : List Ent) (ed : Pu Try.prog 11 [L eU bs] (.tu [.c (.t (.l (a.map Ent.e))), .c (.t (.l (b.map Ent.e)))])) (e1 : Pu Try.prog 12 [L Ent.e a, L Ent.e b] (B false)) (e2 : Pu Try.prog 13 [L Ent.e a, L Ent.e b] (B false)) (e3 : Pu Try.prog 12 [L Ent.e a, L Ent.e []] (B true)) (e4 : Pu Try.prog 12 [L Ent.e a, L Ent.e a] (B true)) (e5 : Pu Try.prog 12 [L Ent.e b, L Ent.e a] (B true)) (e6 : Pu Try.prog 14 [L Ent.e a, L Ent.e b] (B (false && true))) : Pu Try.prog 3 [L eU bs] (B true) := by
  refine Pu.of D Try.func3 rfl rfl rfl ?_
  repeat' (first
    | (refine W.cond rfl ?_ ?_ <;> intro hb <;> (try simp at hb) <;> (try contradiction) <;> (try (exfalso; omega)))
    | refine cl (ed) ?_
    | refine cl (e1) ?_
    | refine cl (e2) ?_
    | (refine OpK.at 23 ?_; refine coz [] (Pu.po (e3)) ?_)
    | refine cl (e4) ?_
    | refine cl (e5) ?_
    | refine cl (e6) ?_
    | refine cl (alive_ok) ?_
    | refine goO ?_
    | refine goN ?_
    | (refine WO.gs _ rfl rfl rfl ?_ ?_ <;> intro hb <;> simp only [hb] <;> (try simp at hb) <;> (try contradiction) <;> (try (exfalso; omega))))
  all_goals first
    | (exfalso; omega)
    | (refine ⟨.inr rfl, _, _, rfl, .cons (.c (.id rfl)) .nil, ?_⟩; rfl)
    | trace_state
theorem law_pre4 (bs : List UInt8) (hb : bs.length ≤ 1048576) (a b : List Ent) (ed : Pu Try.prog 11 [L eU bs] (.tu [.c (.t (.l (a.map Ent.e))), .c (.t (.l (b.map Ent.e)))])) (e1 : Pu Try.prog 12 [L Ent.e a, L Ent.e b] (B false)) (e2 : Pu Try.prog 13 [L Ent.e a, L Ent.e b] (B false)) (e3 : Pu Try.prog 12 [L Ent.e a, L Ent.e []] (B true)) (e4 : Pu Try.prog 12 [L Ent.e a, L Ent.e a] (B true)) (e5 : Pu Try.prog 12 [L Ent.e b, L Ent.e a] (B false)) (e6 : Pu Try.prog 14 [L Ent.e a, L Ent.e b] (B (false && false))) : Pu Try.prog 3 [L eU bs] (B true) := by
  refine Pu.of D Try.func3 rfl rfl rfl ?_
  repeat' (first
    | (refine W.cond rfl ?_ ?_ <;> intro hb <;> (try simp at hb) <;> (try contradiction) <;> (try (exfalso; omega)))
    | refine cl (ed) ?_
    | refine cl (e1) ?_
    | refine cl (e2) ?_
    | (refine OpK.at 23 ?_; refine coz [] (Pu.po (e3)) ?_)
    | refine cl (e4) ?_
    | refine cl (e5) ?_
    | refine cl (e6) ?_
    | refine cl (alive_ok) ?_
    | refine goO ?_
    | refine goN ?_
    | (refine WO.gs _ rfl rfl rfl ?_ ?_ <;> intro hb <;> simp only [hb] <;> (try simp at hb) <;> (try contradiction) <;> (try (exfalso; omega))))
  all_goals first
    | (exfalso; omega)
    | (refine ⟨.inr rfl, _, _, rfl, .cons (.c (.id rfl)) .nil, ?_⟩; rfl)
    | trace_state
theorem law_pre (bs : List UInt8) (hf : bs.length ≤ 9223372036854775807) : Pu Try.prog 3 [L eU bs] (B true) := by
  by_cases hb : bs.length ≤ 1048576
  · obtain ⟨a, b, ha, hbb, ed⟩ := drawPre_ex bs hb
    have h3 := pre_both a b
    have e1 := pre_impl a b ha hbb
    have e2 := pre_spec a b ha hbb
    have e3 := pre_impl a [] ha (by simp)
    have e4 := pre_impl a a ha ha
    have e5 := pre_impl b a hbb ha
    have e6 := sLog_ok a b ha
    rw [pre_self] at e4
    rw [pre_nil] at e3
    rw [← h3] at e6
    clear h3
    generalize pre a b = x at e1 e2 e6
    generalize pre b a = y at e5 e6
    cases x <;> cases y
    · exact law_pre4 bs hb a b ed e1 e2 e3 e4 e5 e6
    · exact law_pre3 bs hb a b ed e1 e2 e3 e4 e5 e6
    · exact law_pre2 bs hb a b ed e1 e2 e3 e4 e5 e6
    · exact law_pre1 bs hb a b ed e1 e2 e3 e4 e5 e6
  · refine Pu.of D Try.func3 rfl rfl rfl ?_
    repeat' (first
    | (refine W.cond rfl ?_ ?_ <;> intro hb <;> (try simp at hb) <;> (try contradiction) <;> (try (exfalso; omega)))
    | refine goO ?_
    | refine goN ?_
    | (refine WO.gs _ rfl rfl rfl ?_ ?_ <;> intro hb <;> simp only [hb] <;> (try simp at hb) <;> (try contradiction) <;> (try (exfalso; omega))))
    all_goals first
      | (exfalso; omega)
      | (refine ⟨.inr rfl, _, _, rfl, .cons (.c (.id rfl)) .nil, ?_⟩; rfl)
end Go.YtamlleimfopmhaaMc
