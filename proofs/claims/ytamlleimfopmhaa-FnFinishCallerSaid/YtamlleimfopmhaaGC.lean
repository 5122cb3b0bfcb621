/- Lemmas of this claim: walks through code, values and memory, and the contracts of functions; under no condition beyond those that each states. -/
import Derived.Test.YtamlleimfopmhaaGA
import Derived.Test.YtamlleimfopmhaaGB
set_option maxRecDepth 100000
set_option linter.unusedVariables false
set_option linter.unusedSimpArgs false
namespace Go.YtamlleimfopmhaaMc
open Go.Proofs
/-! ### Draws: the reader -/
def eU (c : UInt8) : List T := [.i .u8 c.toNat]
abbrev rdH (bs : List UInt8) (p : Nat) : List Blk := [.box [.t (.l (bs.map eU)), .t (tI p)]]
abbrev Rp : V := .c (.ptr 0 0)
/-- The reader's bytes and place are as they must be. -/
structure Rok (bs : List UInt8) (p : Nat) : Prop where
  b : bs.length ≤ 2000
  p : p ≤ 1099511627776
theorem pick_ex {bs : List UInt8} {p : Nat} (ro : Rok bs p) (n : Int) (hn : n ≤ 1000) : ∃ k : Nat, (1 ≤ n → (k : Int) < n) ∧ (n < 1 → k = 0) ∧ Po Try.prog 63 [Rp, I n] (rdH bs p) (I k) (rdH bs (p + 1)) := by
  have hb := ro.b
  have hp := ro.p
  by_cases h1 : n < 1
  · refine ⟨0, fun h => by omega, fun _ => rfl, ?_⟩
    refine Po.of D Try.func63 rfl rfl rfl ?_
    repeat' (first
    | (refine W.cond rfl ?_ ?_ <;> intro hb <;> (try simp at hb) <;> (try contradiction) <;> (try (exfalso; omega)))
    | refine goO ?_
    | refine goN ?_
    | (refine WO.gs _ rfl rfl rfl ?_ ?_ <;> intro hb <;> simp only [hb] <;> (try simp at hb) <;> (try contradiction) <;> (try (exfalso; omega)))
    | (refine WD.gs _ rfl rfl rfl ?_ ?_ <;> intro hb <;> simp only [hb] <;> (try simp at hb) <;> (try contradiction) <;> (try (exfalso; omega))))
    all_goals first
      | (exfalso; omega)
      | (first | refine Ro.c1 (.inr rfl) [0] rfl (by decide) (kp rfl) ?_ ?_ | refine Ro.a1 (.inr rfl) [0] rfl (by decide) (kp rfl) ?_ ?_ | refine Ro.t1 (.inr rfl) [0] rfl (by decide) (kp rfl) ?_ ?_ rfl); (repeat' (first | exact .nil | refine .cons rfl ?_ ?_ | refine .cons ?_ ?_ | refine .c ?_ | refine .ag ?_ | refine .box ?_ | exact .arr (rs_low _ _ _) | exact .dead | exact .id rfl | exact .sl rfl | exact .ptr rfl | exact .ap rfl | exact .emp | exact .full rfl rfl rfl rfl rfl | fail))
  by_cases h2 : bs = []
  · subst h2
    refine ⟨0, fun h => by omega, fun _ => rfl, ?_⟩
    refine Po.of D Try.func63 rfl rfl rfl ?_
    repeat' (first
    | (refine W.cond rfl ?_ ?_ <;> intro hb <;> (try simp at hb) <;> (try contradiction) <;> (try (exfalso; omega)))
    | refine goO ?_
    | refine goN ?_
    | (refine WO.gs _ rfl rfl rfl ?_ ?_ <;> intro hb <;> simp only [hb] <;> (try simp at hb) <;> (try contradiction) <;> (try (exfalso; omega)))
    | (refine WD.gs _ rfl rfl rfl ?_ ?_ <;> intro hb <;> simp only [hb] <;> (try simp at hb) <;> (try contradiction) <;> (try (exfalso; omega))))
    all_goals first
      | (exfalso; omega)
      | (first | refine Ro.c1 (.inr rfl) [0] rfl (by decide) (kp rfl) ?_ ?_ | refine Ro.a1 (.inr rfl) [0] rfl (by decide) (kp rfl) ?_ ?_ | refine Ro.t1 (.inr rfl) [0] rfl (by decide) (kp rfl) ?_ ?_ rfl); (repeat' (first | exact .nil | refine .cons rfl ?_ ?_ | refine .cons ?_ ?_ | refine .c ?_ | refine .ag ?_ | refine .box ?_ | exact .arr (rs_low _ _ _) | exact .dead | exact .id rfl | exact .sl rfl | exact .ptr rfl | exact .ap rfl | exact .emp | exact .full rfl rfl rfl rfl rfl | fail))
  have h4 : ¬ bs.length = 0 := fun h => h2 (List.length_eq_zero_iff.1 h)
  by_cases h3 : p < bs.length
  · have hu : bs[p].toNat < 256 := bs[p].toNat_lt
    refine ⟨bs[p].toNat % n.toNat, fun h => by have := Nat.mod_lt bs[p].toNat (show 0 < n.toNat by omega); omega, fun h => by omega, ?_⟩
    refine Po.of D Try.func63 rfl rfl rfl ?_
    repeat' (first
    | (refine W.cond rfl ?_ ?_ <;> intro hb <;> (try simp at hb) <;> (try contradiction) <;> (try (exfalso; omega)))
    | (refine OpK.at 42 ?_; refine OpK.of (OpOk.ixJ D p rfl rfl rfl rfl rfl rfl (by omega) (by omega) (fun _ => rfl)) ?_)
    | (refine OpD.at 42 ?_; refine OpD.of (OpOk.ixJ D p rfl rfl rfl rfl rfl rfl (by omega) (by omega) (fun _ => rfl)) ?_)
    | (refine OpK.at 44 ?_; refine OpK.of (OpOk.cvI D rfl rfl rfl rfl rfl rfl (wrap_i64 (by omega) (by omega))) ?_)
    | (refine OpD.at 44 ?_; refine OpD.of (OpOk.cvI D rfl rfl rfl rfl rfl rfl (wrap_i64 (by omega) (by omega))) ?_)
    | (refine OpK.at 46 ?_; refine OpK.of (OpOk.remN bs[p].toNat n.toNat rfl rfl rfl rfl (by omega) (by omega)) ?_)
    | (refine OpD.at 46 ?_; refine OpD.of (OpOk.remN bs[p].toNat n.toNat rfl rfl rfl rfl (by omega) (by omega)) ?_)
    | refine goO ?_
    | refine goN ?_
    | (refine WO.gs _ rfl rfl rfl ?_ ?_ <;> intro hb <;> simp only [hb] <;> (try simp at hb) <;> (try contradiction) <;> (try (exfalso; omega)))
    | (refine WD.gs _ rfl rfl rfl ?_ ?_ <;> intro hb <;> simp only [hb] <;> (try simp at hb) <;> (try contradiction) <;> (try (exfalso; omega))))
    all_goals first
      | (exfalso; omega)
      | (first | refine Ro.c1 (.inr rfl) [0] rfl (by decide) (kp rfl) ?_ ?_ | refine Ro.a1 (.inr rfl) [0] rfl (by decide) (kp rfl) ?_ ?_ | refine Ro.t1 (.inr rfl) [0] rfl (by decide) (kp rfl) ?_ ?_ rfl); (repeat' (first | exact .nil | refine .cons rfl ?_ ?_ | refine .cons ?_ ?_ | refine .c ?_ | refine .ag ?_ | refine .box ?_ | exact .arr (rs_low _ _ _) | exact .dead | exact .id rfl | exact .sl rfl | exact .ptr rfl | exact .ap rfl | exact .emp | exact .full rfl rfl rfl rfl rfl | fail))
  · have m1 : p % bs.length < bs.length := Nat.mod_lt _ (by omega)
    have m2 : (p * 7 + 3) % bs.length < bs.length := Nat.mod_lt _ (by omega)
    have u1 : bs[p % bs.length].toNat < 256 := bs[p % bs.length].toNat_lt
    have u2 : bs[(p * 7 + 3) % bs.length].toNat < 256 := bs[(p * 7 + 3) % bs.length].toNat_lt
    have d1 : p / bs.length ≤ p := Nat.div_le_self _ _
    generalize hx : bs[p % bs.length].toNat = x1 at u1
    generalize hy : bs[(p * 7 + 3) % bs.length].toNat = x2 at u2
    generalize hz : x1 * 131 + x2 * 1117 + p * 29 + p / bs.length * 53 = y
    have hyl : y < 9223372036854775808 := by omega
    have hyd : y / 64 < 9223372036854775808 := by omega
    refine ⟨(y ^^^ (y / 64)) % n.toNat, fun h => by have := Nat.mod_lt (y ^^^ (y / 64)) (show 0 < n.toNat by omega); omega, fun h => by omega, ?_⟩
    refine Po.of D Try.func63 rfl rfl rfl ?_
    repeat' (first
    | (refine W.cond rfl ?_ ?_ <;> intro hb <;> (try simp at hb) <;> (try contradiction) <;> (try (exfalso; omega)))
    | (refine OpK.at 57 ?_; refine OpK.of (OpOk.remN p bs.length rfl rfl rfl (by omega) rfl (by omega)) ?_)
    | (refine OpD.at 57 ?_; refine OpD.of (OpOk.remN p bs.length rfl rfl rfl (by omega) rfl (by omega)) ?_)
    | (refine OpK.at 58 ?_; refine OpK.of (OpOk.ixM D rfl rfl rfl rfl rfl rfl m1 (fun _ => rfl)) ?_)
    | (refine OpD.at 58 ?_; refine OpD.of (OpOk.ixM D rfl rfl rfl rfl rfl rfl m1 (fun _ => rfl)) ?_)
    | (refine OpK.at 60 ?_; refine OpK.of (OpOk.cvI D rfl rfl rfl rfl rfl rfl (wrap_i64 (by omega) (by omega))) ?_)
    | (refine OpD.at 60 ?_; refine OpD.of (OpOk.cvI D rfl rfl rfl rfl rfl rfl (wrap_i64 (by omega) (by omega))) ?_)
    | (refine OpK.at 61 ?_; refine OpK.of (OpOk.mulN x1 131 rfl rfl rfl (by omega) rfl (by omega)) ?_)
    | (refine OpD.at 61 ?_; refine OpD.of (OpOk.mulN x1 131 rfl rfl rfl (by omega) rfl (by omega)) ?_)
    | (refine OpK.at 67 ?_; refine OpK.of (OpOk.mulN p 7 rfl rfl rfl (by omega) rfl (by omega)) ?_)
    | (refine OpD.at 67 ?_; refine OpD.of (OpOk.mulN p 7 rfl rfl rfl (by omega) rfl (by omega)) ?_)
    | (refine OpK.at 68 ?_; refine OpK.of (OpOk.addN (p * 7) 3 rfl rfl rfl rfl rfl (by omega)) ?_)
    | (refine OpD.at 68 ?_; refine OpD.of (OpOk.addN (p * 7) 3 rfl rfl rfl rfl rfl (by omega)) ?_)
    | (refine OpK.at 74 ?_; refine OpK.of (OpOk.remN (p * 7 + 3) bs.length rfl rfl rfl rfl rfl (by omega)) ?_)
    | (refine OpD.at 74 ?_; refine OpD.of (OpOk.remN (p * 7 + 3) bs.length rfl rfl rfl rfl rfl (by omega)) ?_)
    | (refine OpK.at 75 ?_; refine OpK.of (OpOk.ixM D rfl rfl rfl rfl rfl rfl m2 (fun _ => rfl)) ?_)
    | (refine OpD.at 75 ?_; refine OpD.of (OpOk.ixM D rfl rfl rfl rfl rfl rfl m2 (fun _ => rfl)) ?_)
    | (refine OpK.at 77 ?_; refine OpK.of (OpOk.cvI D rfl rfl rfl rfl rfl rfl (wrap_i64 (by omega) (by omega))) ?_)
    | (refine OpD.at 77 ?_; refine OpD.of (OpOk.cvI D rfl rfl rfl rfl rfl rfl (wrap_i64 (by omega) (by omega))) ?_)
    | (refine OpK.at 78 ?_; refine OpK.of (OpOk.mulN x2 1117 rfl rfl rfl (by omega) rfl (by omega)) ?_)
    | (refine OpD.at 78 ?_; refine OpD.of (OpOk.mulN x2 1117 rfl rfl rfl (by omega) rfl (by omega)) ?_)
    | (refine OpK.at 79 ?_; refine OpK.of (OpOk.addN (x1 * 131) (x2 * 1117) rfl rfl rfl rfl rfl (by omega)) ?_)
    | (refine OpD.at 79 ?_; refine OpD.of (OpOk.addN (x1 * 131) (x2 * 1117) rfl rfl rfl rfl rfl (by omega)) ?_)
    | (refine OpK.at 81 ?_; refine OpK.of (OpOk.mulN p 29 rfl rfl rfl (by omega) rfl (by omega)) ?_)
    | (refine OpD.at 81 ?_; refine OpD.of (OpOk.mulN p 29 rfl rfl rfl (by omega) rfl (by omega)) ?_)
    | (refine OpK.at 82 ?_; refine OpK.of (OpOk.addN (x1 * 131 + x2 * 1117) (p * 29) rfl rfl rfl rfl rfl (by omega)) ?_)
    | (refine OpD.at 82 ?_; refine OpD.of (OpOk.addN (x1 * 131 + x2 * 1117) (p * 29) rfl rfl rfl rfl rfl (by omega)) ?_)
    | (refine OpK.at 89 ?_; refine OpK.of (OpOk.quoN p bs.length rfl rfl rfl (by omega) rfl (by omega) (by omega)) ?_)
    | (refine OpD.at 89 ?_; refine OpD.of (OpOk.quoN p bs.length rfl rfl rfl (by omega) rfl (by omega) (by omega)) ?_)
    | (refine OpK.at 90 ?_; refine OpK.of (OpOk.mulN (p / bs.length) 53 rfl rfl rfl rfl rfl (by omega)) ?_)
    | (refine OpD.at 90 ?_; refine OpD.of (OpOk.mulN (p / bs.length) 53 rfl rfl rfl rfl rfl (by omega)) ?_)
    | (refine OpK.at 91 ?_; refine OpK.of (OpOk.addN (x1 * 131 + x2 * 1117 + p * 29) (p / bs.length * 53) rfl rfl rfl rfl rfl (by omega)) ?_)
    | (refine OpD.at 91 ?_; refine OpD.of (OpOk.addN (x1 * 131 + x2 * 1117 + p * 29) (p / bs.length * 53) rfl rfl rfl rfl rfl (by omega)) ?_)
    | (refine OpK.at 94 ?_; refine OpK.of (OpOk.quoN y 64 rfl rfl rfl (by omega) rfl (by omega) (by omega)) ?_)
    | (refine OpD.at 94 ?_; refine OpD.of (OpOk.quoN y 64 rfl rfl rfl (by omega) rfl (by omega) (by omega)) ?_)
    | (refine OpK.at 95 ?_; refine OpK.of (OpOk.xorN y (y / 64) rfl rfl rfl (by omega) rfl hyl hyd) ?_)
    | (refine OpD.at 95 ?_; refine OpD.of (OpOk.xorN y (y / 64) rfl rfl rfl (by omega) rfl hyl hyd) ?_)
    | (refine OpK.at 98 ?_; refine OpK.of (OpOk.remN (y ^^^ (y / 64)) n.toNat rfl rfl rfl rfl (by omega) (by omega)) ?_)
    | (refine OpD.at 98 ?_; refine OpD.of (OpOk.remN (y ^^^ (y / 64)) n.toNat rfl rfl rfl rfl (by omega) (by omega)) ?_)
    | refine goO ?_
    | refine goN ?_
    | (refine WO.gs _ rfl rfl rfl ?_ ?_ <;> intro hb <;> simp only [hb] <;> (try simp at hb) <;> (try contradiction) <;> (try (exfalso; omega)))
    | (refine WD.gs _ rfl rfl rfl ?_ ?_ <;> intro hb <;> simp only [hb] <;> (try simp at hb) <;> (try contradiction) <;> (try (exfalso; omega))))
    all_goals first
      | (exfalso; omega)
      | (first | refine Ro.c1 (.inr rfl) [0] rfl (by decide) (kp rfl) ?_ ?_ | refine Ro.a1 (.inr rfl) [0] rfl (by decide) (kp rfl) ?_ ?_ | refine Ro.t1 (.inr rfl) [0] rfl (by decide) (kp rfl) ?_ ?_ rfl); (repeat' (first | exact .nil | refine .cons rfl ?_ ?_ | refine .cons ?_ ?_ | refine .c ?_ | refine .ag ?_ | refine .box ?_ | exact .arr (rs_low _ _ _) | exact .dead | exact .id rfl | exact .sl rfl | exact .ptr rfl | exact .ap rfl | exact .emp | exact .full rfl rfl rfl rfl rfl | fail))
theorem odd_ex {bs : List UInt8} {p : Nat} (ro : Rok bs p) (n : Int) (hn : n ≤ 1000) : ∃ b p', p ≤ p' ∧ p' ≤ p + 1 ∧ (n ≤ 0 → b = false) ∧ Po Try.prog 118 [Rp, I n] (rdH bs p) (B b) (rdH bs p') := by
  by_cases h1 : n ≤ 0
  · refine ⟨false, p, Nat.le_refl _, by omega, fun _ => rfl, ?_⟩
    refine Po.of D Try.func118 rfl rfl rfl ?_
    repeat' (first
    | (refine W.cond rfl ?_ ?_ <;> intro hb <;> (try simp at hb) <;> (try contradiction) <;> (try (exfalso; omega)))
    | refine goO ?_
    | refine goN ?_
    | (refine WO.gs _ rfl rfl rfl ?_ ?_ <;> intro hb <;> simp only [hb] <;> (try simp at hb) <;> (try contradiction) <;> (try (exfalso; omega))))
    all_goals first
      | (exfalso; omega)
      | (first | refine Ro.c1 (.inr rfl) [0] rfl (by decide) (kp rfl) ?_ ?_ | refine Ro.a1 (.inr rfl) [0] rfl (by decide) (kp rfl) ?_ ?_ | refine Ro.t1 (.inr rfl) [0] rfl (by decide) (kp rfl) ?_ ?_ rfl); (repeat' (first | exact .nil | refine .cons rfl ?_ ?_ | refine .cons ?_ ?_ | refine .c ?_ | refine .ag ?_ | refine .box ?_ | exact .arr (rs_low _ _ _) | exact .dead | exact .id rfl | exact .sl rfl | exact .ptr rfl | exact .ap rfl | exact .emp | exact .full rfl rfl rfl rfl rfl | fail))
  · obtain ⟨k, k1, k2, e⟩ := pick_ex ro n hn
    refine ⟨((k : Int) == n - 1), p + 1, by omega, Nat.le_refl _, fun h => by omega, ?_⟩
    refine Po.of D Try.func118 rfl rfl rfl ?_
    repeat' (first
    | (refine W.cond rfl ?_ ?_ <;> intro hb <;> (try simp at hb) <;> (try contradiction) <;> (try (exfalso; omega)))
    | refine co [0] (e) ?_
    | refine goO ?_
    | refine goN ?_
    | (refine WO.gs _ rfl rfl rfl ?_ ?_ <;> intro hb <;> simp only [hb] <;> (try simp at hb) <;> (try contradiction) <;> (try (exfalso; omega))))
    all_goals first
      | (exfalso; omega)
      | (first | refine Ro.c1 (.inr rfl) [0] rfl (by decide) (kp rfl) ?_ ?_ | refine Ro.a1 (.inr rfl) [0] rfl (by decide) (kp rfl) ?_ ?_ | refine Ro.t1 (.inr rfl) [0] rfl (by decide) (kp rfl) ?_ ?_ rfl); (repeat' (first | exact .nil | refine .cons rfl ?_ ?_ | refine .cons ?_ ?_ | refine .c ?_ | refine .ag ?_ | refine .box ?_ | exact .arr (rs_low _ _ _) | exact .dead | exact .id rfl | exact .sl rfl | exact .ptr rfl | exact .ap rfl | exact .emp | exact .full rfl rfl rfl rfl rfl | fail))
/-- Rounds, one after the other, each of which is known to go on. -/
theorem iter_ex {σ : Type} (ok : Nat → σ → Prop) (R : Nat → σ → σ → Prop) (h : ∀ j s, ok j s → ∃ s', R j s s' ∧ ok (j + 1) s') (s0 : σ) (h0 : ok 0 s0) : ∃ f : Nat → σ, f 0 = s0 ∧ ∀ j, ok j (f j) ∧ R j (f j) (f (j + 1)) := by
  let F : Nat → { x : Nat × σ // ok x.1 x.2 } := fun k => Nat.rec ⟨(0, s0), h0⟩ (fun _ x => ⟨(x.1.1 + 1, Classical.choose (h x.1.1 x.1.2 x.2)), (Classical.choose_spec (h x.1.1 x.1.2 x.2)).2⟩) k
  have hF : ∀ k, (F k).1.1 = k := by
    intro k
    induction k with
    | zero => rfl
    | succ k ih => show (F k).1.1 + 1 = k + 1; rw [ih]
  refine ⟨fun k => (F k).1.2, rfl, fun k => ?_⟩
  have h1 := (F k).2
  have h2 := (Classical.choose_spec (h (F k).1.1 (F k).1.2 (F k).2)).1
  rw [hF k] at h1
  refine ⟨h1, ?_⟩
  show R k (F k).1.2 (Classical.choose (h (F k).1.1 (F k).1.2 (F k).2))
  have h3 := hF k
  generalize F k = x at h2 h3 ⊢
  obtain ⟨⟨a, b⟩, c⟩ := x
  dsimp only at h3 h2 ⊢
  subst h3
  exact h2
end Go.YtamlleimfopmhaaMc

namespace Go.YtamlleimfopmhaaMc
open Go.Proofs
/-! ### Draws: values, keys, commands -/
def eS (s : List UInt8) : List T := [.s s]
theorem mem_all {α : Type} {p : α → Prop} {l : List α} (h : ∀ x ∈ l, p x) (k : Nat) (hk : k < l.length) : p l[k] := h _ (List.getElem_mem hk)
theorem value_ex {bs : List UInt8} {p : Nat} (ro : Rok bs p) (hq : p + 4 ≤ 1099511627776) (n : Int) (hn : n ≤ 1000) : ∃ (v : Int) (p' : Nat), p ≤ p' ∧ p' ≤ p + 4 ∧ (n ≤ 0 → 0 ≤ v ∧ v ≤ 999) ∧ (-1 ≤ v ∧ v ≤ 1000) ∧ Po Try.prog 120 [Rp, I n] (rdH bs p) (I v) (rdH bs p') := by
  obtain ⟨b, p1, a1, a2, a3, eo⟩ := odd_ex ro n hn
  have r1 : Rok bs p1 := ⟨ro.b, by omega⟩
  cases b with
  | true =>
    obtain ⟨k, k1, _, e1⟩ := pick_ex r1 2 (by omega)
    have hk : k < ([-1, 1000] : List Int).length := by have := k1 (by omega); simp; omega
    refine ⟨([-1, 1000] : List Int)[k], p1 + 1, by omega, by omega, fun h => absurd (a3 h) (by decide), mem_all (p := fun v => -1 ≤ v ∧ v ≤ 1000) (by decide) k hk, ?_⟩
    refine Po.of D Try.func120 rfl rfl rfl ?_
    repeat' (first
    | (refine W.cond rfl ?_ ?_ <;> intro hb <;> (try simp at hb) <;> try contradiction)
    | (refine OpK.at 7 ?_; refine co [0] (eo) ?_)
    | (refine OpK.at 10 ?_; refine co [0] (e1) ?_)
    | refine OpK.of (OpOk.bldF D [-1, 1000] eI rfl rfl rfl rfl (by decide) (by decide) (by decide) rfl rfl rfl) ?_
    | (refine OpK.at 11 ?_; refine OpK.of (OpOk.ixM D rfl rfl rfl rfl rfl rfl hk (fun _ => rfl)) ?_)
    | refine goO ?_
    | refine goN ?_
    | (refine WO.gs _ rfl rfl rfl ?_ ?_ <;> intro hb <;> simp only [hb] <;> (try simp at hb) <;> try contradiction))
    all_goals (first | refine Ro.c1 (.inr rfl) [0] rfl (by decide) (kp rfl) ?_ ?_ | refine Ro.a1 (.inr rfl) [0] rfl (by decide) (kp rfl) ?_ ?_ | refine Ro.t1 (.inr rfl) [0] rfl (by decide) (kp rfl) ?_ ?_ rfl); (repeat' (first | exact .nil | refine .cons rfl ?_ ?_ | refine .cons ?_ ?_ | refine .c ?_ | refine .ag ?_ | refine .box ?_ | exact .arr (rs_low _ _ _) | exact .dead | exact .id rfl | exact .sl rfl | exact .ptr rfl | exact .ap rfl | exact .emp | exact .full rfl rfl rfl rfl rfl | fail))
  | false =>
    obtain ⟨k, k1, _, e1⟩ := pick_ex r1 20 (by omega)
    obtain ⟨q, q1, _, e2⟩ := pick_ex (p := p1 + 1) ⟨ro.b, by omega⟩ 9 (by omega)
    have hk : q / 8 < ([(k : Int), 999] : List Int).length := by have := q1 (by omega); simp; omega
    have hx : ∀ x ∈ ([(k : Int), 999] : List Int), 0 ≤ x ∧ x ≤ 999 := by intro x hx; have := k1 (by omega); simp at hx; omega
    have hv := mem_all hx (q / 8) hk
    have hql := q1 (by omega)
    refine ⟨([(k : Int), 999] : List Int)[q / 8], p1 + 1 + 1, by omega, by omega, fun _ => hv, by omega, ?_⟩
    refine Po.of D Try.func120 rfl rfl rfl ?_
    repeat' (first
    | (refine W.cond rfl ?_ ?_ <;> intro hb <;> (try simp at hb) <;> try contradiction)
    | (refine OpK.at 7 ?_; refine co [0] (eo) ?_)
    | (refine OpK.at 14 ?_; refine co [0] (e1) ?_)
    | (refine OpK.at 17 ?_; refine co [0] (e2) ?_)
    | refine OpK.of (OpOk.bldF D [(k : Int), 999] eI rfl rfl rfl rfl (by decide) (by decide) (by decide) rfl rfl rfl) ?_
    | (refine OpK.at 18 ?_; refine OpK.of (OpOk.quoN q 8 rfl rfl rfl rfl rfl (by decide) (by omega)) ?_)
    | (refine OpK.at 19 ?_; refine OpK.of (OpOk.ixM D rfl rfl rfl rfl rfl rfl hk (fun _ => rfl)) ?_)
    | refine goO ?_
    | refine goN ?_
    | (refine WO.gs _ rfl rfl rfl ?_ ?_ <;> intro hb <;> simp only [hb] <;> (try simp at hb) <;> try contradiction))
    all_goals (first | refine Ro.c1 (.inr rfl) [0] rfl (by decide) (kp rfl) ?_ ?_ | refine Ro.a1 (.inr rfl) [0] rfl (by decide) (kp rfl) ?_ ?_ | refine Ro.t1 (.inr rfl) [0] rfl (by decide) (kp rfl) ?_ ?_ rfl); (repeat' (first | exact .nil | refine .cons rfl ?_ ?_ | refine .cons ?_ ?_ | refine .c ?_ | refine .ag ?_ | refine .box ?_ | exact .arr (rs_low _ _ _) | exact .dead | exact .id rfl | exact .sl rfl | exact .ptr rfl | exact .ap rfl | exact .emp | exact .full rfl rfl rfl rfl rfl | fail))
theorem letter_k (k : Nat) (h : k < 4) : letter (UInt8.ofNat (97 + k)) = true := by
  have : (UInt8.ofNat (97 + k)).toNat = 97 + k := by rw [UInt8.toNat_ofNat']; omega
  simp [letter, this]; omega
theorem u8_let (k : Nat) (h : k < 4) : IntKind.u8.wrap ((97 + k : Nat) : Int) = ((UInt8.ofNat (97 + k)).toNat : Int) := by
  rw [wrap_u8 (by omega) (by omega), UInt8.toNat_ofNat']; omega
theorem key_ex {bs : List UInt8} {p : Nat} (ro : Rok bs p) (hq : p + 10 ≤ 1099511627776) (n : Int) (hn : n ≤ 1000) : ∃ (s : List UInt8) (p' : Nat), p ≤ p' ∧ p' ≤ p + 10 ∧ (n ≤ 0 → keyOk s = true) ∧ s.length ≤ 5 ∧ Po Try.prog 84 [Rp, I n] (rdH bs p) (Sx s) (rdH bs p') := by
  obtain ⟨b, p1, a1, a2, a3, eo⟩ := odd_ex ro n hn
  have r1 : Rok bs p1 := ⟨ro.b, by omega⟩
  cases b with
  | true =>
    obtain ⟨k, k1, _, e1⟩ := pick_ex r1 6 (by omega)
    have hk : k < ([[], [65], [97, 49], [97, 98, 99, 100, 101], [98, 123], [97, 32, 98]] : List (List UInt8)).length := by have := k1 (by omega); simp; omega
    refine ⟨([[], [65], [97, 49], [97, 98, 99, 100, 101], [98, 123], [97, 32, 98]] : List (List UInt8))[k], p1 + 1, by omega, by omega, fun h => absurd (a3 h) (by decide), mem_all (p := fun s => s.length ≤ 5) (by decide) k hk, ?_⟩
    refine Po.of D Try.func84 rfl rfl rfl ?_
    repeat' (first
    | (refine W.cond rfl ?_ ?_ <;> intro hb <;> (try simp at hb) <;> try contradiction)
    | (refine OpK.at 9 ?_; refine co [0] (eo) ?_)
    | (refine OpK.at 12 ?_; refine co [0] (e1) ?_)
    | refine OpK.of (OpOk.bldF D [[], [65], [97, 49], [97, 98, 99, 100, 101], [98, 123], [97, 32, 98]] eS rfl rfl rfl rfl (by decide) (by decide) (by decide) rfl rfl rfl) ?_
    | (refine OpK.at 13 ?_; refine OpK.of (OpOk.ixM D rfl rfl rfl rfl rfl rfl hk (fun _ => rfl)) ?_)
    | refine goO ?_
    | refine goN ?_
    | (refine WO.gs _ rfl rfl rfl ?_ ?_ <;> intro hb <;> simp only [hb] <;> (try simp at hb) <;> try contradiction))
    all_goals (first | refine Ro.c1 (.inr rfl) [0] rfl (by decide) (kp rfl) ?_ ?_ | refine Ro.a1 (.inr rfl) [0] rfl (by decide) (kp rfl) ?_ ?_ | refine Ro.t1 (.inr rfl) [0] rfl (by decide) (kp rfl) ?_ ?_ rfl); (repeat' (first | exact .nil | refine .cons rfl ?_ ?_ | refine .cons ?_ ?_ | refine .c ?_ | refine .ag ?_ | refine .box ?_ | exact .arr (rs_low _ _ _) | exact .dead | exact .id rfl | exact .sl rfl | exact .ptr rfl | exact .ap rfl | exact .emp | exact .full rfl rfl rfl rfl rfl | fail))
  | false =>
    obtain ⟨k, k1, _, e1⟩ := pick_ex r1 12 (by omega)
    by_cases h11 : (k : Int) = 11
    · obtain ⟨q, q1, _, e2⟩ := pick_ex (p := p1 + 1) ⟨ro.b, by omega⟩ 5 (by omega)
      have hk : q < ([[122, 122, 122, 122], [122, 122, 122], [97, 122, 122, 122], [122], [97, 97, 97, 97]] : List (List UInt8)).length := by have := q1 (by omega); simp; omega
      refine ⟨([[122, 122, 122, 122], [122, 122, 122], [97, 122, 122, 122], [122], [97, 97, 97, 97]] : List (List UInt8))[q], p1 + 1 + 1, by omega, by omega, fun _ => mem_all (p := fun s => keyOk s = true) (by decide) q hk, mem_all (p := fun s => s.length ≤ 5) (by decide) q hk, ?_⟩
      refine Po.of D Try.func84 rfl rfl rfl ?_
      repeat' (first
    | (refine W.cond rfl ?_ ?_ <;> intro hb <;> (try simp at hb) <;> (try contradiction) <;> (try (exfalso; omega)))
    | (refine OpK.at 9 ?_; refine co [0] (eo) ?_)
    | (refine OpK.at 16 ?_; refine co [0] (e1) ?_)
    | (refine OpK.at 20 ?_; refine co [0] (e2) ?_)
    | refine OpK.of (OpOk.bldF D [[122, 122, 122, 122], [122, 122, 122], [97, 122, 122, 122], [122], [97, 97, 97, 97]] eS rfl rfl rfl rfl (by decide) (by decide) (by decide) rfl rfl rfl) ?_
    | (refine OpK.at 21 ?_; refine OpK.of (OpOk.ixM D rfl rfl rfl rfl rfl rfl hk (fun _ => rfl)) ?_)
    | refine goO ?_
    | refine goN ?_
    | (refine WO.gs _ rfl rfl rfl ?_ ?_ <;> intro hb <;> simp only [hb] <;> (try simp at hb) <;> (try contradiction) <;> (try (exfalso; omega))))
      all_goals first
        | (exfalso; omega)
        | (first | refine Ro.c1 (.inr rfl) [0] rfl (by decide) (kp rfl) ?_ ?_ | refine Ro.a1 (.inr rfl) [0] rfl (by decide) (kp rfl) ?_ ?_ | refine Ro.t1 (.inr rfl) [0] rfl (by decide) (kp rfl) ?_ ?_ rfl); (repeat' (first | exact .nil | refine .cons rfl ?_ ?_ | refine .cons ?_ ?_ | refine .c ?_ | refine .ag ?_ | refine .box ?_ | exact .arr (rs_low _ _ _) | exact .dead | exact .id rfl | exact .sl rfl | exact .ptr rfl | exact .ap rfl | exact .emp | exact .full rfl rfl rfl rfl rfl | fail))
    · obtain ⟨q, q1, _, e2⟩ := pick_ex (p := p1 + 1) ⟨ro.b, by omega⟩ 2 (by omega)
      have hql := q1 (by omega)
      -- the letters, one after the other
      obtain ⟨f, f0, fs⟩ := iter_ex (σ := List UInt8 × Nat) (fun j s => j ≤ 2 → s.1.length = j ∧ s.1.all letter = true ∧ s.2 = p1 + 2 + j)
        (fun j s s' => j < 2 → ∃ k : Nat, k < 4 ∧ s' = (s.1 ++ [UInt8.ofNat (97 + k)], s.2 + 1) ∧ Po Try.prog 63 [Rp, I 4] (rdH bs s.2) (I k) (rdH bs (s.2 + 1)))
        (fun j s hs => by
          by_cases hj : j < 2
          · obtain ⟨b1, b2, b3⟩ := hs (by omega)
            obtain ⟨k, k1, _, e⟩ := pick_ex (p := s.2) ⟨ro.b, by omega⟩ 4 (by omega)
            have hk := k1 (by omega)
            exact ⟨(s.1 ++ [UInt8.ofNat (97 + k)], s.2 + 1), fun _ => ⟨k, by omega, rfl, e⟩, fun _ => ⟨by simp [b1], by rw [List.all_append, b2, Bool.true_and, List.all_cons, List.all_nil, Bool.and_true]; exact letter_k k (by omega), by dsimp only; omega⟩⟩
          · exact ⟨s, fun h => (hj h).elim, fun h => by omega⟩) ([], p1 + 2) (fun _ => ⟨rfl, rfl, rfl⟩)
      obtain ⟨g1, g2, g3⟩ := (fs (1 + q)).1 (by omega)
      refine ⟨(f (1 + q)).1, (f (1 + q)).2, by omega, by omega, fun _ => by simp only [keyOk, g1, g2]; simp; omega, by omega, ?_⟩
      refine Po.of D Try.func84 rfl rfl rfl ?_
      repeat' (first
    | (refine W.cond rfl ?_ ?_ <;> intro hb <;> (try simp at hb) <;> (try contradiction) <;> (try (exfalso; omega)))
    | (refine OpK.at 9 ?_; refine co [0] (eo) ?_)
    | (refine OpK.at 16 ?_; refine co [0] (e1) ?_)
    | (refine OpK.at 24 ?_; refine co [0] (e2) ?_)
    | refine goO ?_
    | refine goN ?_
    | (refine WO.gs _ rfl rfl rfl ?_ ?_ <;> intro hb <;> simp only [hb] <;> (try simp at hb) <;> (try contradiction) <;> (try (exfalso; omega))))
      all_goals first
        | (exfalso; omega)
        | skip
      obtain ⟨m, hm⟩ : ∃ m : Nat, 1 + (q : Int) = (m : Int) := ⟨1 + q, by omega⟩
      have hmq : m = 1 + q := by omega
      simp only [hm]
      rw [← hmq]
      refine W.loop (σ := Nat) (fun j => [(6, I ((m - j : Nat) : Int)), (5, Sx (f j).1), (0, Rp)]) (fun j => rdH bs (f j).2) (fun j => j ≤ m) (fun j => m - j) 1 (fun _ _ => rfl) 0 (by omega) (by rw [f0]) (by rw [f0]; exact (.cons rfl rfl (.cons rfl rfl (.cons rfl rfl (.nil))))) ?_
      intro j hj
      by_cases hjm : j < m
      · obtain ⟨k, hk, g5, e3⟩ := (fs j).2 (by omega)
        have hlen := ((fs j).1 (by omega)).1
        have e5 : f (j + 1) = ((f j).1 ++ [UInt8.ofNat (97 + k)], (f j).2 + 1) := g5
        repeat' (first
    | (refine W.cond rfl ?_ ?_ <;> intro hb <;> (try simp at hb) <;> (try contradiction) <;> (try (exfalso; omega)))
    | (refine OpK.at 32 ?_; refine co [0] (e3) ?_)
    | (refine OpK.at 33 ?_; refine OpK.of (OpOk.addN 97 k rfl rfl rfl rfl rfl (by omega)) ?_)
    | (refine OpK.at 34 ?_; refine OpK.of (OpOk.i2i D rfl rfl rfl rfl rfl rfl) ?_)
    | (refine OpK.at 35 ?_; refine OpK.of (OpOk.bldS D rfl rfl rfl rfl (by decide) (by decide) (by decide) rfl rfl) ?_)
    | (refine OpK.at 36 ?_; refine OpK.of (OpOk.b2s D [UInt8.ofNat (97 + k)] rfl rfl rfl rfl rfl rfl rfl rfl rfl (by simp only [List.map_cons, List.map_nil, ← u8_let k hk]; rfl)) ?_)
    | (refine OpK.at 37 ?_; refine OpK.of (OpOk.sadd rfl rfl rfl (by simp; omega)) ?_)
    | refine goO ?_
    | refine goN ?_
    | (refine WO.gs _ rfl rfl rfl ?_ ?_ <;> intro hb <;> simp only [hb] <;> (try simp at hb) <;> (try contradiction) <;> (try (exfalso; omega))))
        all_goals first
          | (exfalso; omega)
          | (refine ⟨j + 1, by omega, by omega, ?_, ?_, rfl⟩
             · rw [e5, show (((m - (j + 1) : Nat)) : Int) = ((m - j : Nat) : Int) - 1 by omega]; exact (.cons rfl rfl (.cons rfl rfl (.cons rfl rfl (.nil))))
             · rw [e5]; rfl)
      · have hjm : j = m := by omega
        subst hjm
        repeat' (first
    | (refine W.cond rfl ?_ ?_ <;> intro hb <;> (try simp at hb) <;> (try contradiction) <;> (try (exfalso; omega)))
    | refine goO ?_
    | refine goN ?_
    | (refine WO.gs _ rfl rfl rfl ?_ ?_ <;> intro hb <;> simp only [hb] <;> (try simp at hb) <;> (try contradiction) <;> (try (exfalso; omega))))
        all_goals first
          | (exfalso; omega)
          | (first | refine Ro.c1 (.inr rfl) [0] rfl (by decide) (kp rfl) ?_ ?_ | refine Ro.a1 (.inr rfl) [0] rfl (by decide) (kp rfl) ?_ ?_ | refine Ro.t1 (.inr rfl) [0] rfl (by decide) (kp rfl) ?_ ?_ rfl); (repeat' (first | exact .nil | refine .cons rfl ?_ ?_ | refine .cons ?_ ?_ | refine .c ?_ | refine .ag ?_ | refine .box ?_ | exact .arr (rs_low _ _ _) | exact .dead | exact .id rfl | exact .sl rfl | exact .ptr rfl | exact .ap rfl | exact .emp | exact .full rfl rfl rfl rfl rfl | fail))
end Go.YtamlleimfopmhaaMc

namespace Go.YtamlleimfopmhaaMc
open Go.Proofs
/-! ### Draws: commands, spans -/
theorem keyOk_ln {k : List UInt8} (h : keyOk k = true) : k.length ≤ 4 := by
  simp only [keyOk, Bool.and_eq_true, decide_eq_true_eq] at h; exact h.1.2
theorem get_ok {s : List UInt8} (h : keyOk s = true) : cmdOk ⟨1, s, 0, 0⟩ = true := by simp [cmdOk, h]
theorem drop_ok {s : List UInt8} (h : keyOk s = true) : cmdOk ⟨3, s, 0, 0⟩ = true := by simp [cmdOk, h]
theorem put_ok {s : List UInt8} (h : keyOk s = true) {v : Int} (hv : 0 ≤ v ∧ v ≤ 999) : cmdOk ⟨2, s, v, 0⟩ = true := by simp [cmdOk, h, inR, hv]
theorem swap_ok {s : List UInt8} (h : keyOk s = true) {v w : Int} (hv : 0 ≤ v ∧ v ≤ 999) (hw : -1 ≤ w ∧ w ≤ 999) : cmdOk ⟨4, s, v, w⟩ = true := by simp [cmdOk, h, inR, hv, hw]
theorem seal_ok {s : List UInt8} (h : keyOk s = true ∨ s = []) : cmdOk ⟨5, s, 0, 0⟩ = true := by rcases h with h | h <;> simp [cmdOk, h]
set_option maxHeartbeats 8000000 in
theorem cmd_ex {bs : List UInt8} {p : Nat} (ro : Rok bs p) (hq : p + 30 ≤ 1099511627776) (n : Int) (hn : n ≤ 1000) : ∃ (c : Cmd) (p' : Nat), p ≤ p' ∧ p' ≤ p + 30 ∧ (n ≤ 0 → cmdOk c = true ∧ c.kind ≠ 5) ∧ c.key.length ≤ 5 ∧ Po Try.prog 67 [Rp, I n] (rdH bs p) (A c.e) (rdH bs p') := by
  obtain ⟨b, p1, a1, a2, a3, eo⟩ := odd_ex ro n hn
  have r1 : Rok bs p1 := ⟨ro.b, by omega⟩
  cases b with
  | true =>
    obtain ⟨k, k1, _, e1⟩ := pick_ex r1 10 (by omega)
    have hk : k < ([⟨0, [], 0, 0⟩, ⟨1, [], 0, 0⟩, ⟨1, [98], 1, 0⟩, ⟨2, [98], 1000, 0⟩, ⟨2, [98], 0, 1⟩, ⟨4, [98], 0, -2⟩, ⟨4, [98], -1, 0⟩, ⟨6, [98], 0, 0⟩, ⟨3, [65], 0, 0⟩, ⟨5, [98, 49], 0, 0⟩] : List Cmd).length := by have := k1 (by omega); simp; omega
    refine ⟨([⟨0, [], 0, 0⟩, ⟨1, [], 0, 0⟩, ⟨1, [98], 1, 0⟩, ⟨2, [98], 1000, 0⟩, ⟨2, [98], 0, 1⟩, ⟨4, [98], 0, -2⟩, ⟨4, [98], -1, 0⟩, ⟨6, [98], 0, 0⟩, ⟨3, [65], 0, 0⟩, ⟨5, [98, 49], 0, 0⟩] : List Cmd)[k], p1 + 1, by omega, by omega, fun h => absurd (a3 h) (by decide), mem_all (p := fun c : Cmd => c.key.length ≤ 5) (by decide) k hk, ?_⟩
    refine Po.of D Try.func67 rfl rfl rfl ?_
    repeat' (first
    | (refine W.cond rfl ?_ ?_ <;> intro hb <;> (try simp at hb) <;> try contradiction)
    | (refine OpK.at 8 ?_; refine co [0] (eo) ?_)
    | (refine OpK.at 21 ?_; refine co [0] (e1) ?_)
    | refine OpK.of (OpOk.bldF D [⟨0, [], 0, 0⟩, ⟨1, [], 0, 0⟩, ⟨1, [98], 1, 0⟩, ⟨2, [98], 1000, 0⟩, ⟨2, [98], 0, 1⟩, ⟨4, [98], 0, -2⟩, ⟨4, [98], -1, 0⟩, ⟨6, [98], 0, 0⟩, ⟨3, [65], 0, 0⟩, ⟨5, [98, 49], 0, 0⟩] Cmd.e rfl rfl rfl rfl (by decide) (by decide) (by decide) rfl rfl rfl) ?_
    | (refine OpK.at 22 ?_; refine OpK.of (OpOk.ixM D rfl rfl rfl rfl rfl rfl hk (fun _ => rfl)) ?_)
    | refine goO ?_
    | refine goN ?_
    | (refine WO.gs _ rfl rfl rfl ?_ ?_ <;> intro hb <;> simp only [hb] <;> (try simp at hb) <;> try contradiction))
    all_goals (first | refine Ro.c1 (.inr rfl) [0] rfl (by decide) (kp rfl) ?_ ?_ | refine Ro.a1 (.inr rfl) [0] rfl (by decide) (kp rfl) ?_ ?_ | refine Ro.t1 (.inr rfl) [0] rfl (by decide) (kp rfl) ?_ ?_ rfl); (repeat' (first | exact .nil | refine .cons rfl ?_ ?_ | refine .cons ?_ ?_ | refine .c ?_ | refine .ag ?_ | refine .box ?_ | exact .arr (rs_low _ _ _) | exact .dead | exact .id rfl | exact .sl rfl | exact .ptr rfl | exact .ap rfl | exact .emp | exact .full rfl rfl rfl rfl rfl | fail))
  | false =>
    obtain ⟨s0, p2, b1, b2, b3, b4, ek⟩ := key_ex r1 (by omega) 0 (by omega)
    have b3 := b3 (by omega)
    obtain ⟨k, k1, _, e1⟩ := pick_ex (p := p2) ⟨ro.b, by omega⟩ 2 (by omega)
    by_cases h0 : (k : Int) = 0
    · obtain ⟨q, q1, _, e2⟩ := pick_ex (p := p2 + 1) ⟨ro.b, by omega⟩ 4 (by omega)
      have hk : q < ([[98], [99], [100], [109]] : List (List UInt8)).length := by have := q1 (by omega); simp; omega
      have hs := mem_all (p := fun s => keyOk s = true) (by decide) q hk

      obtain ⟨z, z1, _, e3⟩ := pick_ex (p := p2 + 1 + 1) ⟨ro.b, by omega⟩ 8 (by omega)
      have z1 := z1 (by omega)
      by_cases g0 : (z : Int) = 0
      · refine ⟨⟨1, ([[98], [99], [100], [109]] : List (List UInt8))[q], 0, 0⟩, p2 + 1 + 1 + 1, by omega, by omega, fun _ => ⟨get_ok hs, by dsimp only; decide⟩, by have := keyOk_ln hs; dsimp only; omega, ?_⟩
        refine Po.of D Try.func67 rfl rfl rfl ?_
        repeat' (first
    | (refine W.cond rfl ?_ ?_ <;> intro hb <;> (try simp at hb) <;> (try contradiction) <;> (try (exfalso; omega)))
    | (refine OpK.at 8 ?_; refine co [0] (eo) ?_)
    | (refine OpK.at 25 ?_; refine co [0] (ek) ?_)
    | (refine OpK.at 27 ?_; refine co [0] (e1) ?_)
    | (refine OpK.at 31 ?_; refine co [0] (e2) ?_)
    | refine OpK.of (OpOk.bldF D [[98], [99], [100], [109]] eS rfl rfl rfl rfl (by decide) (by decide) (by decide) rfl rfl rfl) ?_
    | (refine OpK.at 32 ?_; refine OpK.of (OpOk.ixM D rfl rfl rfl rfl rfl rfl hk (fun _ => rfl)) ?_)
    | (refine OpK.at 35 ?_; refine co [0] (e3) ?_)
    | refine goO ?_
    | refine goN ?_
    | (refine WO.gs _ rfl rfl rfl ?_ ?_ <;> intro hb <;> simp only [hb] <;> (try simp at hb) <;> (try contradiction) <;> (try (exfalso; omega))))
        all_goals first
          | (exfalso; omega)
          | (first | refine Ro.c1 (.inr rfl) [0] rfl (by decide) (kp rfl) ?_ ?_ | refine Ro.a1 (.inr rfl) [0] rfl (by decide) (kp rfl) ?_ ?_ | refine Ro.t1 (.inr rfl) [0] rfl (by decide) (kp rfl) ?_ ?_ rfl); (repeat' (first | exact .nil | refine .cons rfl ?_ ?_ | refine .cons ?_ ?_ | refine .c ?_ | refine .ag ?_ | refine .box ?_ | exact .arr (rs_low _ _ _) | exact .dead | exact .id rfl | exact .sl rfl | exact .ptr rfl | exact .ap rfl | exact .emp | exact .full rfl rfl rfl rfl rfl | fail))
      by_cases g1 : (z : Int) = 1
      · refine ⟨⟨3, ([[98], [99], [100], [109]] : List (List UInt8))[q], 0, 0⟩, p2 + 1 + 1 + 1, by omega, by omega, fun _ => ⟨drop_ok hs, by dsimp only; decide⟩, by have := keyOk_ln hs; dsimp only; omega, ?_⟩
        refine Po.of D Try.func67 rfl rfl rfl ?_
        repeat' (first
    | (refine W.cond rfl ?_ ?_ <;> intro hb <;> (try simp at hb) <;> (try contradiction) <;> (try (exfalso; omega)))
    | (refine OpK.at 8 ?_; refine co [0] (eo) ?_)
    | (refine OpK.at 25 ?_; refine co [0] (ek) ?_)
    | (refine OpK.at 27 ?_; refine co [0] (e1) ?_)
    | (refine OpK.at 31 ?_; refine co [0] (e2) ?_)
    | refine OpK.of (OpOk.bldF D [[98], [99], [100], [109]] eS rfl rfl rfl rfl (by decide) (by decide) (by decide) rfl rfl rfl) ?_
    | (refine OpK.at 32 ?_; refine OpK.of (OpOk.ixM D rfl rfl rfl rfl rfl rfl hk (fun _ => rfl)) ?_)
    | (refine OpK.at 35 ?_; refine co [0] (e3) ?_)
    | refine goO ?_
    | refine goN ?_
    | (refine WO.gs _ rfl rfl rfl ?_ ?_ <;> intro hb <;> simp only [hb] <;> (try simp at hb) <;> (try contradiction) <;> (try (exfalso; omega))))
        all_goals first
          | (exfalso; omega)
          | (first | refine Ro.c1 (.inr rfl) [0] rfl (by decide) (kp rfl) ?_ ?_ | refine Ro.a1 (.inr rfl) [0] rfl (by decide) (kp rfl) ?_ ?_ | refine Ro.t1 (.inr rfl) [0] rfl (by decide) (kp rfl) ?_ ?_ rfl); (repeat' (first | exact .nil | refine .cons rfl ?_ ?_ | refine .cons ?_ ?_ | refine .c ?_ | refine .ag ?_ | refine .box ?_ | exact .arr (rs_low _ _ _) | exact .dead | exact .id rfl | exact .sl rfl | exact .ptr rfl | exact .ap rfl | exact .emp | exact .full rfl rfl rfl rfl rfl | fail))
      by_cases g2 : (z : Int) = 2
      · obtain ⟨u, u1, _, e4⟩ := pick_ex (p := p2 + 1 + 1 + 1) ⟨ro.b, by omega⟩ 5 (by omega)
        obtain ⟨w, w1, _, e5⟩ := pick_ex (p := p2 + 1 + 1 + 1 + 1) ⟨ro.b, by omega⟩ 5 (by omega)
        have u1 := u1 (by omega)
        have w1 := w1 (by omega)
        refine ⟨⟨4, ([[98], [99], [100], [109]] : List (List UInt8))[q], w, (u : Int) - 1⟩, p2 + 1 + 1 + 1 + 1 + 1, by omega, by omega, fun _ => ⟨swap_ok hs (by omega) (by omega), by dsimp only; decide⟩, by have := keyOk_ln hs; dsimp only; omega, ?_⟩
        refine Po.of D Try.func67 rfl rfl rfl ?_
        repeat' (first
    | (refine W.cond rfl ?_ ?_ <;> intro hb <;> (try simp at hb) <;> (try contradiction) <;> (try (exfalso; omega)))
    | (refine OpK.at 8 ?_; refine co [0] (eo) ?_)
    | (refine OpK.at 25 ?_; refine co [0] (ek) ?_)
    | (refine OpK.at 27 ?_; refine co [0] (e1) ?_)
    | (refine OpK.at 31 ?_; refine co [0] (e2) ?_)
    | refine OpK.of (OpOk.bldF D [[98], [99], [100], [109]] eS rfl rfl rfl rfl (by decide) (by decide) (by decide) rfl rfl rfl) ?_
    | (refine OpK.at 32 ?_; refine OpK.of (OpOk.ixM D rfl rfl rfl rfl rfl rfl hk (fun _ => rfl)) ?_)
    | (refine OpK.at 35 ?_; refine co [0] (e3) ?_)
    | (refine OpK.at 48 ?_; refine co [0] (e4) ?_)
    | (refine OpK.at 51 ?_; refine co [0] (e5) ?_)
    | refine goO ?_
    | refine goN ?_
    | (refine WO.gs _ rfl rfl rfl ?_ ?_ <;> intro hb <;> simp only [hb] <;> (try simp at hb) <;> (try contradiction) <;> (try (exfalso; omega))))
        all_goals first
          | (exfalso; omega)
          | (first | refine Ro.c1 (.inr rfl) [0] rfl (by decide) (kp rfl) ?_ ?_ | refine Ro.a1 (.inr rfl) [0] rfl (by decide) (kp rfl) ?_ ?_ | refine Ro.t1 (.inr rfl) [0] rfl (by decide) (kp rfl) ?_ ?_ rfl); (repeat' (first | exact .nil | refine .cons rfl ?_ ?_ | refine .cons ?_ ?_ | refine .c ?_ | refine .ag ?_ | refine .box ?_ | exact .arr (rs_low _ _ _) | exact .dead | exact .id rfl | exact .sl rfl | exact .ptr rfl | exact .ap rfl | exact .emp | exact .full rfl rfl rfl rfl rfl | fail))
      obtain ⟨v, p4, v1, v2, v3, _, e6⟩ := value_ex (p := p2 + 1 + 1 + 1) ⟨ro.b, by omega⟩ (by omega) 0 (by omega)
      have v3 := v3 (by omega)
      have v4 := Nat.mod_lt v.toNat (show 0 < 1000 by decide)
      refine ⟨⟨2, ([[98], [99], [100], [109]] : List (List UInt8))[q], ((v.toNat % 1000 : Nat) : Int), 0⟩, p4, by omega, by omega, fun _ => ⟨put_ok hs (by omega), by dsimp only; decide⟩, by have := keyOk_ln hs; dsimp only; omega, ?_⟩
      refine Po.of D Try.func67 rfl rfl rfl ?_
      repeat' (first
    | (refine W.cond rfl ?_ ?_ <;> intro hb <;> (try simp at hb) <;> (try contradiction) <;> (try (exfalso; omega)))
    | (refine OpK.at 8 ?_; refine co [0] (eo) ?_)
    | (refine OpK.at 25 ?_; refine co [0] (ek) ?_)
    | (refine OpK.at 27 ?_; refine co [0] (e1) ?_)
    | (refine OpK.at 31 ?_; refine co [0] (e2) ?_)
    | refine OpK.of (OpOk.bldF D [[98], [99], [100], [109]] eS rfl rfl rfl rfl (by decide) (by decide) (by decide) rfl rfl rfl) ?_
    | (refine OpK.at 32 ?_; refine OpK.of (OpOk.ixM D rfl rfl rfl rfl rfl rfl hk (fun _ => rfl)) ?_)
    | (refine OpK.at 35 ?_; refine co [0] (e3) ?_)
    | (refine OpK.at 55 ?_; refine co [0] (e6) ?_)
    | (refine OpK.at 56 ?_; refine OpK.of (OpOk.remN v.toNat 1000 rfl rfl rfl (by omega) rfl (by decide)) ?_)
    | refine goO ?_
    | refine goN ?_
    | (refine WO.gs _ rfl rfl rfl ?_ ?_ <;> intro hb <;> simp only [hb] <;> (try simp at hb) <;> (try contradiction) <;> (try (exfalso; omega))))
      all_goals first
        | (exfalso; omega)
        | (first | refine Ro.c1 (.inr rfl) [0] rfl (by decide) (kp rfl) ?_ ?_ | refine Ro.a1 (.inr rfl) [0] rfl (by decide) (kp rfl) ?_ ?_ | refine Ro.t1 (.inr rfl) [0] rfl (by decide) (kp rfl) ?_ ?_ rfl); (repeat' (first | exact .nil | refine .cons rfl ?_ ?_ | refine .cons ?_ ?_ | refine .c ?_ | refine .ag ?_ | refine .box ?_ | exact .arr (rs_low _ _ _) | exact .dead | exact .id rfl | exact .sl rfl | exact .ptr rfl | exact .ap rfl | exact .emp | exact .full rfl rfl rfl rfl rfl | fail))
    · have hs := b3
      obtain ⟨z, z1, _, e3⟩ := pick_ex (p := p2 + 1) ⟨ro.b, by omega⟩ 8 (by omega)
      have z1 := z1 (by omega)
      by_cases g0 : (z : Int) = 0
      · refine ⟨⟨1, s0, 0, 0⟩, p2 + 1 + 1, by omega, by omega, fun _ => ⟨get_ok hs, by dsimp only; decide⟩, by have := keyOk_ln hs; dsimp only; omega, ?_⟩
        refine Po.of D Try.func67 rfl rfl rfl ?_
        repeat' (first
    | (refine W.cond rfl ?_ ?_ <;> intro hb <;> (try simp at hb) <;> (try contradiction) <;> (try (exfalso; omega)))
    | (refine OpK.at 8 ?_; refine co [0] (eo) ?_)
    | (refine OpK.at 25 ?_; refine co [0] (ek) ?_)
    | (refine OpK.at 27 ?_; refine co [0] (e1) ?_)
    | (refine OpK.at 35 ?_; refine co [0] (e3) ?_)
    | refine goO ?_
    | refine goN ?_
    | (refine WO.gs _ rfl rfl rfl ?_ ?_ <;> intro hb <;> simp only [hb] <;> (try simp at hb) <;> (try contradiction) <;> (try (exfalso; omega))))
        all_goals first
          | (exfalso; omega)
          | (first | refine Ro.c1 (.inr rfl) [0] rfl (by decide) (kp rfl) ?_ ?_ | refine Ro.a1 (.inr rfl) [0] rfl (by decide) (kp rfl) ?_ ?_ | refine Ro.t1 (.inr rfl) [0] rfl (by decide) (kp rfl) ?_ ?_ rfl); (repeat' (first | exact .nil | refine .cons rfl ?_ ?_ | refine .cons ?_ ?_ | refine .c ?_ | refine .ag ?_ | refine .box ?_ | exact .arr (rs_low _ _ _) | exact .dead | exact .id rfl | exact .sl rfl | exact .ptr rfl | exact .ap rfl | exact .emp | exact .full rfl rfl rfl rfl rfl | fail))
      by_cases g1 : (z : Int) = 1
      · refine ⟨⟨3, s0, 0, 0⟩, p2 + 1 + 1, by omega, by omega, fun _ => ⟨drop_ok hs, by dsimp only; decide⟩, by have := keyOk_ln hs; dsimp only; omega, ?_⟩
        refine Po.of D Try.func67 rfl rfl rfl ?_
        repeat' (first
    | (refine W.cond rfl ?_ ?_ <;> intro hb <;> (try simp at hb) <;> (try contradiction) <;> (try (exfalso; omega)))
    | (refine OpK.at 8 ?_; refine co [0] (eo) ?_)
    | (refine OpK.at 25 ?_; refine co [0] (ek) ?_)
    | (refine OpK.at 27 ?_; refine co [0] (e1) ?_)
    | (refine OpK.at 35 ?_; refine co [0] (e3) ?_)
    | refine goO ?_
    | refine goN ?_
    | (refine WO.gs _ rfl rfl rfl ?_ ?_ <;> intro hb <;> simp only [hb] <;> (try simp at hb) <;> (try contradiction) <;> (try (exfalso; omega))))
        all_goals first
          | (exfalso; omega)
          | (first | refine Ro.c1 (.inr rfl) [0] rfl (by decide) (kp rfl) ?_ ?_ | refine Ro.a1 (.inr rfl) [0] rfl (by decide) (kp rfl) ?_ ?_ | refine Ro.t1 (.inr rfl) [0] rfl (by decide) (kp rfl) ?_ ?_ rfl); (repeat' (first | exact .nil | refine .cons rfl ?_ ?_ | refine .cons ?_ ?_ | refine .c ?_ | refine .ag ?_ | refine .box ?_ | exact .arr (rs_low _ _ _) | exact .dead | exact .id rfl | exact .sl rfl | exact .ptr rfl | exact .ap rfl | exact .emp | exact .full rfl rfl rfl rfl rfl | fail))
      by_cases g2 : (z : Int) = 2
      · obtain ⟨u, u1, _, e4⟩ := pick_ex (p := p2 + 1 + 1) ⟨ro.b, by omega⟩ 5 (by omega)
        obtain ⟨w, w1, _, e5⟩ := pick_ex (p := p2 + 1 + 1 + 1) ⟨ro.b, by omega⟩ 5 (by omega)
        have u1 := u1 (by omega)
        have w1 := w1 (by omega)
        refine ⟨⟨4, s0, w, (u : Int) - 1⟩, p2 + 1 + 1 + 1 + 1, by omega, by omega, fun _ => ⟨swap_ok hs (by omega) (by omega), by dsimp only; decide⟩, by have := keyOk_ln hs; dsimp only; omega, ?_⟩
        refine Po.of D Try.func67 rfl rfl rfl ?_
        repeat' (first
    | (refine W.cond rfl ?_ ?_ <;> intro hb <;> (try simp at hb) <;> (try contradiction) <;> (try (exfalso; omega)))
    | (refine OpK.at 8 ?_; refine co [0] (eo) ?_)
    | (refine OpK.at 25 ?_; refine co [0] (ek) ?_)
    | (refine OpK.at 27 ?_; refine co [0] (e1) ?_)
    | (refine OpK.at 35 ?_; refine co [0] (e3) ?_)
    | (refine OpK.at 48 ?_; refine co [0] (e4) ?_)
    | (refine OpK.at 51 ?_; refine co [0] (e5) ?_)
    | refine goO ?_
    | refine goN ?_
    | (refine WO.gs _ rfl rfl rfl ?_ ?_ <;> intro hb <;> simp only [hb] <;> (try simp at hb) <;> (try contradiction) <;> (try (exfalso; omega))))
        all_goals first
          | (exfalso; omega)
          | (first | refine Ro.c1 (.inr rfl) [0] rfl (by decide) (kp rfl) ?_ ?_ | refine Ro.a1 (.inr rfl) [0] rfl (by decide) (kp rfl) ?_ ?_ | refine Ro.t1 (.inr rfl) [0] rfl (by decide) (kp rfl) ?_ ?_ rfl); (repeat' (first | exact .nil | refine .cons rfl ?_ ?_ | refine .cons ?_ ?_ | refine .c ?_ | refine .ag ?_ | refine .box ?_ | exact .arr (rs_low _ _ _) | exact .dead | exact .id rfl | exact .sl rfl | exact .ptr rfl | exact .ap rfl | exact .emp | exact .full rfl rfl rfl rfl rfl | fail))
      obtain ⟨v, p4, v1, v2, v3, _, e6⟩ := value_ex (p := p2 + 1 + 1) ⟨ro.b, by omega⟩ (by omega) 0 (by omega)
      have v3 := v3 (by omega)
      have v4 := Nat.mod_lt v.toNat (show 0 < 1000 by decide)
      refine ⟨⟨2, s0, ((v.toNat % 1000 : Nat) : Int), 0⟩, p4, by omega, by omega, fun _ => ⟨put_ok hs (by omega), by dsimp only; decide⟩, by have := keyOk_ln hs; dsimp only; omega, ?_⟩
      refine Po.of D Try.func67 rfl rfl rfl ?_
      repeat' (first
    | (refine W.cond rfl ?_ ?_ <;> intro hb <;> (try simp at hb) <;> (try contradiction) <;> (try (exfalso; omega)))
    | (refine OpK.at 8 ?_; refine co [0] (eo) ?_)
    | (refine OpK.at 25 ?_; refine co [0] (ek) ?_)
    | (refine OpK.at 27 ?_; refine co [0] (e1) ?_)
    | (refine OpK.at 35 ?_; refine co [0] (e3) ?_)
    | (refine OpK.at 55 ?_; refine co [0] (e6) ?_)
    | (refine OpK.at 56 ?_; refine OpK.of (OpOk.remN v.toNat 1000 rfl rfl rfl (by omega) rfl (by decide)) ?_)
    | refine goO ?_
    | refine goN ?_
    | (refine WO.gs _ rfl rfl rfl ?_ ?_ <;> intro hb <;> simp only [hb] <;> (try simp at hb) <;> (try contradiction) <;> (try (exfalso; omega))))
      all_goals first
        | (exfalso; omega)
        | (first | refine Ro.c1 (.inr rfl) [0] rfl (by decide) (kp rfl) ?_ ?_ | refine Ro.a1 (.inr rfl) [0] rfl (by decide) (kp rfl) ?_ ?_ | refine Ro.t1 (.inr rfl) [0] rfl (by decide) (kp rfl) ?_ ?_ rfl); (repeat' (first | exact .nil | refine .cons rfl ?_ ?_ | refine .cons ?_ ?_ | refine .c ?_ | refine .ag ?_ | refine .box ?_ | exact .arr (rs_low _ _ _) | exact .dead | exact .id rfl | exact .sl rfl | exact .ptr rfl | exact .ap rfl | exact .emp | exact .full rfl rfl rfl rfl rfl | fail))
end Go.YtamlleimfopmhaaMc

namespace Go.YtamlleimfopmhaaMc
open Go.Proofs
/-! ### Draws: times, replies, spans -/
theorem time_ex {bs : List UInt8} {p : Nat} (ro : Rok bs p) (hq : p + 3 ≤ 1099511627776) (n : Int) (hn : n ≤ 1000) : ∃ (v : Int) (p' : Nat), p ≤ p' ∧ p' ≤ p + 3 ∧ (n ≤ 0 → 0 ≤ v ∧ v ≤ 200) ∧ (-1 ≤ v ∧ v ≤ 201) ∧ Po Try.prog 68 [Rp, I n] (rdH bs p) (I v) (rdH bs p') := by
  obtain ⟨b, p1, a1, a2, a3, eo⟩ := odd_ex ro n hn
  have r1 : Rok bs p1 := ⟨ro.b, by omega⟩
  cases b with
  | true =>
    obtain ⟨k, k1, _, e1⟩ := pick_ex r1 2 (by omega)
    have hk : k < ([-1, 201] : List Int).length := by have := k1 (by omega); simp; omega
    refine ⟨([-1, 201] : List Int)[k], p1 + 1, by omega, by omega, fun h => absurd (a3 h) (by decide), mem_all (p := fun v => -1 ≤ v ∧ v ≤ 201) (by decide) k hk, ?_⟩
    refine Po.of D Try.func68 rfl rfl rfl ?_
    repeat' (first
    | (refine W.cond rfl ?_ ?_ <;> intro hb <;> (try simp at hb) <;> try contradiction)
    | (refine OpK.at 7 ?_; refine co [0] (eo) ?_)
    | (refine OpK.at 10 ?_; refine co [0] (e1) ?_)
    | refine OpK.of (OpOk.bldF D [-1, 201] eI rfl rfl rfl rfl (by decide) (by decide) (by decide) rfl rfl rfl) ?_
    | (refine OpK.at 11 ?_; refine OpK.of (OpOk.ixM D rfl rfl rfl rfl rfl rfl hk (fun _ => rfl)) ?_)
    | refine goO ?_
    | refine goN ?_
    | (refine WO.gs _ rfl rfl rfl ?_ ?_ <;> intro hb <;> simp only [hb] <;> (try simp at hb) <;> try contradiction))
    all_goals (first | refine Ro.c1 (.inr rfl) [0] rfl (by decide) (kp rfl) ?_ ?_ | refine Ro.a1 (.inr rfl) [0] rfl (by decide) (kp rfl) ?_ ?_ | refine Ro.t1 (.inr rfl) [0] rfl (by decide) (kp rfl) ?_ ?_ rfl); (repeat' (first | exact .nil | refine .cons rfl ?_ ?_ | refine .cons ?_ ?_ | refine .c ?_ | refine .ag ?_ | refine .box ?_ | exact .arr (rs_low _ _ _) | exact .dead | exact .id rfl | exact .sl rfl | exact .ptr rfl | exact .ap rfl | exact .emp | exact .full rfl rfl rfl rfl rfl | fail))
  | false =>
    obtain ⟨k, k1, _, e1⟩ := pick_ex r1 40 (by omega)
    obtain ⟨q, q1, _, e2⟩ := pick_ex (p := p1 + 1) ⟨ro.b, by omega⟩ 9 (by omega)
    have hk : q / 8 < ([(k : Int), 200] : List Int).length := by have := q1 (by omega); simp; omega
    have hx : ∀ x ∈ ([(k : Int), 200] : List Int), 0 ≤ x ∧ x ≤ 200 := by intro x hx; have := k1 (by omega); simp at hx; omega
    have hv := mem_all hx (q / 8) hk
    have hql := q1 (by omega)
    refine ⟨([(k : Int), 200] : List Int)[q / 8], p1 + 1 + 1, by omega, by omega, fun _ => hv, by omega, ?_⟩
    refine Po.of D Try.func68 rfl rfl rfl ?_
    repeat' (first
    | (refine W.cond rfl ?_ ?_ <;> intro hb <;> (try simp at hb) <;> try contradiction)
    | (refine OpK.at 7 ?_; refine co [0] (eo) ?_)
    | (refine OpK.at 14 ?_; refine co [0] (e1) ?_)
    | (refine OpK.at 17 ?_; refine co [0] (e2) ?_)
    | refine OpK.of (OpOk.bldF D [(k : Int), 200] eI rfl rfl rfl rfl (by decide) (by decide) (by decide) rfl rfl rfl) ?_
    | (refine OpK.at 18 ?_; refine OpK.of (OpOk.quoN q 8 rfl rfl rfl rfl rfl (by decide) (by omega)) ?_)
    | (refine OpK.at 19 ?_; refine OpK.of (OpOk.ixM D rfl rfl rfl rfl rfl rfl hk (fun _ => rfl)) ?_)
    | refine goO ?_
    | refine goN ?_
    | (refine WO.gs _ rfl rfl rfl ?_ ?_ <;> intro hb <;> simp only [hb] <;> (try simp at hb) <;> try contradiction))
    all_goals (first | refine Ro.c1 (.inr rfl) [0] rfl (by decide) (kp rfl) ?_ ?_ | refine Ro.a1 (.inr rfl) [0] rfl (by decide) (kp rfl) ?_ ?_ | refine Ro.t1 (.inr rfl) [0] rfl (by decide) (kp rfl) ?_ ?_ rfl); (repeat' (first | exact .nil | refine .cons rfl ?_ ?_ | refine .cons ?_ ?_ | refine .c ?_ | refine .ag ?_ | refine .box ?_ | exact .arr (rs_low _ _ _) | exact .dead | exact .id rfl | exact .sl rfl | exact .ptr rfl | exact .ap rfl | exact .emp | exact .full rfl rfl rfl rfl rfl | fail))
theorem reply_ex {bs : List UInt8} {p : Nat} (ro : Rok bs p) (hq : p + 3 ≤ 1099511627776) (n : Int) (hn : n ≤ 1000) : ∃ (v : Int) (p' : Nat), p ≤ p' ∧ p' ≤ p + 3 ∧ (n ≤ 0 → -4 ≤ v ∧ v ≤ 999) ∧ (-5 ≤ v ∧ v ≤ 1000) ∧ Po Try.prog 77 [Rp, I n] (rdH bs p) (I v) (rdH bs p') := by
  obtain ⟨b, p1, a1, a2, a3, eo⟩ := odd_ex ro n hn
  have r1 : Rok bs p1 := ⟨ro.b, by omega⟩
  cases b with
  | true =>
    obtain ⟨k, k1, _, e1⟩ := pick_ex r1 2 (by omega)
    have hk : k < ([-5, 1000] : List Int).length := by have := k1 (by omega); simp; omega
    refine ⟨([-5, 1000] : List Int)[k], p1 + 1, by omega, by omega, fun h => absurd (a3 h) (by decide), mem_all (p := fun v => -5 ≤ v ∧ v ≤ 1000) (by decide) k hk, ?_⟩
    refine Po.of D Try.func77 rfl rfl rfl ?_
    repeat' (first
    | (refine W.cond rfl ?_ ?_ <;> intro hb <;> (try simp at hb) <;> try contradiction)
    | (refine OpK.at 7 ?_; refine co [0] (eo) ?_)
    | (refine OpK.at 10 ?_; refine co [0] (e1) ?_)
    | refine OpK.of (OpOk.bldF D [-5, 1000] eI rfl rfl rfl rfl (by decide) (by decide) (by decide) rfl rfl rfl) ?_
    | (refine OpK.at 11 ?_; refine OpK.of (OpOk.ixM D rfl rfl rfl rfl rfl rfl hk (fun _ => rfl)) ?_)
    | refine goO ?_
    | refine goN ?_
    | (refine WO.gs _ rfl rfl rfl ?_ ?_ <;> intro hb <;> simp only [hb] <;> (try simp at hb) <;> try contradiction))
    all_goals (first | refine Ro.c1 (.inr rfl) [0] rfl (by decide) (kp rfl) ?_ ?_ | refine Ro.a1 (.inr rfl) [0] rfl (by decide) (kp rfl) ?_ ?_ | refine Ro.t1 (.inr rfl) [0] rfl (by decide) (kp rfl) ?_ ?_ rfl); (repeat' (first | exact .nil | refine .cons rfl ?_ ?_ | refine .cons ?_ ?_ | refine .c ?_ | refine .ag ?_ | refine .box ?_ | exact .arr (rs_low _ _ _) | exact .dead | exact .id rfl | exact .sl rfl | exact .ptr rfl | exact .ap rfl | exact .emp | exact .full rfl rfl rfl rfl rfl | fail))
  | false =>
    obtain ⟨k, k1, _, e1⟩ := pick_ex r1 256 (by omega)
    obtain ⟨q, q1, _, e2⟩ := pick_ex (p := p1 + 1) ⟨ro.b, by omega⟩ 7 (by omega)
    have hk : q < ([-1, -2, -3, -4, ((k * 3 : Nat) : Int), 999, 0] : List Int).length := by have := q1 (by omega); simp; omega
    have hx : ∀ x ∈ ([-1, -2, -3, -4, ((k * 3 : Nat) : Int), 999, 0] : List Int), -4 ≤ x ∧ x ≤ 999 := by intro x hx; have := k1 (by omega); simp at hx; omega
    have hv := mem_all hx q hk
    have hkl := k1 (by omega)
    refine ⟨([-1, -2, -3, -4, ((k * 3 : Nat) : Int), 999, 0] : List Int)[q], p1 + 1 + 1, by omega, by omega, fun _ => hv, by omega, ?_⟩
    refine Po.of D Try.func77 rfl rfl rfl ?_
    repeat' (first
    | (refine W.cond rfl ?_ ?_ <;> intro hb <;> (try simp at hb) <;> try contradiction)
    | (refine OpK.at 7 ?_; refine co [0] (eo) ?_)
    | (refine OpK.at 14 ?_; refine co [0] (e1) ?_)
    | (refine OpK.at 18 ?_; refine co [0] (e2) ?_)
    | refine OpK.of (OpOk.bldF D [-1, -2, -3, -4, ((k * 3 : Nat) : Int), 999, 0] eI rfl rfl rfl rfl (by decide) (by decide) (by decide) rfl rfl rfl) ?_
    | (refine OpK.at 15 ?_; refine OpK.of (OpOk.mulN k 3 rfl rfl rfl rfl rfl (by omega)) ?_)
    | (refine OpK.at 19 ?_; refine OpK.of (OpOk.ixM D rfl rfl rfl rfl rfl rfl hk (fun _ => rfl)) ?_)
    | refine goO ?_
    | refine goN ?_
    | (refine WO.gs _ rfl rfl rfl ?_ ?_ <;> intro hb <;> simp only [hb] <;> (try simp at hb) <;> try contradiction))
    all_goals (first | refine Ro.c1 (.inr rfl) [0] rfl (by decide) (kp rfl) ?_ ?_ | refine Ro.a1 (.inr rfl) [0] rfl (by decide) (kp rfl) ?_ ?_ | refine Ro.t1 (.inr rfl) [0] rfl (by decide) (kp rfl) ?_ ?_ rfl); (repeat' (first | exact .nil | refine .cons rfl ?_ ?_ | refine .cons ?_ ?_ | refine .c ?_ | refine .ag ?_ | refine .box ?_ | exact .arr (rs_low _ _ _) | exact .dead | exact .id rfl | exact .sl rfl | exact .ptr rfl | exact .ap rfl | exact .emp | exact .full rfl rfl rfl rfl rfl | fail))
structure Iv.Sh (v : Iv) : Prop where
  lo : v.lo.length ≤ 5
  hi : v.hi.length ≤ 5
instance (v : Iv) : Decidable v.Sh := decidable_of_iff (v.lo.length ≤ 5 ∧ v.hi.length ≤ 5) ⟨fun h => ⟨h.1, h.2⟩, fun h => ⟨h.lo, h.hi⟩⟩
set_option maxHeartbeats 4000000 in
theorem span_ex {bs : List UInt8} {p : Nat} (ro : Rok bs p) (hq : p + 30 ≤ 1099511627776) (n : Int) (hn : n ≤ 1000) : ∃ (v : Iv) (p' : Nat), p ≤ p' ∧ p' ≤ p + 30 ∧ v.Sh ∧ Po Try.prog 105 [Rp, I n] (rdH bs p) (A v.e) (rdH bs p') := by
  obtain ⟨b, p1, a1, a2, a3, eo⟩ := odd_ex ro n hn
  have r1 : Rok bs p1 := ⟨ro.b, by omega⟩
  cases b with
  | true =>
    obtain ⟨k, k1, _, e1⟩ := pick_ex r1 5 (by omega)
    have hk : k < ([⟨[98], [98]⟩, ⟨[99], [98]⟩, ⟨[], [97]⟩, ⟨[65], []⟩, ⟨[], [97, 98, 99, 100, 101]⟩] : List Iv).length := by have := k1 (by omega); simp; omega
    refine ⟨([⟨[98], [98]⟩, ⟨[99], [98]⟩, ⟨[], [97]⟩, ⟨[65], []⟩, ⟨[], [97, 98, 99, 100, 101]⟩] : List Iv)[k], p1 + 1, by omega, by omega, mem_all (p := fun v : Iv => v.Sh) (by decide) k hk, ?_⟩
    refine Po.of D Try.func105 rfl rfl rfl ?_
    repeat' (first
    | (refine W.cond rfl ?_ ?_ <;> intro hb <;> (try simp at hb) <;> try contradiction)
    | (refine OpK.at 9 ?_; refine co [0] (eo) ?_)
    | (refine OpK.at 17 ?_; refine co [0] (e1) ?_)
    | refine OpK.of (OpOk.bldF D [⟨[98], [98]⟩, ⟨[99], [98]⟩, ⟨[], [97]⟩, ⟨[65], []⟩, ⟨[], [97, 98, 99, 100, 101]⟩] Iv.e rfl rfl rfl rfl (by decide) (by decide) (by decide) rfl rfl rfl) ?_
    | (refine OpK.at 18 ?_; refine OpK.of (OpOk.ixM D rfl rfl rfl rfl rfl rfl hk (fun _ => rfl)) ?_)
    | refine goO ?_
    | refine goN ?_
    | (refine WO.gs _ rfl rfl rfl ?_ ?_ <;> intro hb <;> simp only [hb] <;> (try simp at hb) <;> try contradiction))
    all_goals (first | refine Ro.c1 (.inr rfl) [0] rfl (by decide) (kp rfl) ?_ ?_ | refine Ro.a1 (.inr rfl) [0] rfl (by decide) (kp rfl) ?_ ?_ | refine Ro.t1 (.inr rfl) [0] rfl (by decide) (kp rfl) ?_ ?_ rfl); (repeat' (first | exact .nil | refine .cons rfl ?_ ?_ | refine .cons ?_ ?_ | refine .c ?_ | refine .ag ?_ | refine .box ?_ | exact .arr (rs_low _ _ _) | exact .dead | exact .id rfl | exact .sl rfl | exact .ptr rfl | exact .ap rfl | exact .emp | exact .full rfl rfl rfl rfl rfl | fail))
  | false =>
    obtain ⟨s1, p2, b1, b2, b3, b4, ek⟩ := key_ex r1 (by omega) 0 (by omega)
    obtain ⟨s2, p3, c1, c2, c3, c4, el⟩ := key_ex (p := p2) ⟨ro.b, by omega⟩ (by omega) 0 (by omega)
    obtain ⟨k, k1, _, e1⟩ := pick_ex (p := p3) ⟨ro.b, by omega⟩ 6 (by omega)
    by_cases g0 : (k : Int) = 0
    · refine ⟨⟨[], []⟩, p3 + 1, by omega, by omega, by decide, ?_⟩
      refine Po.of D Try.func105 rfl rfl rfl ?_
      repeat' (first
    | (refine W.cond rfl ?_ ?_ <;> intro hb <;> (try simp at hb) <;> (try contradiction) <;> (try (exfalso; omega)))
    | (refine OpK.at 9 ?_; refine co [0] (eo) ?_)
    | (refine OpK.at 21 ?_; refine co [0] (ek) ?_)
    | (refine OpK.at 23 ?_; refine co [0] (el) ?_)
    | (refine OpK.at 25 ?_; refine co [0] (e1) ?_)
    | refine goO ?_
    | refine goN ?_
    | (refine WO.gs _ rfl rfl rfl ?_ ?_ <;> intro hb <;> simp only [hb] <;> (try simp at hb) <;> (try contradiction) <;> (try (exfalso; omega))))
      all_goals first
        | (exfalso; omega)
        | (first | refine Ro.c1 (.inr rfl) [0] rfl (by decide) (kp rfl) ?_ ?_ | refine Ro.a1 (.inr rfl) [0] rfl (by decide) (kp rfl) ?_ ?_ | refine Ro.t1 (.inr rfl) [0] rfl (by decide) (kp rfl) ?_ ?_ rfl); (repeat' (first | exact .nil | refine .cons rfl ?_ ?_ | refine .cons ?_ ?_ | refine .c ?_ | refine .ag ?_ | refine .box ?_ | exact .arr (rs_low _ _ _) | exact .dead | exact .id rfl | exact .sl rfl | exact .ptr rfl | exact .ap rfl | exact .emp | exact .full rfl rfl rfl rfl rfl | fail))
    by_cases g1 : (k : Int) = 1
    · refine ⟨⟨s1, []⟩, p3 + 1, by omega, by omega, ⟨b4, by simp⟩, ?_⟩
      refine Po.of D Try.func105 rfl rfl rfl ?_
      repeat' (first
    | (refine W.cond rfl ?_ ?_ <;> intro hb <;> (try simp at hb) <;> (try contradiction) <;> (try (exfalso; omega)))
    | (refine OpK.at 9 ?_; refine co [0] (eo) ?_)
    | (refine OpK.at 21 ?_; refine co [0] (ek) ?_)
    | (refine OpK.at 23 ?_; refine co [0] (el) ?_)
    | (refine OpK.at 25 ?_; refine co [0] (e1) ?_)
    | refine goO ?_
    | refine goN ?_
    | (refine WO.gs _ rfl rfl rfl ?_ ?_ <;> intro hb <;> simp only [hb] <;> (try simp at hb) <;> (try contradiction) <;> (try (exfalso; omega))))
      all_goals first
        | (exfalso; omega)
        | (first | refine Ro.c1 (.inr rfl) [0] rfl (by decide) (kp rfl) ?_ ?_ | refine Ro.a1 (.inr rfl) [0] rfl (by decide) (kp rfl) ?_ ?_ | refine Ro.t1 (.inr rfl) [0] rfl (by decide) (kp rfl) ?_ ?_ rfl); (repeat' (first | exact .nil | refine .cons rfl ?_ ?_ | refine .cons ?_ ?_ | refine .c ?_ | refine .ag ?_ | refine .box ?_ | exact .arr (rs_low _ _ _) | exact .dead | exact .id rfl | exact .sl rfl | exact .ptr rfl | exact .ap rfl | exact .emp | exact .full rfl rfl rfl rfl rfl | fail))
    by_cases g2 : (k : Int) = 2 ∧ s2 ≠ [97]
    · obtain ⟨g2, g3⟩ := g2
      refine ⟨⟨[], s2⟩, p3 + 1, by omega, by omega, ⟨by simp, c4⟩, ?_⟩
      refine Po.of D Try.func105 rfl rfl rfl ?_
      repeat' (first
    | (refine W.cond rfl ?_ ?_ <;> intro hb <;> (try simp at hb) <;> (try contradiction) <;> (try (exfalso; omega)))
    | (refine OpK.at 9 ?_; refine co [0] (eo) ?_)
    | (refine OpK.at 21 ?_; refine co [0] (ek) ?_)
    | (refine OpK.at 23 ?_; refine co [0] (el) ?_)
    | (refine OpK.at 25 ?_; refine co [0] (e1) ?_)
    | refine goO ?_
    | refine goN ?_
    | (refine WO.gs _ rfl rfl rfl ?_ ?_ <;> intro hb <;> simp only [hb] <;> (try simp at hb) <;> (try contradiction) <;> (try (exfalso; omega))))
      all_goals first
        | (exfalso; omega)
        | (exfalso; simp_all; done)
        | (first | refine Ro.c1 (.inr rfl) [0] rfl (by decide) (kp rfl) ?_ ?_ | refine Ro.a1 (.inr rfl) [0] rfl (by decide) (kp rfl) ?_ ?_ | refine Ro.t1 (.inr rfl) [0] rfl (by decide) (kp rfl) ?_ ?_ rfl); (repeat' (first | exact .nil | refine .cons rfl ?_ ?_ | refine .cons ?_ ?_ | refine .c ?_ | refine .ag ?_ | refine .box ?_ | exact .arr (rs_low _ _ _) | exact .dead | exact .id rfl | exact .sl rfl | exact .ptr rfl | exact .ap rfl | exact .emp | exact .full rfl rfl rfl rfl rfl | fail))
    by_cases g4 : Op.bytesLess s1 s2 = true
    · refine ⟨⟨s1, s2⟩, p3 + 1, by omega, by omega, ⟨b4, c4⟩, ?_⟩
      refine Po.of D Try.func105 rfl rfl rfl ?_
      repeat' (first
    | (refine W.cond rfl ?_ ?_ <;> intro hb <;> (try simp at hb) <;> (try contradiction) <;> (try (exfalso; omega)))
    | (refine OpK.at 9 ?_; refine co [0] (eo) ?_)
    | (refine OpK.at 21 ?_; refine co [0] (ek) ?_)
    | (refine OpK.at 23 ?_; refine co [0] (el) ?_)
    | (refine OpK.at 25 ?_; refine co [0] (e1) ?_)
    | refine goO ?_
    | refine goN ?_
    | (refine WO.gs _ rfl rfl rfl ?_ ?_ <;> intro hb <;> simp only [hb] <;> (try simp at hb) <;> (try contradiction) <;> (try (exfalso; omega))))
      all_goals first
        | (exfalso; omega)
        | (exfalso; simp_all; done)
        | (first | refine Ro.c1 (.inr rfl) [0] rfl (by decide) (kp rfl) ?_ ?_ | refine Ro.a1 (.inr rfl) [0] rfl (by decide) (kp rfl) ?_ ?_ | refine Ro.t1 (.inr rfl) [0] rfl (by decide) (kp rfl) ?_ ?_ rfl); (repeat' (first | exact .nil | refine .cons rfl ?_ ?_ | refine .cons ?_ ?_ | refine .c ?_ | refine .ag ?_ | refine .box ?_ | exact .arr (rs_low _ _ _) | exact .dead | exact .id rfl | exact .sl rfl | exact .ptr rfl | exact .ap rfl | exact .emp | exact .full rfl rfl rfl rfl rfl | fail))
    by_cases g5 : Op.bytesLess s2 s1 = true
    · refine ⟨⟨s2, s1⟩, p3 + 1, by omega, by omega, ⟨c4, b4⟩, ?_⟩
      refine Po.of D Try.func105 rfl rfl rfl ?_
      repeat' (first
    | (refine W.cond rfl ?_ ?_ <;> intro hb <;> (try simp at hb) <;> (try contradiction) <;> (try (exfalso; omega)))
    | (refine OpK.at 9 ?_; refine co [0] (eo) ?_)
    | (refine OpK.at 21 ?_; refine co [0] (ek) ?_)
    | (refine OpK.at 23 ?_; refine co [0] (el) ?_)
    | (refine OpK.at 25 ?_; refine co [0] (e1) ?_)
    | refine goO ?_
    | refine goN ?_
    | (refine WO.gs _ rfl rfl rfl ?_ ?_ <;> intro hb <;> simp only [hb] <;> (try simp at hb) <;> (try contradiction) <;> (try (exfalso; omega))))
      all_goals first
        | (exfalso; omega)
        | (exfalso; simp_all; done)
        | (first | refine Ro.c1 (.inr rfl) [0] rfl (by decide) (kp rfl) ?_ ?_ | refine Ro.a1 (.inr rfl) [0] rfl (by decide) (kp rfl) ?_ ?_ | refine Ro.t1 (.inr rfl) [0] rfl (by decide) (kp rfl) ?_ ?_ rfl); (repeat' (first | exact .nil | refine .cons rfl ?_ ?_ | refine .cons ?_ ?_ | refine .c ?_ | refine .ag ?_ | refine .box ?_ | exact .arr (rs_low _ _ _) | exact .dead | exact .id rfl | exact .sl rfl | exact .ptr rfl | exact .ap rfl | exact .emp | exact .full rfl rfl rfl rfl rfl | fail))
    refine ⟨⟨s1, []⟩, p3 + 1, by omega, by omega, ⟨b4, by simp⟩, ?_⟩
    refine Po.of D Try.func105 rfl rfl rfl ?_
    repeat' (first
    | (refine W.cond rfl ?_ ?_ <;> intro hb <;> (try simp at hb) <;> (try contradiction) <;> (try (exfalso; omega)))
    | (refine OpK.at 9 ?_; refine co [0] (eo) ?_)
    | (refine OpK.at 21 ?_; refine co [0] (ek) ?_)
    | (refine OpK.at 23 ?_; refine co [0] (el) ?_)
    | (refine OpK.at 25 ?_; refine co [0] (e1) ?_)
    | refine goO ?_
    | refine goN ?_
    | (refine WO.gs _ rfl rfl rfl ?_ ?_ <;> intro hb <;> simp only [hb] <;> (try simp at hb) <;> (try contradiction) <;> (try (exfalso; omega))))
    all_goals first
      | (exfalso; omega)
      | (exfalso; simp_all; done)
      | (first | refine Ro.c1 (.inr rfl) [0] rfl (by decide) (kp rfl) ?_ ?_ | refine Ro.a1 (.inr rfl) [0] rfl (by decide) (kp rfl) ?_ ?_ | refine Ro.t1 (.inr rfl) [0] rfl (by decide) (kp rfl) ?_ ?_ rfl); (repeat' (first | exact .nil | refine .cons rfl ?_ ?_ | refine .cons ?_ ?_ | refine .c ?_ | refine .ag ?_ | refine .box ?_ | exact .arr (rs_low _ _ _) | exact .dead | exact .id rfl | exact .sl rfl | exact .ptr rfl | exact .ap rfl | exact .emp | exact .full rfl rfl rfl rfl rfl | fail))
theorem open_ok (bs : List UInt8) (hb : bs.length ≤ 1048576) : Po Try.prog 61 [L eU bs] [] Rp (rdH (bs.take 2000) 0) := by
  by_cases h : bs.length ≤ 2000
  · have e : bs.take 2000 = bs := List.take_of_length_le h
    rw [e]
    refine Po.of D Try.func61 rfl rfl rfl ?_
    repeat' (first
    | (refine W.cond rfl ?_ ?_ <;> intro hb <;> (try simp at hb) <;> (try contradiction) <;> (try (exfalso; omega)))
    | refine goO ?_
    | refine goN ?_
    | (refine WO.gs _ rfl rfl rfl ?_ ?_ <;> intro hb <;> simp only [hb] <;> (try simp at hb) <;> (try contradiction) <;> (try (exfalso; omega))))
    all_goals first
      | (exfalso; omega)
      | (first | refine Ro.c1 (.inr rfl) [0] rfl (by decide) (kp rfl) ?_ ?_ | refine Ro.a1 (.inr rfl) [0] rfl (by decide) (kp rfl) ?_ ?_ | refine Ro.t1 (.inr rfl) [0] rfl (by decide) (kp rfl) ?_ ?_ rfl); (repeat' (first | exact .nil | refine .cons rfl ?_ ?_ | refine .cons ?_ ?_ | refine .c ?_ | refine .ag ?_ | refine .box ?_ | exact .arr (rs_low _ _ _) | exact .dead | exact .id rfl | exact .sl rfl | exact .ptr rfl | exact .ap rfl | exact .emp | exact .full rfl rfl rfl rfl rfl | fail))
  · refine Po.of D Try.func61 rfl rfl rfl ?_
    repeat' (first
    | (refine W.cond rfl ?_ ?_ <;> intro hb <;> (try simp at hb) <;> (try contradiction) <;> (try (exfalso; omega)))
    | (refine OpK.at 7 ?_; refine OpK.of (OpOk.slMt D (r := 2000) rfl rfl rfl rfl rfl (fun _ => rfl) rfl (by omega)) ?_)
    | refine goO ?_
    | refine goN ?_
    | (refine WO.gs _ rfl rfl rfl ?_ ?_ <;> intro hb <;> simp only [hb] <;> (try simp at hb) <;> (try contradiction) <;> (try (exfalso; omega))))
    all_goals first
      | (exfalso; omega)
      | (first | refine Ro.c1 (.inr rfl) [0] rfl (by decide) (kp rfl) ?_ ?_ | refine Ro.a1 (.inr rfl) [0] rfl (by decide) (kp rfl) ?_ ?_ | refine Ro.t1 (.inr rfl) [0] rfl (by decide) (kp rfl) ?_ ?_ rfl); (repeat' (first | exact .nil | refine .cons rfl ?_ ?_ | refine .cons ?_ ?_ | refine .c ?_ | refine .ag ?_ | refine .box ?_ | exact .arr (rs_low _ _ _) | exact .dead | exact .id rfl | exact .sl rfl | exact .ptr rfl | exact .ap rfl | exact .emp | exact .full rfl rfl rfl rfl rfl | fail))
end Go.YtamlleimfopmhaaMc

namespace Go.YtamlleimfopmhaaMc
open Go.Proofs
/-! ### Caches that learn: the spec -/
def gtS (x y : List UInt8) : Bool := !(Op.bytesLess x y || x == y)
def meetB (a b : Iv) : Iv × Bool := if ivOk a && ivOk b then (if ivOk ⟨if gtS b.lo a.lo then b.lo else a.lo, if decide (b.hi ≠ []) && (decide (a.hi = []) || Op.bytesLess b.hi a.hi) then b.hi else a.hi⟩ then (⟨if gtS b.lo a.lo then b.lo else a.lo, if decide (b.hi ≠ []) && (decide (a.hi = []) || Op.bytesLess b.hi a.hi) then b.hi else a.hi⟩, true) else (⟨[], []⟩, false)) else (⟨[], []⟩, false)
abbrev meetV (r : Iv × Bool) : V := .tu [.ag (tc r.1.e), .c (.t (.b r.2))]
set_option maxHeartbeats 4000000 in
theorem meet_spec (a b : Iv) : Pu Try.prog 111 [A a.e, A b.e] (meetV (meetB a b)) := by
  refine Pu.of D Try.func111 rfl rfl rfl ?_
  repeat' (first
    | (refine W.cond rfl ?_ ?_ <;> intro hb <;> (try simp at hb) <;> try contradiction)
    | (refine OpK.at 8 ?_; refine cl (ivOk_spec a) ?_)
    | (refine OpK.at 12 ?_; refine cl (ivOk_spec b) ?_)
    | (refine OpK.at 44 ?_; refine cl (ivOk_spec ⟨b.lo, b.hi⟩) ?_)
    | (refine OpK.at 44 ?_; refine cl (ivOk_spec ⟨b.lo, a.hi⟩) ?_)
    | (refine OpK.at 44 ?_; refine cl (ivOk_spec ⟨a.lo, b.hi⟩) ?_)
    | (refine OpK.at 44 ?_; refine cl (ivOk_spec ⟨a.lo, a.hi⟩) ?_)
    | refine goO ?_
    | refine goN ?_
    | (refine WO.gs _ rfl rfl rfl ?_ ?_ <;> intro hb <;> simp only [hb] <;> (try simp at hb) <;> try contradiction))
  all_goals first
    | (refine ⟨.inr rfl, _, _, rfl, .cons (.ag (.cons (by first | exact .emp | exact .full rfl rfl rfl | exact .id rfl | fail) (.cons (by first | exact .emp | exact .full rfl rfl rfl | exact .id rfl | fail) .nil))) (.cons (.c (by first | exact .emp | exact .full rfl rfl rfl | exact .id rfl | fail)) (.nil)), ?_⟩; simp_all [resV, X.v, meetB, gtS, tc, Iv.e]; done)
    | (have hg : gtS b.lo a.lo = false := by (unfold gtS; cases hq : Op.bytesLess b.lo a.lo <;> simp_all)
       refine ⟨.inr rfl, _, _, rfl, .cons (.ag (.cons (by first | exact .emp | exact .full rfl rfl rfl | exact .id rfl | fail) (.cons (by first | exact .emp | exact .full rfl rfl rfl | exact .id rfl | fail) .nil))) (.cons (.c (by first | exact .emp | exact .full rfl rfl rfl | exact .id rfl | fail)) (.nil)), ?_⟩; simp_all [resV, X.v, meetB, tc, Iv.e]; done)
    | trace_state
def learnS (r : Rou) (q : Bool × List Rou) (x : Rou) : Bool × List Rou := if (meetB x.span r.span).2 || decide (x.num = r.num) then q else if !q.1 && gtS x.span.lo r.span.lo then (true, q.2 ++ [r] ++ [x]) else (q.1, q.2 ++ [x])
def learn (l : List Rou) (r : Rou) : List Rou := if cacheOk l && cacheOk [r] then (if (l.foldl (learnS r) (false, [])).1 then (l.foldl (learnS r) (false, [])).2 else (l.foldl (learnS r) (false, [])).2 ++ [r]) else []
theorem learnS_len (r : Rou) (q : Bool × List Rou) (x : Rou) : (learnS r q x).2.length ≤ q.2.length + 2 ∧ (q.1 = true → (learnS r q x).2.length ≤ q.2.length + 1 ∧ (learnS r q x).1 = true) := by
  unfold learnS
  split
  · simp_all
  · split <;> simp_all
set_option maxHeartbeats 8000000 in
theorem learn_spec (l : List Rou) (r : Rou) (hl : l.length ≤ 1048576) : Pu Try.prog 40 [L Rou.e l, A r.e] (L Rou.e (learn l r)) := by
  have e1 := cache_spec l hl
  have e2 := cache_spec [r] (by simp)
  by_cases hv : cacheOk l = true ∧ cacheOk [r] = true
  · obtain ⟨h1, h2⟩ := hv
    have h8 := nums8 (show numsOk l = true by unfold cacheOk at h1; rw [Bool.and_eq_true] at h1; exact h1.1)
    rw [h1] at e1
    rw [h2] at e2
    refine Pu.of D Try.func40 rfl rfl rfl ?_
    repeat' (first
    | (refine W.cond rfl ?_ ?_ <;> intro hb <;> (try simp at hb) <;> try contradiction)
    | refine W.dfm 8 [0, 3, 4, 5, 6, 7, 8, 9, 21, 22, 23, 24, 27, 28, 29, 30, 31, 32, 33, 34, 35, 36, 37] 10 12 37 mixed (by decide +kernel) (by repeat' (first | exact .nil | refine .box rfl ?_ | refine .arr (rs_low _ _ _) ?_ | refine .dead ?_ | fail)) ?_
    | apply Dfm.go
    | exact Mid.go
    | (refine TF.mk ?_ ?_ <;> dsimp only [dropE, Nat.reduceBEq, cond_true, cond_false, List.size_toArray, List.length_cons, List.length_nil, Nat.reduceAdd, Nat.reduceSub])
    | refine cl (e1) ?_
    | refine cl (e2) ?_
    | refine OpK.of (OpOk.bldE D rfl rfl rfl rfl) ?_
    | refine OpD.of (OpOk.bldE D rfl rfl rfl rfl) ?_
    | refine OpM.v (OpOk.bldE D rfl rfl rfl rfl) rfl ?_
    | refine OpK.of (OpOk.bldF D [r] Rou.e rfl rfl rfl rfl (by decide) (by decide) (by decide) rfl rfl rfl) ?_
    | refine OpD.of (OpOk.bldF D [r] Rou.e rfl rfl rfl rfl (by decide) (by decide) (by decide) rfl rfl rfl) ?_
    | refine OpM.v (OpOk.bldF D [r] Rou.e rfl rfl rfl rfl (by decide) (by decide) (by decide) rfl rfl rfl) rfl ?_
    | refine goO ?_
    | refine WE.done (by with_unfolding_all rfl) ?_
    | refine WE.step (by with_unfolding_all rfl) ?_
    | refine WI.g0 rfl ?_
    | refine WI.r D rfl ?_
    | refine WI.g rfl rfl rfl ?_
    | refine WL.cons ?_ ?_
    | exact WL.nil
    | exact WL.on (by with_unfolding_all rfl)
    | refine WL.oc (by with_unfolding_all rfl) ?_ ?_
    | refine goN ?_
    | (refine WO.gs _ rfl rfl rfl ?_ ?_ <;> intro hb <;> simp only [hb] <;> (try simp at hb) <;> try contradiction)
    | (refine WD.gs _ rfl rfl rfl ?_ ?_ <;> intro hb <;> simp only [hb] <;> (try simp at hb) <;> try contradiction)
    | (refine WM.gs _ rfl rfl rfl ?_ ?_ <;> intro hb <;> simp only [hb] <;> (try simp at hb) <;> try contradiction)
    | (refine WF.gs _ rfl rfl rfl ?_ ?_ <;> intro hb <;> simp only [hb] <;> (try simp at hb) <;> try contradiction)
    | (refine WI.gs _ rfl rfl rfl ?_ ?_ <;> intro hb <;> simp only [hb] <;> (try simp at hb) <;> try contradiction))
    refine W.ghe Rou.e 5 3 (by decide) rfl ?_
    refine W.loop (σ := Nat × Bool × List Rou) (fun q => [(7, I q.1), (6, B q.2.1), (5, .c (.sl 1 q.2.2.length 0 q.2.2.length)), (4, .c .emp), (3, .c (.ptr 0 0)), (0, L Rou.e l)]) (fun q => [.box (tc r.e), .arr (Rs Rou.e q.2.2) 3])
      (fun q => q.1 ≤ l.length ∧ q.2.2.length ≤ 2 * q.1 ∧ l.foldl (learnS r) (false, []) = (l.drop q.1).foldl (learnS r) q.2) (fun q => l.length - q.1) 2 (fun _ _ => rfl) (0, false, []) ⟨by simp, by simp, by simp⟩ rfl (.cons rfl rfl (.cons rfl rfl (.cons rfl rfl (.cons rfl rfl (.cons rfl rfl (.cons rfl rfl (.nil))))))) ?_
    rintro ⟨k, d, out⟩ ⟨hk, hn, hy⟩
    dsimp only at hk hn hy
    by_cases hlt : k < l.length
    · have em := meet_spec l[k].span r.span
      rw [drop_cons hlt, List.foldl_cons] at hy
      have hs := (learnS_len r (d, out) l[k]).1
      dsimp only at hs
      repeat' (first
    | (refine W.cond rfl ?_ ?_ <;> intro hb <;> (try simp at hb) <;> try contradiction)
    | refine W.dfm 8 [0, 3, 4, 5, 6, 7, 8, 9, 21, 22, 23, 24, 27, 28, 29, 30, 31, 32, 33, 34, 35, 36, 37] 10 12 37 mixed (by decide +kernel) (by repeat' (first | exact .nil | refine .box rfl ?_ | refine .arr (rs_low _ _ _) ?_ | refine .dead ?_ | fail)) ?_
    | apply Dfm.go
    | exact Mid.go
    | (refine TF.mk ?_ ?_ <;> dsimp only [dropE, Nat.reduceBEq, cond_true, cond_false, List.size_toArray, List.length_cons, List.length_nil, Nat.reduceAdd, Nat.reduceSub])
    | (refine OpK.at 35 ?_; refine cl (em) ?_)
    | (refine OpM.at 35 ?_; refine cl (em) ?_)
    | (refine OpD.at 35 ?_; refine cl (em) ?_)
    | refine OpK.of (OpOk.bldF D [r] Rou.e rfl rfl rfl rfl (by decide) (by decide) (by decide) rfl rfl rfl) ?_
    | refine OpD.of (OpOk.bldF D [r] Rou.e rfl rfl rfl rfl (by decide) (by decide) (by decide) rfl rfl rfl) ?_
    | refine OpM.v (OpOk.bldF D [r] Rou.e rfl rfl rfl rfl (by decide) (by decide) (by decide) rfl rfl rfl) rfl ?_
    | refine OpK.of (OpOk.bldF D [l[k]] Rou.e rfl rfl rfl rfl (by decide) (by decide) (by decide) rfl rfl rfl) ?_
    | refine OpD.of (OpOk.bldF D [l[k]] Rou.e rfl rfl rfl rfl (by decide) (by decide) (by decide) rfl rfl rfl) ?_
    | refine OpM.v (OpOk.bldF D [l[k]] Rou.e rfl rfl rfl rfl (by decide) (by decide) (by decide) rfl rfl rfl) rfl ?_
    | refine OpK.of (OpOk.apM D rfl rfl rfl rfl rfl rfl rfl rfl (by first | rfl | simp) rfl rfl (fun _ => rfl) (by first | assumption | omega | (simp; omega)) (by decide)) ?_
    | refine OpD.of (OpOk.apM D rfl rfl rfl rfl rfl rfl rfl rfl (by first | rfl | simp) rfl rfl (fun _ => rfl) (by first | assumption | omega | (simp; omega)) (by decide)) ?_
    | refine OpM.v (OpOk.apM D rfl rfl rfl rfl rfl rfl rfl rfl (by first | rfl | simp) rfl rfl (fun _ => rfl) (by first | assumption | omega | (simp; omega)) (by decide)) rfl ?_
    | refine OpM.bl (OpOk.apM D rfl rfl rfl rfl rfl rfl rfl rfl (by first | rfl | simp) rfl rfl (fun _ => rfl) (by first | assumption | omega | (simp; omega)) (by decide)) ?_
    | refine goO ?_
    | refine WE.done (by with_unfolding_all rfl) ?_
    | refine WE.step (by with_unfolding_all rfl) ?_
    | refine WI.g0 rfl ?_
    | refine WI.r D rfl ?_
    | refine WI.g rfl rfl rfl ?_
    | refine WL.cons ?_ ?_
    | exact WL.nil
    | exact WL.on (by with_unfolding_all rfl)
    | refine WL.oc (by with_unfolding_all rfl) ?_ ?_
    | refine goN ?_
    | (refine WO.gs _ rfl rfl rfl ?_ ?_ <;> intro hb <;> simp only [hb] <;> (try simp at hb) <;> try contradiction)
    | (refine WD.gs _ rfl rfl rfl ?_ ?_ <;> intro hb <;> simp only [hb] <;> (try simp at hb) <;> try contradiction)
    | (refine WM.gs _ rfl rfl rfl ?_ ?_ <;> intro hb <;> simp only [hb] <;> (try simp at hb) <;> try contradiction)
    | (refine WF.gs _ rfl rfl rfl ?_ ?_ <;> intro hb <;> simp only [hb] <;> (try simp at hb) <;> try contradiction)
    | (refine WI.gs _ rfl rfl rfl ?_ ?_ <;> intro hb <;> simp only [hb] <;> (try simp at hb) <;> try contradiction))
      all_goals first
        | (exfalso; omega)
        | (have hS : learnS r (d, out) l[k] = (d, out) := by (clear em hy e1 e2 hs; unfold learnS; simp_all [gtS]; done)
           rw [hS] at hy
           exact ⟨(k + 1, d, out), ⟨by dsimp only; omega, by (dsimp only; omega), hy⟩, by dsimp only; omega, (.cons rfl rfl (.cons rfl rfl (.cons rfl rfl (.cons rfl rfl (.cons rfl rfl (.cons rfl rfl (.nil))))))), rfl, LH.lows (by repeat' (first | exact .nil | refine .box rfl ?_ | refine .arr (rs_low _ _ _) ?_ | refine .dead ?_ | fail))⟩)
        | (have hS : learnS r (d, out) l[k] = (d, out ++ [l[k]]) := by (clear em hy e1 e2 hs; unfold learnS; simp_all [gtS]; done)
           rw [hS] at hy
           exact ⟨(k + 1, d, out ++ [l[k]]), ⟨by dsimp only; omega, by (dsimp only; simp only [List.length_append, List.length_cons, List.length_nil]; omega), hy⟩, by dsimp only; omega, (.cons rfl rfl (.cons rfl rfl (.cons rfl rfl (.cons rfl rfl (.cons rfl rfl (.cons rfl rfl (.nil))))))), rfl, LH.lows (by repeat' (first | exact .nil | refine .box rfl ?_ | refine .arr (rs_low _ _ _) ?_ | refine .dead ?_ | fail))⟩)
        | (have hS : learnS r (d, out) l[k] = (true, out ++ [r] ++ [l[k]]) := by (clear em hy e1 e2 hs; unfold learnS; simp_all [gtS]; done)
           rw [hS] at hy
           exact ⟨(k + 1, true, out ++ [r] ++ [l[k]]), ⟨by dsimp only; omega, by (dsimp only; simp only [List.length_append, List.length_cons, List.length_nil]; omega), hy⟩, by dsimp only; omega, (.cons rfl rfl (.cons rfl rfl (.cons rfl rfl (.cons rfl rfl (.cons rfl rfl (.cons rfl rfl (.nil))))))), rfl, LH.lows (by repeat' (first | exact .nil | refine .box rfl ?_ | refine .arr (rs_low _ _ _) ?_ | refine .dead ?_ | fail))⟩)
        | (have hg : gtS l[k].span.lo r.span.lo = false := by (clear em hy e1 e2 hs; unfold gtS; cases hq : Op.bytesLess l[k].span.lo r.span.lo <;> simp_all)
           have hS : learnS r (d, out) l[k] = (d, out ++ [l[k]]) := by (clear em hy e1 e2 hs; unfold learnS; simp_all; done)
           rw [hS] at hy
           exact ⟨(k + 1, d, out ++ [l[k]]), ⟨by dsimp only; omega, by (dsimp only; simp only [List.length_append, List.length_cons, List.length_nil]; omega), hy⟩, by dsimp only; omega, (.cons rfl rfl (.cons rfl rfl (.cons rfl rfl (.cons rfl rfl (.cons rfl rfl (.cons rfl rfl (.nil))))))), rfl, LH.lows (by repeat' (first | exact .nil | refine .box rfl ?_ | refine .arr (rs_low _ _ _) ?_ | refine .dead ?_ | fail))⟩)
        | trace_state
    · repeat' (first
    | (refine W.cond rfl ?_ ?_ <;> intro hb <;> (try simp at hb) <;> try contradiction)
    | refine W.dfm 8 [0, 3, 4, 5, 6, 7, 8, 9, 21, 22, 23, 24, 27, 28, 29, 30, 31, 32, 33, 34, 35, 36, 37] 10 12 37 mixed (by decide +kernel) (by repeat' (first | exact .nil | refine .box rfl ?_ | refine .arr (rs_low _ _ _) ?_ | refine .dead ?_ | fail)) ?_
    | apply Dfm.go
    | exact Mid.go
    | (refine TF.mk ?_ ?_ <;> dsimp only [dropE, Nat.reduceBEq, cond_true, cond_false, List.size_toArray, List.length_cons, List.length_nil, Nat.reduceAdd, Nat.reduceSub])
    | refine OpK.of (OpOk.bldF D [r] Rou.e rfl rfl rfl rfl (by decide) (by decide) (by decide) rfl rfl rfl) ?_
    | refine OpD.of (OpOk.bldF D [r] Rou.e rfl rfl rfl rfl (by decide) (by decide) (by decide) rfl rfl rfl) ?_
    | refine OpM.v (OpOk.bldF D [r] Rou.e rfl rfl rfl rfl (by decide) (by decide) (by decide) rfl rfl rfl) rfl ?_
    | refine OpK.of (OpOk.apM D rfl rfl rfl rfl rfl rfl rfl rfl (by first | rfl | simp) rfl rfl (fun _ => rfl) (by first | assumption | omega | (simp; omega)) (by decide)) ?_
    | refine OpD.of (OpOk.apM D rfl rfl rfl rfl rfl rfl rfl rfl (by first | rfl | simp) rfl rfl (fun _ => rfl) (by first | assumption | omega | (simp; omega)) (by decide)) ?_
    | refine OpM.v (OpOk.apM D rfl rfl rfl rfl rfl rfl rfl rfl (by first | rfl | simp) rfl rfl (fun _ => rfl) (by first | assumption | omega | (simp; omega)) (by decide)) rfl ?_
    | refine OpM.bl (OpOk.apM D rfl rfl rfl rfl rfl rfl rfl rfl (by first | rfl | simp) rfl rfl (fun _ => rfl) (by first | assumption | omega | (simp; omega)) (by decide)) ?_
    | refine goO ?_
    | refine WE.done (by with_unfolding_all rfl) ?_
    | refine WE.step (by with_unfolding_all rfl) ?_
    | refine WI.g0 rfl ?_
    | refine WI.r D rfl ?_
    | refine WI.g rfl rfl rfl ?_
    | refine WL.cons ?_ ?_
    | exact WL.nil
    | exact WL.on (by with_unfolding_all rfl)
    | refine WL.oc (by with_unfolding_all rfl) ?_ ?_
    | refine goN ?_
    | (refine WO.gs _ rfl rfl rfl ?_ ?_ <;> intro hb <;> simp only [hb] <;> (try simp at hb) <;> try contradiction)
    | (refine WD.gs _ rfl rfl rfl ?_ ?_ <;> intro hb <;> simp only [hb] <;> (try simp at hb) <;> try contradiction)
    | (refine WM.gs _ rfl rfl rfl ?_ ?_ <;> intro hb <;> simp only [hb] <;> (try simp at hb) <;> try contradiction)
    | (refine WF.gs _ rfl rfl rfl ?_ ?_ <;> intro hb <;> simp only [hb] <;> (try simp at hb) <;> try contradiction)
    | (refine WI.gs _ rfl rfl rfl ?_ ?_ <;> intro hb <;> simp only [hb] <;> (try simp at hb) <;> try contradiction))
      all_goals first
        | (exfalso; omega)
        | (have hd : d = false := hb
           have hF : learn l r = out ++ [r] := by (unfold learn; rw [if_pos (by simp [h1, h2]), hy, List.drop_eq_nil_of_le (by omega), List.foldl_nil, hd, if_neg (by simp)])
           refine ⟨.inr rfl, _, _, rfl, .cons (.c (by first | exact .emp | exact .full rfl rfl rfl | exact .id rfl | fail)) (.nil), ?_⟩
           simp only [resV, X.v]; rw [hF])
        | (have hd : d = true := hb
           have hF : learn l r = out := by (unfold learn; rw [if_pos (by simp [h1, h2]), hy, List.drop_eq_nil_of_le (by omega), List.foldl_nil, hd, if_pos rfl])
           refine ⟨.inr rfl, _, _, rfl, .cons (.c (by first | exact .emp | exact .full rfl rfl rfl | exact .id rfl | fail)) (.nil), ?_⟩
           simp only [resV, X.v]; rw [hF])
        | trace_state
  · have hF : learn l r = [] := by (unfold learn; rw [if_neg (by rw [Bool.and_eq_true]; exact hv)])
    rw [hF]
    refine Pu.of D Try.func40 rfl rfl rfl ?_
    repeat' (first
    | (refine W.cond rfl ?_ ?_ <;> intro hb <;> (try simp at hb) <;> try contradiction)
    | refine W.dfm 8 [0, 3, 4, 5, 6, 7, 8, 9, 21, 22, 23, 24, 27, 28, 29, 30, 31, 32, 33, 34, 35, 36, 37] 10 12 37 mixed (by decide +kernel) (by repeat' (first | exact .nil | refine .box rfl ?_ | refine .arr (rs_low _ _ _) ?_ | refine .dead ?_ | fail)) ?_
    | apply Dfm.go
    | exact Mid.go
    | (refine TF.mk ?_ ?_ <;> dsimp only [dropE, Nat.reduceBEq, cond_true, cond_false, List.size_toArray, List.length_cons, List.length_nil, Nat.reduceAdd, Nat.reduceSub])
    | refine cl (e1) ?_
    | refine cl (e2) ?_
    | refine OpK.of (OpOk.bldE D rfl rfl rfl rfl) ?_
    | refine OpD.of (OpOk.bldE D rfl rfl rfl rfl) ?_
    | refine OpM.v (OpOk.bldE D rfl rfl rfl rfl) rfl ?_
    | refine OpK.of (OpOk.bldF D [r] Rou.e rfl rfl rfl rfl (by decide) (by decide) (by decide) rfl rfl rfl) ?_
    | refine OpD.of (OpOk.bldF D [r] Rou.e rfl rfl rfl rfl (by decide) (by decide) (by decide) rfl rfl rfl) ?_
    | refine OpM.v (OpOk.bldF D [r] Rou.e rfl rfl rfl rfl (by decide) (by decide) (by decide) rfl rfl rfl) rfl ?_
    | refine goO ?_
    | refine WE.done (by with_unfolding_all rfl) ?_
    | refine WE.step (by with_unfolding_all rfl) ?_
    | refine WI.g0 rfl ?_
    | refine WI.r D rfl ?_
    | refine WI.g rfl rfl rfl ?_
    | refine WL.cons ?_ ?_
    | exact WL.nil
    | exact WL.on (by with_unfolding_all rfl)
    | refine WL.oc (by with_unfolding_all rfl) ?_ ?_
    | refine goN ?_
    | (refine WO.gs _ rfl rfl rfl ?_ ?_ <;> intro hb <;> simp only [hb] <;> (try simp at hb) <;> try contradiction)
    | (refine WD.gs _ rfl rfl rfl ?_ ?_ <;> intro hb <;> simp only [hb] <;> (try simp at hb) <;> try contradiction)
    | (refine WM.gs _ rfl rfl rfl ?_ ?_ <;> intro hb <;> simp only [hb] <;> (try simp at hb) <;> try contradiction)
    | (refine WF.gs _ rfl rfl rfl ?_ ?_ <;> intro hb <;> simp only [hb] <;> (try simp at hb) <;> try contradiction)
    | (refine WI.gs _ rfl rfl rfl ?_ ?_ <;> intro hb <;> simp only [hb] <;> (try simp at hb) <;> try contradiction))
    all_goals first
      | (exfalso; exact hv ⟨by assumption, by assumption⟩)
      | (refine ⟨.inr rfl, _, _, rfl, .cons (.c (by first | exact .emp | exact .full rfl rfl rfl | exact .id rfl | fail)) (.nil), ?_⟩; rfl)
      | (refine ⟨.inr rfl, _, _, rfl, .cons (.c (by first | exact .emp | exact .full rfl rfl rfl | exact .id rfl | fail)) (.nil), ?_⟩; simp [resV, X.v]; done)
      | trace_state
end Go.YtamlleimfopmhaaMc

namespace Go.YtamlleimfopmhaaMc
open Go.Proofs
theorem OpOk.subB {P : Program} {n : Nat} {env : Env} {h : List Blk} {o : Oper} {t t' : Nat} {x y : Operand} {a b : Int} (ho : o.op = .binOp .sub t x y t') (hx : oe env x = some (.c (.t (.i .u8 a)))) (hy : oe env y = some (.c (.t (.i .u8 b)))) (hb : IntKind.u8.wrap (a - b) = a - b) : OpOk P n o env h (.c (.t (.i .u8 (a - b)))) h := by
  have := OpOk.ibin (P := P) (n := n) (h := h) ho hx hy (r := .i .u8 (IntKind.u8.wrap (a - b))) rfl
  rwa [hb] at this
/-! ### What the laws of callers ask -/
theorem kf4 : Pu Try.prog 129 [I 4] (I 1) := by
  refine Pu.of D Try.func129 rfl rfl rfl ?_
  repeat' (first
    | (refine W.cond rfl ?_ ?_ <;> intro hb <;> (try simp at hb) <;> (try contradiction) <;> (try (exfalso; omega)))
    | refine goO ?_
    | refine goN ?_
    | (refine WO.gs _ rfl rfl rfl ?_ ?_ <;> intro hb <;> simp only [hb] <;> (try simp at hb) <;> (try contradiction) <;> (try (exfalso; omega))))
  all_goals first
    | (exfalso; omega)
    | (refine ⟨.inr rfl, _, _, rfl, .cons (.c (.id rfl)) .nil, ?_⟩; rfl)
theorem kf3 : Pu Try.prog 129 [I 3] (I 27) := by
  refine Pu.of D Try.func129 rfl rfl rfl ?_
  repeat' (first
    | (refine W.cond rfl ?_ ?_ <;> intro hb <;> (try simp at hb) <;> (try contradiction) <;> (try (exfalso; omega)))
    | refine cl (kf4) ?_
    | (refine OpK.at 8 ?_; refine OpK.of (OpOk.mulN 26 1 rfl rfl rfl rfl rfl (by omega)) ?_)
    | refine goO ?_
    | refine goN ?_
    | (refine WO.gs _ rfl rfl rfl ?_ ?_ <;> intro hb <;> simp only [hb] <;> (try simp at hb) <;> (try contradiction) <;> (try (exfalso; omega))))
  all_goals first
    | (exfalso; omega)
    | (refine ⟨.inr rfl, _, _, rfl, .cons (.c (.id rfl)) .nil, ?_⟩; rfl)
theorem kf2 : Pu Try.prog 129 [I 2] (I 703) := by
  refine Pu.of D Try.func129 rfl rfl rfl ?_
  repeat' (first
    | (refine W.cond rfl ?_ ?_ <;> intro hb <;> (try simp at hb) <;> (try contradiction) <;> (try (exfalso; omega)))
    | refine cl (kf3) ?_
    | (refine OpK.at 8 ?_; refine OpK.of (OpOk.mulN 26 27 rfl rfl rfl rfl rfl (by omega)) ?_)
    | refine goO ?_
    | refine goN ?_
    | (refine WO.gs _ rfl rfl rfl ?_ ?_ <;> intro hb <;> simp only [hb] <;> (try simp at hb) <;> (try contradiction) <;> (try (exfalso; omega))))
  all_goals first
    | (exfalso; omega)
    | (refine ⟨.inr rfl, _, _, rfl, .cons (.c (.id rfl)) .nil, ?_⟩; rfl)
theorem kf1 : Pu Try.prog 129 [I 1] (I 18279) := by
  refine Pu.of D Try.func129 rfl rfl rfl ?_
  repeat' (first
    | (refine W.cond rfl ?_ ?_ <;> intro hb <;> (try simp at hb) <;> (try contradiction) <;> (try (exfalso; omega)))
    | refine cl (kf2) ?_
    | (refine OpK.at 8 ?_; refine OpK.of (OpOk.mulN 26 703 rfl rfl rfl rfl rfl (by omega)) ?_)
    | refine goO ?_
    | refine goN ?_
    | (refine WO.gs _ rfl rfl rfl ?_ ?_ <;> intro hb <;> simp only [hb] <;> (try simp at hb) <;> (try contradiction) <;> (try (exfalso; omega))))
  all_goals first
    | (exfalso; omega)
    | (refine ⟨.inr rfl, _, _, rfl, .cons (.c (.id rfl)) .nil, ?_⟩; rfl)
theorem rb0 (n : Int) : Pu Try.prog 97 [Sx [], I n] (I 0) := by
  refine Pu.of D Try.func97 rfl rfl rfl ?_
  repeat' (first
    | (refine W.cond rfl ?_ ?_ <;> intro hb <;> (try simp at hb) <;> (try contradiction) <;> (try (exfalso; omega)))
    | refine goO ?_
    | refine goN ?_
    | (refine WO.gs _ rfl rfl rfl ?_ ?_ <;> intro hb <;> simp only [hb] <;> (try simp at hb) <;> (try contradiction) <;> (try (exfalso; omega)))
    | (refine WD.gs _ rfl rfl rfl ?_ ?_ <;> intro hb <;> simp only [hb] <;> (try simp at hb) <;> (try contradiction) <;> (try (exfalso; omega))))
  all_goals first
    | (exfalso; omega)
    | (refine ⟨.inr rfl, _, _, rfl, .cons (.c (.id rfl)) .nil, ?_⟩; rfl)
    | (exfalso; simp_all; done)
theorem rb1 : Pu Try.prog 97 [Sx [97], I 2] (I 1) := by
  have e1 := kf2
  have e2 := rb0 3
  refine Pu.of D Try.func97 rfl rfl rfl ?_
  repeat' (first
    | (refine W.cond rfl ?_ ?_ <;> intro hb <;> (try simp at hb) <;> try contradiction)
    | (refine OpK.at 12 ?_; refine cl (e1) ?_)
    | (refine OpD.at 12 ?_; refine cl (e1) ?_)
    | (refine OpK.at 19 ?_; refine cl (e2) ?_)
    | (refine OpD.at 19 ?_; refine cl (e2) ?_)
    | (refine OpK.at 8 ?_; refine OpK.of (OpOk.ixS D rfl rfl rfl rfl rfl (by decide) rfl) ?_)
    | (refine OpD.at 8 ?_; refine OpD.of (OpOk.ixS D rfl rfl rfl rfl rfl (by decide) rfl) ?_)
    | (refine OpK.at 9 ?_; refine OpK.of (OpOk.subB rfl rfl rfl (by decide)) ?_)
    | (refine OpD.at 9 ?_; refine OpD.of (OpOk.subB rfl rfl rfl (by decide)) ?_)
    | (refine OpK.at 10 ?_; refine OpK.of (OpOk.cvI D rfl rfl rfl rfl rfl rfl (by decide)) ?_)
    | (refine OpD.at 10 ?_; refine OpD.of (OpOk.cvI D rfl rfl rfl rfl rfl rfl (by decide)) ?_)
    | (refine OpK.at 13 ?_; refine OpK.of (OpOk.mulN 0 703 rfl rfl rfl rfl rfl (by omega)) ?_)
    | (refine OpD.at 13 ?_; refine OpD.of (OpOk.mulN 0 703 rfl rfl rfl rfl rfl (by omega)) ?_)
    | (refine OpK.at 16 ?_; refine OpK.of (OpOk.slSd D rfl rfl rfl rfl rfl (by simp)) ?_)
    | (refine OpD.at 16 ?_; refine OpD.of (OpOk.slSd D rfl rfl rfl rfl rfl (by simp)) ?_)
    | refine goO ?_
    | refine goN ?_
    | (refine WO.gs _ rfl rfl rfl ?_ ?_ <;> intro hb <;> simp only [hb] <;> (try simp at hb) <;> try contradiction)
    | (refine WD.gs _ rfl rfl rfl ?_ ?_ <;> intro hb <;> simp only [hb] <;> (try simp at hb) <;> try contradiction))
  all_goals first
    | (refine ⟨.inr rfl, _, _, rfl, .cons (.c (.id rfl)) .nil, ?_⟩; rfl)
    | (exfalso; simp_all; done)
    | trace_state
theorem rb2 : Pu Try.prog 97 [Sx [97, 97], I 1] (I 2) := by
  have e1 := kf1
  have e2 := rb1
  refine Pu.of D Try.func97 rfl rfl rfl ?_
  repeat' (first
    | (refine W.cond rfl ?_ ?_ <;> intro hb <;> (try simp at hb) <;> try contradiction)
    | (refine OpK.at 12 ?_; refine cl (e1) ?_)
    | (refine OpD.at 12 ?_; refine cl (e1) ?_)
    | (refine OpK.at 19 ?_; refine cl (e2) ?_)
    | (refine OpD.at 19 ?_; refine cl (e2) ?_)
    | (refine OpK.at 8 ?_; refine OpK.of (OpOk.ixS D rfl rfl rfl rfl rfl (by decide) rfl) ?_)
    | (refine OpD.at 8 ?_; refine OpD.of (OpOk.ixS D rfl rfl rfl rfl rfl (by decide) rfl) ?_)
    | (refine OpK.at 9 ?_; refine OpK.of (OpOk.subB rfl rfl rfl (by decide)) ?_)
    | (refine OpD.at 9 ?_; refine OpD.of (OpOk.subB rfl rfl rfl (by decide)) ?_)
    | (refine OpK.at 10 ?_; refine OpK.of (OpOk.cvI D rfl rfl rfl rfl rfl rfl (by decide)) ?_)
    | (refine OpD.at 10 ?_; refine OpD.of (OpOk.cvI D rfl rfl rfl rfl rfl rfl (by decide)) ?_)
    | (refine OpK.at 13 ?_; refine OpK.of (OpOk.mulN 0 18279 rfl rfl rfl rfl rfl (by omega)) ?_)
    | (refine OpD.at 13 ?_; refine OpD.of (OpOk.mulN 0 18279 rfl rfl rfl rfl rfl (by omega)) ?_)
    | (refine OpK.at 16 ?_; refine OpK.of (OpOk.slSd D rfl rfl rfl rfl rfl (by simp)) ?_)
    | (refine OpD.at 16 ?_; refine OpD.of (OpOk.slSd D rfl rfl rfl rfl rfl (by simp)) ?_)
    | refine goO ?_
    | refine goN ?_
    | (refine WO.gs _ rfl rfl rfl ?_ ?_ <;> intro hb <;> simp only [hb] <;> (try simp at hb) <;> try contradiction)
    | (refine WD.gs _ rfl rfl rfl ?_ ?_ <;> intro hb <;> simp only [hb] <;> (try simp at hb) <;> try contradiction))
  all_goals first
    | (refine ⟨.inr rfl, _, _, rfl, .cons (.c (.id rfl)) .nil, ?_⟩; rfl)
    | (exfalso; simp_all; done)
    | trace_state
theorem rankAA : Pu Try.prog 33 [Sx [97, 97]] (I 1) := by
  have e1 := keyOk_impl [97, 97]
  rw [show keyOk [97, 97] = true by decide] at e1
  refine Pu.of D Try.func33 rfl rfl rfl ?_
  repeat' (first
    | (refine W.cond rfl ?_ ?_ <;> intro hb <;> (try simp at hb) <;> (try contradiction) <;> (try (exfalso; omega)))
    | refine cl (e1) ?_
    | refine cl (rb2) ?_
    | refine goO ?_
    | refine goN ?_
    | (refine WO.gs _ rfl rfl rfl ?_ ?_ <;> intro hb <;> simp only [hb] <;> (try simp at hb) <;> (try contradiction) <;> (try (exfalso; omega))))
  all_goals first
    | (exfalso; omega)
    | (refine ⟨.inr rfl, _, _, rfl, .cons (.c (.id rfl)) .nil, ?_⟩; rfl)
theorem rank0 : Pu Try.prog 33 [Sx []] (I (-1)) := by
  have e1 := keyOk_impl []
  rw [show keyOk [] = false by decide] at e1
  refine Pu.of D Try.func33 rfl rfl rfl ?_
  repeat' (first
    | (refine W.cond rfl ?_ ?_ <;> intro hb <;> (try simp at hb) <;> (try contradiction) <;> (try (exfalso; omega)))
    | refine cl (e1) ?_
    | refine goO ?_
    | refine goN ?_
    | (refine WO.gs _ rfl rfl rfl ?_ ?_ <;> intro hb <;> simp only [hb] <;> (try simp at hb) <;> (try contradiction) <;> (try (exfalso; omega))))
  all_goals first
    | (exfalso; omega)
    | (refine ⟨.inr rfl, _, _, rfl, .cons (.c (.id rfl)) .nil, ?_⟩; rfl)
theorem alive_ok : Pu Try.prog 15 [] (B true) := by
  refine Pu.of D Try.func15 rfl rfl rfl ?_
  repeat' (first
    | (refine W.cond rfl ?_ ?_ <;> intro hb <;> (try simp at hb) <;> (try contradiction) <;> (try (exfalso; omega)))
    | refine cl (rankAA) ?_
    | refine cl (rank0) ?_
    | refine goO ?_
    | refine goN ?_
    | (refine WO.gs _ rfl rfl rfl ?_ ?_ <;> intro hb <;> simp only [hb] <;> (try simp at hb) <;> (try contradiction) <;> (try (exfalso; omega))))
  all_goals first
    | (exfalso; omega)
    | (refine ⟨.inr rfl, _, _, rfl, .cons (.c (.id rfl)) .nil, ?_⟩; rfl)
end Go.YtamlleimfopmhaaMc

namespace Go.YtamlleimfopmhaaMc
open Go.Proofs
theorem ivC (m : Nat) : EqC Try.prog 66 [.s, .s] (m + 1) true :=
  .st' [(0, 9, [.s]), (1, 9, [.s])] (by kernel_rfl) (by kernel_rfl) (by kernel_rfl) rfl rfl (.cons (.s m (by kernel_rfl)) (.cons (.s m (by kernel_rfl)) .nil))
theorem rouC (m : Nat) : EqC Try.prog 68 [.i .i64, .s, .s] (m + 2) true :=
  .st' [(0, 3, [.i .i64]), (1, 66, [.s, .s])] (by kernel_rfl) (by kernel_rfl) (by kernel_rfl) rfl rfl (.cons (.i _ (by kernel_rfl)) (.cons (ivC m) .nil))
theorem eqTs_rou (a b : Rou) : eqTs a.e b.e = decide (a = b) := by
  obtain ⟨a1, ⟨a2, a3⟩⟩ := a; obtain ⟨b1, ⟨b2, b3⟩⟩ := b
  simp [Rou.e, eqTs, T.eq]; grind
theorem sRou_ok (a b : List Rou) (ha : a.length ≤ 1048576) : Pu Try.prog 30 [L Rou.e a, L Rou.e b] (B (decide (a = b))) := by
  refine Pu.of D Try.func30 rfl rfl rfl ?_
  repeat' (first
    | (refine W.cond rfl ?_ ?_ <;> intro hb <;> try simp at hb)
    | refine goO ?_
    | refine goS ?_
    | (refine WO.gs _ rfl rfl rfl ?_ ?_ <;> intro hb <;> simp only [hb] <;> try simp at hb)
    | (refine WD.gs _ rfl rfl rfl ?_ ?_ <;> intro hb <;> simp only [hb] <;> try simp at hb))
  · refine ⟨.inr rfl, _, _, rfl, .cons (.c (.id rfl)) .nil, ?_⟩
    have : ¬ a = b := by rintro rfl; simp at hb
    simp [resV, X.v, this]
  · have hlr : a.length = b.length := by omega
    refine W.loop (σ := Nat) (fun k => [(5, I k), (1, L Rou.e b), (0, L Rou.e a)]) (fun _ => []) (fun k => k ≤ a.length ∧ (a = b ↔ a.drop k = b.drop k)) (fun k => a.length - k) 0 (fun _ _ => rfl) 0 ⟨by simp, by simp⟩ rfl (.cons rfl rfl (.cons rfl rfl (.cons rfl rfl (.nil)))) ?_
    rintro k ⟨hk1, hy⟩
    repeat' (first
    | (refine W.cond rfl ?_ ?_ <;> intro hb <;> try simp at hb)
    | refine OpK.of (OpOk.eqN a[k].e b[k].e rfl (rouC 0) (by decide) (by kernel_rfl) rfl rfl rfl rfl) ?_
    | refine OpD.of (OpOk.eqN a[k].e b[k].e rfl (rouC 0) (by decide) (by kernel_rfl) rfl rfl rfl rfl) ?_
    | refine goO ?_
    | refine goS ?_
    | (refine WO.gs _ rfl rfl rfl ?_ ?_ <;> intro hb <;> simp only [hb] <;> try simp at hb)
    | (refine WD.gs _ rfl rfl rfl ?_ ?_ <;> intro hb <;> simp only [hb] <;> try simp at hb))
    · rw [drop_eq (by omega) (by omega)] at hy
      refine ⟨.inr rfl, _, _, rfl, .cons (.c (.id rfl)) .nil, ?_⟩
      have hne : ¬ a[k] = b[k] := by simpa [eqTs_rou] using hb
      simp [resV, X.v, hy, hne]
    · rw [drop_eq (by omega) (by omega)] at hy
      have hne : a[k] = b[k] := by simpa [eqTs_rou] using hb
      exact ⟨k + 1, ⟨by omega, by simpa [hne] using hy⟩, by omega, (.cons rfl rfl (.cons rfl rfl (.cons rfl rfl (.nil)))), rfl, rfl⟩
    · rw [drop_nil (by omega), drop_nil (by omega)] at hy
      refine ⟨.inr rfl, _, _, rfl, .cons (.c (.id rfl)) .nil, ?_⟩
      have hy := hy.2 rfl
      simp [resV, X.v, hy]
end Go.YtamlleimfopmhaaMc
