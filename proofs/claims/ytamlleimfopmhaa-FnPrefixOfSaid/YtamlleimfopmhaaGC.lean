/- Lemmas of this claim: walks through code, values and memory, and the contracts of functions; under no condition beyond those that each states. -/
import Derived.Test.YtamlleimfopmhaaGA
import Derived.Test.YtamlleimfopmhaaGB
set_option maxRecDepth 100000
set_option linter.unusedVariables false
set_option linter.unusedSimpArgs false
namespace Go.YtamlleimfopmhaaMc
open Go.Proofs
/-! ### Draws: the reader -/
def eU (c : UInt8) : List T := [.i .u8 c.toNat]
abbrev rdH (bs : List UInt8) (p : Nat) : List Blk := [.box [.t (.l (bs.map eU)), .t (tI p)]]
abbrev Rp : V := .c (.ptr 0 0)
/-- The reader's bytes and place are as they must be. -/
structure Rok (bs : List UInt8) (p : Nat) : Prop where
  b : bs.length ≤ 2000
  p : p ≤ 1099511627776
theorem pick_ex {bs : List UInt8} {p : Nat} (ro : Rok bs p) (n : Int) (hn : n ≤ 1000) : ∃ k : Nat, (1 ≤ n → (k : Int) < n) ∧ (n < 1 → k = 0) ∧ Po Try.prog 63 [Rp, I n] (rdH bs p) (I k) (rdH bs (p + 1)) := by
  have hb := ro.b
  have hp := ro.p
  by_cases h1 : n < 1
  · refine ⟨0, fun h => by omega, fun _ => rfl, ?_⟩
    refine Po.of D Try.func63 rfl rfl rfl ?_
    repeat' (first
    | (refine W.cond rfl ?_ ?_ <;> intro hb <;> (try simp at hb) <;> (try contradiction) <;> (try (exfalso; omega)))
    | refine goO ?_
    | refine goN ?_
    | (refine WO.gs _ rfl rfl rfl ?_ ?_ <;> intro hb <;> simp only [hb] <;> (try simp at hb) <;> (try contradiction) <;> (try (exfalso; omega)))
    | (refine WD.gs _ rfl rfl rfl ?_ ?_ <;> intro hb <;> simp only [hb] <;> (try simp at hb) <;> (try contradiction) <;> (try (exfalso; omega))))
    all_goals first
      | (exfalso; omega)
      | (first | refine Ro.c1 (.inr rfl) [0] rfl (by decide) (kp rfl) ?_ ?_ | refine Ro.a1 (.inr rfl) [0] rfl (by decide) (kp rfl) ?_ ?_ | refine Ro.t1 (.inr rfl) [0] rfl (by decide) (kp rfl) ?_ ?_ rfl); (repeat' (first | exact .nil | refine .cons rfl ?_ ?_ | refine .cons ?_ ?_ | refine .c ?_ | refine .ag ?_ | refine .box ?_ | exact .arr (rs_low _ _ _) | exact .dead | exact .id rfl | exact .sl rfl | exact .ptr rfl | exact .ap rfl | exact .emp | exact .full rfl rfl rfl rfl rfl | fail))
  by_cases h2 : bs = []
  · subst h2
    refine ⟨0, fun h => by omega, fun _ => rfl, ?_⟩
    refine Po.of D Try.func63 rfl rfl rfl ?_
    repeat' (first
    | (refine W.cond rfl ?_ ?_ <;> intro hb <;> (try simp at hb) <;> (try contradiction) <;> (try (exfalso; omega)))
    | refine goO ?_
    | refine goN ?_
    | (refine WO.gs _ rfl rfl rfl ?_ ?_ <;> intro hb <;> simp only [hb] <;> (try simp at hb) <;> (try contradiction) <;> (try (exfalso; omega)))
    | (refine WD.gs _ rfl rfl rfl ?_ ?_ <;> intro hb <;> simp only [hb] <;> (try simp at hb) <;> (try contradiction) <;> (try (exfalso; omega))))
    all_goals first
      | (exfalso; omega)
      | (first | refine Ro.c1 (.inr rfl) [0] rfl (by decide) (kp rfl) ?_ ?_ | refine Ro.a1 (.inr rfl) [0] rfl (by decide) (kp rfl) ?_ ?_ | refine Ro.t1 (.inr rfl) [0] rfl (by decide) (kp rfl) ?_ ?_ rfl); (repeat' (first | exact .nil | refine .cons rfl ?_ ?_ | refine .cons ?_ ?_ | refine .c ?_ | refine .ag ?_ | refine .box ?_ | exact .arr (rs_low _ _ _) | exact .dead | exact .id rfl | exact .sl rfl | exact .ptr rfl | exact .ap rfl | exact .emp | exact .full rfl rfl rfl rfl rfl | fail))
  have h4 : ¬ bs.length = 0 := fun h => h2 (List.length_eq_zero_iff.1 h)
  by_cases h3 : p < bs.length
  · have hu : bs[p].toNat < 256 := bs[p].toNat_lt
    refine ⟨bs[p].toNat % n.toNat, fun h => by have := Nat.mod_lt bs[p].toNat (show 0 < n.toNat by omega); omega, fun h => by omega, ?_⟩
    refine Po.of D Try.func63 rfl rfl rfl ?_
    repeat' (first
    | (refine W.cond rfl ?_ ?_ <;> intro hb <;> (try simp at hb) <;> (try contradiction) <;> (try (exfalso; omega)))
    | (refine OpK.at 42 ?_; refine OpK.of (OpOk.ixJ D p rfl rfl rfl rfl rfl rfl (by omega) (by omega) (fun _ => rfl)) ?_)
    | (refine OpD.at 42 ?_; refine OpD.of (OpOk.ixJ D p rfl rfl rfl rfl rfl rfl (by omega) (by omega) (fun _ => rfl)) ?_)
    | (refine OpK.at 44 ?_; refine OpK.of (OpOk.cvI D rfl rfl rfl rfl rfl rfl (wrap_i64 (by omega) (by omega))) ?_)
    | (refine OpD.at 44 ?_; refine OpD.of (OpOk.cvI D rfl rfl rfl rfl rfl rfl (wrap_i64 (by omega) (by omega))) ?_)
    | (refine OpK.at 46 ?_; refine OpK.of (OpOk.remN bs[p].toNat n.toNat rfl rfl rfl rfl (by omega) (by omega)) ?_)
    | (refine OpD.at 46 ?_; refine OpD.of (OpOk.remN bs[p].toNat n.toNat rfl rfl rfl rfl (by omega) (by omega)) ?_)
    | refine goO ?_
    | refine goN ?_
    | (refine WO.gs _ rfl rfl rfl ?_ ?_ <;> intro hb <;> simp only [hb] <;> (try simp at hb) <;> (try contradiction) <;> (try (exfalso; omega)))
    | (refine WD.gs _ rfl rfl rfl ?_ ?_ <;> intro hb <;> simp only [hb] <;> (try simp at hb) <;> (try contradiction) <;> (try (exfalso; omega))))
    all_goals first
      | (exfalso; omega)
      | (first | refine Ro.c1 (.inr rfl) [0] rfl (by decide) (kp rfl) ?_ ?_ | refine Ro.a1 (.inr rfl) [0] rfl (by decide) (kp rfl) ?_ ?_ | refine Ro.t1 (.inr rfl) [0] rfl (by decide) (kp rfl) ?_ ?_ rfl); (repeat' (first | exact .nil | refine .cons rfl ?_ ?_ | refine .cons ?_ ?_ | refine .c ?_ | refine .ag ?_ | refine .box ?_ | exact .arr (rs_low _ _ _) | exact .dead | exact .id rfl | exact .sl rfl | exact .ptr rfl | exact .ap rfl | exact .emp | exact .full rfl rfl rfl rfl rfl | fail))
  · have m1 : p % bs.length < bs.length := Nat.mod_lt _ (by omega)
    have m2 : (p * 7 + 3) % bs.length < bs.length := Nat.mod_lt _ (by omega)
    have u1 : bs[p % bs.length].toNat < 256 := bs[p % bs.length].toNat_lt
    have u2 : bs[(p * 7 + 3) % bs.length].toNat < 256 := bs[(p * 7 + 3) % bs.length].toNat_lt
    have d1 : p / bs.length ≤ p := Nat.div_le_self _ _
    generalize hx : bs[p % bs.length].toNat = x1 at u1
    generalize hy : bs[(p * 7 + 3) % bs.length].toNat = x2 at u2
    generalize hz : x1 * 131 + x2 * 1117 + p * 29 + p / bs.length * 53 = y
    have hyl : y < 9223372036854775808 := by omega
    have hyd : y / 64 < 9223372036854775808 := by omega
    refine ⟨(y ^^^ (y / 64)) % n.toNat, fun h => by have := Nat.mod_lt (y ^^^ (y / 64)) (show 0 < n.toNat by omega); omega, fun h => by omega, ?_⟩
    refine Po.of D Try.func63 rfl rfl rfl ?_
    repeat' (first
    | (refine W.cond rfl ?_ ?_ <;> intro hb <;> (try simp at hb) <;> (try contradiction) <;> (try (exfalso; omega)))
    | (refine OpK.at 57 ?_; refine OpK.of (OpOk.remN p bs.length rfl rfl rfl (by omega) rfl (by omega)) ?_)
    | (refine OpD.at 57 ?_; refine OpD.of (OpOk.remN p bs.length rfl rfl rfl (by omega) rfl (by omega)) ?_)
    | (refine OpK.at 58 ?_; refine OpK.of (OpOk.ixM D rfl rfl rfl rfl rfl rfl m1 (fun _ => rfl)) ?_)
    | (refine OpD.at 58 ?_; refine OpD.of (OpOk.ixM D rfl rfl rfl rfl rfl rfl m1 (fun _ => rfl)) ?_)
    | (refine OpK.at 60 ?_; refine OpK.of (OpOk.cvI D rfl rfl rfl rfl rfl rfl (wrap_i64 (by omega) (by omega))) ?_)
    | (refine OpD.at 60 ?_; refine OpD.of (OpOk.cvI D rfl rfl rfl rfl rfl rfl (wrap_i64 (by omega) (by omega))) ?_)
    | (refine OpK.at 61 ?_; refine OpK.of (OpOk.mulN x1 131 rfl rfl rfl (by omega) rfl (by omega)) ?_)
    | (refine OpD.at 61 ?_; refine OpD.of (OpOk.mulN x1 131 rfl rfl rfl (by omega) rfl (by omega)) ?_)
    | (refine OpK.at 67 ?_; refine OpK.of (OpOk.mulN p 7 rfl rfl rfl (by omega) rfl (by omega)) ?_)
    | (refine OpD.at 67 ?_; refine OpD.of (OpOk.mulN p 7 rfl rfl rfl (by omega) rfl (by omega)) ?_)
    | (refine OpK.at 68 ?_; refine OpK.of (OpOk.addN (p * 7) 3 rfl rfl rfl rfl rfl (by omega)) ?_)
    | (refine OpD.at 68 ?_; refine OpD.of (OpOk.addN (p * 7) 3 rfl rfl rfl rfl rfl (by omega)) ?_)
    | (refine OpK.at 74 ?_; refine OpK.of (OpOk.remN (p * 7 + 3) bs.length rfl rfl rfl rfl rfl (by omega)) ?_)
    | (refine OpD.at 74 ?_; refine OpD.of (OpOk.remN (p * 7 + 3) bs.length rfl rfl rfl rfl rfl (by omega)) ?_)
    | (refine OpK.at 75 ?_; refine OpK.of (OpOk.ixM D rfl rfl rfl rfl rfl rfl m2 (fun _ => rfl)) ?_)
    | (refine OpD.at 75 ?_; refine OpD.of (OpOk.ixM D rfl rfl rfl rfl rfl rfl m2 (fun _ => rfl)) ?_)
    | (refine OpK.at 77 ?_; refine OpK.of (OpOk.cvI D rfl rfl rfl rfl rfl rfl (wrap_i64 (by omega) (by omega))) ?_)
    | (refine OpD.at 77 ?_; refine OpD.of (OpOk.cvI D rfl rfl rfl rfl rfl rfl (wrap_i64 (by omega) (by omega))) ?_)
    | (refine OpK.at 78 ?_; refine OpK.of (OpOk.mulN x2 1117 rfl rfl rfl (by omega) rfl (by omega)) ?_)
    | (refine OpD.at 78 ?_; refine OpD.of (OpOk.mulN x2 1117 rfl rfl rfl (by omega) rfl (by omega)) ?_)
    | (refine OpK.at 79 ?_; refine OpK.of (OpOk.addN (x1 * 131) (x2 * 1117) rfl rfl rfl rfl rfl (by omega)) ?_)
    | (refine OpD.at 79 ?_; refine OpD.of (OpOk.addN (x1 * 131) (x2 * 1117) rfl rfl rfl rfl rfl (by omega)) ?_)
    | (refine OpK.at 81 ?_; refine OpK.of (OpOk.mulN p 29 rfl rfl rfl (by omega) rfl (by omega)) ?_)
    | (refine OpD.at 81 ?_; refine OpD.of (OpOk.mulN p 29 rfl rfl rfl (by omega) rfl (by omega)) ?_)
    | (refine OpK.at 82 ?_; refine OpK.of (OpOk.addN (x1 * 131 + x2 * 1117) (p * 29) rfl rfl rfl rfl rfl (by omega)) ?_)
    | (refine OpD.at 82 ?_; refine OpD.of (OpOk.addN (x1 * 131 + x2 * 1117) (p * 29) rfl rfl rfl rfl rfl (by omega)) ?_)
    | (refine OpK.at 89 ?_; refine OpK.of (OpOk.quoN p bs.length rfl rfl rfl (by omega) rfl (by omega) (by omega)) ?_)
    | (refine OpD.at 89 ?_; refine OpD.of (OpOk.quoN p bs.length rfl rfl rfl (by omega) rfl (by omega) (by omega)) ?_)
    | (refine OpK.at 90 ?_; refine OpK.of (OpOk.mulN (p / bs.length) 53 rfl rfl rfl rfl rfl (by omega)) ?_)
    | (refine OpD.at 90 ?_; refine OpD.of (OpOk.mulN (p / bs.length) 53 rfl rfl rfl rfl rfl (by omega)) ?_)
    | (refine OpK.at 91 ?_; refine OpK.of (OpOk.addN (x1 * 131 + x2 * 1117 + p * 29) (p / bs.length * 53) rfl rfl rfl rfl rfl (by omega)) ?_)
    | (refine OpD.at 91 ?_; refine OpD.of (OpOk.addN (x1 * 131 + x2 * 1117 + p * 29) (p / bs.length * 53) rfl rfl rfl rfl rfl (by omega)) ?_)
    | (refine OpK.at 94 ?_; refine OpK.of (OpOk.quoN y 64 rfl rfl rfl (by omega) rfl (by omega) (by omega)) ?_)
    | (refine OpD.at 94 ?_; refine OpD.of (OpOk.quoN y 64 rfl rfl rfl (by omega) rfl (by omega) (by omega)) ?_)
    | (refine OpK.at 95 ?_; refine OpK.of (OpOk.xorN y (y / 64) rfl rfl rfl (by omega) rfl hyl hyd) ?_)
    | (refine OpD.at 95 ?_; refine OpD.of (OpOk.xorN y (y / 64) rfl rfl rfl (by omega) rfl hyl hyd) ?_)
    | (refine OpK.at 98 ?_; refine OpK.of (OpOk.remN (y ^^^ (y / 64)) n.toNat rfl rfl rfl rfl (by omega) (by omega)) ?_)
    | (refine OpD.at 98 ?_; refine OpD.of (OpOk.remN (y ^^^ (y / 64)) n.toNat rfl rfl rfl rfl (by omega) (by omega)) ?_)
    | refine goO ?_
    | refine goN ?_
    | (refine WO.gs _ rfl rfl rfl ?_ ?_ <;> intro hb <;> simp only [hb] <;> (try simp at hb) <;> (try contradiction) <;> (try (exfalso; omega)))
    | (refine WD.gs _ rfl rfl rfl ?_ ?_ <;> intro hb <;> simp only [hb] <;> (try simp at hb) <;> (try contradiction) <;> (try (exfalso; omega))))
    all_goals first
      | (exfalso; omega)
      | (first | refine Ro.c1 (.inr rfl) [0] rfl (by decide) (kp rfl) ?_ ?_ | refine Ro.a1 (.inr rfl) [0] rfl (by decide) (kp rfl) ?_ ?_ | refine Ro.t1 (.inr rfl) [0] rfl (by decide) (kp rfl) ?_ ?_ rfl); (repeat' (first | exact .nil | refine .cons rfl ?_ ?_ | refine .cons ?_ ?_ | refine .c ?_ | refine .ag ?_ | refine .box ?_ | exact .arr (rs_low _ _ _) | exact .dead | exact .id rfl | exact .sl rfl | exact .ptr rfl | exact .ap rfl | exact .emp | exact .full rfl rfl rfl rfl rfl | fail))
theorem odd_ex {bs : List UInt8} {p : Nat} (ro : Rok bs p) (n : Int) (hn : n ≤ 1000) : ∃ b p', p ≤ p' ∧ p' ≤ p + 1 ∧ (n ≤ 0 → b = false) ∧ Po Try.prog 118 [Rp, I n] (rdH bs p) (B b) (rdH bs p') := by
  by_cases h1 : n ≤ 0
  · refine ⟨false, p, Nat.le_refl _, by omega, fun _ => rfl, ?_⟩
    refine Po.of D Try.func118 rfl rfl rfl ?_
    repeat' (first
    | (refine W.cond rfl ?_ ?_ <;> intro hb <;> (try simp at hb) <;> (try contradiction) <;> (try (exfalso; omega)))
    | refine goO ?_
    | refine goN ?_
    | (refine WO.gs _ rfl rfl rfl ?_ ?_ <;> intro hb <;> simp only [hb] <;> (try simp at hb) <;> (try contradiction) <;> (try (exfalso; omega))))
    all_goals first
      | (exfalso; omega)
      | (first | refine Ro.c1 (.inr rfl) [0] rfl (by decide) (kp rfl) ?_ ?_ | refine Ro.a1 (.inr rfl) [0] rfl (by decide) (kp rfl) ?_ ?_ | refine Ro.t1 (.inr rfl) [0] rfl (by decide) (kp rfl) ?_ ?_ rfl); (repeat' (first | exact .nil | refine .cons rfl ?_ ?_ | refine .cons ?_ ?_ | refine .c ?_ | refine .ag ?_ | refine .box ?_ | exact .arr (rs_low _ _ _) | exact .dead | exact .id rfl | exact .sl rfl | exact .ptr rfl | exact .ap rfl | exact .emp | exact .full rfl rfl rfl rfl rfl | fail))
  · obtain ⟨k, k1, k2, e⟩ := pick_ex ro n hn
    refine ⟨((k : Int) == n - 1), p + 1, by omega, Nat.le_refl _, fun h => by omega, ?_⟩
    refine Po.of D Try.func118 rfl rfl rfl ?_
    repeat' (first
    | (refine W.cond rfl ?_ ?_ <;> intro hb <;> (try simp at hb) <;> (try contradiction) <;> (try (exfalso; omega)))
    | refine co [0] (e) ?_
    | refine goO ?_
    | refine goN ?_
    | (refine WO.gs _ rfl rfl rfl ?_ ?_ <;> intro hb <;> simp only [hb] <;> (try simp at hb) <;> (try contradiction) <;> (try (exfalso; omega))))
    all_goals first
      | (exfalso; omega)
      | (first | refine Ro.c1 (.inr rfl) [0] rfl (by decide) (kp rfl) ?_ ?_ | refine Ro.a1 (.inr rfl) [0] rfl (by decide) (kp rfl) ?_ ?_ | refine Ro.t1 (.inr rfl) [0] rfl (by decide) (kp rfl) ?_ ?_ rfl); (repeat' (first | exact .nil | refine .cons rfl ?_ ?_ | refine .cons ?_ ?_ | refine .c ?_ | refine .ag ?_ | refine .box ?_ | exact .arr (rs_low _ _ _) | exact .dead | exact .id rfl | exact .sl rfl | exact .ptr rfl | exact .ap rfl | exact .emp | exact .full rfl rfl rfl rfl rfl | fail))
/-- Rounds, one after the other, each of which is known to go on. -/
theorem iter_ex {σ : Type} (ok : Nat → σ → Prop) (R : Nat → σ → σ → Prop) (h : ∀ j s, ok j s → ∃ s', R j s s' ∧ ok (j + 1) s') (s0 : σ) (h0 : ok 0 s0) : ∃ f : Nat → σ, f 0 = s0 ∧ ∀ j, ok j (f j) ∧ R j (f j) (f (j + 1)) := by
  let F : Nat → { x : Nat × σ // ok x.1 x.2 } := fun k => Nat.rec ⟨(0, s0), h0⟩ (fun _ x => ⟨(x.1.1 + 1, Classical.choose (h x.1.1 x.1.2 x.2)), (Classical.choose_spec (h x.1.1 x.1.2 x.2)).2⟩) k
  have hF : ∀ k, (F k).1.1 = k := by
    intro k
    induction k with
    | zero => rfl
    | succ k ih => show (F k).1.1 + 1 = k + 1; rw [ih]
  refine ⟨fun k => (F k).1.2, rfl, fun k => ?_⟩
  have h1 := (F k).2
  have h2 := (Classical.choose_spec (h (F k).1.1 (F k).1.2 (F k).2)).1
  rw [hF k] at h1
  refine ⟨h1, ?_⟩
  show R k (F k).1.2 (Classical.choose (h (F k).1.1 (F k).1.2 (F k).2))
  have h3 := hF k
  generalize F k = x at h2 h3 ⊢
  obtain ⟨⟨a, b⟩, c⟩ := x
  dsimp only at h3 h2 ⊢
  subst h3
  exact h2
end Go.YtamlleimfopmhaaMc

namespace Go.YtamlleimfopmhaaMc
open Go.Proofs
/-! ### Draws: values, keys, commands -/
def eS (s : List UInt8) : List T := [.s s]
theorem mem_all {α : Type} {p : α → Prop} {l : List α} (h : ∀ x ∈ l, p x) (k : Nat) (hk : k < l.length) : p l[k] := h _ (List.getElem_mem hk)
theorem value_ex {bs : List UInt8} {p : Nat} (ro : Rok bs p) (hq : p + 4 ≤ 1099511627776) (n : Int) (hn : n ≤ 1000) : ∃ (v : Int) (p' : Nat), p ≤ p' ∧ p' ≤ p + 4 ∧ (n ≤ 0 → 0 ≤ v ∧ v ≤ 999) ∧ (-1 ≤ v ∧ v ≤ 1000) ∧ Po Try.prog 120 [Rp, I n] (rdH bs p) (I v) (rdH bs p') := by
  obtain ⟨b, p1, a1, a2, a3, eo⟩ := odd_ex ro n hn
  have r1 : Rok bs p1 := ⟨ro.b, by omega⟩
  cases b with
  | true =>
    obtain ⟨k, k1, _, e1⟩ := pick_ex r1 2 (by omega)
    have hk : k < ([-1, 1000] : List Int).length := by have := k1 (by omega); simp; omega
    refine ⟨([-1, 1000] : List Int)[k], p1 + 1, by omega, by omega, fun h => absurd (a3 h) (by decide), mem_all (p := fun v => -1 ≤ v ∧ v ≤ 1000) (by decide) k hk, ?_⟩
    refine Po.of D Try.func120 rfl rfl rfl ?_
    repeat' (first
    | (refine W.cond rfl ?_ ?_ <;> intro hb <;> (try simp at hb) <;> try contradiction)
    | (refine OpK.at 7 ?_; refine co [0] (eo) ?_)
    | (refine OpK.at 10 ?_; refine co [0] (e1) ?_)
    | refine OpK.of (OpOk.bldF D [-1, 1000] eI rfl rfl rfl rfl (by decide) (by decide) (by decide) rfl rfl rfl) ?_
    | (refine OpK.at 11 ?_; refine OpK.of (OpOk.ixM D rfl rfl rfl rfl rfl rfl hk (fun _ => rfl)) ?_)
    | refine goO ?_
    | refine goN ?_
    | (refine WO.gs _ rfl rfl rfl ?_ ?_ <;> intro hb <;> simp only [hb] <;> (try simp at hb) <;> try contradiction))
    all_goals (first | refine Ro.c1 (.inr rfl) [0] rfl (by decide) (kp rfl) ?_ ?_ | refine Ro.a1 (.inr rfl) [0] rfl (by decide) (kp rfl) ?_ ?_ | refine Ro.t1 (.inr rfl) [0] rfl (by decide) (kp rfl) ?_ ?_ rfl); (repeat' (first | exact .nil | refine .cons rfl ?_ ?_ | refine .cons ?_ ?_ | refine .c ?_ | refine .ag ?_ | refine .box ?_ | exact .arr (rs_low _ _ _) | exact .dead | exact .id rfl | exact .sl rfl | exact .ptr rfl | exact .ap rfl | exact .emp | exact .full rfl rfl rfl rfl rfl | fail))
  | false =>
    obtain ⟨k, k1, _, e1⟩ := pick_ex r1 20 (by omega)
    obtain ⟨q, q1, _, e2⟩ := pick_ex (p := p1 + 1) ⟨ro.b, by omega⟩ 9 (by omega)
    have hk : q / 8 < ([(k : Int), 999] : List Int).length := by have := q1 (by omega); simp; omega
    have hx : ∀ x ∈ ([(k : Int), 999] : List Int), 0 ≤ x ∧ x ≤ 999 := by intro x hx; have := k1 (by omega); simp at hx; omega
    have hv := mem_all hx (q / 8) hk
    have hql := q1 (by omega)
    refine ⟨([(k : Int), 999] : List Int)[q / 8], p1 + 1 + 1, by omega, by omega, fun _ => hv, by omega, ?_⟩
    refine Po.of D Try.func120 rfl rfl rfl ?_
    repeat' (first
    | (refine W.cond rfl ?_ ?_ <;> intro hb <;> (try simp at hb) <;> try contradiction)
    | (refine OpK.at 7 ?_; refine co [0] (eo) ?_)
    | (refine OpK.at 14 ?_; refine co [0] (e1) ?_)
    | (refine OpK.at 17 ?_; refine co [0] (e2) ?_)
    | refine OpK.of (OpOk.bldF D [(k : Int), 999] eI rfl rfl rfl rfl (by decide) (by decide) (by decide) rfl rfl rfl) ?_
    | (refine OpK.at 18 ?_; refine OpK.of (OpOk.quoN q 8 rfl rfl rfl rfl rfl (by decide) (by omega)) ?_)
    | (refine OpK.at 19 ?_; refine OpK.of (OpOk.ixM D rfl rfl rfl rfl rfl rfl hk (fun _ => rfl)) ?_)
    | refine goO ?_
    | refine goN ?_
    | (refine WO.gs _ rfl rfl rfl ?_ ?_ <;> intro hb <;> simp only [hb] <;> (try simp at hb) <;> try contradiction))
    all_goals (first | refine Ro.c1 (.inr rfl) [0] rfl (by decide) (kp rfl) ?_ ?_ | refine Ro.a1 (.inr rfl) [0] rfl (by decide) (kp rfl) ?_ ?_ | refine Ro.t1 (.inr rfl) [0] rfl (by decide) (kp rfl) ?_ ?_ rfl); (repeat' (first | exact .nil | refine .cons rfl ?_ ?_ | refine .cons ?_ ?_ | refine .c ?_ | refine .ag ?_ | refine .box ?_ | exact .arr (rs_low _ _ _) | exact .dead | exact .id rfl | exact .sl rfl | exact .ptr rfl | exact .ap rfl | exact .emp | exact .full rfl rfl rfl rfl rfl | fail))
theorem letter_k (k : Nat) (h : k < 4) : letter (UInt8.ofNat (97 + k)) = true := by
  have : (UInt8.ofNat (97 + k)).toNat = 97 + k := by rw [UInt8.toNat_ofNat']; omega
  simp [letter, this]; omega
theorem u8_let (k : Nat) (h : k < 4) : IntKind.u8.wrap ((97 + k : Nat) : Int) = ((UInt8.ofNat (97 + k)).toNat : Int) := by
  rw [wrap_u8 (by omega) (by omega), UInt8.toNat_ofNat']; omega
theorem key_ex {bs : List UInt8} {p : Nat} (ro : Rok bs p) (hq : p + 10 ≤ 1099511627776) (n : Int) (hn : n ≤ 1000) : ∃ (s : List UInt8) (p' : Nat), p ≤ p' ∧ p' ≤ p + 10 ∧ (n ≤ 0 → keyOk s = true) ∧ s.length ≤ 5 ∧ Po Try.prog 84 [Rp, I n] (rdH bs p) (Sx s) (rdH bs p') := by
  obtain ⟨b, p1, a1, a2, a3, eo⟩ := odd_ex ro n hn
  have r1 : Rok bs p1 := ⟨ro.b, by omega⟩
  cases b with
  | true =>
    obtain ⟨k, k1, _, e1⟩ := pick_ex r1 6 (by omega)
    have hk : k < ([[], [65], [97, 49], [97, 98, 99, 100, 101], [98, 123], [97, 32, 98]] : List (List UInt8)).length := by have := k1 (by omega); simp; omega
    refine ⟨([[], [65], [97, 49], [97, 98, 99, 100, 101], [98, 123], [97, 32, 98]] : List (List UInt8))[k], p1 + 1, by omega, by omega, fun h => absurd (a3 h) (by decide), mem_all (p := fun s => s.length ≤ 5) (by decide) k hk, ?_⟩
    refine Po.of D Try.func84 rfl rfl rfl ?_
    repeat' (first
    | (refine W.cond rfl ?_ ?_ <;> intro hb <;> (try simp at hb) <;> try contradiction)
    | (refine OpK.at 9 ?_; refine co [0] (eo) ?_)
    | (refine OpK.at 12 ?_; refine co [0] (e1) ?_)
    | refine OpK.of (OpOk.bldF D [[], [65], [97, 49], [97, 98, 99, 100, 101], [98, 123], [97, 32, 98]] eS rfl rfl rfl rfl (by decide) (by decide) (by decide) rfl rfl rfl) ?_
    | (refine OpK.at 13 ?_; refine OpK.of (OpOk.ixM D rfl rfl rfl rfl rfl rfl hk (fun _ => rfl)) ?_)
    | refine goO ?_
    | refine goN ?_
    | (refine WO.gs _ rfl rfl rfl ?_ ?_ <;> intro hb <;> simp only [hb] <;> (try simp at hb) <;> try contradiction))
    all_goals (first | refine Ro.c1 (.inr rfl) [0] rfl (by decide) (kp rfl) ?_ ?_ | refine Ro.a1 (.inr rfl) [0] rfl (by decide) (kp rfl) ?_ ?_ | refine Ro.t1 (.inr rfl) [0] rfl (by decide) (kp rfl) ?_ ?_ rfl); (repeat' (first | exact .nil | refine .cons rfl ?_ ?_ | refine .cons ?_ ?_ | refine .c ?_ | refine .ag ?_ | refine .box ?_ | exact .arr (rs_low _ _ _) | exact .dead | exact .id rfl | exact .sl rfl | exact .ptr rfl | exact .ap rfl | exact .emp | exact .full rfl rfl rfl rfl rfl | fail))
  | false =>
    obtain ⟨k, k1, _, e1⟩ := pick_ex r1 12 (by omega)
    by_cases h11 : (k : Int) = 11
    · obtain ⟨q, q1, _, e2⟩ := pick_ex (p := p1 + 1) ⟨ro.b, by omega⟩ 5 (by omega)
      have hk : q < ([[122, 122, 122, 122], [122, 122, 122], [97, 122, 122, 122], [122], [97, 97, 97, 97]] : List (List UInt8)).length := by have := q1 (by omega); simp; omega
      refine ⟨([[122, 122, 122, 122], [122, 122, 122], [97, 122, 122, 122], [122], [97, 97, 97, 97]] : List (List UInt8))[q], p1 + 1 + 1, by omega, by omega, fun _ => mem_all (p := fun s => keyOk s = true) (by decide) q hk, mem_all (p := fun s => s.length ≤ 5) (by decide) q hk, ?_⟩
      refine Po.of D Try.func84 rfl rfl rfl ?_
      repeat' (first
    | (refine W.cond rfl ?_ ?_ <;> intro hb <;> (try simp at hb) <;> (try contradiction) <;> (try (exfalso; omega)))
    | (refine OpK.at 9 ?_; refine co [0] (eo) ?_)
    | (refine OpK.at 16 ?_; refine co [0] (e1) ?_)
    | (refine OpK.at 20 ?_; refine co [0] (e2) ?_)
    | refine OpK.of (OpOk.bldF D [[122, 122, 122, 122], [122, 122, 122], [97, 122, 122, 122], [122], [97, 97, 97, 97]] eS rfl rfl rfl rfl (by decide) (by decide) (by decide) rfl rfl rfl) ?_
    | (refine OpK.at 21 ?_; refine OpK.of (OpOk.ixM D rfl rfl rfl rfl rfl rfl hk (fun _ => rfl)) ?_)
    | refine goO ?_
    | refine goN ?_
    | (refine WO.gs _ rfl rfl rfl ?_ ?_ <;> intro hb <;> simp only [hb] <;> (try simp at hb) <;> (try contradiction) <;> (try (exfalso; omega))))
      all_goals first
        | (exfalso; omega)
        | (first | refine Ro.c1 (.inr rfl) [0] rfl (by decide) (kp rfl) ?_ ?_ | refine Ro.a1 (.inr rfl) [0] rfl (by decide) (kp rfl) ?_ ?_ | refine Ro.t1 (.inr rfl) [0] rfl (by decide) (kp rfl) ?_ ?_ rfl); (repeat' (first | exact .nil | refine .cons rfl ?_ ?_ | refine .cons ?_ ?_ | refine .c ?_ | refine .ag ?_ | refine .box ?_ | exact .arr (rs_low _ _ _) | exact .dead | exact .id rfl | exact .sl rfl | exact .ptr rfl | exact .ap rfl | exact .emp | exact .full rfl rfl rfl rfl rfl | fail))
    · obtain ⟨q, q1, _, e2⟩ := pick_ex (p := p1 + 1) ⟨ro.b, by omega⟩ 2 (by omega)
      have hql := q1 (by omega)
      -- the letters, one after the other
      obtain ⟨f, f0, fs⟩ := iter_ex (σ := List UInt8 × Nat) (fun j s => j ≤ 2 → s.1.length = j ∧ s.1.all letter = true ∧ s.2 = p1 + 2 + j)
        (fun j s s' => j < 2 → ∃ k : Nat, k < 4 ∧ s' = (s.1 ++ [UInt8.ofNat (97 + k)], s.2 + 1) ∧ Po Try.prog 63 [Rp, I 4] (rdH bs s.2) (I k) (rdH bs (s.2 + 1)))
        (fun j s hs => by
          by_cases hj : j < 2
          · obtain ⟨b1, b2, b3⟩ := hs (by omega)
            obtain ⟨k, k1, _, e⟩ := pick_ex (p := s.2) ⟨ro.b, by omega⟩ 4 (by omega)
            have hk := k1 (by omega)
            exact ⟨(s.1 ++ [UInt8.ofNat (97 + k)], s.2 + 1), fun _ => ⟨k, by omega, rfl, e⟩, fun _ => ⟨by simp [b1], by rw [List.all_append, b2, Bool.true_and, List.all_cons, List.all_nil, Bool.and_true]; exact letter_k k (by omega), by dsimp only; omega⟩⟩
          · exact ⟨s, fun h => (hj h).elim, fun h => by omega⟩) ([], p1 + 2) (fun _ => ⟨rfl, rfl, rfl⟩)
      obtain ⟨g1, g2, g3⟩ := (fs (1 + q)).1 (by omega)
      refine ⟨(f (1 + q)).1, (f (1 + q)).2, by omega, by omega, fun _ => by simp only [keyOk, g1, g2]; simp; omega, by omega, ?_⟩
      refine Po.of D Try.func84 rfl rfl rfl ?_
      repeat' (first
    | (refine W.cond rfl ?_ ?_ <;> intro hb <;> (try simp at hb) <;> (try contradiction) <;> (try (exfalso; omega)))
    | (refine OpK.at 9 ?_; refine co [0] (eo) ?_)
    | (refine OpK.at 16 ?_; refine co [0] (e1) ?_)
    | (refine OpK.at 24 ?_; refine co [0] (e2) ?_)
    | refine goO ?_
    | refine goN ?_
    | (refine WO.gs _ rfl rfl rfl ?_ ?_ <;> intro hb <;> simp only [hb] <;> (try simp at hb) <;> (try contradiction) <;> (try (exfalso; omega))))
      all_goals first
        | (exfalso; omega)
        | skip
      obtain ⟨m, hm⟩ : ∃ m : Nat, 1 + (q : Int) = (m : Int) := ⟨1 + q, by omega⟩
      have hmq : m = 1 + q := by omega
      simp only [hm]
      rw [← hmq]
      refine W.loop (σ := Nat) (fun j => [(6, I ((m - j : Nat) : Int)), (5, Sx (f j).1), (0, Rp)]) (fun j => rdH bs (f j).2) (fun j => j ≤ m) (fun j => m - j) 1 (fun _ _ => rfl) 0 (by omega) (by rw [f0]) (by rw [f0]; exact (.cons rfl rfl (.cons rfl rfl (.cons rfl rfl (.nil))))) ?_
      intro j hj
      by_cases hjm : j < m
      · obtain ⟨k, hk, g5, e3⟩ := (fs j).2 (by omega)
        have hlen := ((fs j).1 (by omega)).1
        have e5 : f (j + 1) = ((f j).1 ++ [UInt8.ofNat (97 + k)], (f j).2 + 1) := g5
        repeat' (first
    | (refine W.cond rfl ?_ ?_ <;> intro hb <;> (try simp at hb) <;> (try contradiction) <;> (try (exfalso; omega)))
    | (refine OpK.at 32 ?_; refine co [0] (e3) ?_)
    | (refine OpK.at 33 ?_; refine OpK.of (OpOk.addN 97 k rfl rfl rfl rfl rfl (by omega)) ?_)
    | (refine OpK.at 34 ?_; refine OpK.of (OpOk.i2i D rfl rfl rfl rfl rfl rfl) ?_)
    | (refine OpK.at 35 ?_; refine OpK.of (OpOk.bldS D rfl rfl rfl rfl (by decide) (by decide) (by decide) rfl rfl) ?_)
    | (refine OpK.at 36 ?_; refine OpK.of (OpOk.b2s D [UInt8.ofNat (97 + k)] rfl rfl rfl rfl rfl rfl rfl rfl rfl (by simp only [List.map_cons, List.map_nil, ← u8_let k hk]; rfl)) ?_)
    | (refine OpK.at 37 ?_; refine OpK.of (OpOk.sadd rfl rfl rfl (by simp; omega)) ?_)
    | refine goO ?_
    | refine goN ?_
    | (refine WO.gs _ rfl rfl rfl ?_ ?_ <;> intro hb <;> simp only [hb] <;> (try simp at hb) <;> (try contradiction) <;> (try (exfalso; omega))))
        all_goals first
          | (exfalso; omega)
          | (refine ⟨j + 1, by omega, by omega, ?_, ?_, rfl⟩
             · rw [e5, show (((m - (j + 1) : Nat)) : Int) = ((m - j : Nat) : Int) - 1 by omega]; exact (.cons rfl rfl (.cons rfl rfl (.cons rfl rfl (.nil))))
             · rw [e5]; rfl)
      · have hjm : j = m := by omega
        subst hjm
        repeat' (first
    | (refine W.cond rfl ?_ ?_ <;> intro hb <;> (try simp at hb) <;> (try contradiction) <;> (try (exfalso; omega)))
    | refine goO ?_
    | refine goN ?_
    | (refine WO.gs _ rfl rfl rfl ?_ ?_ <;> intro hb <;> simp only [hb] <;> (try simp at hb) <;> (try contradiction) <;> (try (exfalso; omega))))
        all_goals first
          | (exfalso; omega)
          | (first | refine Ro.c1 (.inr rfl) [0] rfl (by decide) (kp rfl) ?_ ?_ | refine Ro.a1 (.inr rfl) [0] rfl (by decide) (kp rfl) ?_ ?_ | refine Ro.t1 (.inr rfl) [0] rfl (by decide) (kp rfl) ?_ ?_ rfl); (repeat' (first | exact .nil | refine .cons rfl ?_ ?_ | refine .cons ?_ ?_ | refine .c ?_ | refine .ag ?_ | refine .box ?_ | exact .arr (rs_low _ _ _) | exact .dead | exact .id rfl | exact .sl rfl | exact .ptr rfl | exact .ap rfl | exact .emp | exact .full rfl rfl rfl rfl rfl | fail))
end Go.YtamlleimfopmhaaMc

namespace Go.YtamlleimfopmhaaMc
open Go.Proofs
/-! ### Draws: commands, spans -/
theorem keyOk_ln {k : List UInt8} (h : keyOk k = true) : k.length ≤ 4 := by
  simp only [keyOk, Bool.and_eq_true, decide_eq_true_eq] at h; exact h.1.2
theorem get_ok {s : List UInt8} (h : keyOk s = true) : cmdOk ⟨1, s, 0, 0⟩ = true := by simp [cmdOk, h]
theorem drop_ok {s : List UInt8} (h : keyOk s = true) : cmdOk ⟨3, s, 0, 0⟩ = true := by simp [cmdOk, h]
theorem put_ok {s : List UInt8} (h : keyOk s = true) {v : Int} (hv : 0 ≤ v ∧ v ≤ 999) : cmdOk ⟨2, s, v, 0⟩ = true := by simp [cmdOk, h, inR, hv]
theorem swap_ok {s : List UInt8} (h : keyOk s = true) {v w : Int} (hv : 0 ≤ v ∧ v ≤ 999) (hw : -1 ≤ w ∧ w ≤ 999) : cmdOk ⟨4, s, v, w⟩ = true := by simp [cmdOk, h, inR, hv, hw]
theorem seal_ok {s : List UInt8} (h : keyOk s = true ∨ s = []) : cmdOk ⟨5, s, 0, 0⟩ = true := by rcases h with h | h <;> simp [cmdOk, h]
set_option maxHeartbeats 8000000 in
theorem cmd_ex {bs : List UInt8} {p : Nat} (ro : Rok bs p) (hq : p + 30 ≤ 1099511627776) (n : Int) (hn : n ≤ 1000) : ∃ (c : Cmd) (p' : Nat), p ≤ p' ∧ p' ≤ p + 30 ∧ (n ≤ 0 → cmdOk c = true ∧ c.kind ≠ 5) ∧ c.key.length ≤ 5 ∧ Po Try.prog 67 [Rp, I n] (rdH bs p) (A c.e) (rdH bs p') := by
  obtain ⟨b, p1, a1, a2, a3, eo⟩ := odd_ex ro n hn
  have r1 : Rok bs p1 := ⟨ro.b, by omega⟩
  cases b with
  | true =>
    obtain ⟨k, k1, _, e1⟩ := pick_ex r1 10 (by omega)
    have hk : k < ([⟨0, [], 0, 0⟩, ⟨1, [], 0, 0⟩, ⟨1, [98], 1, 0⟩, ⟨2, [98], 1000, 0⟩, ⟨2, [98], 0, 1⟩, ⟨4, [98], 0, -2⟩, ⟨4, [98], -1, 0⟩, ⟨6, [98], 0, 0⟩, ⟨3, [65], 0, 0⟩, ⟨5, [98, 49], 0, 0⟩] : List Cmd).length := by have := k1 (by omega); simp; omega
    refine ⟨([⟨0, [], 0, 0⟩, ⟨1, [], 0, 0⟩, ⟨1, [98], 1, 0⟩, ⟨2, [98], 1000, 0⟩, ⟨2, [98], 0, 1⟩, ⟨4, [98], 0, -2⟩, ⟨4, [98], -1, 0⟩, ⟨6, [98], 0, 0⟩, ⟨3, [65], 0, 0⟩, ⟨5, [98, 49], 0, 0⟩] : List Cmd)[k], p1 + 1, by omega, by omega, fun h => absurd (a3 h) (by decide), mem_all (p := fun c : Cmd => c.key.length ≤ 5) (by decide) k hk, ?_⟩
    refine Po.of D Try.func67 rfl rfl rfl ?_
    repeat' (first
    | (refine W.cond rfl ?_ ?_ <;> intro hb <;> (try simp at hb) <;> try contradiction)
    | (refine OpK.at 8 ?_; refine co [0] (eo) ?_)
    | (refine OpK.at 21 ?_; refine co [0] (e1) ?_)
    | refine OpK.of (OpOk.bldF D [⟨0, [], 0, 0⟩, ⟨1, [], 0, 0⟩, ⟨1, [98], 1, 0⟩, ⟨2, [98], 1000, 0⟩, ⟨2, [98], 0, 1⟩, ⟨4, [98], 0, -2⟩, ⟨4, [98], -1, 0⟩, ⟨6, [98], 0, 0⟩, ⟨3, [65], 0, 0⟩, ⟨5, [98, 49], 0, 0⟩] Cmd.e rfl rfl rfl rfl (by decide) (by decide) (by decide) rfl rfl rfl) ?_
    | (refine OpK.at 22 ?_; refine OpK.of (OpOk.ixM D rfl rfl rfl rfl rfl rfl hk (fun _ => rfl)) ?_)
    | refine goO ?_
    | refine goN ?_
    | (refine WO.gs _ rfl rfl rfl ?_ ?_ <;> intro hb <;> simp only [hb] <;> (try simp at hb) <;> try contradiction))
    all_goals (first | refine Ro.c1 (.inr rfl) [0] rfl (by decide) (kp rfl) ?_ ?_ | refine Ro.a1 (.inr rfl) [0] rfl (by decide) (kp rfl) ?_ ?_ | refine Ro.t1 (.inr rfl) [0] rfl (by decide) (kp rfl) ?_ ?_ rfl); (repeat' (first | exact .nil | refine .cons rfl ?_ ?_ | refine .cons ?_ ?_ | refine .c ?_ | refine .ag ?_ | refine .box ?_ | exact .arr (rs_low _ _ _) | exact .dead | exact .id rfl | exact .sl rfl | exact .ptr rfl | exact .ap rfl | exact .emp | exact .full rfl rfl rfl rfl rfl | fail))
  | false =>
    obtain ⟨s0, p2, b1, b2, b3, b4, ek⟩ := key_ex r1 (by omega) 0 (by omega)
    have b3 := b3 (by omega)
    obtain ⟨k, k1, _, e1⟩ := pick_ex (p := p2) ⟨ro.b, by omega⟩ 2 (by omega)
    by_cases h0 : (k : Int) = 0
    · obtain ⟨q, q1, _, e2⟩ := pick_ex (p := p2 + 1) ⟨ro.b, by omega⟩ 4 (by omega)
      have hk : q < ([[98], [99], [100], [109]] : List (List UInt8)).length := by have := q1 (by omega); simp; omega
      have hs := mem_all (p := fun s => keyOk s = true) (by decide) q hk

      obtain ⟨z, z1, _, e3⟩ := pick_ex (p := p2 + 1 + 1) ⟨ro.b, by omega⟩ 8 (by omega)
      have z1 := z1 (by omega)
      by_cases g0 : (z : Int) = 0
      · refine ⟨⟨1, ([[98], [99], [100], [109]] : List (List UInt8))[q], 0, 0⟩, p2 + 1 + 1 + 1, by omega, by omega, fun _ => ⟨get_ok hs, by dsimp only; decide⟩, by have := keyOk_ln hs; dsimp only; omega, ?_⟩
        refine Po.of D Try.func67 rfl rfl rfl ?_
        repeat' (first
    | (refine W.cond rfl ?_ ?_ <;> intro hb <;> (try simp at hb) <;> (try contradiction) <;> (try (exfalso; omega)))
    | (refine OpK.at 8 ?_; refine co [0] (eo) ?_)
    | (refine OpK.at 25 ?_; refine co [0] (ek) ?_)
    | (refine OpK.at 27 ?_; refine co [0] (e1) ?_)
    | (refine OpK.at 31 ?_; refine co [0] (e2) ?_)
    | refine OpK.of (OpOk.bldF D [[98], [99], [100], [109]] eS rfl rfl rfl rfl (by decide) (by decide) (by decide) rfl rfl rfl) ?_
    | (refine OpK.at 32 ?_; refine OpK.of (OpOk.ixM D rfl rfl rfl rfl rfl rfl hk (fun _ => rfl)) ?_)
    | (refine OpK.at 35 ?_; refine co [0] (e3) ?_)
    | refine goO ?_
    | refine goN ?_
    | (refine WO.gs _ rfl rfl rfl ?_ ?_ <;> intro hb <;> simp only [hb] <;> (try simp at hb) <;> (try contradiction) <;> (try (exfalso; omega))))
        all_goals first
          | (exfalso; omega)
          | (first | refine Ro.c1 (.inr rfl) [0] rfl (by decide) (kp rfl) ?_ ?_ | refine Ro.a1 (.inr rfl) [0] rfl (by decide) (kp rfl) ?_ ?_ | refine Ro.t1 (.inr rfl) [0] rfl (by decide) (kp rfl) ?_ ?_ rfl); (repeat' (first | exact .nil | refine .cons rfl ?_ ?_ | refine .cons ?_ ?_ | refine .c ?_ | refine .ag ?_ | refine .box ?_ | exact .arr (rs_low _ _ _) | exact .dead | exact .id rfl | exact .sl rfl | exact .ptr rfl | exact .ap rfl | exact .emp | exact .full rfl rfl rfl rfl rfl | fail))
      by_cases g1 : (z : Int) = 1
      · refine ⟨⟨3, ([[98], [99], [100], [109]] : List (List UInt8))[q], 0, 0⟩, p2 + 1 + 1 + 1, by omega, by omega, fun _ => ⟨drop_ok hs, by dsimp only; decide⟩, by have := keyOk_ln hs; dsimp only; omega, ?_⟩
        refine Po.of D Try.func67 rfl rfl rfl ?_
        repeat' (first
    | (refine W.cond rfl ?_ ?_ <;> intro hb <;> (try simp at hb) <;> (try contradiction) <;> (try (exfalso; omega)))
    | (refine OpK.at 8 ?_; refine co [0] (eo) ?_)
    | (refine OpK.at 25 ?_; refine co [0] (ek) ?_)
    | (refine OpK.at 27 ?_; refine co [0] (e1) ?_)
    | (refine OpK.at 31 ?_; refine co [0] (e2) ?_)
    | refine OpK.of (OpOk.bldF D [[98], [99], [100], [109]] eS rfl rfl rfl rfl (by decide) (by decide) (by decide) rfl rfl rfl) ?_
    | (refine OpK.at 32 ?_; refine OpK.of (OpOk.ixM D rfl rfl rfl rfl rfl rfl hk (fun _ => rfl)) ?_)
    | (refine OpK.at 35 ?_; refine co [0] (e3) ?_)
    | refine goO ?_
    | refine goN ?_
    | (refine WO.gs _ rfl rfl rfl ?_ ?_ <;> intro hb <;> simp only [hb] <;> (try simp at hb) <;> (try contradiction) <;> (try (exfalso; omega))))
        all_goals first
          | (exfalso; omega)
          | (first | refine Ro.c1 (.inr rfl) [0] rfl (by decide) (kp rfl) ?_ ?_ | refine Ro.a1 (.inr rfl) [0] rfl (by decide) (kp rfl) ?_ ?_ | refine Ro.t1 (.inr rfl) [0] rfl (by decide) (kp rfl) ?_ ?_ rfl); (repeat' (first | exact .nil | refine .cons rfl ?_ ?_ | refine .cons ?_ ?_ | refine .c ?_ | refine .ag ?_ | refine .box ?_ | exact .arr (rs_low _ _ _) | exact .dead | exact .id rfl | exact .sl rfl | exact .ptr rfl | exact .ap rfl | exact .emp | exact .full rfl rfl rfl rfl rfl | fail))
      by_cases g2 : (z : Int) = 2
      · obtain ⟨u, u1, _, e4⟩ := pick_ex (p := p2 + 1 + 1 + 1) ⟨ro.b, by omega⟩ 5 (by omega)
        obtain ⟨w, w1, _, e5⟩ := pick_ex (p := p2 + 1 + 1 + 1 + 1) ⟨ro.b, by omega⟩ 5 (by omega)
        have u1 := u1 (by omega)
        have w1 := w1 (by omega)
        refine ⟨⟨4, ([[98], [99], [100], [109]] : List (List UInt8))[q], w, (u : Int) - 1⟩, p2 + 1 + 1 + 1 + 1 + 1, by omega, by omega, fun _ => ⟨swap_ok hs (by omega) (by omega), by dsimp only; decide⟩, by have := keyOk_ln hs; dsimp only; omega, ?_⟩
        refine Po.of D Try.func67 rfl rfl rfl ?_
        repeat' (first
    | (refine W.cond rfl ?_ ?_ <;> intro hb <;> (try simp at hb) <;> (try contradiction) <;> (try (exfalso; omega)))
    | (refine OpK.at 8 ?_; refine co [0] (eo) ?_)
    | (refine OpK.at 25 ?_; refine co [0] (ek) ?_)
    | (refine OpK.at 27 ?_; refine co [0] (e1) ?_)
    | (refine OpK.at 31 ?_; refine co [0] (e2) ?_)
    | refine OpK.of (OpOk.bldF D [[98], [99], [100], [109]] eS rfl rfl rfl rfl (by decide) (by decide) (by decide) rfl rfl rfl) ?_
    | (refine OpK.at 32 ?_; refine OpK.of (OpOk.ixM D rfl rfl rfl rfl rfl rfl hk (fun _ => rfl)) ?_)
    | (refine OpK.at 35 ?_; refine co [0] (e3) ?_)
    | (refine OpK.at 48 ?_; refine co [0] (e4) ?_)
    | (refine OpK.at 51 ?_; refine co [0] (e5) ?_)
    | refine goO ?_
    | refine goN ?_
    | (refine WO.gs _ rfl rfl rfl ?_ ?_ <;> intro hb <;> simp only [hb] <;> (try simp at hb) <;> (try contradiction) <;> (try (exfalso; omega))))
        all_goals first
          | (exfalso; omega)
          | (first | refine Ro.c1 (.inr rfl) [0] rfl (by decide) (kp rfl) ?_ ?_ | refine Ro.a1 (.inr rfl) [0] rfl (by decide) (kp rfl) ?_ ?_ | refine Ro.t1 (.inr rfl) [0] rfl (by decide) (kp rfl) ?_ ?_ rfl); (repeat' (first | exact .nil | refine .cons rfl ?_ ?_ | refine .cons ?_ ?_ | refine .c ?_ | refine .ag ?_ | refine .box ?_ | exact .arr (rs_low _ _ _) | exact .dead | exact .id rfl | exact .sl rfl | exact .ptr rfl | exact .ap rfl | exact .emp | exact .full rfl rfl rfl rfl rfl | fail))
      obtain ⟨v, p4, v1, v2, v3, _, e6⟩ := value_ex (p := p2 + 1 + 1 + 1) ⟨ro.b, by omega⟩ (by omega) 0 (by omega)
      have v3 := v3 (by omega)
      have v4 := Nat.mod_lt v.toNat (show 0 < 1000 by decide)
      refine ⟨⟨2, ([[98], [99], [100], [109]] : List (List UInt8))[q], ((v.toNat % 1000 : Nat) : Int), 0⟩, p4, by omega, by omega, fun _ => ⟨put_ok hs (by omega), by dsimp only; decide⟩, by have := keyOk_ln hs; dsimp only; omega, ?_⟩
      refine Po.of D Try.func67 rfl rfl rfl ?_
      repeat' (first
    | (refine W.cond rfl ?_ ?_ <;> intro hb <;> (try simp at hb) <;> (try contradiction) <;> (try (exfalso; omega)))
    | (refine OpK.at 8 ?_; refine co [0] (eo) ?_)
    | (refine OpK.at 25 ?_; refine co [0] (ek) ?_)
    | (refine OpK.at 27 ?_; refine co [0] (e1) ?_)
    | (refine OpK.at 31 ?_; refine co [0] (e2) ?_)
    | refine OpK.of (OpOk.bldF D [[98], [99], [100], [109]] eS rfl rfl rfl rfl (by decide) (by decide) (by decide) rfl rfl rfl) ?_
    | (refine OpK.at 32 ?_; refine OpK.of (OpOk.ixM D rfl rfl rfl rfl rfl rfl hk (fun _ => rfl)) ?_)
    | (refine OpK.at 35 ?_; refine co [0] (e3) ?_)
    | (refine OpK.at 55 ?_; refine co [0] (e6) ?_)
    | (refine OpK.at 56 ?_; refine OpK.of (OpOk.remN v.toNat 1000 rfl rfl rfl (by omega) rfl (by decide)) ?_)
    | refine goO ?_
    | refine goN ?_
    | (refine WO.gs _ rfl rfl rfl ?_ ?_ <;> intro hb <;> simp only [hb] <;> (try simp at hb) <;> (try contradiction) <;> (try (exfalso; omega))))
      all_goals first
        | (exfalso; omega)
        | (first | refine Ro.c1 (.inr rfl) [0] rfl (by decide) (kp rfl) ?_ ?_ | refine Ro.a1 (.inr rfl) [0] rfl (by decide) (kp rfl) ?_ ?_ | refine Ro.t1 (.inr rfl) [0] rfl (by decide) (kp rfl) ?_ ?_ rfl); (repeat' (first | exact .nil | refine .cons rfl ?_ ?_ | refine .cons ?_ ?_ | refine .c ?_ | refine .ag ?_ | refine .box ?_ | exact .arr (rs_low _ _ _) | exact .dead | exact .id rfl | exact .sl rfl | exact .ptr rfl | exact .ap rfl | exact .emp | exact .full rfl rfl rfl rfl rfl | fail))
    · have hs := b3
      obtain ⟨z, z1, _, e3⟩ := pick_ex (p := p2 + 1) ⟨ro.b, by omega⟩ 8 (by omega)
      have z1 := z1 (by omega)
      by_cases g0 : (z : Int) = 0
      · refine ⟨⟨1, s0, 0, 0⟩, p2 + 1 + 1, by omega, by omega, fun _ => ⟨get_ok hs, by dsimp only; decide⟩, by have := keyOk_ln hs; dsimp only; omega, ?_⟩
        refine Po.of D Try.func67 rfl rfl rfl ?_
        repeat' (first
    | (refine W.cond rfl ?_ ?_ <;> intro hb <;> (try simp at hb) <;> (try contradiction) <;> (try (exfalso; omega)))
    | (refine OpK.at 8 ?_; refine co [0] (eo) ?_)
    | (refine OpK.at 25 ?_; refine co [0] (ek) ?_)
    | (refine OpK.at 27 ?_; refine co [0] (e1) ?_)
    | (refine OpK.at 35 ?_; refine co [0] (e3) ?_)
    | refine goO ?_
    | refine goN ?_
    | (refine WO.gs _ rfl rfl rfl ?_ ?_ <;> intro hb <;> simp only [hb] <;> (try simp at hb) <;> (try contradiction) <;> (try (exfalso; omega))))
        all_goals first
          | (exfalso; omega)
          | (first | refine Ro.c1 (.inr rfl) [0] rfl (by decide) (kp rfl) ?_ ?_ | refine Ro.a1 (.inr rfl) [0] rfl (by decide) (kp rfl) ?_ ?_ | refine Ro.t1 (.inr rfl) [0] rfl (by decide) (kp rfl) ?_ ?_ rfl); (repeat' (first | exact .nil | refine .cons rfl ?_ ?_ | refine .cons ?_ ?_ | refine .c ?_ | refine .ag ?_ | refine .box ?_ | exact .arr (rs_low _ _ _) | exact .dead | exact .id rfl | exact .sl rfl | exact .ptr rfl | exact .ap rfl | exact .emp | exact .full rfl rfl rfl rfl rfl | fail))
      by_cases g1 : (z : Int) = 1
      · refine ⟨⟨3, s0, 0, 0⟩, p2 + 1 + 1, by omega, by omega, fun _ => ⟨drop_ok hs, by dsimp only; decide⟩, by have := keyOk_ln hs; dsimp only; omega, ?_⟩
        refine Po.of D Try.func67 rfl rfl rfl ?_
        repeat' (first
    | (refine W.cond rfl ?_ ?_ <;> intro hb <;> (try simp at hb) <;> (try contradiction) <;> (try (exfalso; omega)))
    | (refine OpK.at 8 ?_; refine co [0] (eo) ?_)
    | (refine OpK.at 25 ?_; refine co [0] (ek) ?_)
    | (refine OpK.at 27 ?_; refine co [0] (e1) ?_)
    | (refine OpK.at 35 ?_; refine co [0] (e3) ?_)
    | refine goO ?_
    | refine goN ?_
    | (refine WO.gs _ rfl rfl rfl ?_ ?_ <;> intro hb <;> simp only [hb] <;> (try simp at hb) <;> (try contradiction) <;> (try (exfalso; omega))))
        all_goals first
          | (exfalso; omega)
          | (first | refine Ro.c1 (.inr rfl) [0] rfl (by decide) (kp rfl) ?_ ?_ | refine Ro.a1 (.inr rfl) [0] rfl (by decide) (kp rfl) ?_ ?_ | refine Ro.t1 (.inr rfl) [0] rfl (by decide) (kp rfl) ?_ ?_ rfl); (repeat' (first | exact .nil | refine .cons rfl ?_ ?_ | refine .cons ?_ ?_ | refine .c ?_ | refine .ag ?_ | refine .box ?_ | exact .arr (rs_low _ _ _) | exact .dead | exact .id rfl | exact .sl rfl | exact .ptr rfl | exact .ap rfl | exact .emp | exact .full rfl rfl rfl rfl rfl | fail))
      by_cases g2 : (z : Int) = 2
      · obtain ⟨u, u1, _, e4⟩ := pick_ex (p := p2 + 1 + 1) ⟨ro.b, by omega⟩ 5 (by omega)
        obtain ⟨w, w1, _, e5⟩ := pick_ex (p := p2 + 1 + 1 + 1) ⟨ro.b, by omega⟩ 5 (by omega)
        have u1 := u1 (by omega)
        have w1 := w1 (by omega)
        refine ⟨⟨4, s0, w, (u : Int) - 1⟩, p2 + 1 + 1 + 1 + 1, by omega, by omega, fun _ => ⟨swap_ok hs (by omega) (by omega), by dsimp only; decide⟩, by have := keyOk_ln hs; dsimp only; omega, ?_⟩
        refine Po.of D Try.func67 rfl rfl rfl ?_
        repeat' (first
    | (refine W.cond rfl ?_ ?_ <;> intro hb <;> (try simp at hb) <;> (try contradiction) <;> (try (exfalso; omega)))
    | (refine OpK.at 8 ?_; refine co [0] (eo) ?_)
    | (refine OpK.at 25 ?_; refine co [0] (ek) ?_)
    | (refine OpK.at 27 ?_; refine co [0] (e1) ?_)
    | (refine OpK.at 35 ?_; refine co [0] (e3) ?_)
    | (refine OpK.at 48 ?_; refine co [0] (e4) ?_)
    | (refine OpK.at 51 ?_; refine co [0] (e5) ?_)
    | refine goO ?_
    | refine goN ?_
    | (refine WO.gs _ rfl rfl rfl ?_ ?_ <;> intro hb <;> simp only [hb] <;> (try simp at hb) <;> (try contradiction) <;> (try (exfalso; omega))))
        all_goals first
          | (exfalso; omega)
          | (first | refine Ro.c1 (.inr rfl) [0] rfl (by decide) (kp rfl) ?_ ?_ | refine Ro.a1 (.inr rfl) [0] rfl (by decide) (kp rfl) ?_ ?_ | refine Ro.t1 (.inr rfl) [0] rfl (by decide) (kp rfl) ?_ ?_ rfl); (repeat' (first | exact .nil | refine .cons rfl ?_ ?_ | refine .cons ?_ ?_ | refine .c ?_ | refine .ag ?_ | refine .box ?_ | exact .arr (rs_low _ _ _) | exact .dead | exact .id rfl | exact .sl rfl | exact .ptr rfl | exact .ap rfl | exact .emp | exact .full rfl rfl rfl rfl rfl | fail))
      obtain ⟨v, p4, v1, v2, v3, _, e6⟩ := value_ex (p := p2 + 1 + 1) ⟨ro.b, by omega⟩ (by omega) 0 (by omega)
      have v3 := v3 (by omega)
      have v4 := Nat.mod_lt v.toNat (show 0 < 1000 by decide)
      refine ⟨⟨2, s0, ((v.toNat % 1000 : Nat) : Int), 0⟩, p4, by omega, by omega, fun _ => ⟨put_ok hs (by omega), by dsimp only; decide⟩, by have := keyOk_ln hs; dsimp only; omega, ?_⟩
      refine Po.of D Try.func67 rfl rfl rfl ?_
      repeat' (first
    | (refine W.cond rfl ?_ ?_ <;> intro hb <;> (try simp at hb) <;> (try contradiction) <;> (try (exfalso; omega)))
    | (refine OpK.at 8 ?_; refine co [0] (eo) ?_)
    | (refine OpK.at 25 ?_; refine co [0] (ek) ?_)
    | (refine OpK.at 27 ?_; refine co [0] (e1) ?_)
    | (refine OpK.at 35 ?_; refine co [0] (e3) ?_)
    | (refine OpK.at 55 ?_; refine co [0] (e6) ?_)
    | (refine OpK.at 56 ?_; refine OpK.of (OpOk.remN v.toNat 1000 rfl rfl rfl (by omega) rfl (by decide)) ?_)
    | refine goO ?_
    | refine goN ?_
    | (refine WO.gs _ rfl rfl rfl ?_ ?_ <;> intro hb <;> simp only [hb] <;> (try simp at hb) <;> (try contradiction) <;> (try (exfalso; omega))))
      all_goals first
        | (exfalso; omega)
        | (first | refine Ro.c1 (.inr rfl) [0] rfl (by decide) (kp rfl) ?_ ?_ | refine Ro.a1 (.inr rfl) [0] rfl (by decide) (kp rfl) ?_ ?_ | refine Ro.t1 (.inr rfl) [0] rfl (by decide) (kp rfl) ?_ ?_ rfl); (repeat' (first | exact .nil | refine .cons rfl ?_ ?_ | refine .cons ?_ ?_ | refine .c ?_ | refine .ag ?_ | refine .box ?_ | exact .arr (rs_low _ _ _) | exact .dead | exact .id rfl | exact .sl rfl | exact .ptr rfl | exact .ap rfl | exact .emp | exact .full rfl rfl rfl rfl rfl | fail))
end Go.YtamlleimfopmhaaMc

namespace Go.YtamlleimfopmhaaMc
open Go.Proofs
/-! ### Draws: times, replies, spans -/
theorem time_ex {bs : List UInt8} {p : Nat} (ro : Rok bs p) (hq : p + 3 ≤ 1099511627776) (n : Int) (hn : n ≤ 1000) : ∃ (v : Int) (p' : Nat), p ≤ p' ∧ p' ≤ p + 3 ∧ (n ≤ 0 → 0 ≤ v ∧ v ≤ 200) ∧ (-1 ≤ v ∧ v ≤ 201) ∧ Po Try.prog 68 [Rp, I n] (rdH bs p) (I v) (rdH bs p') := by
  obtain ⟨b, p1, a1, a2, a3, eo⟩ := odd_ex ro n hn
  have r1 : Rok bs p1 := ⟨ro.b, by omega⟩
  cases b with
  | true =>
    obtain ⟨k, k1, _, e1⟩ := pick_ex r1 2 (by omega)
    have hk : k < ([-1, 201] : List Int).length := by have := k1 (by omega); simp; omega
    refine ⟨([-1, 201] : List Int)[k], p1 + 1, by omega, by omega, fun h => absurd (a3 h) (by decide), mem_all (p := fun v => -1 ≤ v ∧ v ≤ 201) (by decide) k hk, ?_⟩
    refine Po.of D Try.func68 rfl rfl rfl ?_
    repeat' (first
    | (refine W.cond rfl ?_ ?_ <;> intro hb <;> (try simp at hb) <;> try contradiction)
    | (refine OpK.at 7 ?_; refine co [0] (eo) ?_)
    | (refine OpK.at 10 ?_; refine co [0] (e1) ?_)
    | refine OpK.of (OpOk.bldF D [-1, 201] eI rfl rfl rfl rfl (by decide) (by decide) (by decide) rfl rfl rfl) ?_
    | (refine OpK.at 11 ?_; refine OpK.of (OpOk.ixM D rfl rfl rfl rfl rfl rfl hk (fun _ => rfl)) ?_)
    | refine goO ?_
    | refine goN ?_
    | (refine WO.gs _ rfl rfl rfl ?_ ?_ <;> intro hb <;> simp only [hb] <;> (try simp at hb) <;> try contradiction))
    all_goals (first | refine Ro.c1 (.inr rfl) [0] rfl (by decide) (kp rfl) ?_ ?_ | refine Ro.a1 (.inr rfl) [0] rfl (by decide) (kp rfl) ?_ ?_ | refine Ro.t1 (.inr rfl) [0] rfl (by decide) (kp rfl) ?_ ?_ rfl); (repeat' (first | exact .nil | refine .cons rfl ?_ ?_ | refine .cons ?_ ?_ | refine .c ?_ | refine .ag ?_ | refine .box ?_ | exact .arr (rs_low _ _ _) | exact .dead | exact .id rfl | exact .sl rfl | exact .ptr rfl | exact .ap rfl | exact .emp | exact .full rfl rfl rfl rfl rfl | fail))
  | false =>
    obtain ⟨k, k1, _, e1⟩ := pick_ex r1 40 (by omega)
    obtain ⟨q, q1, _, e2⟩ := pick_ex (p := p1 + 1) ⟨ro.b, by omega⟩ 9 (by omega)
    have hk : q / 8 < ([(k : Int), 200] : List Int).length := by have := q1 (by omega); simp; omega
    have hx : ∀ x ∈ ([(k : Int), 200] : List Int), 0 ≤ x ∧ x ≤ 200 := by intro x hx; have := k1 (by omega); simp at hx; omega
    have hv := mem_all hx (q / 8) hk
    have hql := q1 (by omega)
    refine ⟨([(k : Int), 200] : List Int)[q / 8], p1 + 1 + 1, by omega, by omega, fun _ => hv, by omega, ?_⟩
    refine Po.of D Try.func68 rfl rfl rfl ?_
    repeat' (first
    | (refine W.cond rfl ?_ ?_ <;> intro hb <;> (try simp at hb) <;> try contradiction)
    | (refine OpK.at 7 ?_; refine co [0] (eo) ?_)
    | (refine OpK.at 14 ?_; refine co [0] (e1) ?_)
    | (refine OpK.at 17 ?_; refine co [0] (e2) ?_)
    | refine OpK.of (OpOk.bldF D [(k : Int), 200] eI rfl rfl rfl rfl (by decide) (by decide) (by decide) rfl rfl rfl) ?_
    | (refine OpK.at 18 ?_; refine OpK.of (OpOk.quoN q 8 rfl rfl rfl rfl rfl (by decide) (by omega)) ?_)
    | (refine OpK.at 19 ?_; refine OpK.of (OpOk.ixM D rfl rfl rfl rfl rfl rfl hk (fun _ => rfl)) ?_)
    | refine goO ?_
    | refine goN ?_
    | (refine WO.gs _ rfl rfl rfl ?_ ?_ <;> intro hb <;> simp only [hb] <;> (try simp at hb) <;> try contradiction))
    all_goals (first | refine Ro.c1 (.inr rfl) [0] rfl (by decide) (kp rfl) ?_ ?_ | refine Ro.a1 (.inr rfl) [0] rfl (by decide) (kp rfl) ?_ ?_ | refine Ro.t1 (.inr rfl) [0] rfl (by decide) (kp rfl) ?_ ?_ rfl); (repeat' (first | exact .nil | refine .cons rfl ?_ ?_ | refine .cons ?_ ?_ | refine .c ?_ | refine .ag ?_ | refine .box ?_ | exact .arr (rs_low _ _ _) | exact .dead | exact .id rfl | exact .sl rfl | exact .ptr rfl | exact .ap rfl | exact .emp | exact .full rfl rfl rfl rfl rfl | fail))
theorem reply_ex {bs : List UInt8} {p : Nat} (ro : Rok bs p) (hq : p + 3 ≤ 1099511627776) (n : Int) (hn : n ≤ 1000) : ∃ (v : Int) (p' : Nat), p ≤ p' ∧ p' ≤ p + 3 ∧ (n ≤ 0 → -4 ≤ v ∧ v ≤ 999) ∧ (-5 ≤ v ∧ v ≤ 1000) ∧ Po Try.prog 77 [Rp, I n] (rdH bs p) (I v) (rdH bs p') := by
  obtain ⟨b, p1, a1, a2, a3, eo⟩ := odd_ex ro n hn
  have r1 : Rok bs p1 := ⟨ro.b, by omega⟩
  cases b with
  | true =>
    obtain ⟨k, k1, _, e1⟩ := pick_ex r1 2 (by omega)
    have hk : k < ([-5, 1000] : List Int).length := by have := k1 (by omega); simp; omega
    refine ⟨([-5, 1000] : List Int)[k], p1 + 1, by omega, by omega, fun h => absurd (a3 h) (by decide), mem_all (p := fun v => -5 ≤ v ∧ v ≤ 1000) (by decide) k hk, ?_⟩
    refine Po.of D Try.func77 rfl rfl rfl ?_
    repeat' (first
    | (refine W.cond rfl ?_ ?_ <;> intro hb <;> (try simp at hb) <;> try contradiction)
    | (refine OpK.at 7 ?_; refine co [0] (eo) ?_)
    | (refine OpK.at 10 ?_; refine co [0] (e1) ?_)
    | refine OpK.of (OpOk.bldF D [-5, 1000] eI rfl rfl rfl rfl (by decide) (by decide) (by decide) rfl rfl rfl) ?_
    | (refine OpK.at 11 ?_; refine OpK.of (OpOk.ixM D rfl rfl rfl rfl rfl rfl hk (fun _ => rfl)) ?_)
    | refine goO ?_
    | refine goN ?_
    | (refine WO.gs _ rfl rfl rfl ?_ ?_ <;> intro hb <;> simp only [hb] <;> (try simp at hb) <;> try contradiction))
    all_goals (first | refine Ro.c1 (.inr rfl) [0] rfl (by decide) (kp rfl) ?_ ?_ | refine Ro.a1 (.inr rfl) [0] rfl (by decide) (kp rfl) ?_ ?_ | refine Ro.t1 (.inr rfl) [0] rfl (by decide) (kp rfl) ?_ ?_ rfl); (repeat' (first | exact .nil | refine .cons rfl ?_ ?_ | refine .cons ?_ ?_ | refine .c ?_ | refine .ag ?_ | refine .box ?_ | exact .arr (rs_low _ _ _) | exact .dead | exact .id rfl | exact .sl rfl | exact .ptr rfl | exact .ap rfl | exact .emp | exact .full rfl rfl rfl rfl rfl | fail))
  | false =>
    obtain ⟨k, k1, _, e1⟩ := pick_ex r1 256 (by omega)
    obtain ⟨q, q1, _, e2⟩ := pick_ex (p := p1 + 1) ⟨ro.b, by omega⟩ 7 (by omega)
    have hk : q < ([-1, -2, -3, -4, ((k * 3 : Nat) : Int), 999, 0] : List Int).length := by have := q1 (by omega); simp; omega
    have hx : ∀ x ∈ ([-1, -2, -3, -4, ((k * 3 : Nat) : Int), 999, 0] : List Int), -4 ≤ x ∧ x ≤ 999 := by intro x hx; have := k1 (by omega); simp at hx; omega
    have hv := mem_all hx q hk
    have hkl := k1 (by omega)
    refine ⟨([-1, -2, -3, -4, ((k * 3 : Nat) : Int), 999, 0] : List Int)[q], p1 + 1 + 1, by omega, by omega, fun _ => hv, by omega, ?_⟩
    refine Po.of D Try.func77 rfl rfl rfl ?_
    repeat' (first
    | (refine W.cond rfl ?_ ?_ <;> intro hb <;> (try simp at hb) <;> try contradiction)
    | (refine OpK.at 7 ?_; refine co [0] (eo) ?_)
    | (refine OpK.at 14 ?_; refine co [0] (e1) ?_)
    | (refine OpK.at 18 ?_; refine co [0] (e2) ?_)
    | refine OpK.of (OpOk.bldF D [-1, -2, -3, -4, ((k * 3 : Nat) : Int), 999, 0] eI rfl rfl rfl rfl (by decide) (by decide) (by decide) rfl rfl rfl) ?_
    | (refine OpK.at 15 ?_; refine OpK.of (OpOk.mulN k 3 rfl rfl rfl rfl rfl (by omega)) ?_)
    | (refine OpK.at 19 ?_; refine OpK.of (OpOk.ixM D rfl rfl rfl rfl rfl rfl hk (fun _ => rfl)) ?_)
    | refine goO ?_
    | refine goN ?_
    | (refine WO.gs _ rfl rfl rfl ?_ ?_ <;> intro hb <;> simp only [hb] <;> (try simp at hb) <;> try contradiction))
    all_goals (first | refine Ro.c1 (.inr rfl) [0] rfl (by decide) (kp rfl) ?_ ?_ | refine Ro.a1 (.inr rfl) [0] rfl (by decide) (kp rfl) ?_ ?_ | refine Ro.t1 (.inr rfl) [0] rfl (by decide) (kp rfl) ?_ ?_ rfl); (repeat' (first | exact .nil | refine .cons rfl ?_ ?_ | refine .cons ?_ ?_ | refine .c ?_ | refine .ag ?_ | refine .box ?_ | exact .arr (rs_low _ _ _) | exact .dead | exact .id rfl | exact .sl rfl | exact .ptr rfl | exact .ap rfl | exact .emp | exact .full rfl rfl rfl rfl rfl | fail))
structure Iv.Sh (v : Iv) : Prop where
  lo : v.lo.length ≤ 5
  hi : v.hi.length ≤ 5
instance (v : Iv) : Decidable v.Sh := decidable_of_iff (v.lo.length ≤ 5 ∧ v.hi.length ≤ 5) ⟨fun h => ⟨h.1, h.2⟩, fun h => ⟨h.lo, h.hi⟩⟩
set_option maxHeartbeats 4000000 in
theorem span_ex {bs : List UInt8} {p : Nat} (ro : Rok bs p) (hq : p + 30 ≤ 1099511627776) (n : Int) (hn : n ≤ 1000) : ∃ (v : Iv) (p' : Nat), p ≤ p' ∧ p' ≤ p + 30 ∧ v.Sh ∧ Po Try.prog 105 [Rp, I n] (rdH bs p) (A v.e) (rdH bs p') := by
  obtain ⟨b, p1, a1, a2, a3, eo⟩ := odd_ex ro n hn
  have r1 : Rok bs p1 := ⟨ro.b, by omega⟩
  cases b with
  | true =>
    obtain ⟨k, k1, _, e1⟩ := pick_ex r1 5 (by omega)
    have hk : k < ([⟨[98], [98]⟩, ⟨[99], [98]⟩, ⟨[], [97]⟩, ⟨[65], []⟩, ⟨[], [97, 98, 99, 100, 101]⟩] : List Iv).length := by have := k1 (by omega); simp; omega
    refine ⟨([⟨[98], [98]⟩, ⟨[99], [98]⟩, ⟨[], [97]⟩, ⟨[65], []⟩, ⟨[], [97, 98, 99, 100, 101]⟩] : List Iv)[k], p1 + 1, by omega, by omega, mem_all (p := fun v : Iv => v.Sh) (by decide) k hk, ?_⟩
    refine Po.of D Try.func105 rfl rfl rfl ?_
    repeat' (first
    | (refine W.cond rfl ?_ ?_ <;> intro hb <;> (try simp at hb) <;> try contradiction)
    | (refine OpK.at 9 ?_; refine co [0] (eo) ?_)
    | (refine OpK.at 17 ?_; refine co [0] (e1) ?_)
    | refine OpK.of (OpOk.bldF D [⟨[98], [98]⟩, ⟨[99], [98]⟩, ⟨[], [97]⟩, ⟨[65], []⟩, ⟨[], [97, 98, 99, 100, 101]⟩] Iv.e rfl rfl rfl rfl (by decide) (by decide) (by decide) rfl rfl rfl) ?_
    | (refine OpK.at 18 ?_; refine OpK.of (OpOk.ixM D rfl rfl rfl rfl rfl rfl hk (fun _ => rfl)) ?_)
    | refine goO ?_
    | refine goN ?_
    | (refine WO.gs _ rfl rfl rfl ?_ ?_ <;> intro hb <;> simp only [hb] <;> (try simp at hb) <;> try contradiction))
    all_goals (first | refine Ro.c1 (.inr rfl) [0] rfl (by decide) (kp rfl) ?_ ?_ | refine Ro.a1 (.inr rfl) [0] rfl (by decide) (kp rfl) ?_ ?_ | refine Ro.t1 (.inr rfl) [0] rfl (by decide) (kp rfl) ?_ ?_ rfl); (repeat' (first | exact .nil | refine .cons rfl ?_ ?_ | refine .cons ?_ ?_ | refine .c ?_ | refine .ag ?_ | refine .box ?_ | exact .arr (rs_low _ _ _) | exact .dead | exact .id rfl | exact .sl rfl | exact .ptr rfl | exact .ap rfl | exact .emp | exact .full rfl rfl rfl rfl rfl | fail))
  | false =>
    obtain ⟨s1, p2, b1, b2, b3, b4, ek⟩ := key_ex r1 (by omega) 0 (by omega)
    obtain ⟨s2, p3, c1, c2, c3, c4, el⟩ := key_ex (p := p2) ⟨ro.b, by omega⟩ (by omega) 0 (by omega)
    obtain ⟨k, k1, _, e1⟩ := pick_ex (p := p3) ⟨ro.b, by omega⟩ 6 (by omega)
    by_cases g0 : (k : Int) = 0
    · refine ⟨⟨[], []⟩, p3 + 1, by omega, by omega, by decide, ?_⟩
      refine Po.of D Try.func105 rfl rfl rfl ?_
      repeat' (first
    | (refine W.cond rfl ?_ ?_ <;> intro hb <;> (try simp at hb) <;> (try contradiction) <;> (try (exfalso; omega)))
    | (refine OpK.at 9 ?_; refine co [0] (eo) ?_)
    | (refine OpK.at 21 ?_; refine co [0] (ek) ?_)
    | (refine OpK.at 23 ?_; refine co [0] (el) ?_)
    | (refine OpK.at 25 ?_; refine co [0] (e1) ?_)
    | refine goO ?_
    | refine goN ?_
    | (refine WO.gs _ rfl rfl rfl ?_ ?_ <;> intro hb <;> simp only [hb] <;> (try simp at hb) <;> (try contradiction) <;> (try (exfalso; omega))))
      all_goals first
        | (exfalso; omega)
        | (first | refine Ro.c1 (.inr rfl) [0] rfl (by decide) (kp rfl) ?_ ?_ | refine Ro.a1 (.inr rfl) [0] rfl (by decide) (kp rfl) ?_ ?_ | refine Ro.t1 (.inr rfl) [0] rfl (by decide) (kp rfl) ?_ ?_ rfl); (repeat' (first | exact .nil | refine .cons rfl ?_ ?_ | refine .cons ?_ ?_ | refine .c ?_ | refine .ag ?_ | refine .box ?_ | exact .arr (rs_low _ _ _) | exact .dead | exact .id rfl | exact .sl rfl | exact .ptr rfl | exact .ap rfl | exact .emp | exact .full rfl rfl rfl rfl rfl | fail))
    by_cases g1 : (k : Int) = 1
    · refine ⟨⟨s1, []⟩, p3 + 1, by omega, by omega, ⟨b4, by simp⟩, ?_⟩
      refine Po.of D Try.func105 rfl rfl rfl ?_
      repeat' (first
    | (refine W.cond rfl ?_ ?_ <;> intro hb <;> (try simp at hb) <;> (try contradiction) <;> (try (exfalso; omega)))
    | (refine OpK.at 9 ?_; refine co [0] (eo) ?_)
    | (refine OpK.at 21 ?_; refine co [0] (ek) ?_)
    | (refine OpK.at 23 ?_; refine co [0] (el) ?_)
    | (refine OpK.at 25 ?_; refine co [0] (e1) ?_)
    | refine goO ?_
    | refine goN ?_
    | (refine WO.gs _ rfl rfl rfl ?_ ?_ <;> intro hb <;> simp only [hb] <;> (try simp at hb) <;> (try contradiction) <;> (try (exfalso; omega))))
      all_goals first
        | (exfalso; omega)
        | (first | refine Ro.c1 (.inr rfl) [0] rfl (by decide) (kp rfl) ?_ ?_ | refine Ro.a1 (.inr rfl) [0] rfl (by decide) (kp rfl) ?_ ?_ | refine Ro.t1 (.inr rfl) [0] rfl (by decide) (kp rfl) ?_ ?_ rfl); (repeat' (first | exact .nil | refine .cons rfl ?_ ?_ | refine .cons ?_ ?_ | refine .c ?_ | refine .ag ?_ | refine .box ?_ | exact .arr (rs_low _ _ _) | exact .dead | exact .id rfl | exact .sl rfl | exact .ptr rfl | exact .ap rfl | exact .emp | exact .full rfl rfl rfl rfl rfl | fail))
    by_cases g2 : (k : Int) = 2 ∧ s2 ≠ [97]
    · obtain ⟨g2, g3⟩ := g2
      refine ⟨⟨[], s2⟩, p3 + 1, by omega, by omega, ⟨by simp, c4⟩, ?_⟩
      refine Po.of D Try.func105 rfl rfl rfl ?_
      repeat' (first
    | (refine W.cond rfl ?_ ?_ <;> intro hb <;> (try simp at hb) <;> (try contradiction) <;> (try (exfalso; omega)))
    | (refine OpK.at 9 ?_; refine co [0] (eo) ?_)
    | (refine OpK.at 21 ?_; refine co [0] (ek) ?_)
    | (refine OpK.at 23 ?_; refine co [0] (el) ?_)
    | (refine OpK.at 25 ?_; refine co [0] (e1) ?_)
    | refine goO ?_
    | refine goN ?_
    | (refine WO.gs _ rfl rfl rfl ?_ ?_ <;> intro hb <;> simp only [hb] <;> (try simp at hb) <;> (try contradiction) <;> (try (exfalso; omega))))
      all_goals first
        | (exfalso; omega)
        | (exfalso; simp_all; done)
        | (first | refine Ro.c1 (.inr rfl) [0] rfl (by decide) (kp rfl) ?_ ?_ | refine Ro.a1 (.inr rfl) [0] rfl (by decide) (kp rfl) ?_ ?_ | refine Ro.t1 (.inr rfl) [0] rfl (by decide) (kp rfl) ?_ ?_ rfl); (repeat' (first | exact .nil | refine .cons rfl ?_ ?_ | refine .cons ?_ ?_ | refine .c ?_ | refine .ag ?_ | refine .box ?_ | exact .arr (rs_low _ _ _) | exact .dead | exact .id rfl | exact .sl rfl | exact .ptr rfl | exact .ap rfl | exact .emp | exact .full rfl rfl rfl rfl rfl | fail))
    by_cases g4 : Op.bytesLess s1 s2 = true
    · refine ⟨⟨s1, s2⟩, p3 + 1, by omega, by omega, ⟨b4, c4⟩, ?_⟩
      refine Po.of D Try.func105 rfl rfl rfl ?_
      repeat' (first
    | (refine W.cond rfl ?_ ?_ <;> intro hb <;> (try simp at hb) <;> (try contradiction) <;> (try (exfalso; omega)))
    | (refine OpK.at 9 ?_; refine co [0] (eo) ?_)
    | (refine OpK.at 21 ?_; refine co [0] (ek) ?_)
    | (refine OpK.at 23 ?_; refine co [0] (el) ?_)
    | (refine OpK.at 25 ?_; refine co [0] (e1) ?_)
    | refine goO ?_
    | refine goN ?_
    | (refine WO.gs _ rfl rfl rfl ?_ ?_ <;> intro hb <;> simp only [hb] <;> (try simp at hb) <;> (try contradiction) <;> (try (exfalso; omega))))
      all_goals first
        | (exfalso; omega)
        | (exfalso; simp_all; done)
        | (first | refine Ro.c1 (.inr rfl) [0] rfl (by decide) (kp rfl) ?_ ?_ | refine Ro.a1 (.inr rfl) [0] rfl (by decide) (kp rfl) ?_ ?_ | refine Ro.t1 (.inr rfl) [0] rfl (by decide) (kp rfl) ?_ ?_ rfl); (repeat' (first | exact .nil | refine .cons rfl ?_ ?_ | refine .cons ?_ ?_ | refine .c ?_ | refine .ag ?_ | refine .box ?_ | exact .arr (rs_low _ _ _) | exact .dead | exact .id rfl | exact .sl rfl | exact .ptr rfl | exact .ap rfl | exact .emp | exact .full rfl rfl rfl rfl rfl | fail))
    by_cases g5 : Op.bytesLess s2 s1 = true
    · refine ⟨⟨s2, s1⟩, p3 + 1, by omega, by omega, ⟨c4, b4⟩, ?_⟩
      refine Po.of D Try.func105 rfl rfl rfl ?_
      repeat' (first
    | (refine W.cond rfl ?_ ?_ <;> intro hb <;> (try simp at hb) <;> (try contradiction) <;> (try (exfalso; omega)))
    | (refine OpK.at 9 ?_; refine co [0] (eo) ?_)
    | (refine OpK.at 21 ?_; refine co [0] (ek) ?_)
    | (refine OpK.at 23 ?_; refine co [0] (el) ?_)
    | (refine OpK.at 25 ?_; refine co [0] (e1) ?_)
    | refine goO ?_
    | refine goN ?_
    | (refine WO.gs _ rfl rfl rfl ?_ ?_ <;> intro hb <;> simp only [hb] <;> (try simp at hb) <;> (try contradiction) <;> (try (exfalso; omega))))
      all_goals first
        | (exfalso; omega)
        | (exfalso; simp_all; done)
        | (first | refine Ro.c1 (.inr rfl) [0] rfl (by decide) (kp rfl) ?_ ?_ | refine Ro.a1 (.inr rfl) [0] rfl (by decide) (kp rfl) ?_ ?_ | refine Ro.t1 (.inr rfl) [0] rfl (by decide) (kp rfl) ?_ ?_ rfl); (repeat' (first | exact .nil | refine .cons rfl ?_ ?_ | refine .cons ?_ ?_ | refine .c ?_ | refine .ag ?_ | refine .box ?_ | exact .arr (rs_low _ _ _) | exact .dead | exact .id rfl | exact .sl rfl | exact .ptr rfl | exact .ap rfl | exact .emp | exact .full rfl rfl rfl rfl rfl | fail))
    refine ⟨⟨s1, []⟩, p3 + 1, by omega, by omega, ⟨b4, by simp⟩, ?_⟩
    refine Po.of D Try.func105 rfl rfl rfl ?_
    repeat' (first
    | (refine W.cond rfl ?_ ?_ <;> intro hb <;> (try simp at hb) <;> (try contradiction) <;> (try (exfalso; omega)))
    | (refine OpK.at 9 ?_; refine co [0] (eo) ?_)
    | (refine OpK.at 21 ?_; refine co [0] (ek) ?_)
    | (refine OpK.at 23 ?_; refine co [0] (el) ?_)
    | (refine OpK.at 25 ?_; refine co [0] (e1) ?_)
    | refine goO ?_
    | refine goN ?_
    | (refine WO.gs _ rfl rfl rfl ?_ ?_ <;> intro hb <;> simp only [hb] <;> (try simp at hb) <;> (try contradiction) <;> (try (exfalso; omega))))
    all_goals first
      | (exfalso; omega)
      | (exfalso; simp_all; done)
      | (first | refine Ro.c1 (.inr rfl) [0] rfl (by decide) (kp rfl) ?_ ?_ | refine Ro.a1 (.inr rfl) [0] rfl (by decide) (kp rfl) ?_ ?_ | refine Ro.t1 (.inr rfl) [0] rfl (by decide) (kp rfl) ?_ ?_ rfl); (repeat' (first | exact .nil | refine .cons rfl ?_ ?_ | refine .cons ?_ ?_ | refine .c ?_ | refine .ag ?_ | refine .box ?_ | exact .arr (rs_low _ _ _) | exact .dead | exact .id rfl | exact .sl rfl | exact .ptr rfl | exact .ap rfl | exact .emp | exact .full rfl rfl rfl rfl rfl | fail))
theorem open_ok (bs : List UInt8) (hb : bs.length ≤ 1048576) : Po Try.prog 61 [L eU bs] [] Rp (rdH (bs.take 2000) 0) := by
  by_cases h : bs.length ≤ 2000
  · have e : bs.take 2000 = bs := List.take_of_length_le h
    rw [e]
    refine Po.of D Try.func61 rfl rfl rfl ?_
    repeat' (first
    | (refine W.cond rfl ?_ ?_ <;> intro hb <;> (try simp at hb) <;> (try contradiction) <;> (try (exfalso; omega)))
    | refine goO ?_
    | refine goN ?_
    | (refine WO.gs _ rfl rfl rfl ?_ ?_ <;> intro hb <;> simp only [hb] <;> (try simp at hb) <;> (try contradiction) <;> (try (exfalso; omega))))
    all_goals first
      | (exfalso; omega)
      | (first | refine Ro.c1 (.inr rfl) [0] rfl (by decide) (kp rfl) ?_ ?_ | refine Ro.a1 (.inr rfl) [0] rfl (by decide) (kp rfl) ?_ ?_ | refine Ro.t1 (.inr rfl) [0] rfl (by decide) (kp rfl) ?_ ?_ rfl); (repeat' (first | exact .nil | refine .cons rfl ?_ ?_ | refine .cons ?_ ?_ | refine .c ?_ | refine .ag ?_ | refine .box ?_ | exact .arr (rs_low _ _ _) | exact .dead | exact .id rfl | exact .sl rfl | exact .ptr rfl | exact .ap rfl | exact .emp | exact .full rfl rfl rfl rfl rfl | fail))
  · refine Po.of D Try.func61 rfl rfl rfl ?_
    repeat' (first
    | (refine W.cond rfl ?_ ?_ <;> intro hb <;> (try simp at hb) <;> (try contradiction) <;> (try (exfalso; omega)))
    | (refine OpK.at 7 ?_; refine OpK.of (OpOk.slMt D (r := 2000) rfl rfl rfl rfl rfl (fun _ => rfl) rfl (by omega)) ?_)
    | refine goO ?_
    | refine goN ?_
    | (refine WO.gs _ rfl rfl rfl ?_ ?_ <;> intro hb <;> simp only [hb] <;> (try simp at hb) <;> (try contradiction) <;> (try (exfalso; omega))))
    all_goals first
      | (exfalso; omega)
      | (first | refine Ro.c1 (.inr rfl) [0] rfl (by decide) (kp rfl) ?_ ?_ | refine Ro.a1 (.inr rfl) [0] rfl (by decide) (kp rfl) ?_ ?_ | refine Ro.t1 (.inr rfl) [0] rfl (by decide) (kp rfl) ?_ ?_ rfl); (repeat' (first | exact .nil | refine .cons rfl ?_ ?_ | refine .cons ?_ ?_ | refine .c ?_ | refine .ag ?_ | refine .box ?_ | exact .arr (rs_low _ _ _) | exact .dead | exact .id rfl | exact .sl rfl | exact .ptr rfl | exact .ap rfl | exact .emp | exact .full rfl rfl rfl rfl rfl | fail))
end Go.YtamlleimfopmhaaMc

namespace Go.YtamlleimfopmhaaMc
open Go.Proofs
theorem OpOk.subB {P : Program} {n : Nat} {env : Env} {h : List Blk} {o : Oper} {t t' : Nat} {x y : Operand} {a b : Int} (ho : o.op = .binOp .sub t x y t') (hx : oe env x = some (.c (.t (.i .u8 a)))) (hy : oe env y = some (.c (.t (.i .u8 b)))) (hb : IntKind.u8.wrap (a - b) = a - b) : OpOk P n o env h (.c (.t (.i .u8 (a - b)))) h := by
  have := OpOk.ibin (P := P) (n := n) (h := h) ho hx hy (r := .i .u8 (IntKind.u8.wrap (a - b))) rfl
  rwa [hb] at this
/-! ### What the laws of callers ask -/
theorem kf4 : Pu Try.prog 129 [I 4] (I 1) := by
  refine Pu.of D Try.func129 rfl rfl rfl ?_
  repeat' (first
    | (refine W.cond rfl ?_ ?_ <;> intro hb <;> (try simp at hb) <;> (try contradiction) <;> (try (exfalso; omega)))
    | refine goO ?_
    | refine goN ?_
    | (refine WO.gs _ rfl rfl rfl ?_ ?_ <;> intro hb <;> simp only [hb] <;> (try simp at hb) <;> (try contradiction) <;> (try (exfalso; omega))))
  all_goals first
    | (exfalso; omega)
    | (refine ⟨.inr rfl, _, _, rfl, .cons (.c (.id rfl)) .nil, ?_⟩; rfl)
theorem kf3 : Pu Try.prog 129 [I 3] (I 27) := by
  refine Pu.of D Try.func129 rfl rfl rfl ?_
  repeat' (first
    | (refine W.cond rfl ?_ ?_ <;> intro hb <;> (try simp at hb) <;> (try contradiction) <;> (try (exfalso; omega)))
    | refine cl (kf4) ?_
    | (refine OpK.at 8 ?_; refine OpK.of (OpOk.mulN 26 1 rfl rfl rfl rfl rfl (by omega)) ?_)
    | refine goO ?_
    | refine goN ?_
    | (refine WO.gs _ rfl rfl rfl ?_ ?_ <;> intro hb <;> simp only [hb] <;> (try simp at hb) <;> (try contradiction) <;> (try (exfalso; omega))))
  all_goals first
    | (exfalso; omega)
    | (refine ⟨.inr rfl, _, _, rfl, .cons (.c (.id rfl)) .nil, ?_⟩; rfl)
theorem kf2 : Pu Try.prog 129 [I 2] (I 703) := by
  refine Pu.of D Try.func129 rfl rfl rfl ?_
  repeat' (first
    | (refine W.cond rfl ?_ ?_ <;> intro hb <;> (try simp at hb) <;> (try contradiction) <;> (try (exfalso; omega)))
    | refine cl (kf3) ?_
    | (refine OpK.at 8 ?_; refine OpK.of (OpOk.mulN 26 27 rfl rfl rfl rfl rfl (by omega)) ?_)
    | refine goO ?_
    | refine goN ?_
    | (refine WO.gs _ rfl rfl rfl ?_ ?_ <;> intro hb <;> simp only [hb] <;> (try simp at hb) <;> (try contradiction) <;> (try (exfalso; omega))))
  all_goals first
    | (exfalso; omega)
    | (refine ⟨.inr rfl, _, _, rfl, .cons (.c (.id rfl)) .nil, ?_⟩; rfl)
theorem kf1 : Pu Try.prog 129 [I 1] (I 18279) := by
  refine Pu.of D Try.func129 rfl rfl rfl ?_
  repeat' (first
    | (refine W.cond rfl ?_ ?_ <;> intro hb <;> (try simp at hb) <;> (try contradiction) <;> (try (exfalso; omega)))
    | refine cl (kf2) ?_
    | (refine OpK.at 8 ?_; refine OpK.of (OpOk.mulN 26 703 rfl rfl rfl rfl rfl (by omega)) ?_)
    | refine goO ?_
    | refine goN ?_
    | (refine WO.gs _ rfl rfl rfl ?_ ?_ <;> intro hb <;> simp only [hb] <;> (try simp at hb) <;> (try contradiction) <;> (try (exfalso; omega))))
  all_goals first
    | (exfalso; omega)
    | (refine ⟨.inr rfl, _, _, rfl, .cons (.c (.id rfl)) .nil, ?_⟩; rfl)
theorem rb0 (n : Int) : Pu Try.prog 97 [Sx [], I n] (I 0) := by
  refine Pu.of D Try.func97 rfl rfl rfl ?_
  repeat' (first
    | (refine W.cond rfl ?_ ?_ <;> intro hb <;> (try simp at hb) <;> (try contradiction) <;> (try (exfalso; omega)))
    | refine goO ?_
    | refine goN ?_
    | (refine WO.gs _ rfl rfl rfl ?_ ?_ <;> intro hb <;> simp only [hb] <;> (try simp at hb) <;> (try contradiction) <;> (try (exfalso; omega)))
    | (refine WD.gs _ rfl rfl rfl ?_ ?_ <;> intro hb <;> simp only [hb] <;> (try simp at hb) <;> (try contradiction) <;> (try (exfalso; omega))))
  all_goals first
    | (exfalso; omega)
    | (refine ⟨.inr rfl, _, _, rfl, .cons (.c (.id rfl)) .nil, ?_⟩; rfl)
    | (exfalso; simp_all; done)
theorem rb1 : Pu Try.prog 97 [Sx [97], I 2] (I 1) := by
  have e1 := kf2
  have e2 := rb0 3
  refine Pu.of D Try.func97 rfl rfl rfl ?_
  repeat' (first
    | (refine W.cond rfl ?_ ?_ <;> intro hb <;> (try simp at hb) <;> try contradiction)
    | (refine OpK.at 12 ?_; refine cl (e1) ?_)
    | (refine OpD.at 12 ?_; refine cl (e1) ?_)
    | (refine OpK.at 19 ?_; refine cl (e2) ?_)
    | (refine OpD.at 19 ?_; refine cl (e2) ?_)
    | (refine OpK.at 8 ?_; refine OpK.of (OpOk.ixS D rfl rfl rfl rfl rfl (by decide) rfl) ?_)
    | (refine OpD.at 8 ?_; refine OpD.of (OpOk.ixS D rfl rfl rfl rfl rfl (by decide) rfl) ?_)
    | (refine OpK.at 9 ?_; refine OpK.of (OpOk.subB rfl rfl rfl (by decide)) ?_)
    | (refine OpD.at 9 ?_; refine OpD.of (OpOk.subB rfl rfl rfl (by decide)) ?_)
    | (refine OpK.at 10 ?_; refine OpK.of (OpOk.cvI D rfl rfl rfl rfl rfl rfl (by decide)) ?_)
    | (refine OpD.at 10 ?_; refine OpD.of (OpOk.cvI D rfl rfl rfl rfl rfl rfl (by decide)) ?_)
    | (refine OpK.at 13 ?_; refine OpK.of (OpOk.mulN 0 703 rfl rfl rfl rfl rfl (by omega)) ?_)
    | (refine OpD.at 13 ?_; refine OpD.of (OpOk.mulN 0 703 rfl rfl rfl rfl rfl (by omega)) ?_)
    | (refine OpK.at 16 ?_; refine OpK.of (OpOk.slSd D rfl rfl rfl rfl rfl (by simp)) ?_)
    | (refine OpD.at 16 ?_; refine OpD.of (OpOk.slSd D rfl rfl rfl rfl rfl (by simp)) ?_)
    | refine goO ?_
    | refine goN ?_
    | (refine WO.gs _ rfl rfl rfl ?_ ?_ <;> intro hb <;> simp only [hb] <;> (try simp at hb) <;> try contradiction)
    | (refine WD.gs _ rfl rfl rfl ?_ ?_ <;> intro hb <;> simp only [hb] <;> (try simp at hb) <;> try contradiction))
  all_goals first
    | (refine ⟨.inr rfl, _, _, rfl, .cons (.c (.id rfl)) .nil, ?_⟩; rfl)
    | (exfalso; simp_all; done)
    | trace_state
theorem rb2 : Pu Try.prog 97 [Sx [97, 97], I 1] (I 2) := by
  have e1 := kf1
  have e2 := rb1
  refine Pu.of D Try.func97 rfl rfl rfl ?_
  repeat' (first
    | (refine W.cond rfl ?_ ?_ <;> intro hb <;> (try simp at hb) <;> try contradiction)
    | (refine OpK.at 12 ?_; refine cl (e1) ?_)
    | (refine OpD.at 12 ?_; refine cl (e1) ?_)
    | (refine OpK.at 19 ?_; refine cl (e2) ?_)
    | (refine OpD.at 19 ?_; refine cl (e2) ?_)
    | (refine OpK.at 8 ?_; refine OpK.of (OpOk.ixS D rfl rfl rfl rfl rfl (by decide) rfl) ?_)
    | (refine OpD.at 8 ?_; refine OpD.of (OpOk.ixS D rfl rfl rfl rfl rfl (by decide) rfl) ?_)
    | (refine OpK.at 9 ?_; refine OpK.of (OpOk.subB rfl rfl rfl (by decide)) ?_)
    | (refine OpD.at 9 ?_; refine OpD.of (OpOk.subB rfl rfl rfl (by decide)) ?_)
    | (refine OpK.at 10 ?_; refine OpK.of (OpOk.cvI D rfl rfl rfl rfl rfl rfl (by decide)) ?_)
    | (refine OpD.at 10 ?_; refine OpD.of (OpOk.cvI D rfl rfl rfl rfl rfl rfl (by decide)) ?_)
    | (refine OpK.at 13 ?_; refine OpK.of (OpOk.mulN 0 18279 rfl rfl rfl rfl rfl (by omega)) ?_)
    | (refine OpD.at 13 ?_; refine OpD.of (OpOk.mulN 0 18279 rfl rfl rfl rfl rfl (by omega)) ?_)
    | (refine OpK.at 16 ?_; refine OpK.of (OpOk.slSd D rfl rfl rfl rfl rfl (by simp)) ?_)
    | (refine OpD.at 16 ?_; refine OpD.of (OpOk.slSd D rfl rfl rfl rfl rfl (by simp)) ?_)
    | refine goO ?_
    | refine goN ?_
    | (refine WO.gs _ rfl rfl rfl ?_ ?_ <;> intro hb <;> simp only [hb] <;> (try simp at hb) <;> try contradiction)
    | (refine WD.gs _ rfl rfl rfl ?_ ?_ <;> intro hb <;> simp only [hb] <;> (try simp at hb) <;> try contradiction))
  all_goals first
    | (refine ⟨.inr rfl, _, _, rfl, .cons (.c (.id rfl)) .nil, ?_⟩; rfl)
    | (exfalso; simp_all; done)
    | trace_state
theorem rankAA : Pu Try.prog 33 [Sx [97, 97]] (I 1) := by
  have e1 := keyOk_impl [97, 97]
  rw [show keyOk [97, 97] = true by decide] at e1
  refine Pu.of D Try.func33 rfl rfl rfl ?_
  repeat' (first
    | (refine W.cond rfl ?_ ?_ <;> intro hb <;> (try simp at hb) <;> (try contradiction) <;> (try (exfalso; omega)))
    | refine cl (e1) ?_
    | refine cl (rb2) ?_
    | refine goO ?_
    | refine goN ?_
    | (refine WO.gs _ rfl rfl rfl ?_ ?_ <;> intro hb <;> simp only [hb] <;> (try simp at hb) <;> (try contradiction) <;> (try (exfalso; omega))))
  all_goals first
    | (exfalso; omega)
    | (refine ⟨.inr rfl, _, _, rfl, .cons (.c (.id rfl)) .nil, ?_⟩; rfl)
theorem rank0 : Pu Try.prog 33 [Sx []] (I (-1)) := by
  have e1 := keyOk_impl []
  rw [show keyOk [] = false by decide] at e1
  refine Pu.of D Try.func33 rfl rfl rfl ?_
  repeat' (first
    | (refine W.cond rfl ?_ ?_ <;> intro hb <;> (try simp at hb) <;> (try contradiction) <;> (try (exfalso; omega)))
    | refine cl (e1) ?_
    | refine goO ?_
    | refine goN ?_
    | (refine WO.gs _ rfl rfl rfl ?_ ?_ <;> intro hb <;> simp only [hb] <;> (try simp at hb) <;> (try contradiction) <;> (try (exfalso; omega))))
  all_goals first
    | (exfalso; omega)
    | (refine ⟨.inr rfl, _, _, rfl, .cons (.c (.id rfl)) .nil, ?_⟩; rfl)
theorem alive_ok : Pu Try.prog 15 [] (B true) := by
  refine Pu.of D Try.func15 rfl rfl rfl ?_
  repeat' (first
    | (refine W.cond rfl ?_ ?_ <;> intro hb <;> (try simp at hb) <;> (try contradiction) <;> (try (exfalso; omega)))
    | refine cl (rankAA) ?_
    | refine cl (rank0) ?_
    | refine goO ?_
    | refine goN ?_
    | (refine WO.gs _ rfl rfl rfl ?_ ?_ <;> intro hb <;> simp only [hb] <;> (try simp at hb) <;> (try contradiction) <;> (try (exfalso; omega))))
  all_goals first
    | (exfalso; omega)
    | (refine ⟨.inr rfl, _, _, rfl, .cons (.c (.id rfl)) .nil, ?_⟩; rfl)
end Go.YtamlleimfopmhaaMc

namespace Go.YtamlleimfopmhaaMc
open Go.Proofs
/-! ### Draws: entries -/
theorem OpOk.bldK {P : Program} {n : Nat} {o : Oper} {env : Env} {h : List Blk} (D : Tab P) {α : Type} (xs : List α) (enc : α → List T) {t e len : Nat} {ps : Array (Nat × Operand)} {vs : List (Nat × V)} {i ie : TI} (ho : o.op = .buildSlice t len ps) (ht : D.f t = some i) (hk : i.k = .sl e) (hte : D.f e = some ie) (hz : 0 < ie.size) (hl : 0 < len) (h24 : len * ie.size ≤ 16777216)
    (hv : oes env ps.toList = some vs) (hb : bldC (plc len ie.size) (List.replicate len ie.zero).flatten h vs = some ((xs.map fun x => (enc x).map C.t).flatten)) (hc : chunk len ie.size ((xs.map fun x => (enc x).map C.t).flatten) = Rs enc xs) : OpOk P n o env h (.c (.t (.l (xs.map enc)))) h :=
  OpOk.bldF D xs enc ho ht hk hte hz hl h24 hv hb hc
set_option maxHeartbeats 8000000 in
theorem any_ex {bs : List UInt8} {p : Nat} (ro : Rok bs p) (hq : p + 50 ≤ 1099511627776) (n : Int) (hn : n ≤ 1000) : ∃ (c : Cmd) (p' : Nat), p ≤ p' ∧ p' ≤ p + 50 ∧ (n ≤ 0 → cmdOk c = true) ∧ c.key.length ≤ 5 ∧ Po Try.prog 119 [Rp, I n] (rdH bs p) (A c.e) (rdH bs p') := by
  obtain ⟨c, p1, a1, a2, a3, a4, eo⟩ := cmd_ex ro (by omega) n hn
  obtain ⟨k, k1, _, e1⟩ := pick_ex (p := p1) ⟨ro.b, by omega⟩ 5 (by omega)
  by_cases g0 : (k : Int) = 0
  · obtain ⟨s, p2, b1, b2, b3, b4, ek⟩ := key_ex (p := p1 + 1) ⟨ro.b, by omega⟩ (by omega) 0 (by omega)
    have b3 := b3 (by omega)
    obtain ⟨q, q1, _, e2⟩ := pick_ex (p := p2) ⟨ro.b, by omega⟩ 4 (by omega)
    have hk : q < ([[], [98], [99], s] : List (List UInt8)).length := by have := q1 (by omega); simp; omega
    have hx : ∀ x ∈ ([[], [98], [99], s] : List (List UInt8)), (keyOk x = true ∨ x = []) ∧ x.length ≤ 5 := by
      intro x hx
      simp only [List.mem_cons, List.not_mem_nil, or_false] at hx
      rcases hx with rfl | rfl | rfl | rfl
      · exact ⟨.inr rfl, by decide⟩
      · exact ⟨.inl (by decide), by decide⟩
      · exact ⟨.inl (by decide), by decide⟩
      · exact ⟨.inl b3, b4⟩
    have hv := mem_all hx q hk
    refine ⟨⟨5, ([[], [98], [99], s] : List (List UInt8))[q], 0, 0⟩, p2 + 1, by omega, by omega, fun _ => seal_ok hv.1, hv.2, ?_⟩
    refine Po.of D Try.func119 rfl rfl rfl ?_
    repeat' (first
    | (refine W.cond rfl ?_ ?_ <;> intro hb <;> (try simp at hb) <;> (try contradiction) <;> (try (exfalso; omega)))
    | (refine OpK.at 8 ?_; refine co [0] (eo) ?_)
    | (refine OpK.at 10 ?_; refine co [0] (e1) ?_)
    | (refine OpK.at 13 ?_; refine co [0] (ek) ?_)
    | refine OpK.of (OpOk.bldF D [[], [98], [99], s] eS rfl rfl rfl rfl (by decide) (by decide) (by decide) rfl rfl rfl) ?_
    | (refine OpK.at 16 ?_; refine co [0] (e2) ?_)
    | (refine OpK.at 17 ?_; refine OpK.of (OpOk.ixM D rfl rfl rfl rfl rfl rfl hk (fun _ => rfl)) ?_)
    | refine goO ?_
    | refine goN ?_
    | (refine WO.gs _ rfl rfl rfl ?_ ?_ <;> intro hb <;> simp only [hb] <;> (try simp at hb) <;> (try contradiction) <;> (try (exfalso; omega))))
    all_goals first
      | (exfalso; omega)
      | (first | refine Ro.c1 (.inr rfl) [0] rfl (by decide) (kp rfl) ?_ ?_ | refine Ro.a1 (.inr rfl) [0] rfl (by decide) (kp rfl) ?_ ?_ | refine Ro.t1 (.inr rfl) [0] rfl (by decide) (kp rfl) ?_ ?_ rfl); (repeat' (first | exact .nil | refine .cons rfl ?_ ?_ | refine .cons ?_ ?_ | refine .c ?_ | refine .ag ?_ | refine .box ?_ | exact .arr (rs_low _ _ _) | exact .dead | exact .id rfl | exact .sl rfl | exact .ptr rfl | exact .ap rfl | exact .emp | exact .full rfl rfl rfl rfl rfl | fail))
  · refine ⟨c, p1 + 1, by omega, by omega, fun h => (a3 h).1, a4, ?_⟩
    refine Po.of D Try.func119 rfl rfl rfl ?_
    repeat' (first
    | (refine W.cond rfl ?_ ?_ <;> intro hb <;> (try simp at hb) <;> (try contradiction) <;> (try (exfalso; omega)))
    | (refine OpK.at 8 ?_; refine co [0] (eo) ?_)
    | (refine OpK.at 10 ?_; refine co [0] (e1) ?_)
    | refine goO ?_
    | refine goN ?_
    | (refine WO.gs _ rfl rfl rfl ?_ ?_ <;> intro hb <;> simp only [hb] <;> (try simp at hb) <;> (try contradiction) <;> (try (exfalso; omega))))
    all_goals first
      | (exfalso; omega)
      | (first | refine Ro.c1 (.inr rfl) [0] rfl (by decide) (kp rfl) ?_ ?_ | refine Ro.a1 (.inr rfl) [0] rfl (by decide) (kp rfl) ?_ ?_ | refine Ro.t1 (.inr rfl) [0] rfl (by decide) (kp rfl) ?_ ?_ rfl); (repeat' (first | exact .nil | refine .cons rfl ?_ ?_ | refine .cons ?_ ?_ | refine .c ?_ | refine .ag ?_ | refine .box ?_ | exact .arr (rs_low _ _ _) | exact .dead | exact .id rfl | exact .sl rfl | exact .ptr rfl | exact .ap rfl | exact .emp | exact .full rfl rfl rfl rfl rfl | fail))
set_option maxHeartbeats 1000000 in
theorem ent_ex {bs : List UInt8} {p : Nat} (ro : Rok bs p) (hq : p + 60 ≤ 1099511627776) (n : Int) (hn : n ≤ 1000) : ∃ (e : Ent) (p' : Nat), p ≤ p' ∧ p' ≤ p + 60 ∧ (n ≤ 0 → entOk e = true) ∧ e.cmd.key.length ≤ 5 ∧ Po Try.prog 64 [Rp, I n] (rdH bs p) (A e.e) (rdH bs p') := by
  obtain ⟨k, k1, _, e1⟩ := pick_ex ro 4 (by omega)
  obtain ⟨q, q1, _, e2⟩ := pick_ex (p := p + 1) ⟨ro.b, by omega⟩ 6 (by omega)
  obtain ⟨c, p1, a1, a2, a3, a4, ea⟩ := any_ex (p := p + 1 + 1) ⟨ro.b, by omega⟩ (by omega) 0 (by omega)
  obtain ⟨b, p2, b1, b2, b3, eo⟩ := odd_ex (p := p1) ⟨ro.b, by omega⟩ n hn
  have k1 := k1 (by omega)
  have q1 := q1 (by omega)
  cases b with
  | true =>
    obtain ⟨z, z1, _, e3⟩ := pick_ex (p := p2) ⟨ro.b, by omega⟩ 6 (by omega)
    have hk : z < ([⟨0, 0, ⟨0, [], 0, 0⟩⟩, ⟨4, 1, c⟩, ⟨-1, 1, c⟩, ⟨1, 0, c⟩, ⟨1, 1000, c⟩, ⟨1, 1, ⟨0, [], 0, 0⟩⟩] : List Ent).length := by have := z1 (by omega); simp; omega
    have hx : ∀ x ∈ ([⟨0, 0, ⟨0, [], 0, 0⟩⟩, ⟨4, 1, c⟩, ⟨-1, 1, c⟩, ⟨1, 0, c⟩, ⟨1, 1000, c⟩, ⟨1, 1, ⟨0, [], 0, 0⟩⟩] : List Ent), x.cmd.key.length ≤ 5 := by
      intro x hx
      simp only [List.mem_cons, List.not_mem_nil, or_false] at hx
      rcases hx with rfl | rfl | rfl | rfl | rfl | rfl <;> first | exact a4 | decide
    refine ⟨([⟨0, 0, ⟨0, [], 0, 0⟩⟩, ⟨4, 1, c⟩, ⟨-1, 1, c⟩, ⟨1, 0, c⟩, ⟨1, 1000, c⟩, ⟨1, 1, ⟨0, [], 0, 0⟩⟩] : List Ent)[z], p2 + 1, by omega, by omega, fun h => absurd (b3 h) (by decide), mem_all hx z hk, ?_⟩
    refine Po.of D Try.func64 rfl rfl rfl ?_
    repeat' (first
    | (refine W.cond rfl ?_ ?_ <;> intro hb <;> (try simp at hb) <;> (try contradiction) <;> (try (exfalso; omega)))
    | refine W.dsp 3 19 [16] mixed (by decide +kernel) ?_
    | refine W.dspe 3 19 [16] mixed (by decide +kernel) ?_
    | refine WS.t rfl ?_ rfl
    | refine WS.g1 rfl rfl rfl rfl ?_
    | refine WS.g0 rfl rfl rfl rfl ?_
    | apply Gz.go
    | refine WS.u rfl rfl rfl ?_
    | refine WS.done rfl ?_
    | refine SpK.go rfl ?_
    | (apply Az.mk; intro z_)
    | (apply Ev.mk; rfl)
    | (apply OpD.of; apply stpR_ok D; rfl)
    | (apply OpD.of; refine OpOk.lenS D rfl rfl rfl rfl)
    | (apply OpD.of; refine OpOk.lenM D rfl rfl rfl rfl)
    | (apply OpD.of; refine OpOk.lenL D rfl rfl rfl rfl)
    | (apply OpD.of; refine OpOk.lenA D rfl rfl rfl rfl rfl rfl)
    | (apply OpD.of; refine OpOk.lenE D rfl rfl rfl rfl)
    | (apply OpD.of; refine OpOk.add rfl rfl rfl (by omega))
    | (apply OpD.of; refine OpOk.sub rfl rfl rfl (by omega))
    | (apply OpD.of; refine OpOk.build2 D rfl rfl rfl rfl rfl rfl)
    | (refine OpK.at 7 ?_; refine co [0] (e1) ?_)
    | (refine OpD.at 7 ?_; refine co [0] (e1) ?_)
    | (refine OpK.at 9 ?_; refine co [0] (e2) ?_)
    | (refine OpD.at 9 ?_; refine co [0] (e2) ?_)
    | (refine OpK.at 12 ?_; refine co [0] (ea) ?_)
    | (refine OpD.at 12 ?_; refine co [0] (ea) ?_)
    | (refine OpK.at 16 ?_; refine co [0] (eo) ?_)
    | (refine OpD.at 16 ?_; refine co [0] (eo) ?_)
    | (refine OpK.at 33 ?_; refine co [0] (e3) ?_)
    | (refine OpD.at 33 ?_; refine co [0] (e3) ?_)
    | (refine OpK.at 31 ?_; refine OpK.of (OpOk.bldK D ([⟨0, 0, ⟨0, [], 0, 0⟩⟩, ⟨4, 1, c⟩, ⟨-1, 1, c⟩, ⟨1, 0, c⟩, ⟨1, 1000, c⟩, ⟨1, 1, ⟨0, [], 0, 0⟩⟩] : List Ent) Ent.e rfl rfl rfl rfl (by decide) (by decide) (by decide) rfl (by kernel_rfl) (by kernel_rfl)) ?_)
    | (refine OpD.at 31 ?_; (apply OpD.of; refine OpOk.bldK D ([⟨0, 0, ⟨0, [], 0, 0⟩⟩, ⟨4, 1, c⟩, ⟨-1, 1, c⟩, ⟨1, 0, c⟩, ⟨1, 1000, c⟩, ⟨1, 1, ⟨0, [], 0, 0⟩⟩] : List Ent) Ent.e rfl rfl rfl rfl (by decide) (by decide) (by decide) rfl (by kernel_rfl) (by kernel_rfl)))
    | (refine OpK.at 34 ?_; refine OpK.of (OpOk.ixM D rfl rfl rfl rfl rfl rfl hk (fun _ => rfl)) ?_)
    | (refine OpD.at 34 ?_; (apply OpD.of; refine OpOk.ixM D rfl rfl rfl rfl rfl rfl hk (fun _ => rfl)))
    | refine goO ?_
    | refine goN ?_
    | (refine WO.gs _ rfl rfl rfl ?_ ?_ <;> intro hb <;> simp only [hb] <;> (try simp at hb) <;> (try contradiction) <;> (try (exfalso; omega)))
    | (refine WS.gs _ rfl rfl rfl ?_ ?_ <;> intro hb <;> simp only [hb] <;> (try simp at hb) <;> (try contradiction) <;> (try (exfalso; omega)))
    | (refine WD.gs _ rfl rfl rfl ?_ ?_ <;> intro hb <;> simp only [hb] <;> (try simp at hb) <;> (try contradiction) <;> (try (exfalso; omega))))
    all_goals first
      | (exfalso; omega)
      | (first | refine Ro.c1 (.inr rfl) [0] rfl (by decide) (kp rfl) ?_ ?_ | refine Ro.a1 (.inr rfl) [0] rfl (by decide) (kp rfl) ?_ ?_ | refine Ro.t1 (.inr rfl) [0] rfl (by decide) (kp rfl) ?_ ?_ rfl); (repeat' (first | exact .nil | refine .cons rfl ?_ ?_ | refine .cons ?_ ?_ | refine .c ?_ | refine .ag ?_ | refine .box ?_ | exact .arr (rs_low _ _ _) | exact .dead | exact .id rfl | exact .sl rfl | exact .ptr rfl | exact .ap rfl | exact .emp | exact .full rfl rfl rfl rfl rfl | fail))
  | false =>
    refine ⟨⟨k, 1 + q, c⟩, p2, by omega, by omega, fun _ => by simp only [entOk, inR, a3 (by omega), Bool.and_true, Bool.and_eq_true, decide_eq_true_eq]; omega, a4, ?_⟩
    refine Po.of D Try.func64 rfl rfl rfl ?_
    repeat' (first
    | (refine W.cond rfl ?_ ?_ <;> intro hb <;> (try simp at hb) <;> (try contradiction) <;> (try (exfalso; omega)))
    | (refine OpK.at 7 ?_; refine co [0] (e1) ?_)
    | (refine OpD.at 7 ?_; refine co [0] (e1) ?_)
    | (refine OpK.at 9 ?_; refine co [0] (e2) ?_)
    | (refine OpD.at 9 ?_; refine co [0] (e2) ?_)
    | (refine OpK.at 12 ?_; refine co [0] (ea) ?_)
    | (refine OpD.at 12 ?_; refine co [0] (ea) ?_)
    | (refine OpK.at 16 ?_; refine co [0] (eo) ?_)
    | (refine OpD.at 16 ?_; refine co [0] (eo) ?_)
    | refine goO ?_
    | refine goN ?_
    | (refine WO.gs _ rfl rfl rfl ?_ ?_ <;> intro hb <;> simp only [hb] <;> (try simp at hb) <;> (try contradiction) <;> (try (exfalso; omega)))
    | (refine WD.gs _ rfl rfl rfl ?_ ?_ <;> intro hb <;> simp only [hb] <;> (try simp at hb) <;> (try contradiction) <;> (try (exfalso; omega))))
    all_goals first
      | (exfalso; omega)
      | (first | refine Ro.c1 (.inr rfl) [0] rfl (by decide) (kp rfl) ?_ ?_ | refine Ro.a1 (.inr rfl) [0] rfl (by decide) (kp rfl) ?_ ?_ | refine Ro.t1 (.inr rfl) [0] rfl (by decide) (kp rfl) ?_ ?_ rfl); (repeat' (first | exact .nil | refine .cons rfl ?_ ?_ | refine .cons ?_ ?_ | refine .c ?_ | refine .ag ?_ | refine .box ?_ | exact .arr (rs_low _ _ _) | exact .dead | exact .id rfl | exact .sl rfl | exact .ptr rfl | exact .ap rfl | exact .emp | exact .full rfl rfl rfl rfl rfl | fail))
end Go.YtamlleimfopmhaaMc
