/- Lemmas of this claim: walks through code, values and memory, and the contracts of functions; under no condition beyond those that each states. -/
import Derived.Test.YtamlleimfopmhaaGA
set_option maxRecDepth 100000
set_option linter.unusedVariables false
set_option linter.unusedSimpArgs false
namespace Go.YtamlleimfopmhaaMc
open Go.Proofs
/-! ### Caches -/
theorem pig (m : Nat) : ∀ l : List Nat, l.Nodup → (∀ x ∈ l, x < m) → l.length ≤ m := by
  induction m with
  | zero => intro l _ h; cases l with
    | nil => exact Nat.le_refl _
    | cons a t => exact absurd (h a List.mem_cons_self) (by omega)
  | succ m ih =>
    intro l hn h
    by_cases hm : m ∈ l
    · have h1 := ih (l.erase m) (hn.erase m) (fun x hx => by
        have hx' := (hn.mem_erase_iff).1 hx
        have := h x hx'.2
        have := hx'.1
        omega)
      rw [List.length_erase_of_mem hm] at h1
      omega
    · have h1 := ih l hn (fun x hx => by
        have := h x hx
        have : x ≠ m := fun e => hm (e ▸ hx)
        omega)
      omega
theorem numsOk_at {l : List Rou} (h : numsOk l = true) {k : Nat} (hk : k < l.length) : inR l[k].num 0 7 = true ∧ ∀ j (hj : j < k), ¬ (l[j]'(by omega)).num = l[k].num := by
  unfold numsOk at h
  have := List.all_eq_true.1 h k (by simpa using hk)
  rw [freshAt_eq hk, Bool.and_eq_true] at this
  refine ⟨this.1, fun j hj e => ?_⟩
  have h2 : ((l.take k).any fun q => decide (q.num = l[k].num)) = true := by
    rw [List.any_eq_true]
    exact ⟨l[j], by rw [List.mem_iff_getElem]; exact ⟨j, by simp; omega, by simp⟩, by simpa using e⟩
  rw [h2] at this
  exact absurd this.2 (by decide)
theorem nums8 {l : List Rou} (h : numsOk l = true) : l.length ≤ 8 := by
  have := pig 8 (l.map fun r => r.num.toNat) (by
    rw [List.Nodup, List.pairwise_iff_getElem]
    intro i j hi hj hij
    simp only [List.length_map] at hi hj
    have h1 := numsOk_at h hi
    have h2 := numsOk_at h hj
    have h3 := h2.2 i hij
    have a1 := h1.1; have a2 := h2.1
    simp [inR] at a1 a2
    simp only [List.getElem_map]
    omega) (fun x hx => by
    obtain ⟨r, hr, rfl⟩ := List.mem_map.1 hx
    obtain ⟨i, hi, rfl⟩ := List.mem_iff_getElem.1 hr
    have := (numsOk_at h hi).1
    simp [inR] at this
    omega)
  simpa using this
def caRow (p : Option Rou) (r : Rou) : Bool := ivOk r.span && (match p with | none => true | some q => q.span.hi != [] && (lt q.span.hi r.span.lo || q.span.hi == r.span.lo))
def cacheOk (l : List Rou) : Bool := numsOk l && rowOk caRow none l
set_option maxHeartbeats 4000000 in
theorem cache_impl (l : List Rou) (hl : l.length ≤ 1048576) : Pu Try.prog 45 [L Rou.e l] (B (cacheOk l)) := by
  have e3 := nums_impl l hl
  by_cases hn : numsOk l = true
  · have h8 := nums8 hn
    rw [hn] at e3
    have hc : cacheOk l = rowOk caRow none l := by unfold cacheOk; rw [hn]; rfl
    rw [hc]
    refine Pu.of D Try.func45 rfl rfl rfl ?_
    repeat' (first
    | (refine W.cond rfl ?_ ?_ <;> intro hb <;> (try simp at hb) <;> try contradiction)
    | refine cl (e3) ?_
    | refine goO ?_
    | refine goN ?_
    | (refine WO.gs _ rfl rfl rfl ?_ ?_ <;> intro hb <;> simp only [hb] <;> (try simp at hb) <;> try contradiction)
    | (refine WD.gs _ rfl rfl rfl ?_ ?_ <;> intro hb <;> simp only [hb] <;> (try simp at hb) <;> try contradiction))
    all_goals first
      | (exfalso; omega)
      | skip
    refine W.loop (σ := Nat) (fun k => [(15, I k), (14, I l.length), (13, L Rou.e l), (0, L Rou.e l)]) (fun _ => []) (fun k => k ≤ l.length ∧ rowOk caRow none l = rowOk caRow (ahead l k) (l.drop k)) (fun k => l.length - k) 0 (fun _ _ => rfl) 0 ⟨by simp, by simp [ahead]⟩ rfl (.cons rfl rfl (.cons rfl rfl (.cons rfl rfl (.cons rfl rfl (.nil))))) ?_
    rintro k ⟨hk1, hy⟩
    by_cases hlt : k < l.length
    · rw [rowOk_cons _ hlt] at hy
      have ei := ivOk_impl l[k].span
      by_cases hz : k = 0
      · rw [ahead_0 hz] at hy
        have hzn : ¬ 0 < k := by omega
        repeat' (first
    | (refine W.cond rfl ?_ ?_ <;> intro hb <;> (try simp at hb) <;> try contradiction)
    | refine cl (ei) ?_
    | refine goO ?_
    | refine goN ?_
    | (refine WO.gs _ rfl rfl rfl ?_ ?_ <;> intro hb <;> simp only [hb] <;> (try simp at hb) <;> try contradiction)
    | (refine WD.gs _ rfl rfl rfl ?_ ?_ <;> intro hb <;> simp only [hb] <;> (try simp at hb) <;> try contradiction))
        all_goals first
          | (exfalso; omega)
          | (refine ⟨.inr rfl, _, _, rfl, .cons (.c (.id rfl)) .nil, ?_⟩; have hb2 : caRow none l[k] = false := by unfold caRow; simp only [Bool.and_true]; assumption
             rw [hy, hb2, Bool.false_and]; rfl)
          | (have hb2 : caRow none l[k] = true := by unfold caRow; simp only [Bool.and_true]; assumption
             rw [hb2, Bool.true_and] at hy
             exact ⟨k + 1, ⟨by omega, hy⟩, by omega, (.cons rfl rfl (.cons rfl rfl (.cons rfl rfl (.cons rfl rfl (.nil))))), rfl, rfl⟩)
      · have hk2 : k - 1 < l.length := by omega
        rw [ahead_s hz hk2] at hy
        repeat' (first
    | (refine W.cond rfl ?_ ?_ <;> intro hb <;> (try simp at hb) <;> try contradiction)
    | refine cl (ei) ?_
    | refine OpK.of (OpOk.sub rfl rfl rfl (by omega)) ?_
    | refine OpD.of (OpOk.sub rfl rfl rfl (by omega)) ?_
    | refine OpK.of (OpOk.ixJ D (k - 1) rfl rfl rfl rfl rfl rfl (by omega) hk2 (fun _ => rfl)) ?_
    | refine OpD.of (OpOk.ixJ D (k - 1) rfl rfl rfl rfl rfl rfl (by omega) hk2 (fun _ => rfl)) ?_
    | refine goO ?_
    | refine goN ?_
    | (refine WO.gs _ rfl rfl rfl ?_ ?_ <;> intro hb <;> simp only [hb] <;> (try simp at hb) <;> try contradiction)
    | (refine WD.gs _ rfl rfl rfl ?_ ?_ <;> intro hb <;> simp only [hb] <;> (try simp at hb) <;> try contradiction))
        all_goals first
          | (exfalso; omega)
          | (refine ⟨.inr rfl, _, _, rfl, .cons (.c (.id rfl)) .nil, ?_⟩; have hb2 : caRow (some l[k - 1]) l[k] = false := by unfold caRow; (try dsimp only); first | (simp_all; done) | (simp at *; grind)
             rw [hy, hb2, Bool.false_and]; rfl)
          | (have hb2 : caRow (some l[k - 1]) l[k] = true := by unfold caRow; (try dsimp only); first | (simp_all; done) | (simp at *; grind)
             rw [hb2, Bool.true_and] at hy
             exact ⟨k + 1, ⟨by omega, hy⟩, by omega, (.cons rfl rfl (.cons rfl rfl (.cons rfl rfl (.cons rfl rfl (.nil))))), rfl, rfl⟩)
    · repeat' (first
    | (refine W.cond rfl ?_ ?_ <;> intro hb <;> try simp at hb)
    | refine goO ?_
    | refine goN ?_
    | (refine WO.gs _ rfl rfl rfl ?_ ?_ <;> intro hb <;> simp only [hb] <;> try simp at hb)
    | (refine WD.gs _ rfl rfl rfl ?_ ?_ <;> intro hb <;> simp only [hb] <;> try simp at hb))
      all_goals first
        | (exfalso; omega)
        | (refine ⟨.inr rfl, _, _, rfl, .cons (.c (.id rfl)) .nil, ?_⟩; rw [hy, rowOk_nil _ (by omega)]; rfl)
  · have hn := Bool.eq_false_iff.2 hn
    rw [hn] at e3
    have hc : cacheOk l = false := by unfold cacheOk; rw [hn]; rfl
    rw [hc]
    refine Pu.of D Try.func45 rfl rfl rfl ?_
    repeat' (first
    | (refine W.cond rfl ?_ ?_ <;> intro hb <;> (try simp at hb) <;> try contradiction)
    | refine cl (e3) ?_
    | refine goO ?_
    | refine goN ?_
    | (refine WO.gs _ rfl rfl rfl ?_ ?_ <;> intro hb <;> simp only [hb] <;> (try simp at hb) <;> try contradiction)
    | (refine WD.gs _ rfl rfl rfl ?_ ?_ <;> intro hb <;> simp only [hb] <;> (try simp at hb) <;> try contradiction))
    all_goals (refine ⟨.inr rfl, _, _, rfl, .cons (.c (.id rfl)) .nil, ?_⟩; rfl)
end Go.YtamlleimfopmhaaMc

namespace Go.YtamlleimfopmhaaMc
open Go.Proofs
theorem any_step {l : List Rou} {n : Int} {j : Nat} (hl : j < l.length) (h : (l.take j).any (fun q => decide (q.num = n)) = false) (hn : ¬ l[j].num = n) : (l.take (j + 1)).any (fun q => decide (q.num = n)) = false := by
  rw [List.take_succ_eq_append_getElem hl, List.any_append, h]; simp [hn]
theorem any_le {l : List Rou} {n : Int} {j k : Nat} (hj : j < k) (hl : j < l.length) (hn : l[j].num = n) : (l.take k).any (fun q => decide (q.num = n)) = true := by
  rw [List.any_eq_true]
  refine ⟨l[j], ?_, by simp [hn]⟩
  rw [List.mem_iff_getElem]
  exact ⟨j, by simp; omega, by simp⟩
set_option maxHeartbeats 8000000 in
theorem cache_spec (l : List Rou) (hl : l.length ≤ 1048576) : Pu Try.prog 110 [L Rou.e l] (B (cacheOk l)) := by
  refine Pu.of D Try.func110 rfl rfl rfl ?_
  repeat' (first
    | (refine W.cond rfl ?_ ?_ <;> intro hb <;> try simp at hb)
    | refine goO ?_
    | refine goN ?_
    | (refine WO.gs _ rfl rfl rfl ?_ ?_ <;> intro hb <;> simp only [hb] <;> try simp at hb)
    | (refine WD.gs _ rfl rfl rfl ?_ ?_ <;> intro hb <;> simp only [hb] <;> try simp at hb))
  refine W.loop (σ := Nat) (fun k => [(3, I k), (0, L Rou.e l)]) (fun _ => []) (fun k => k ≤ l.length ∧ cacheOk l = (((List.range l.length).drop k).all (freshAt l) && rowOk caRow (ahead l k) (l.drop k))) (fun k => l.length - k) 0 (fun _ _ => rfl) 0 ⟨by simp, by simp [ahead, cacheOk, numsOk]⟩ rfl (.cons rfl rfl (.cons rfl rfl (.nil))) ?_
  rintro k ⟨hk1, hy⟩
  by_cases hlt : k < l.length
  · rw [rng_drop hlt, List.all_cons, freshAt_eq hlt, rowOk_cons _ hlt] at hy
    have ei := ivOk_spec l[k].span
    have en := in_ok l[k].num 0 7
    by_cases hv : ivOk l[k].span = true
    · by_cases hn : inR l[k].num 0 7 = true
      · rw [hv] at ei
        rw [hn] at en hy
        rw [Bool.true_and] at hy
        repeat' (first
    | (refine W.cond rfl ?_ ?_ <;> intro hb <;> (try simp at hb) <;> try contradiction)
    | refine cl (ei) ?_
    | refine cl (en) ?_
    | refine goO ?_
    | refine goN ?_
    | (refine WO.gs _ rfl rfl rfl ?_ ?_ <;> intro hb <;> simp only [hb] <;> (try simp at hb) <;> try contradiction)
    | (refine WD.gs _ rfl rfl rfl ?_ ?_ <;> intro hb <;> simp only [hb] <;> (try simp at hb) <;> try contradiction))
        all_goals first
          | (exfalso; omega)
          | skip
        refine W.loop (σ := Nat) (fun j => [(4, I j), (3, I k), (0, L Rou.e l)]) (fun _ => []) (fun j => j ≤ k ∧ (l.take j).any (fun q => decide (q.num = l[k].num)) = false) (fun j => k - j) 0 (fun _ _ => rfl) 0 ⟨by omega, by simp⟩ rfl (.cons rfl rfl (.cons rfl rfl (.cons rfl rfl (.nil)))) ?_
        rintro j ⟨hj1, hjy⟩
        by_cases hjk : j < k
        · have hjl : j < l.length := by omega
          by_cases he : l[j].num = l[k].num
          · have hr : cacheOk l = false := by rw [hy, any_le hjk hjl he]; rfl
            repeat' (first
    | (refine W.cond rfl ?_ ?_ <;> intro hb <;> (try simp at hb) <;> try contradiction)
    | refine goO ?_
    | refine goN ?_
    | (refine WO.gs _ rfl rfl rfl ?_ ?_ <;> intro hb <;> simp only [hb] <;> (try simp at hb) <;> try contradiction)
    | (refine WD.gs _ rfl rfl rfl ?_ ?_ <;> intro hb <;> simp only [hb] <;> (try simp at hb) <;> try contradiction))
            all_goals first
              | (exfalso; omega)
              | (refine ⟨.inr rfl, _, _, rfl, .cons (.c (.id rfl)) .nil, ?_⟩; rw [hr]; rfl)
          · repeat' (first
    | (refine W.cond rfl ?_ ?_ <;> intro hb <;> (try simp at hb) <;> try contradiction)
    | refine goO ?_
    | refine goN ?_
    | (refine WO.gs _ rfl rfl rfl ?_ ?_ <;> intro hb <;> simp only [hb] <;> (try simp at hb) <;> try contradiction)
    | (refine WD.gs _ rfl rfl rfl ?_ ?_ <;> intro hb <;> simp only [hb] <;> (try simp at hb) <;> try contradiction))
            all_goals first
              | (exfalso; omega)
              | exact ⟨j + 1, ⟨by omega, any_step hjl hjy he⟩, by omega, (.cons rfl rfl (.cons rfl rfl (.cons rfl rfl (.nil)))), rfl, rfl⟩
        · have hjk : j = k := by omega
          subst hjk
          rw [hjy, Bool.not_false, Bool.true_and] at hy
          by_cases hz : j = 0
          · have hzn : ¬ 0 < j := by omega
            have hb2 : caRow (ahead l j) l[j] = true := by rw [ahead_0 hz]; unfold caRow; rw [hv]; rfl
            rw [hb2, Bool.true_and] at hy
            repeat' (first
    | (refine W.cond rfl ?_ ?_ <;> intro hb <;> (try simp at hb) <;> try contradiction)
    | refine goO ?_
    | refine goN ?_
    | (refine WO.gs _ rfl rfl rfl ?_ ?_ <;> intro hb <;> simp only [hb] <;> (try simp at hb) <;> try contradiction)
    | (refine WD.gs _ rfl rfl rfl ?_ ?_ <;> intro hb <;> simp only [hb] <;> (try simp at hb) <;> try contradiction))
            all_goals first
              | (exfalso; omega)
              | exact ⟨j + 1, ⟨by omega, hy⟩, by omega, (.cons rfl rfl (.cons rfl rfl (.nil))), rfl, rfl⟩
          · have hk2 : j - 1 < l.length := by omega
            rw [ahead_s hz hk2] at hy
            repeat' (first
    | (refine W.cond rfl ?_ ?_ <;> intro hb <;> (try simp at hb) <;> try contradiction)
    | refine OpK.of (OpOk.sub rfl rfl rfl (by omega)) ?_
    | refine OpD.of (OpOk.sub rfl rfl rfl (by omega)) ?_
    | refine OpK.of (OpOk.ixJ D (j - 1) rfl rfl rfl rfl rfl rfl (by omega) hk2 (fun _ => rfl)) ?_
    | refine OpD.of (OpOk.ixJ D (j - 1) rfl rfl rfl rfl rfl rfl (by omega) hk2 (fun _ => rfl)) ?_
    | refine goO ?_
    | refine goN ?_
    | (refine WO.gs _ rfl rfl rfl ?_ ?_ <;> intro hb <;> simp only [hb] <;> (try simp at hb) <;> try contradiction)
    | (refine WD.gs _ rfl rfl rfl ?_ ?_ <;> intro hb <;> simp only [hb] <;> (try simp at hb) <;> try contradiction))
            all_goals first
              | (exfalso; omega)
              | (refine ⟨.inr rfl, _, _, rfl, .cons (.c (.id rfl)) .nil, ?_⟩; have hb2 : caRow (some l[j - 1]) l[j] = false := by unfold caRow; (try dsimp only); first | (simp_all; done) | (simp at *; grind)
                 rw [hy, hb2, Bool.false_and, Bool.and_false]; rfl)
              | (have hb2 : caRow (some l[j - 1]) l[j] = true := by unfold caRow; (try dsimp only); first | (simp_all; done) | (simp at *; grind)
                 rw [hb2, Bool.true_and] at hy
                 exact ⟨j + 1, ⟨by omega, hy⟩, by omega, (.cons rfl rfl (.cons rfl rfl (.nil))), rfl, rfl⟩)
      · have hn := Bool.eq_false_iff.2 hn
        have hr : cacheOk l = false := by rw [hy, hn]; rfl
        rw [hv] at ei
        rw [hn] at en
        repeat' (first
    | (refine W.cond rfl ?_ ?_ <;> intro hb <;> (try simp at hb) <;> try contradiction)
    | refine cl (ei) ?_
    | refine cl (en) ?_
    | refine goO ?_
    | refine goN ?_
    | (refine WO.gs _ rfl rfl rfl ?_ ?_ <;> intro hb <;> simp only [hb] <;> (try simp at hb) <;> try contradiction)
    | (refine WD.gs _ rfl rfl rfl ?_ ?_ <;> intro hb <;> simp only [hb] <;> (try simp at hb) <;> try contradiction))
        all_goals first
          | (exfalso; omega)
          | (refine ⟨.inr rfl, _, _, rfl, .cons (.c (.id rfl)) .nil, ?_⟩; rw [hr]; rfl)
    · have hv := Bool.eq_false_iff.2 hv
      have hr : cacheOk l = false := by
        rw [hy, show caRow (ahead l k) l[k] = false by unfold caRow; rw [hv]; rfl, Bool.false_and, Bool.and_false]
      rw [hv] at ei
      repeat' (first
    | (refine W.cond rfl ?_ ?_ <;> intro hb <;> (try simp at hb) <;> try contradiction)
    | refine cl (ei) ?_
    | refine cl (en) ?_
    | refine goO ?_
    | refine goN ?_
    | (refine WO.gs _ rfl rfl rfl ?_ ?_ <;> intro hb <;> simp only [hb] <;> (try simp at hb) <;> try contradiction)
    | (refine WD.gs _ rfl rfl rfl ?_ ?_ <;> intro hb <;> simp only [hb] <;> (try simp at hb) <;> try contradiction))
      all_goals first
        | (exfalso; omega)
        | (refine ⟨.inr rfl, _, _, rfl, .cons (.c (.id rfl)) .nil, ?_⟩; rw [hr]; rfl)
  · repeat' (first
    | (refine W.cond rfl ?_ ?_ <;> intro hb <;> try simp at hb)
    | refine goO ?_
    | refine goN ?_
    | (refine WO.gs _ rfl rfl rfl ?_ ?_ <;> intro hb <;> simp only [hb] <;> try simp at hb)
    | (refine WD.gs _ rfl rfl rfl ?_ ?_ <;> intro hb <;> simp only [hb] <;> try simp at hb))
    all_goals first
      | (exfalso; omega)
      | (refine ⟨.inr rfl, _, _, rfl, .cons (.c (.id rfl)) .nil, ?_⟩; rw [hy, rowOk_nil _ (by omega), drop_nil (by simpa using hlt)]; rfl)
end Go.YtamlleimfopmhaaMc

namespace Go.YtamlleimfopmhaaMc
open Go.Proofs
/-! ### Callers -/
theorem cmdC (m : Nat) : EqC Try.prog 31 [.i .i64, .s, .i .i64, .i .i64] (m + 1) true :=
  .st' [(0, 3, [.i .i64]), (1, 9, [.s]), (2, 3, [.i .i64]), (3, 3, [.i .i64])] (by kernel_rfl) (by kernel_rfl) (by kernel_rfl) rfl rfl (.cons (.i m (by kernel_rfl)) (.cons (.s m (by kernel_rfl)) (.cons (.i m (by kernel_rfl)) (.cons (.i m (by kernel_rfl)) .nil))))
def zCmd : Cmd := ⟨0, [], 0, 0⟩
theorem eqTs_cmd (a b : Cmd) : eqTs a.e b.e = decide (a = b) := by
  obtain ⟨a1, a2, a3, a4⟩ := a; obtain ⟨b1, b2, b3, b4⟩ := b
  simp [Cmd.e, eqTs, T.eq]; grind
def wishOk (w : Cmd) : Bool := cmdOk w && !decide (w.kind = 5)
theorem wish_impl (w : Cmd) : Pu Try.prog 69 [A w.e] (B (wishOk w)) := by
  refine Pu.of D Try.func69 rfl rfl rfl ?_
  repeat' (first
    | (refine W.cond rfl ?_ ?_ <;> intro hb <;> try simp at hb)
    | refine cl (cmdOk_impl w) ?_
    | refine goO ?_
    | refine goS ?_
    | (refine WO.gs _ rfl rfl rfl ?_ ?_ <;> intro hb <;> simp only [hb] <;> try simp at hb))
  all_goals refine ⟨.inr rfl, _, _, rfl, .cons (.c (.id rfl)) .nil, ?_⟩
  all_goals first | (simp_all [resV, X.v, wishOk]; done) | (simp [resV, X.v, wishOk] at *; grind) | (simp [resV, X.v, wishOk] at *; omega)
theorem wish_spec (w : Cmd) : Pu Try.prog 73 [A w.e] (B (wishOk w)) := by
  refine Pu.of D Try.func73 rfl rfl rfl ?_
  repeat' (first
    | (refine W.cond rfl ?_ ?_ <;> intro hb <;> try simp at hb)
    | refine cl (cmdOk_spec w) ?_
    | refine goO ?_
    | refine goS ?_
    | (refine WO.gs _ rfl rfl rfl ?_ ?_ <;> intro hb <;> simp only [hb] <;> try simp at hb))
  all_goals refine ⟨.inr rfl, _, _, rfl, .cons (.c (.id rfl)) .nil, ?_⟩
  all_goals first | (simp_all [resV, X.v, wishOk]; done) | (simp [resV, X.v, wishOk] at *; grind) | (simp [resV, X.v, wishOk] at *; omega)
theorem time_ok (n : Int) : Pu Try.prog 70 [I n] (B (inR n 0 200)) := by
  refine Pu.of D Try.func70 rfl rfl rfl ?_
  repeat' (first
    | (refine W.cond rfl ?_ ?_ <;> intro hb <;> try simp at hb)
    | refine goO ?_
    | refine goS ?_
    | (refine WO.gs _ rfl rfl rfl ?_ ?_ <;> intro hb <;> simp only [hb] <;> try simp at hb))
  all_goals refine ⟨.inr rfl, _, _, rfl, .cons (.c (.id rfl)) .nil, ?_⟩
  all_goals first | (simp_all [resV, X.v, inR]; done) | (simp [resV, X.v, inR] at *; grind) | (simp [resV, X.v, inR] at *; omega)
theorem clientN_ok (n : Int) : Pu Try.prog 78 [I n] (B (inR n 1 3)) := by
  refine Pu.of D Try.func78 rfl rfl rfl ?_
  repeat' (first
    | (refine W.cond rfl ?_ ?_ <;> intro hb <;> try simp at hb)
    | refine goO ?_
    | refine goS ?_
    | (refine WO.gs _ rfl rfl rfl ?_ ?_ <;> intro hb <;> simp only [hb] <;> try simp at hb))
  all_goals refine ⟨.inr rfl, _, _, rfl, .cons (.c (.id rfl)) .nil, ?_⟩
  all_goals first | (simp_all [resV, X.v, inR]; done) | (simp [resV, X.v, inR] at *; grind) | (simp [resV, X.v, inR] at *; omega)
theorem reply_ok (n : Int) : Pu Try.prog 79 [I n] (B (inR n (-4) 999)) := by
  refine Pu.of D Try.func79 rfl rfl rfl ?_
  repeat' (first
    | (refine W.cond rfl ?_ ?_ <;> intro hb <;> try simp at hb)
    | refine goO ?_
    | refine goS ?_
    | (refine WO.gs _ rfl rfl rfl ?_ ?_ <;> intro hb <;> simp only [hb] <;> try simp at hb))
  all_goals refine ⟨.inr rfl, _, _, rfl, .cons (.c (.id rfl)) .nil, ?_⟩
  all_goals first | (simp_all [resV, X.v, inR]; done) | (simp [resV, X.v, inR] at *; grind) | (simp [resV, X.v, inR] at *; omega)
def calOk (c : Cal) : Bool := cacheOk c.cache && inR c.seq 0 999 && (if c.busy then decide (1 ≤ c.seq) && wishOk c.wish && inR c.called 0 200 else decide (c.wish = zCmd) && decide (c.called = 0))
theorem cal_impl (c : Cal) (hs : c.cache.length ≤ 1048576) : Pu Try.prog 21 [A c.e] (B (calOk c)) := by
  have hq : ∀ w : Cmd, eqTs [tI w.kind, .s w.key, tI w.val, tI w.old] [tI 0, .s [], tI 0, tI 0] = decide (w = zCmd) := fun w => eqTs_cmd w zCmd
  refine Pu.of D Try.func21 rfl rfl rfl ?_
  repeat' (first
    | (refine W.cond rfl ?_ ?_ <;> intro hb <;> try simp at hb)
    | refine cl (cache_impl c.cache hs) ?_
    | refine cl (wish_impl c.wish) ?_
    | refine cl (time_ok c.called) ?_
    | refine OpK.of (OpOk.eqE c.wish.e zCmd.e rfl (cmdC 0) (by decide) (by kernel_rfl) rfl rfl rfl rfl) ?_
    | refine goO ?_
    | refine goN ?_
    | (refine WO.gs _ rfl rfl rfl ?_ ?_ <;> intro hb <;> simp only [hb] <;> try simp at hb))
  all_goals refine ⟨.inr rfl, _, _, rfl, .cons (.c (.id rfl)) .nil, ?_⟩
  all_goals first
    | (simp_all [resV, X.v, calOk, inR, eqTs_cmd]; done)
    | (simp [resV, X.v, calOk, inR, eqTs_cmd] at *; grind)
theorem cal_spec (c : Cal) (hs : c.cache.length ≤ 1048576) : Pu Try.prog 72 [A c.e] (B (calOk c)) := by
  refine Pu.of D Try.func72 rfl rfl rfl ?_
  repeat' (first
    | (refine W.cond rfl ?_ ?_ <;> intro hb <;> try simp at hb)
    | refine cl (cache_spec c.cache hs) ?_
    | refine cl (wish_spec c.wish) ?_
    | refine cl (in_ok _ _ _) ?_
    | refine OpK.of (OpOk.eqE c.wish.e zCmd.e rfl (cmdC 0) (by decide) (by kernel_rfl) rfl rfl rfl rfl) ?_
    | refine goO ?_
    | refine goN ?_
    | (refine WO.gs _ rfl rfl rfl ?_ ?_ <;> intro hb <;> simp only [hb] <;> try simp at hb))
  all_goals refine ⟨.inr rfl, _, _, rfl, .cons (.c (.id rfl)) .nil, ?_⟩
  all_goals first
    | (simp_all [resV, X.v, calOk, eqTs_cmd]; done)
    | (simp [resV, X.v, calOk, eqTs_cmd] at *; grind)
def resOk (r : Res) : Bool := inR r.client 1 3 && inR r.seq 1 999 && wishOk r.wish && inR r.reply (-4) 999 && inR r.returned 0 200 && inR r.called 0 r.returned
theorem res_impl (r : Res) : Pu Try.prog 26 [A r.e] (B (resOk r)) := by
  refine Pu.of D Try.func26 rfl rfl rfl ?_
  repeat' (first
    | (refine W.cond rfl ?_ ?_ <;> intro hb <;> try simp at hb)
    | refine cl (clientN_ok _) ?_
    | refine cl (seq_ok _) ?_
    | refine cl (wish_impl r.wish) ?_
    | refine cl (reply_ok _) ?_
    | refine cl (time_ok _) ?_
    | refine goO ?_
    | refine goN ?_
    | (refine WO.gs _ rfl rfl rfl ?_ ?_ <;> intro hb <;> simp only [hb] <;> try simp at hb))
  all_goals refine ⟨.inr rfl, _, _, rfl, .cons (.c (.id rfl)) .nil, ?_⟩
  all_goals first
    | (simp_all [resV, X.v, resOk, inR]; done)
    | (simp [resV, X.v, resOk, inR] at *; grind)
theorem res_spec (r : Res) : Pu Try.prog 80 [A r.e] (B (resOk r)) := by
  refine Pu.of D Try.func80 rfl rfl rfl ?_
  repeat' (first
    | (refine W.cond rfl ?_ ?_ <;> intro hb <;> try simp at hb)
    | refine cl (in_ok _ _ _) ?_
    | refine cl (wish_spec r.wish) ?_
    | refine goO ?_
    | refine goN ?_
    | (refine WO.gs _ rfl rfl rfl ?_ ?_ <;> intro hb <;> simp only [hb] <;> try simp at hb))
  all_goals refine ⟨.inr rfl, _, _, rfl, .cons (.c (.id rfl)) .nil, ?_⟩
  all_goals first
    | (simp_all [resV, X.v, resOk]; done)
    | (simp [resV, X.v, resOk] at *; grind)
end Go.YtamlleimfopmhaaMc

namespace Go.YtamlleimfopmhaaMc
open Go.Proofs
theorem cpRou (l : List Rou) (hl : l.length ≤ 1048576) : Pu Try.prog 88 [L Rou.e l] (L Rou.e l) := by
  refine Pu.of D Try.func88 rfl rfl rfl ?_
  repeat' (first
    | (refine W.cond rfl ?_ ?_ <;> intro hb <;> try simp at hb)
    | refine OpK.of (OpOk.cpM D rfl rfl rfl rfl rfl rfl rfl rfl (by decide) (fun _ => rfl) (by first | assumption | omega | (simp; omega)) (by decide)) ?_
    | refine goO ?_
    | refine goS ?_
    | (refine WO.gs _ rfl rfl rfl ?_ ?_ <;> intro hb <;> simp only [hb] <;> try simp at hb))
  all_goals (refine ⟨.inr rfl, _, _, rfl, .cons (.c (.id rfl)) .nil, ?_⟩; rfl)
theorem coRou (l : List Rou) (hl : l.length ≤ 1048576) : Po Try.prog 88 [L Rou.e l] [] (.c (.sl 0 l.length 0 l.length)) [.arr (Rs Rou.e l) 3] := by
  refine Po.of D Try.func88 rfl rfl rfl ?_
  repeat' (first
    | (refine W.cond rfl ?_ ?_ <;> intro hb <;> try simp at hb)
    | refine OpK.of (OpOk.cpO D rfl rfl rfl rfl rfl rfl rfl rfl (by decide) (fun _ => rfl) (by first | assumption | omega | (simp; omega)) (by decide)) ?_
    | refine goO ?_
    | refine goS ?_
    | (refine WO.gs _ rfl rfl rfl ?_ ?_ <;> intro hb <;> simp only [hb] <;> try simp at hb))
  all_goals ((first | refine Ro.c1 (.inr rfl) [0] rfl (by decide) (kp rfl) ?_ ?_ | refine Ro.a1 (.inr rfl) [0] rfl (by decide) (kp rfl) ?_ ?_ | refine Ro.t1 (.inr rfl) [0] rfl (by decide) (kp rfl) ?_ ?_ rfl); (repeat' (first | exact .nil | refine .cons rfl ?_ ?_ | refine .cons ?_ ?_ | refine .c ?_ | refine .ag ?_ | refine .box ?_ | exact .arr (rs_low _ _ _) | exact .dead | exact .id rfl | exact .sl rfl | exact .ptr rfl | exact .ap rfl | exact .emp | exact .full rfl rfl rfl rfl rfl | fail)))
end Go.YtamlleimfopmhaaMc
namespace Go.YtamlleimfopmhaaMc
open Go.Proofs
def zCal : Cal := ⟨[], 0, false, zCmd, 0⟩
abbrev calC (c : Cal) : List C := .sl 0 c.cache.length 0 c.cache.length :: tc [tI c.seq, .b c.busy, tI c.wish.kind, .s c.wish.key, tI c.wish.val, tI c.wish.old, tI c.called]
abbrev calH (c : Cal) : List Blk := [.arr (Rs Rou.e c.cache) 3]
theorem copyCal_spec (c : Cal) (hs : c.cache.length ≤ 1048576) : Pu Try.prog 75 [A c.e] (A c.e) := by
  refine Pu.of D Try.func75 rfl rfl rfl ?_
  repeat' (first
    | (refine W.cond rfl ?_ ?_ <;> intro hb <;> try simp at hb)
    | refine OpK.of (OpOk.bldE D rfl rfl rfl rfl) ?_
    | refine OpD.of (OpOk.bldE D rfl rfl rfl rfl) ?_
    | refine OpK.of (OpOk.cpM D rfl rfl rfl rfl rfl rfl rfl rfl (by decide) (fun _ => rfl) (by first | assumption | omega | (simp; omega)) (by decide)) ?_
    | refine OpD.of (OpOk.cpM D rfl rfl rfl rfl rfl rfl rfl rfl (by decide) (fun _ => rfl) (by first | assumption | omega | (simp; omega)) (by decide)) ?_
    | refine goO ?_
    | refine goS ?_
    | (refine WO.gs _ rfl rfl rfl ?_ ?_ <;> intro hb <;> simp only [hb] <;> try simp at hb)
    | (refine WD.gs _ rfl rfl rfl ?_ ?_ <;> intro hb <;> simp only [hb] <;> try simp at hb))
  refine ⟨.inr rfl, _, _, rfl, .cons (.ag (.cons (by first | exact .emp | exact .full rfl rfl rfl | exact .id rfl | fail) (.cons (by first | exact .emp | exact .full rfl rfl rfl | exact .id rfl | fail) (.cons (by first | exact .emp | exact .full rfl rfl rfl | exact .id rfl | fail) (.cons (by first | exact .emp | exact .full rfl rfl rfl | exact .id rfl | fail) (.cons (by first | exact .emp | exact .full rfl rfl rfl | exact .id rfl | fail) (.cons (by first | exact .emp | exact .full rfl rfl rfl | exact .id rfl | fail) (.cons (by first | exact .emp | exact .full rfl rfl rfl | exact .id rfl | fail) (.cons (by first | exact .emp | exact .full rfl rfl rfl | exact .id rfl | fail) .nil))))))))) (.nil), ?_⟩
  rfl
theorem copyCal_impl (c : Cal) (hs : c.cache.length ≤ 1048576) : Pu Try.prog 71 [A c.e] (A c.e) := by
  refine Pu.of D Try.func71 rfl rfl rfl ?_
  repeat' (first
    | (refine W.cond rfl ?_ ?_ <;> intro hb <;> try simp at hb)
    | refine cl (cpRou c.cache hs) ?_
    | refine goO ?_
    | refine goS ?_
    | (refine WO.gs _ rfl rfl rfl ?_ ?_ <;> intro hb <;> simp only [hb] <;> try simp at hb))
  refine ⟨.inr rfl, _, _, rfl, .cons (.ag (.cons (by first | exact .emp | exact .full rfl rfl rfl | exact .id rfl | fail) (.cons (by first | exact .emp | exact .full rfl rfl rfl | exact .id rfl | fail) (.cons (by first | exact .emp | exact .full rfl rfl rfl | exact .id rfl | fail) (.cons (by first | exact .emp | exact .full rfl rfl rfl | exact .id rfl | fail) (.cons (by first | exact .emp | exact .full rfl rfl rfl | exact .id rfl | fail) (.cons (by first | exact .emp | exact .full rfl rfl rfl | exact .id rfl | fail) (.cons (by first | exact .emp | exact .full rfl rfl rfl | exact .id rfl | fail) (.cons (by first | exact .emp | exact .full rfl rfl rfl | exact .id rfl | fail) .nil))))))))) (.nil), ?_⟩
  rfl
theorem copyCal_own (c : Cal) (hs : c.cache.length ≤ 1048576) : Po Try.prog 71 [A c.e] [] (.ag (calC c)) (calH c) := by
  refine Po.of D Try.func71 rfl rfl rfl ?_
  repeat' (first
    | (refine W.cond rfl ?_ ?_ <;> intro hb <;> try simp at hb)
    | refine co [] (coRou c.cache hs) ?_
    | refine goO ?_
    | refine goS ?_
    | (refine WO.gs _ rfl rfl rfl ?_ ?_ <;> intro hb <;> simp only [hb] <;> try simp at hb))
  (first | refine Ro.c1 (.inr rfl) [2] rfl (by decide) (kp rfl) ?_ ?_ | refine Ro.a1 (.inr rfl) [2] rfl (by decide) (kp rfl) ?_ ?_ | refine Ro.t1 (.inr rfl) [2] rfl (by decide) (kp rfl) ?_ ?_ rfl); (repeat' (first | exact .nil | refine .cons rfl ?_ ?_ | refine .cons ?_ ?_ | refine .c ?_ | refine .ag ?_ | refine .box ?_ | exact .arr (rs_low _ _ _) | exact .dead | exact .id rfl | exact .sl rfl | exact .ptr rfl | exact .ap rfl | exact .emp | exact .full rfl rfl rfl rfl rfl | fail))
def idleC (c : Cal) : Cal := ⟨c.cache, c.seq, false, zCmd, 0⟩
theorem idle_impl (c : Cal) (hs : c.cache.length ≤ 1048576) : Pu Try.prog 76 [A c.e] (A (idleC c).e) := by
  refine Pu.of D Try.func76 rfl rfl rfl ?_
  repeat' (first
    | (refine W.cond rfl ?_ ?_ <;> intro hb <;> try simp at hb)
    | refine cl (cpRou c.cache hs) ?_
    | refine goO ?_
    | refine goS ?_
    | (refine WO.gs _ rfl rfl rfl ?_ ?_ <;> intro hb <;> simp only [hb] <;> try simp at hb)
    | (refine WD.gs _ rfl rfl rfl ?_ ?_ <;> intro hb <;> simp only [hb] <;> try simp at hb))
  refine ⟨.inr rfl, _, _, rfl, .cons (.ag (.cons (by first | exact .emp | exact .full rfl rfl rfl | exact .id rfl | fail) (.cons (by first | exact .emp | exact .full rfl rfl rfl | exact .id rfl | fail) (.cons (by first | exact .emp | exact .full rfl rfl rfl | exact .id rfl | fail) (.cons (by first | exact .emp | exact .full rfl rfl rfl | exact .id rfl | fail) (.cons (by first | exact .emp | exact .full rfl rfl rfl | exact .id rfl | fail) (.cons (by first | exact .emp | exact .full rfl rfl rfl | exact .id rfl | fail) (.cons (by first | exact .emp | exact .full rfl rfl rfl | exact .id rfl | fail) (.cons (by first | exact .emp | exact .full rfl rfl rfl | exact .id rfl | fail) .nil))))))))) (.nil), ?_⟩
  rfl
set_option maxHeartbeats 4000000 in
theorem idle_own (c : Cal) (hs : c.cache.length ≤ 1048576) : Po Try.prog 76 [A c.e] [] (.ag (calC (idleC c))) (calH (idleC c)) := by
  refine Po.of D Try.func76 rfl rfl rfl ?_
  repeat' (first
    | (refine W.cond rfl ?_ ?_ <;> intro hb <;> try simp at hb)
    | refine W.dbm 1 [2] [0, 1, 2, 0, 8, 20, 63] mixed (by decide +kernel) ?_
    | apply Dbm.go
    | exact Mid.go
    | refine co [] (coRou c.cache hs) ?_
    | refine goO ?_
    | refine WB.done rfl ?_
    | refine WB.step rfl ?_
    | refine WBI.r D rfl rfl ?_
    | refine WBI.g rfl rfl rfl rfl ?_
    | refine WBI.g0 rfl rfl ?_
    | exact WBL.nil
    | refine WBL.cons ?_ ?_
    | exact WBL.on rfl
    | refine WBL.oc rfl ?_ ?_
    | refine goB ?_
    | (refine WO.gs _ rfl rfl rfl ?_ ?_ <;> intro hb <;> simp only [hb] <;> try simp at hb)
    | (refine WD.gs _ rfl rfl rfl ?_ ?_ <;> intro hb <;> simp only [hb] <;> try simp at hb)
    | (refine WBI.gs _ rfl rfl rfl ?_ ?_ <;> intro hb <;> simp only [hb] <;> try simp at hb))
  all_goals (first | refine Ro.c1 (.inr rfl) [2] rfl (by decide) (kp rfl) ?_ ?_ | refine Ro.a1 (.inr rfl) [2] rfl (by decide) (kp rfl) ?_ ?_ | refine Ro.t1 (.inr rfl) [2] rfl (by decide) (kp rfl) ?_ ?_ rfl); (repeat' (first | exact .nil | refine .cons rfl ?_ ?_ | refine .cons ?_ ?_ | refine .c ?_ | refine .ag ?_ | refine .box ?_ | exact .arr (rs_low _ _ _) | exact .dead | exact .id rfl | exact .sl rfl | exact .ptr rfl | exact .ap rfl | exact .emp | exact .full rfl rfl rfl rfl rfl | fail))
def ask (c : Cal) (w : Cmd) (now : Int) : Cal × Bool := if calOk c && wishOk w && inR now 0 200 then (if c.busy || decide (c.seq = 999) then (c, false) else (⟨c.cache, c.seq + 1, true, w, now⟩, true)) else (zCal, false)
abbrev askV (r : Cal × Bool) : V := .tu [.ag (tc r.1.e), .c (.t (.b r.2))]
theorem calOk_seq {c : Cal} (h : calOk c = true) : 0 ≤ c.seq ∧ c.seq ≤ 999 := by
  simp [calOk, inR] at h; omega
set_option maxHeartbeats 4000000 in
theorem ask_spec (c : Cal) (w : Cmd) (now : Int) (hs : c.cache.length ≤ 1048576) : Pu Try.prog 18 [A c.e, A w.e, I now] (askV (ask c w now)) := by
  have e1 := cal_spec c hs
  have e2 := wish_spec w
  have e3 := in_ok now 0 200
  by_cases h1 : calOk c = true
  · have hq := calOk_seq h1
    rw [h1] at e1
    refine Pu.of D Try.func18 rfl rfl rfl ?_
    repeat' (first
    | (refine W.cond rfl ?_ ?_ <;> intro hb <;> (try simp at hb) <;> try contradiction)
    | refine cl (e1) ?_
    | refine cl (e2) ?_
    | refine cl (e3) ?_
    | refine cl (copyCal_spec c hs) ?_
    | refine goO ?_
    | refine goN ?_
    | (refine WO.gs _ rfl rfl rfl ?_ ?_ <;> intro hb <;> simp only [hb] <;> (try simp at hb) <;> try contradiction))
    all_goals refine ⟨.inr rfl, _, _, rfl, .cons (.ag (.cons (by first | exact .emp | exact .full rfl rfl rfl | exact .id rfl | fail) (.cons (by first | exact .emp | exact .full rfl rfl rfl | exact .id rfl | fail) (.cons (by first | exact .emp | exact .full rfl rfl rfl | exact .id rfl | fail) (.cons (by first | exact .emp | exact .full rfl rfl rfl | exact .id rfl | fail) (.cons (by first | exact .emp | exact .full rfl rfl rfl | exact .id rfl | fail) (.cons (by first | exact .emp | exact .full rfl rfl rfl | exact .id rfl | fail) (.cons (by first | exact .emp | exact .full rfl rfl rfl | exact .id rfl | fail) (.cons (by first | exact .emp | exact .full rfl rfl rfl | exact .id rfl | fail) .nil))))))))) (.cons (.c (by first | exact .emp | exact .full rfl rfl rfl | exact .id rfl | fail)) (.nil)), ?_⟩
    all_goals first
      | (simp_all [resV, X.v, ask, zCal, zCmd, tc]; done)
      | (have h9 : c.seq = 999 := by omega
         simp_all [resV, X.v, ask, zCal, zCmd, tc]; done)
      | (have h9 : ¬ c.seq = 999 := by omega
         simp_all [resV, X.v, ask, zCal, zCmd, tc]; done)
  · have h1 := Bool.eq_false_iff.2 h1
    rw [h1] at e1
    refine Pu.of D Try.func18 rfl rfl rfl ?_
    repeat' (first
    | (refine W.cond rfl ?_ ?_ <;> intro hb <;> (try simp at hb) <;> try contradiction)
    | refine cl (e1) ?_
    | refine goO ?_
    | refine goN ?_
    | (refine WO.gs _ rfl rfl rfl ?_ ?_ <;> intro hb <;> simp only [hb] <;> (try simp at hb) <;> try contradiction))
    all_goals refine ⟨.inr rfl, _, _, rfl, .cons (.ag (.cons (by first | exact .emp | exact .full rfl rfl rfl | exact .id rfl | fail) (.cons (by first | exact .emp | exact .full rfl rfl rfl | exact .id rfl | fail) (.cons (by first | exact .emp | exact .full rfl rfl rfl | exact .id rfl | fail) (.cons (by first | exact .emp | exact .full rfl rfl rfl | exact .id rfl | fail) (.cons (by first | exact .emp | exact .full rfl rfl rfl | exact .id rfl | fail) (.cons (by first | exact .emp | exact .full rfl rfl rfl | exact .id rfl | fail) (.cons (by first | exact .emp | exact .full rfl rfl rfl | exact .id rfl | fail) (.cons (by first | exact .emp | exact .full rfl rfl rfl | exact .id rfl | fail) .nil))))))))) (.cons (.c (by first | exact .emp | exact .full rfl rfl rfl | exact .id rfl | fail)) (.nil)), ?_⟩
    all_goals first
      | (simp_all [resV, X.v, ask, zCal, zCmd, tc]; done)
      | (have h9 : c.seq = 999 := by omega
         simp_all [resV, X.v, ask, zCal, zCmd, tc]; done)
      | (have h9 : ¬ c.seq = 999 := by omega
         simp_all [resV, X.v, ask, zCal, zCmd, tc]; done)
set_option maxHeartbeats 4000000 in
theorem ask_impl (c : Cal) (w : Cmd) (now : Int) (hs : c.cache.length ≤ 1048576) : Pu Try.prog 17 [A c.e, A w.e, I now] (askV (ask c w now)) := by
  have e1 := cal_impl c hs
  have e2 := wish_impl w
  have e3 := time_ok now
  by_cases h1 : calOk c = true
  · have hq := calOk_seq h1
    rw [h1] at e1
    refine Pu.of D Try.func17 rfl rfl rfl ?_
    repeat' (first
    | (refine W.cond rfl ?_ ?_ <;> intro hb <;> (try simp at hb) <;> try contradiction)
    | refine cl (e1) ?_
    | refine cl (e2) ?_
    | refine cl (e3) ?_
    | refine cl (copyCal_impl c hs) ?_
    | refine goO ?_
    | refine goN ?_
    | (refine WO.gs _ rfl rfl rfl ?_ ?_ <;> intro hb <;> simp only [hb] <;> (try simp at hb) <;> try contradiction))
    all_goals refine ⟨.inr rfl, _, _, rfl, .cons (.ag (.cons (by first | exact .emp | exact .full rfl rfl rfl | exact .id rfl | fail) (.cons (by first | exact .emp | exact .full rfl rfl rfl | exact .id rfl | fail) (.cons (by first | exact .emp | exact .full rfl rfl rfl | exact .id rfl | fail) (.cons (by first | exact .emp | exact .full rfl rfl rfl | exact .id rfl | fail) (.cons (by first | exact .emp | exact .full rfl rfl rfl | exact .id rfl | fail) (.cons (by first | exact .emp | exact .full rfl rfl rfl | exact .id rfl | fail) (.cons (by first | exact .emp | exact .full rfl rfl rfl | exact .id rfl | fail) (.cons (by first | exact .emp | exact .full rfl rfl rfl | exact .id rfl | fail) .nil))))))))) (.cons (.c (by first | exact .emp | exact .full rfl rfl rfl | exact .id rfl | fail)) (.nil)), ?_⟩
    all_goals first
      | (simp_all [resV, X.v, ask, zCal, zCmd, tc]; done)
      | (have h9 : c.seq = 999 := by omega
         simp_all [resV, X.v, ask, zCal, zCmd, tc]; done)
      | (have h9 : ¬ c.seq = 999 := by omega
         simp_all [resV, X.v, ask, zCal, zCmd, tc]; done)
  · have h1 := Bool.eq_false_iff.2 h1
    rw [h1] at e1
    refine Pu.of D Try.func17 rfl rfl rfl ?_
    repeat' (first
    | (refine W.cond rfl ?_ ?_ <;> intro hb <;> (try simp at hb) <;> try contradiction)
    | refine cl (e1) ?_
    | refine goO ?_
    | refine goN ?_
    | (refine WO.gs _ rfl rfl rfl ?_ ?_ <;> intro hb <;> simp only [hb] <;> (try simp at hb) <;> try contradiction))
    all_goals refine ⟨.inr rfl, _, _, rfl, .cons (.ag (.cons (by first | exact .emp | exact .full rfl rfl rfl | exact .id rfl | fail) (.cons (by first | exact .emp | exact .full rfl rfl rfl | exact .id rfl | fail) (.cons (by first | exact .emp | exact .full rfl rfl rfl | exact .id rfl | fail) (.cons (by first | exact .emp | exact .full rfl rfl rfl | exact .id rfl | fail) (.cons (by first | exact .emp | exact .full rfl rfl rfl | exact .id rfl | fail) (.cons (by first | exact .emp | exact .full rfl rfl rfl | exact .id rfl | fail) (.cons (by first | exact .emp | exact .full rfl rfl rfl | exact .id rfl | fail) (.cons (by first | exact .emp | exact .full rfl rfl rfl | exact .id rfl | fail) .nil))))))))) (.cons (.c (by first | exact .emp | exact .full rfl rfl rfl | exact .id rfl | fail)) (.nil)), ?_⟩
    all_goals first
      | (simp_all [resV, X.v, ask, zCal, zCmd, tc]; done)
      | (have h9 : c.seq = 999 := by omega
         simp_all [resV, X.v, ask, zCal, zCmd, tc]; done)
      | (have h9 : ¬ c.seq = 999 := by omega
         simp_all [resV, X.v, ask, zCal, zCmd, tc]; done)
set_option maxHeartbeats 4000000 in
theorem ask_own (c : Cal) (w : Cmd) (now : Int) (hs : c.cache.length ≤ 1048576) (h1 : calOk c = true) (h2 : wishOk w = true) (h3 : inR now 0 200 = true) : Po Try.prog 17 [A c.e, A w.e, I now] [] (.tu [.ag (calC (ask c w now).1), .c (.t (.b (ask c w now).2))]) (calH (ask c w now).1) := by
  have e1 := cal_impl c hs
  have e2 := wish_impl w
  have e3 := time_ok now
  have hq := calOk_seq h1
  rw [h1] at e1; rw [h2] at e2; rw [h3] at e3
  by_cases hbz : c.busy = true
  · have ha : ask c w now = (c, false) := by simp [ask, h1, h2, h3, hbz]
    rw [ha]
    refine Po.of D Try.func17 rfl rfl rfl ?_
    repeat' (first
    | (refine W.cond rfl ?_ ?_ <;> intro hb <;> (try simp at hb) <;> try contradiction)
    | refine cl (e1) ?_
    | refine cl (e2) ?_
    | refine cl (e3) ?_
    | refine co [] (copyCal_own c hs) ?_
    | refine goO ?_
    | refine goN ?_
    | (refine WO.gs _ rfl rfl rfl ?_ ?_ <;> intro hb <;> simp only [hb] <;> (try simp at hb) <;> try contradiction))
    all_goals first
      | (exfalso; simp_all; done)
      | (simp only [calC, hbz]; (first | refine Ro.c1 (.inr rfl) [3] rfl (by decide) (kp rfl) ?_ ?_ | refine Ro.a1 (.inr rfl) [3] rfl (by decide) (kp rfl) ?_ ?_ | refine Ro.t1 (.inr rfl) [3] rfl (by decide) (kp rfl) ?_ ?_ rfl); (repeat' (first | exact .nil | refine .cons rfl ?_ ?_ | refine .cons ?_ ?_ | refine .c ?_ | refine .ag ?_ | refine .box ?_ | exact .arr (rs_low _ _ _) | exact .dead | exact .id rfl | exact .sl rfl | exact .ptr rfl | exact .ap rfl | exact .emp | exact .full rfl rfl rfl rfl rfl | fail)))
      | (first | refine Ro.c1 (.inr rfl) [3] rfl (by decide) (kp rfl) ?_ ?_ | refine Ro.a1 (.inr rfl) [3] rfl (by decide) (kp rfl) ?_ ?_ | refine Ro.t1 (.inr rfl) [3] rfl (by decide) (kp rfl) ?_ ?_ rfl); (repeat' (first | exact .nil | refine .cons rfl ?_ ?_ | refine .cons ?_ ?_ | refine .c ?_ | refine .ag ?_ | refine .box ?_ | exact .arr (rs_low _ _ _) | exact .dead | exact .id rfl | exact .sl rfl | exact .ptr rfl | exact .ap rfl | exact .emp | exact .full rfl rfl rfl rfl rfl | fail))
  · have hbz := Bool.eq_false_iff.2 hbz
    by_cases h9 : c.seq = 999
    · have ha : ask c w now = (c, false) := by simp [ask, h1, h2, h3, h9]
      have hn : ¬ c.seq < 999 := by omega
      rw [ha]
      refine Po.of D Try.func17 rfl rfl rfl ?_
      repeat' (first
    | (refine W.cond rfl ?_ ?_ <;> intro hb <;> (try simp at hb) <;> try contradiction)
    | refine cl (e1) ?_
    | refine cl (e2) ?_
    | refine cl (e3) ?_
    | refine co [] (copyCal_own c hs) ?_
    | refine goO ?_
    | refine goN ?_
    | (refine WO.gs _ rfl rfl rfl ?_ ?_ <;> intro hb <;> simp only [hb] <;> (try simp at hb) <;> try contradiction))
      all_goals first
        | (exfalso; omega)
        | (simp only [calC, hbz]; (first | refine Ro.c1 (.inr rfl) [3] rfl (by decide) (kp rfl) ?_ ?_ | refine Ro.a1 (.inr rfl) [3] rfl (by decide) (kp rfl) ?_ ?_ | refine Ro.t1 (.inr rfl) [3] rfl (by decide) (kp rfl) ?_ ?_ rfl); (repeat' (first | exact .nil | refine .cons rfl ?_ ?_ | refine .cons ?_ ?_ | refine .c ?_ | refine .ag ?_ | refine .box ?_ | exact .arr (rs_low _ _ _) | exact .dead | exact .id rfl | exact .sl rfl | exact .ptr rfl | exact .ap rfl | exact .emp | exact .full rfl rfl rfl rfl rfl | fail)))
        | (first | refine Ro.c1 (.inr rfl) [3] rfl (by decide) (kp rfl) ?_ ?_ | refine Ro.a1 (.inr rfl) [3] rfl (by decide) (kp rfl) ?_ ?_ | refine Ro.t1 (.inr rfl) [3] rfl (by decide) (kp rfl) ?_ ?_ rfl); (repeat' (first | exact .nil | refine .cons rfl ?_ ?_ | refine .cons ?_ ?_ | refine .c ?_ | refine .ag ?_ | refine .box ?_ | exact .arr (rs_low _ _ _) | exact .dead | exact .id rfl | exact .sl rfl | exact .ptr rfl | exact .ap rfl | exact .emp | exact .full rfl rfl rfl rfl rfl | fail))
    · have ha : ask c w now = (⟨c.cache, c.seq + 1, true, w, now⟩, true) := by simp [ask, h1, h2, h3, hbz, h9]
      have hn : ¬ 999 ≤ c.seq := by omega
      rw [ha]
      refine Po.of D Try.func17 rfl rfl rfl ?_
      repeat' (first
    | (refine W.cond rfl ?_ ?_ <;> intro hb <;> (try simp at hb) <;> try contradiction)
    | refine cl (e1) ?_
    | refine cl (e2) ?_
    | refine cl (e3) ?_
    | refine co [] (copyCal_own c hs) ?_
    | refine goO ?_
    | refine goN ?_
    | (refine WO.gs _ rfl rfl rfl ?_ ?_ <;> intro hb <;> simp only [hb] <;> (try simp at hb) <;> try contradiction))
      all_goals first
        | (exfalso; omega)
        | (simp only [calC, hbz]; (first | refine Ro.c1 (.inr rfl) [3] rfl (by decide) (kp rfl) ?_ ?_ | refine Ro.a1 (.inr rfl) [3] rfl (by decide) (kp rfl) ?_ ?_ | refine Ro.t1 (.inr rfl) [3] rfl (by decide) (kp rfl) ?_ ?_ rfl); (repeat' (first | exact .nil | refine .cons rfl ?_ ?_ | refine .cons ?_ ?_ | refine .c ?_ | refine .ag ?_ | refine .box ?_ | exact .arr (rs_low _ _ _) | exact .dead | exact .id rfl | exact .sl rfl | exact .ptr rfl | exact .ap rfl | exact .emp | exact .full rfl rfl rfl rfl rfl | fail)))
        | (first | refine Ro.c1 (.inr rfl) [3] rfl (by decide) (kp rfl) ?_ ?_ | refine Ro.a1 (.inr rfl) [3] rfl (by decide) (kp rfl) ?_ ?_ | refine Ro.t1 (.inr rfl) [3] rfl (by decide) (kp rfl) ?_ ?_ rfl); (repeat' (first | exact .nil | refine .cons rfl ?_ ?_ | refine .cons ?_ ?_ | refine .c ?_ | refine .ag ?_ | refine .box ?_ | exact .arr (rs_low _ _ _) | exact .dead | exact .id rfl | exact .sl rfl | exact .ptr rfl | exact .ap rfl | exact .emp | exact .full rfl rfl rfl rfl rfl | fail))
end Go.YtamlleimfopmhaaMc

namespace Go.YtamlleimfopmhaaMc
open Go.Proofs
/-! ### Finishing -/
def zRes : Res := ⟨0, 0, zCmd, 0, 0, 0⟩
def finOk (c : Cal) (cn rp now : Int) : Bool := calOk c && c.busy && inR cn 1 3 && inR rp (-4) 999 && inR now c.called 200
def resOf (c : Cal) (cn rp now : Int) : Res := ⟨cn, c.seq, c.wish, rp, c.called, now⟩
def fin (c : Cal) (cn rp now : Int) : Cal × Res × Bool := if finOk c cn rp now then (idleC c, resOf c cn rp now, true) else (zCal, zRes, false)
abbrev finV (r : Cal × Res × Bool) : V := .tu [.ag (tc r.1.e), .ag (tc r.2.1.e), .c (.t (.b r.2.2))]
theorem calOk_busy {c : Cal} (h : calOk c = true) (hb : c.busy = true) : 1 ≤ c.seq ∧ c.seq ≤ 999 ∧ wishOk c.wish = true ∧ 0 ≤ c.called ∧ c.called ≤ 200 := by
  simp [calOk, inR, hb] at h; exact ⟨h.2.1.1, h.1.2.2, h.2.1.2, h.2.2.1, h.2.2.2⟩
theorem fin_res {c : Cal} (h : calOk c = true) (hb : c.busy = true) (cn rp now : Int) : resOk (resOf c cn rp now) = (inR cn 1 3 && inR rp (-4) 999 && inR now c.called 200) := by
  obtain ⟨a, b, w, d, e⟩ := calOk_busy h hb
  rw [Bool.eq_iff_iff]
  unfold resOk resOf inR
  dsimp only
  simp only [w, Bool.and_eq_true, decide_eq_true_eq, and_true]
  omega
theorem fin_yes {c : Cal} {cn rp now : Int} (h : finOk c cn rp now = true) : fin c cn rp now = (idleC c, resOf c cn rp now, true) := by simp [fin, h]
theorem fin_no {c : Cal} {cn rp now : Int} (h : finOk c cn rp now = false) : fin c cn rp now = (zCal, zRes, false) := by simp [fin, h]
set_option maxHeartbeats 4000000 in
theorem fin_spec (c : Cal) (cn rp now : Int) (hs : c.cache.length ≤ 1048576) : Pu Try.prog 24 [A c.e, I cn, I rp, I now] (finV (fin c cn rp now)) := by
  have e1 := cal_spec c hs
  have e2 := res_spec (resOf c cn rp now)
  by_cases hf : finOk c cn rp now = true
  · have hf' := hf
    simp only [finOk, Bool.and_eq_true] at hf'
    obtain ⟨⟨⟨⟨h1, hbz⟩, h2⟩, h3⟩, h4⟩ := hf'
    rw [fin_res h1 hbz, h2, h3, h4] at e2
    rw [h1] at e1
    rw [fin_yes hf]
    refine Pu.of D Try.func24 rfl rfl rfl ?_
    repeat' (first
    | (refine W.cond rfl ?_ ?_ <;> intro hb <;> (try simp at hb) <;> try contradiction)
    | refine W.dfm 4 [8, 9, 10] 7 8 44 mixed (by decide +kernel) (by repeat' (first | exact .nil | refine .box rfl ?_ | refine .arr (rs_low _ _ _) ?_ | refine .dead ?_ | fail)) ?_
    | apply Dfm.go
    | exact Mid.go
    | (refine TF.mk ?_ ?_ <;> dsimp only [dropE, Nat.reduceBEq, cond_true, cond_false, List.size_toArray, List.length_cons, List.length_nil, Nat.reduceAdd, Nat.reduceSub])
    | refine cl (e1) ?_
    | refine cl (e2) ?_
    | refine OpK.of (OpOk.bldE D rfl rfl rfl rfl) ?_
    | refine OpM.v (OpOk.bldE D rfl rfl rfl rfl) rfl ?_
    | refine OpK.of (OpOk.cpM D rfl rfl rfl rfl rfl rfl rfl rfl (by decide) (fun _ => rfl) (by first | assumption | omega | (simp; omega)) (by decide)) ?_
    | refine OpM.v (OpOk.cpM D rfl rfl rfl rfl rfl rfl rfl rfl (by decide) (fun _ => rfl) (by first | assumption | omega | (simp; omega)) (by decide)) rfl ?_
    | refine goO ?_
    | refine WE.done (by with_unfolding_all rfl) ?_
    | refine WE.step (by with_unfolding_all rfl) ?_
    | refine WI.g0 rfl ?_
    | refine WI.r D rfl ?_
    | refine WI.g rfl rfl rfl ?_
    | refine WL.cons ?_ ?_
    | exact WL.nil
    | exact WL.on (by with_unfolding_all rfl)
    | refine WL.oc (by with_unfolding_all rfl) ?_ ?_
    | refine goN ?_
    | (refine WO.gs _ rfl rfl rfl ?_ ?_ <;> intro hb <;> simp only [hb] <;> (try simp at hb) <;> try contradiction)
    | (refine WM.gs _ rfl rfl rfl ?_ ?_ <;> intro hb <;> simp only [hb] <;> (try simp at hb) <;> try contradiction)
    | (refine WF.gs _ rfl rfl rfl ?_ ?_ <;> intro hb <;> simp only [hb] <;> (try simp at hb) <;> try contradiction)
    | (refine WI.gs _ rfl rfl rfl ?_ ?_ <;> intro hb <;> simp only [hb] <;> (try simp at hb) <;> try contradiction))
    all_goals first
      | (exfalso; simp_all; done)
      | (refine ⟨.inr rfl, _, _, rfl, .cons (.ag (.cons (by first | exact .emp | exact .full rfl rfl rfl | exact .id rfl | fail) (.cons (by first | exact .emp | exact .full rfl rfl rfl | exact .id rfl | fail) (.cons (by first | exact .emp | exact .full rfl rfl rfl | exact .id rfl | fail) (.cons (by first | exact .emp | exact .full rfl rfl rfl | exact .id rfl | fail) (.cons (by first | exact .emp | exact .full rfl rfl rfl | exact .id rfl | fail) (.cons (by first | exact .emp | exact .full rfl rfl rfl | exact .id rfl | fail) (.cons (by first | exact .emp | exact .full rfl rfl rfl | exact .id rfl | fail) (.cons (by first | exact .emp | exact .full rfl rfl rfl | exact .id rfl | fail) .nil))))))))) (.cons (.ag (.cons (by first | exact .emp | exact .full rfl rfl rfl | exact .id rfl | fail) (.cons (by first | exact .emp | exact .full rfl rfl rfl | exact .id rfl | fail) (.cons (by first | exact .emp | exact .full rfl rfl rfl | exact .id rfl | fail) (.cons (by first | exact .emp | exact .full rfl rfl rfl | exact .id rfl | fail) (.cons (by first | exact .emp | exact .full rfl rfl rfl | exact .id rfl | fail) (.cons (by first | exact .emp | exact .full rfl rfl rfl | exact .id rfl | fail) (.cons (by first | exact .emp | exact .full rfl rfl rfl | exact .id rfl | fail) (.cons (by first | exact .emp | exact .full rfl rfl rfl | exact .id rfl | fail) (.cons (by first | exact .emp | exact .full rfl rfl rfl | exact .id rfl | fail) .nil)))))))))) (.cons (.c (by first | exact .emp | exact .full rfl rfl rfl | exact .id rfl | fail)) (.nil))), ?_⟩; rfl)
  · have hf := Bool.eq_false_iff.2 hf
    rw [fin_no hf]
    by_cases h1 : calOk c = true
    · rw [h1] at e1
      by_cases hbz : c.busy = true
      · have h5 : resOk (resOf c cn rp now) = false := by rw [fin_res h1 hbz]; simpa [finOk, h1, hbz] using hf
        rw [h5] at e2
        refine Pu.of D Try.func24 rfl rfl rfl ?_
        repeat' (first
    | (refine W.cond rfl ?_ ?_ <;> intro hb <;> (try simp at hb) <;> try contradiction)
    | refine W.dfm 4 [8, 9, 10] 7 8 44 mixed (by decide +kernel) (by repeat' (first | exact .nil | refine .box rfl ?_ | refine .arr (rs_low _ _ _) ?_ | refine .dead ?_ | fail)) ?_
    | apply Dfm.go
    | exact Mid.go
    | (refine TF.mk ?_ ?_ <;> dsimp only [dropE, Nat.reduceBEq, cond_true, cond_false, List.size_toArray, List.length_cons, List.length_nil, Nat.reduceAdd, Nat.reduceSub])
    | refine cl (e1) ?_
    | refine cl (e2) ?_
    | refine goO ?_
    | refine WE.done (by with_unfolding_all rfl) ?_
    | refine WE.step (by with_unfolding_all rfl) ?_
    | refine WI.g0 rfl ?_
    | refine WI.r D rfl ?_
    | refine WI.g rfl rfl rfl ?_
    | refine WL.cons ?_ ?_
    | exact WL.nil
    | exact WL.on (by with_unfolding_all rfl)
    | refine WL.oc (by with_unfolding_all rfl) ?_ ?_
    | refine goN ?_
    | (refine WO.gs _ rfl rfl rfl ?_ ?_ <;> intro hb <;> simp only [hb] <;> (try simp at hb) <;> try contradiction)
    | (refine WM.gs _ rfl rfl rfl ?_ ?_ <;> intro hb <;> simp only [hb] <;> (try simp at hb) <;> try contradiction)
    | (refine WF.gs _ rfl rfl rfl ?_ ?_ <;> intro hb <;> simp only [hb] <;> (try simp at hb) <;> try contradiction)
    | (refine WI.gs _ rfl rfl rfl ?_ ?_ <;> intro hb <;> simp only [hb] <;> (try simp at hb) <;> try contradiction))
        all_goals first
          | (exfalso; simp_all; done)
          | (refine ⟨.inr rfl, _, _, rfl, .cons (.ag (.cons (by first | exact .emp | exact .full rfl rfl rfl | exact .id rfl | fail) (.cons (by first | exact .emp | exact .full rfl rfl rfl | exact .id rfl | fail) (.cons (by first | exact .emp | exact .full rfl rfl rfl | exact .id rfl | fail) (.cons (by first | exact .emp | exact .full rfl rfl rfl | exact .id rfl | fail) (.cons (by first | exact .emp | exact .full rfl rfl rfl | exact .id rfl | fail) (.cons (by first | exact .emp | exact .full rfl rfl rfl | exact .id rfl | fail) (.cons (by first | exact .emp | exact .full rfl rfl rfl | exact .id rfl | fail) (.cons (by first | exact .emp | exact .full rfl rfl rfl | exact .id rfl | fail) .nil))))))))) (.cons (.ag (.cons (by first | exact .emp | exact .full rfl rfl rfl | exact .id rfl | fail) (.cons (by first | exact .emp | exact .full rfl rfl rfl | exact .id rfl | fail) (.cons (by first | exact .emp | exact .full rfl rfl rfl | exact .id rfl | fail) (.cons (by first | exact .emp | exact .full rfl rfl rfl | exact .id rfl | fail) (.cons (by first | exact .emp | exact .full rfl rfl rfl | exact .id rfl | fail) (.cons (by first | exact .emp | exact .full rfl rfl rfl | exact .id rfl | fail) (.cons (by first | exact .emp | exact .full rfl rfl rfl | exact .id rfl | fail) (.cons (by first | exact .emp | exact .full rfl rfl rfl | exact .id rfl | fail) (.cons (by first | exact .emp | exact .full rfl rfl rfl | exact .id rfl | fail) .nil)))))))))) (.cons (.c (by first | exact .emp | exact .full rfl rfl rfl | exact .id rfl | fail)) (.nil))), ?_⟩; rfl)
      · have hbz := Bool.eq_false_iff.2 hbz
        refine Pu.of D Try.func24 rfl rfl rfl ?_
        repeat' (first
    | (refine W.cond rfl ?_ ?_ <;> intro hb <;> (try simp at hb) <;> try contradiction)
    | refine W.dfm 4 [8, 9, 10] 7 8 44 mixed (by decide +kernel) (by repeat' (first | exact .nil | refine .box rfl ?_ | refine .arr (rs_low _ _ _) ?_ | refine .dead ?_ | fail)) ?_
    | apply Dfm.go
    | exact Mid.go
    | (refine TF.mk ?_ ?_ <;> dsimp only [dropE, Nat.reduceBEq, cond_true, cond_false, List.size_toArray, List.length_cons, List.length_nil, Nat.reduceAdd, Nat.reduceSub])
    | refine cl (e1) ?_
    | refine cl (e2) ?_
    | refine goO ?_
    | refine WE.done (by with_unfolding_all rfl) ?_
    | refine WE.step (by with_unfolding_all rfl) ?_
    | refine WI.g0 rfl ?_
    | refine WI.r D rfl ?_
    | refine WI.g rfl rfl rfl ?_
    | refine WL.cons ?_ ?_
    | exact WL.nil
    | exact WL.on (by with_unfolding_all rfl)
    | refine WL.oc (by with_unfolding_all rfl) ?_ ?_
    | refine goN ?_
    | (refine WO.gs _ rfl rfl rfl ?_ ?_ <;> intro hb <;> simp only [hb] <;> (try simp at hb) <;> try contradiction)
    | (refine WM.gs _ rfl rfl rfl ?_ ?_ <;> intro hb <;> simp only [hb] <;> (try simp at hb) <;> try contradiction)
    | (refine WF.gs _ rfl rfl rfl ?_ ?_ <;> intro hb <;> simp only [hb] <;> (try simp at hb) <;> try contradiction)
    | (refine WI.gs _ rfl rfl rfl ?_ ?_ <;> intro hb <;> simp only [hb] <;> (try simp at hb) <;> try contradiction))
        all_goals first
          | (exfalso; simp_all; done)
          | (refine ⟨.inr rfl, _, _, rfl, .cons (.ag (.cons (by first | exact .emp | exact .full rfl rfl rfl | exact .id rfl | fail) (.cons (by first | exact .emp | exact .full rfl rfl rfl | exact .id rfl | fail) (.cons (by first | exact .emp | exact .full rfl rfl rfl | exact .id rfl | fail) (.cons (by first | exact .emp | exact .full rfl rfl rfl | exact .id rfl | fail) (.cons (by first | exact .emp | exact .full rfl rfl rfl | exact .id rfl | fail) (.cons (by first | exact .emp | exact .full rfl rfl rfl | exact .id rfl | fail) (.cons (by first | exact .emp | exact .full rfl rfl rfl | exact .id rfl | fail) (.cons (by first | exact .emp | exact .full rfl rfl rfl | exact .id rfl | fail) .nil))))))))) (.cons (.ag (.cons (by first | exact .emp | exact .full rfl rfl rfl | exact .id rfl | fail) (.cons (by first | exact .emp | exact .full rfl rfl rfl | exact .id rfl | fail) (.cons (by first | exact .emp | exact .full rfl rfl rfl | exact .id rfl | fail) (.cons (by first | exact .emp | exact .full rfl rfl rfl | exact .id rfl | fail) (.cons (by first | exact .emp | exact .full rfl rfl rfl | exact .id rfl | fail) (.cons (by first | exact .emp | exact .full rfl rfl rfl | exact .id rfl | fail) (.cons (by first | exact .emp | exact .full rfl rfl rfl | exact .id rfl | fail) (.cons (by first | exact .emp | exact .full rfl rfl rfl | exact .id rfl | fail) (.cons (by first | exact .emp | exact .full rfl rfl rfl | exact .id rfl | fail) .nil)))))))))) (.cons (.c (by first | exact .emp | exact .full rfl rfl rfl | exact .id rfl | fail)) (.nil))), ?_⟩; rfl)
    · have h1 := Bool.eq_false_iff.2 h1
      rw [h1] at e1
      refine Pu.of D Try.func24 rfl rfl rfl ?_
      repeat' (first
    | (refine W.cond rfl ?_ ?_ <;> intro hb <;> (try simp at hb) <;> try contradiction)
    | refine W.dfm 4 [8, 9, 10] 7 8 44 mixed (by decide +kernel) (by repeat' (first | exact .nil | refine .box rfl ?_ | refine .arr (rs_low _ _ _) ?_ | refine .dead ?_ | fail)) ?_
    | apply Dfm.go
    | exact Mid.go
    | (refine TF.mk ?_ ?_ <;> dsimp only [dropE, Nat.reduceBEq, cond_true, cond_false, List.size_toArray, List.length_cons, List.length_nil, Nat.reduceAdd, Nat.reduceSub])
    | refine cl (e1) ?_
    | refine cl (e2) ?_
    | refine goO ?_
    | refine WE.done (by with_unfolding_all rfl) ?_
    | refine WE.step (by with_unfolding_all rfl) ?_
    | refine WI.g0 rfl ?_
    | refine WI.r D rfl ?_
    | refine WI.g rfl rfl rfl ?_
    | refine WL.cons ?_ ?_
    | exact WL.nil
    | exact WL.on (by with_unfolding_all rfl)
    | refine WL.oc (by with_unfolding_all rfl) ?_ ?_
    | refine goN ?_
    | (refine WO.gs _ rfl rfl rfl ?_ ?_ <;> intro hb <;> simp only [hb] <;> (try simp at hb) <;> try contradiction)
    | (refine WM.gs _ rfl rfl rfl ?_ ?_ <;> intro hb <;> simp only [hb] <;> (try simp at hb) <;> try contradiction)
    | (refine WF.gs _ rfl rfl rfl ?_ ?_ <;> intro hb <;> simp only [hb] <;> (try simp at hb) <;> try contradiction)
    | (refine WI.gs _ rfl rfl rfl ?_ ?_ <;> intro hb <;> simp only [hb] <;> (try simp at hb) <;> try contradiction))
      all_goals first
        | (exfalso; simp_all; done)
        | (refine ⟨.inr rfl, _, _, rfl, .cons (.ag (.cons (by first | exact .emp | exact .full rfl rfl rfl | exact .id rfl | fail) (.cons (by first | exact .emp | exact .full rfl rfl rfl | exact .id rfl | fail) (.cons (by first | exact .emp | exact .full rfl rfl rfl | exact .id rfl | fail) (.cons (by first | exact .emp | exact .full rfl rfl rfl | exact .id rfl | fail) (.cons (by first | exact .emp | exact .full rfl rfl rfl | exact .id rfl | fail) (.cons (by first | exact .emp | exact .full rfl rfl rfl | exact .id rfl | fail) (.cons (by first | exact .emp | exact .full rfl rfl rfl | exact .id rfl | fail) (.cons (by first | exact .emp | exact .full rfl rfl rfl | exact .id rfl | fail) .nil))))))))) (.cons (.ag (.cons (by first | exact .emp | exact .full rfl rfl rfl | exact .id rfl | fail) (.cons (by first | exact .emp | exact .full rfl rfl rfl | exact .id rfl | fail) (.cons (by first | exact .emp | exact .full rfl rfl rfl | exact .id rfl | fail) (.cons (by first | exact .emp | exact .full rfl rfl rfl | exact .id rfl | fail) (.cons (by first | exact .emp | exact .full rfl rfl rfl | exact .id rfl | fail) (.cons (by first | exact .emp | exact .full rfl rfl rfl | exact .id rfl | fail) (.cons (by first | exact .emp | exact .full rfl rfl rfl | exact .id rfl | fail) (.cons (by first | exact .emp | exact .full rfl rfl rfl | exact .id rfl | fail) (.cons (by first | exact .emp | exact .full rfl rfl rfl | exact .id rfl | fail) .nil)))))))))) (.cons (.c (by first | exact .emp | exact .full rfl rfl rfl | exact .id rfl | fail)) (.nil))), ?_⟩; rfl)
theorem inR_c {now a b : Int} (h : inR now a b = true) : ¬ now < a ∧ ¬ b < now := by simp [inR] at h; omega
set_option maxHeartbeats 4000000 in
theorem fin_impl (c : Cal) (cn rp now : Int) (hs : c.cache.length ≤ 1048576) : Pu Try.prog 23 [A c.e, I cn, I rp, I now] (finV (fin c cn rp now)) := by
  have e1 := cal_impl c hs
  have e2 := clientN_ok cn
  have e3 := reply_ok rp
  by_cases hf : finOk c cn rp now = true
  · have hf' := hf
    simp only [finOk, Bool.and_eq_true] at hf'
    obtain ⟨⟨⟨⟨h1, hbz⟩, h2⟩, h3⟩, h4⟩ := hf'
    rw [h1] at e1; rw [h2] at e2; rw [h3] at e3
    obtain ⟨h5, h6⟩ := inR_c h4
    rw [fin_yes hf]
    refine Pu.of D Try.func23 rfl rfl rfl ?_
    repeat' (first
    | (refine W.cond rfl ?_ ?_ <;> intro hb <;> (try simp at hb) <;> try contradiction)
    | refine W.dfm 4 [8, 9, 10] 2 3 54 mixed (by decide +kernel) (by repeat' (first | exact .nil | refine .box rfl ?_ | refine .arr (rs_low _ _ _) ?_ | refine .dead ?_ | fail)) ?_
    | apply Dfm.go
    | exact Mid.go
    | (refine TF.mk ?_ ?_ <;> dsimp only [dropE, Nat.reduceBEq, cond_true, cond_false, List.size_toArray, List.length_cons, List.length_nil, Nat.reduceAdd, Nat.reduceSub])
    | refine cl (e1) ?_
    | refine cl (e2) ?_
    | refine cl (e3) ?_
    | refine cl (idle_impl c hs) ?_
    | refine goO ?_
    | refine WE.done (by with_unfolding_all rfl) ?_
    | refine WE.step (by with_unfolding_all rfl) ?_
    | refine WI.g0 rfl ?_
    | refine WI.r D rfl ?_
    | refine WI.g rfl rfl rfl ?_
    | refine WL.cons ?_ ?_
    | exact WL.nil
    | exact WL.on (by with_unfolding_all rfl)
    | refine WL.oc (by with_unfolding_all rfl) ?_ ?_
    | refine goN ?_
    | (refine WO.gs _ rfl rfl rfl ?_ ?_ <;> intro hb <;> simp only [hb] <;> (try simp at hb) <;> try contradiction)
    | (refine WM.gs _ rfl rfl rfl ?_ ?_ <;> intro hb <;> simp only [hb] <;> (try simp at hb) <;> try contradiction)
    | (refine WF.gs _ rfl rfl rfl ?_ ?_ <;> intro hb <;> simp only [hb] <;> (try simp at hb) <;> try contradiction)
    | (refine WI.gs _ rfl rfl rfl ?_ ?_ <;> intro hb <;> simp only [hb] <;> (try simp at hb) <;> try contradiction))
    all_goals first
      | (exfalso; omega)
      | (exfalso; simp_all; done)
      | (refine ⟨.inr rfl, _, _, rfl, .cons (.ag (.cons (by first | exact .emp | exact .full rfl rfl rfl | exact .id rfl | fail) (.cons (by first | exact .emp | exact .full rfl rfl rfl | exact .id rfl | fail) (.cons (by first | exact .emp | exact .full rfl rfl rfl | exact .id rfl | fail) (.cons (by first | exact .emp | exact .full rfl rfl rfl | exact .id rfl | fail) (.cons (by first | exact .emp | exact .full rfl rfl rfl | exact .id rfl | fail) (.cons (by first | exact .emp | exact .full rfl rfl rfl | exact .id rfl | fail) (.cons (by first | exact .emp | exact .full rfl rfl rfl | exact .id rfl | fail) (.cons (by first | exact .emp | exact .full rfl rfl rfl | exact .id rfl | fail) .nil))))))))) (.cons (.ag (.cons (by first | exact .emp | exact .full rfl rfl rfl | exact .id rfl | fail) (.cons (by first | exact .emp | exact .full rfl rfl rfl | exact .id rfl | fail) (.cons (by first | exact .emp | exact .full rfl rfl rfl | exact .id rfl | fail) (.cons (by first | exact .emp | exact .full rfl rfl rfl | exact .id rfl | fail) (.cons (by first | exact .emp | exact .full rfl rfl rfl | exact .id rfl | fail) (.cons (by first | exact .emp | exact .full rfl rfl rfl | exact .id rfl | fail) (.cons (by first | exact .emp | exact .full rfl rfl rfl | exact .id rfl | fail) (.cons (by first | exact .emp | exact .full rfl rfl rfl | exact .id rfl | fail) (.cons (by first | exact .emp | exact .full rfl rfl rfl | exact .id rfl | fail) .nil)))))))))) (.cons (.c (by first | exact .emp | exact .full rfl rfl rfl | exact .id rfl | fail)) (.nil))), ?_⟩; rfl)
  · have hf := Bool.eq_false_iff.2 hf
    rw [fin_no hf]
    refine Pu.of D Try.func23 rfl rfl rfl ?_
    repeat' (first
    | (refine W.cond rfl ?_ ?_ <;> intro hb <;> (try simp at hb) <;> try contradiction)
    | refine W.dfm 4 [8, 9, 10] 2 3 54 mixed (by decide +kernel) (by repeat' (first | exact .nil | refine .box rfl ?_ | refine .arr (rs_low _ _ _) ?_ | refine .dead ?_ | fail)) ?_
    | apply Dfm.go
    | exact Mid.go
    | (refine TF.mk ?_ ?_ <;> dsimp only [dropE, Nat.reduceBEq, cond_true, cond_false, List.size_toArray, List.length_cons, List.length_nil, Nat.reduceAdd, Nat.reduceSub])
    | refine cl (e1) ?_
    | refine cl (e2) ?_
    | refine cl (e3) ?_
    | refine goO ?_
    | refine WE.done (by with_unfolding_all rfl) ?_
    | refine WE.step (by with_unfolding_all rfl) ?_
    | refine WI.g0 rfl ?_
    | refine WI.r D rfl ?_
    | refine WI.g rfl rfl rfl ?_
    | refine WL.cons ?_ ?_
    | exact WL.nil
    | exact WL.on (by with_unfolding_all rfl)
    | refine WL.oc (by with_unfolding_all rfl) ?_ ?_
    | refine goN ?_
    | (refine WO.gs _ rfl rfl rfl ?_ ?_ <;> intro hb <;> simp only [hb] <;> (try simp at hb) <;> try contradiction)
    | (refine WM.gs _ rfl rfl rfl ?_ ?_ <;> intro hb <;> simp only [hb] <;> (try simp at hb) <;> try contradiction)
    | (refine WF.gs _ rfl rfl rfl ?_ ?_ <;> intro hb <;> simp only [hb] <;> (try simp at hb) <;> try contradiction)
    | (refine WI.gs _ rfl rfl rfl ?_ ?_ <;> intro hb <;> simp only [hb] <;> (try simp at hb) <;> try contradiction))
    all_goals first
      | (refine ⟨.inr rfl, _, _, rfl, .cons (.ag (.cons (by first | exact .emp | exact .full rfl rfl rfl | exact .id rfl | fail) (.cons (by first | exact .emp | exact .full rfl rfl rfl | exact .id rfl | fail) (.cons (by first | exact .emp | exact .full rfl rfl rfl | exact .id rfl | fail) (.cons (by first | exact .emp | exact .full rfl rfl rfl | exact .id rfl | fail) (.cons (by first | exact .emp | exact .full rfl rfl rfl | exact .id rfl | fail) (.cons (by first | exact .emp | exact .full rfl rfl rfl | exact .id rfl | fail) (.cons (by first | exact .emp | exact .full rfl rfl rfl | exact .id rfl | fail) (.cons (by first | exact .emp | exact .full rfl rfl rfl | exact .id rfl | fail) .nil))))))))) (.cons (.ag (.cons (by first | exact .emp | exact .full rfl rfl rfl | exact .id rfl | fail) (.cons (by first | exact .emp | exact .full rfl rfl rfl | exact .id rfl | fail) (.cons (by first | exact .emp | exact .full rfl rfl rfl | exact .id rfl | fail) (.cons (by first | exact .emp | exact .full rfl rfl rfl | exact .id rfl | fail) (.cons (by first | exact .emp | exact .full rfl rfl rfl | exact .id rfl | fail) (.cons (by first | exact .emp | exact .full rfl rfl rfl | exact .id rfl | fail) (.cons (by first | exact .emp | exact .full rfl rfl rfl | exact .id rfl | fail) (.cons (by first | exact .emp | exact .full rfl rfl rfl | exact .id rfl | fail) (.cons (by first | exact .emp | exact .full rfl rfl rfl | exact .id rfl | fail) .nil)))))))))) (.cons (.c (by first | exact .emp | exact .full rfl rfl rfl | exact .id rfl | fail)) (.nil))), ?_⟩; rfl)
      | (exfalso; clear e1 e2 e3; simp [finOk, inR] at *; grind)
set_option maxHeartbeats 4000000 in
theorem fin_own (c : Cal) (cn rp now : Int) (hs : c.cache.length ≤ 1048576) (hf : finOk c cn rp now = true) : Po Try.prog 23 [A c.e, I cn, I rp, I now] [] (.tu [.ag (calC (idleC c)), .ag (tc (resOf c cn rp now).e), .c (.t (.b true))]) (calH (idleC c)) := by
  have e1 := cal_impl c hs
  have e2 := clientN_ok cn
  have e3 := reply_ok rp
  have hf' := hf
  simp only [finOk, Bool.and_eq_true] at hf'
  obtain ⟨⟨⟨⟨h1, hbz⟩, h2⟩, h3⟩, h4⟩ := hf'
  rw [h1] at e1; rw [h2] at e2; rw [h3] at e3
  obtain ⟨h5, h6⟩ := inR_c h4
  refine Po.of D Try.func23 rfl rfl rfl ?_
  repeat' (first
    | (refine W.cond rfl ?_ ?_ <;> intro hb <;> (try simp at hb) <;> try contradiction)
    | refine W.dfm 4 [8, 9, 10] 2 3 54 mixed (by decide +kernel) (by repeat' (first | exact .nil | refine .box rfl ?_ | refine .arr (rs_low _ _ _) ?_ | refine .dead ?_ | fail)) ?_
    | apply Dfm.go
    | exact Mid.go
    | (refine TF.mk ?_ ?_ <;> dsimp only [dropE, Nat.reduceBEq, cond_true, cond_false, List.size_toArray, List.length_cons, List.length_nil, Nat.reduceAdd, Nat.reduceSub])
    | refine cl (e1) ?_
    | refine cl (e2) ?_
    | refine cl (e3) ?_
    | refine co [] (idle_own c hs) ?_
    | refine goO ?_
    | refine WE.done (by with_unfolding_all rfl) ?_
    | refine WE.step (by with_unfolding_all rfl) ?_
    | refine WI.g0 rfl ?_
    | refine WI.r D rfl ?_
    | refine WI.g rfl rfl rfl ?_
    | refine WL.cons ?_ ?_
    | exact WL.nil
    | exact WL.on (by with_unfolding_all rfl)
    | refine WL.oc (by with_unfolding_all rfl) ?_ ?_
    | refine goN ?_
    | (refine WO.gs _ rfl rfl rfl ?_ ?_ <;> intro hb <;> simp only [hb] <;> (try simp at hb) <;> try contradiction)
    | (refine WM.gs _ rfl rfl rfl ?_ ?_ <;> intro hb <;> simp only [hb] <;> (try simp at hb) <;> try contradiction)
    | (refine WF.gs _ rfl rfl rfl ?_ ?_ <;> intro hb <;> simp only [hb] <;> (try simp at hb) <;> try contradiction)
    | (refine WI.gs _ rfl rfl rfl ?_ ?_ <;> intro hb <;> simp only [hb] <;> (try simp at hb) <;> try contradiction))
  all_goals first
    | (exfalso; omega)
    | (exfalso; simp_all; done)
    | skip
  all_goals (first | refine Ro.c1 (.inr rfl) [4] rfl (by decide) (kp rfl) ?_ ?_ | refine Ro.a1 (.inr rfl) [4] rfl (by decide) (kp rfl) ?_ ?_ | refine Ro.t1 (.inr rfl) [4] rfl (by decide) (kp rfl) ?_ ?_ rfl); (repeat' (first | exact .nil | refine .cons rfl ?_ ?_ | refine .cons ?_ ?_ | refine .c ?_ | refine .ag ?_ | refine .box ?_ | exact .arr (rs_low _ _ _) | exact .dead | exact .id rfl | exact .sl rfl | exact .ptr rfl | exact .ap rfl | exact .emp | exact .full rfl rfl rfl rfl rfl | fail))
end Go.YtamlleimfopmhaaMc

namespace Go.YtamlleimfopmhaaMc
open Go.Proofs
theorem ownCal (c : Cal) (hs : c.Sm) : Po Try.prog 48 [A c.e] [] (.ag (calC c)) (calH c) := by
  refine Po.of D Try.func48 rfl rfl rfl ?_
  repeat' (first
    | (refine W.cond rfl ?_ ?_ <;> intro hb <;> try simp at hb)
    | refine co [] (ownRou c.cache hs.cacheN hs.cache) ?_
    | refine cl (Cmd.to_ok c.wish hs.wish) ?_
    | refine goO ?_
    | refine goB ?_
    | (refine WO.gs _ rfl rfl rfl ?_ ?_ <;> intro hb <;> simp only [hb] <;> try simp at hb))
  all_goals (first | refine Ro.c1 (.inr rfl) [3] rfl (by decide) (kp rfl) ?_ ?_ | refine Ro.a1 (.inr rfl) [3] rfl (by decide) (kp rfl) ?_ ?_ | refine Ro.t1 (.inr rfl) [3] rfl (by decide) (kp rfl) ?_ ?_ rfl); (repeat' (first | exact .nil | refine .cons rfl ?_ ?_ | refine .cons ?_ ?_ | refine .c ?_ | refine .ag ?_ | refine .box ?_ | exact .arr (rs_low _ _ _) | exact .dead | exact .id rfl | exact .sl rfl | exact .ptr rfl | exact .ap rfl | exact .emp | exact .full rfl rfl rfl rfl rfl | fail))
theorem markCal (c : Cal) (k : Nat) (h0 : 0 < k) (hl : c.cache.length ≤ 1048576) (hk : k + 3 * c.cache.length ≤ 1099511627776) : Po Try.prog 51 [.ag (calC c), I k] (calH c) (I ((k + 3 * c.cache.length : Nat) : Int)) [.arr (Rs Rou.e (mksRou k c.cache)) 3] := by
  refine Po.of D Try.func51 rfl rfl rfl ?_
  repeat' (first
    | (refine W.cond rfl ?_ ?_ <;> intro hb <;> try simp at hb)
    | refine co [0] (markRou c.cache k h0 hl hk) ?_
    | refine goO ?_
    | refine goN ?_
    | (refine WO.gs _ rfl rfl rfl ?_ ?_ <;> intro hb <;> simp only [hb] <;> try simp at hb))
  all_goals (first | refine Ro.c1 (.inr rfl) [0] rfl (by decide) (kp rfl) ?_ ?_ | refine Ro.a1 (.inr rfl) [0] rfl (by decide) (kp rfl) ?_ ?_ | refine Ro.t1 (.inr rfl) [0] rfl (by decide) (kp rfl) ?_ ?_ rfl); (repeat' (first | exact .nil | refine .cons rfl ?_ ?_ | refine .cons ?_ ?_ | refine .c ?_ | refine .ag ?_ | refine .box ?_ | exact .arr (rs_low _ _ _) | exact .dead | exact .id rfl | exact .sl rfl | exact .ptr rfl | exact .ap rfl | exact .emp | exact .full rfl rfl rfl rfl rfl | fail))
theorem heldCal (c : Cal) (k : Nat) (h0 : 0 < k) (hl : c.cache.length ≤ 1048576) (hk : k + 3 * c.cache.length ≤ 1099511627776) : Pu Try.prog 52 [A (Cal.mk (mksRou k c.cache) c.seq c.busy c.wish c.called).e, I k] (I ((k + 3 * c.cache.length : Nat) : Int)) := by
  refine Pu.of D Try.func52 rfl rfl rfl ?_
  repeat' (first
    | (refine W.cond rfl ?_ ?_ <;> intro hb <;> try simp at hb)
    | refine cl (heldRou c.cache k h0 hl hk) ?_
    | refine goO ?_
    | refine goN ?_
    | (refine WO.gs _ rfl rfl rfl ?_ ?_ <;> intro hb <;> simp only [hb] <;> try simp at hb))
  all_goals first
    | (exfalso; omega)
    | (refine ⟨.inr rfl, _, _, rfl, .cons (.c (.id rfl)) .nil, ?_⟩; rfl)
end Go.YtamlleimfopmhaaMc

namespace Go.YtamlleimfopmhaaMc
open Go.Proofs
theorem ask_sm {c : Cal} {w : Cmd} (hs : c.Sm) (hw : w.Sm) (now : Int) : (ask c w now).1.Sm := by
  unfold ask
  split
  · split
    · exact hs
    · exact ⟨hs.cacheN, hs.cache, hw⟩
  · exact ⟨by simp [zCal], by simp [zCal], ⟨by simp [zCal, zCmd]⟩⟩
theorem zCal_sm : zCal.Sm := ⟨by simp [zCal], by simp [zCal], ⟨by simp [zCal, zCmd]⟩⟩
theorem markRou0 (k : Nat) : Pu Try.prog 58 [L Rou.e [], I k] (I k) := by
  refine Pu.of D Try.func58 rfl rfl rfl ?_
  repeat' (first
    | (refine W.cond rfl ?_ ?_ <;> intro hb <;> try simp at hb)
    | refine goO ?_
    | refine goN ?_
    | (refine WO.gs _ rfl rfl rfl ?_ ?_ <;> intro hb <;> simp only [hb] <;> try simp at hb))
  refine W.loop (σ := Nat) (fun j => [(5, I 0), (1, I k), (0, L Rou.e [])]) (fun _ => []) (fun _ => True) (fun j => j) 0 (fun _ _ => rfl) 0 trivial rfl (.cons rfl rfl (.cons rfl rfl (.cons rfl rfl (.nil)))) ?_
  intro j hj
  repeat' (first
    | (refine W.cond rfl ?_ ?_ <;> intro hb <;> try simp at hb)
    | refine goO ?_
    | refine goN ?_
    | (refine WO.gs _ rfl rfl rfl ?_ ?_ <;> intro hb <;> simp only [hb] <;> try simp at hb))
  all_goals first
    | (exfalso; simp at *; done)
    | (refine ⟨.inr rfl, _, _, rfl, .cons (.c (.id rfl)) .nil, ?_⟩; rfl)
theorem heldRou0 (k : Nat) : Pu Try.prog 59 [L Rou.e [], I k] (I k) := by
  refine Pu.of D Try.func59 rfl rfl rfl ?_
  repeat' (first
    | (refine W.cond rfl ?_ ?_ <;> intro hb <;> try simp at hb)
    | refine goO ?_
    | refine goN ?_
    | (refine WO.gs _ rfl rfl rfl ?_ ?_ <;> intro hb <;> simp only [hb] <;> try simp at hb)
    | (refine WD.gs _ rfl rfl rfl ?_ ?_ <;> intro hb <;> simp only [hb] <;> try simp at hb))
  refine W.loop (σ := Nat) (fun j => [(5, I 0), (1, I k), (0, L Rou.e [])]) (fun _ => []) (fun _ => True) (fun j => j) 0 (fun _ _ => rfl) 0 trivial rfl (.cons rfl rfl (.cons rfl rfl (.cons rfl rfl (.nil)))) ?_
  intro j hj
  repeat' (first
    | (refine W.cond rfl ?_ ?_ <;> intro hb <;> try simp at hb)
    | refine goO ?_
    | refine goN ?_
    | (refine WO.gs _ rfl rfl rfl ?_ ?_ <;> intro hb <;> simp only [hb] <;> try simp at hb)
    | (refine WD.gs _ rfl rfl rfl ?_ ?_ <;> intro hb <;> simp only [hb] <;> try simp at hb))
  all_goals first
    | (exfalso; simp at *; done)
    | (refine ⟨.inr rfl, _, _, rfl, .cons (.c (.id rfl)) .nil, ?_⟩; rfl)
theorem markCal0 (k : Nat) : Pu Try.prog 51 [A zCal.e, I k] (I k) := by
  refine Pu.of D Try.func51 rfl rfl rfl ?_
  repeat' (first
    | (refine W.cond rfl ?_ ?_ <;> intro hb <;> try simp at hb)
    | refine cl (markRou0 k) ?_
    | refine goO ?_
    | refine goN ?_
    | (refine WO.gs _ rfl rfl rfl ?_ ?_ <;> intro hb <;> simp only [hb] <;> try simp at hb))
  all_goals (refine ⟨.inr rfl, _, _, rfl, .cons (.c (.id rfl)) .nil, ?_⟩; rfl)
theorem heldCal0 (k : Nat) : Pu Try.prog 52 [A zCal.e, I k] (I k) := by
  refine Pu.of D Try.func52 rfl rfl rfl ?_
  repeat' (first
    | (refine W.cond rfl ?_ ?_ <;> intro hb <;> try simp at hb)
    | refine cl (heldRou0 k) ?_
    | refine goO ?_
    | refine goN ?_
    | (refine WO.gs _ rfl rfl rfl ?_ ?_ <;> intro hb <;> simp only [hb] <;> try simp at hb))
  all_goals first
    | (exfalso; omega)
    | (refine ⟨.inr rfl, _, _, rfl, .cons (.c (.id rfl)) .nil, ?_⟩; rfl)
set_option maxHeartbeats 4000000 in
theorem ask_none (c : Cal) (w : Cmd) (now : Int) (hs : c.cache.length ≤ 1048576) (hv : ¬ (calOk c && wishOk w && inR now 0 200) = true) : Po Try.prog 17 [A c.e, A w.e, I now] [] (.tu [.ag (.emp :: tc [tI 0, .b false, tI 0, .s [], tI 0, tI 0, tI 0]), .c (.t (.b false))]) [] := by
  have e1 := cal_impl c hs
  have e2 := wish_impl w
  have e3 := time_ok now
  refine Po.of D Try.func17 rfl rfl rfl ?_
  repeat' (first
    | (refine W.cond rfl ?_ ?_ <;> intro hb <;> (try simp at hb) <;> try contradiction)
    | refine cl (e1) ?_
    | refine cl (e2) ?_
    | refine cl (e3) ?_
    | refine co [] (copyCal_own c hs) ?_
    | refine goO ?_
    | refine goN ?_
    | (refine WO.gs _ rfl rfl rfl ?_ ?_ <;> intro hb <;> simp only [hb] <;> (try simp at hb) <;> try contradiction))
  all_goals first
    | (exfalso; simp_all; done)
    | (first | refine Ro.c1 (.inr rfl) [] rfl (by decide) (kp rfl) ?_ ?_ | refine Ro.a1 (.inr rfl) [] rfl (by decide) (kp rfl) ?_ ?_ | refine Ro.t1 (.inr rfl) [] rfl (by decide) (kp rfl) ?_ ?_ rfl); (repeat' (first | exact .nil | refine .cons rfl ?_ ?_ | refine .cons ?_ ?_ | refine .c ?_ | refine .ag ?_ | refine .box ?_ | exact .arr (rs_low _ _ _) | exact .dead | exact .id rfl | exact .sl rfl | exact .ptr rfl | exact .ap rfl | exact .emp | exact .full rfl rfl rfl rfl rfl | fail))
set_option maxHeartbeats 8000000 in
theorem law_ask (c : Cal) (w : Cmd) (now : Int) (fc : c.Fit) (fw : w.Fit) (fn : i64 now) : Pu Try.prog 8 [A c.e, A w.e, I now] (B true) := by
  have z1 := Cal.sz_ok c fc 1048576 (by omega) (by omega)
  by_cases h1 : c.sz 1048576 < 0
  · refine Pu.of D Try.func8 rfl rfl rfl ?_
    repeat' (first
    | (refine W.cond rfl ?_ ?_ <;> intro hb <;> (try simp at hb) <;> (try contradiction) <;> (try (exfalso; omega)))
    | refine W.dfm 8 [2, 3, 4, 6, 8, 9] 8 10 36 mixed (by decide +kernel) (by repeat' (first | exact .nil | refine .box rfl ?_ | refine .arr (rs_low _ _ _) ?_ | refine .dead ?_ | fail)) ?_
    | refine W.dfm 10 [2, 3, 4, 6, 8, 9, 10, 11, 12] 7 9 46 mixed (by decide +kernel) (by repeat' (first | exact .nil | refine .box rfl ?_ | refine .arr (rs_low _ _ _) ?_ | refine .dead ?_ | fail)) ?_
    | refine W.dfm 27 [6, 8, 9, 11, 14, 15, 16, 17] 8 10 96 mixed (by decide +kernel) (by repeat' (first | exact .nil | refine .box rfl ?_ | refine .arr (rs_low _ _ _) ?_ | refine .dead ?_ | fail)) ?_
    | apply Dfm.go
    | exact Mid.go
    | (refine TF.mk ?_ ?_ <;> dsimp only [dropE, Nat.reduceBEq, cond_true, cond_false, List.size_toArray, List.length_cons, List.length_nil, Nat.reduceAdd, Nat.reduceSub])
    | refine cl (z1) ?_
    | refine goO ?_
    | refine WE.done (by with_unfolding_all rfl) ?_
    | refine WE.step (by with_unfolding_all rfl) ?_
    | refine WI.g0 rfl ?_
    | refine WI.r D rfl ?_
    | refine WI.g rfl rfl rfl ?_
    | refine WL.cons ?_ ?_
    | exact WL.nil
    | exact WL.on (by with_unfolding_all rfl)
    | refine WL.oc (by with_unfolding_all rfl) ?_ ?_
    | refine goN ?_
    | (refine WO.gs _ rfl rfl rfl ?_ ?_ <;> intro hb <;> simp only [hb] <;> (try simp at hb) <;> (try contradiction) <;> (try (exfalso; omega)))
    | (refine WD.gs _ rfl rfl rfl ?_ ?_ <;> intro hb <;> simp only [hb] <;> (try simp at hb) <;> (try contradiction) <;> (try (exfalso; omega)))
    | (refine WM.gs _ rfl rfl rfl ?_ ?_ <;> intro hb <;> simp only [hb] <;> (try simp at hb) <;> (try contradiction) <;> (try (exfalso; omega)))
    | (refine WF.gs _ rfl rfl rfl ?_ ?_ <;> intro hb <;> simp only [hb] <;> (try simp at hb) <;> (try contradiction) <;> (try (exfalso; omega)))
    | (refine WI.gs _ rfl rfl rfl ?_ ?_ <;> intro hb <;> simp only [hb] <;> (try simp at hb) <;> (try contradiction) <;> (try (exfalso; omega))))
    all_goals (refine ⟨.inr rfl, _, _, rfl, .cons (.c (.id rfl)) .nil, ?_⟩; rfl)
  have hle := Cal.sz_lo c 1048576 (by omega)
  have s1 := Cal.sz_sm c (x := 1048576) (by omega) (by omega) (by omega)
  have z2 := Cmd.sz_ok w fw (c.sz 1048576) (by omega) (by omega)
  by_cases h2 : w.sz (c.sz 1048576) < 0
  · refine Pu.of D Try.func8 rfl rfl rfl ?_
    repeat' (first
    | (refine W.cond rfl ?_ ?_ <;> intro hb <;> (try simp at hb) <;> (try contradiction) <;> (try (exfalso; omega)))
    | refine W.dfm 8 [2, 3, 4, 6, 8, 9] 8 10 36 mixed (by decide +kernel) (by repeat' (first | exact .nil | refine .box rfl ?_ | refine .arr (rs_low _ _ _) ?_ | refine .dead ?_ | fail)) ?_
    | refine W.dfm 10 [2, 3, 4, 6, 8, 9, 10, 11, 12] 7 9 46 mixed (by decide +kernel) (by repeat' (first | exact .nil | refine .box rfl ?_ | refine .arr (rs_low _ _ _) ?_ | refine .dead ?_ | fail)) ?_
    | refine W.dfm 27 [6, 8, 9, 11, 14, 15, 16, 17] 8 10 96 mixed (by decide +kernel) (by repeat' (first | exact .nil | refine .box rfl ?_ | refine .arr (rs_low _ _ _) ?_ | refine .dead ?_ | fail)) ?_
    | apply Dfm.go
    | exact Mid.go
    | (refine TF.mk ?_ ?_ <;> dsimp only [dropE, Nat.reduceBEq, cond_true, cond_false, List.size_toArray, List.length_cons, List.length_nil, Nat.reduceAdd, Nat.reduceSub])
    | refine cl (z1) ?_
    | refine cl (z2) ?_
    | refine goO ?_
    | refine WE.done (by with_unfolding_all rfl) ?_
    | refine WE.step (by with_unfolding_all rfl) ?_
    | refine WI.g0 rfl ?_
    | refine WI.r D rfl ?_
    | refine WI.g rfl rfl rfl ?_
    | refine WL.cons ?_ ?_
    | exact WL.nil
    | exact WL.on (by with_unfolding_all rfl)
    | refine WL.oc (by with_unfolding_all rfl) ?_ ?_
    | refine goN ?_
    | (refine WO.gs _ rfl rfl rfl ?_ ?_ <;> intro hb <;> simp only [hb] <;> (try simp at hb) <;> (try contradiction) <;> (try (exfalso; omega)))
    | (refine WD.gs _ rfl rfl rfl ?_ ?_ <;> intro hb <;> simp only [hb] <;> (try simp at hb) <;> (try contradiction) <;> (try (exfalso; omega)))
    | (refine WM.gs _ rfl rfl rfl ?_ ?_ <;> intro hb <;> simp only [hb] <;> (try simp at hb) <;> (try contradiction) <;> (try (exfalso; omega)))
    | (refine WF.gs _ rfl rfl rfl ?_ ?_ <;> intro hb <;> simp only [hb] <;> (try simp at hb) <;> (try contradiction) <;> (try (exfalso; omega)))
    | (refine WI.gs _ rfl rfl rfl ?_ ?_ <;> intro hb <;> simp only [hb] <;> (try simp at hb) <;> (try contradiction) <;> (try (exfalso; omega))))
    all_goals (refine ⟨.inr rfl, _, _, rfl, .cons (.c (.id rfl)) .nil, ?_⟩; rfl)
  have s2 := Cmd.sz_sm w (x := c.sz 1048576) (by omega) (by omega) (by omega)
  have hlen := s1.cacheN
  have eS := ask_spec c w now hlen
  have sg := ask_sm s1 s2 now
  have eT := Cal.to_ok c s1
  have eU := Cmd.to_ok w s2
  have eC := Cal.eq_ok c c s1
  rw [decide_eq_true rfl] at eC
  have eW := ownCal c s1
  have eM := markCal c 1 (by omega) (by omega) (by omega)
  by_cases hv : (calOk c && wishOk w && inR now 0 200) = true
  · simp only [Bool.and_eq_true] at hv
    have eO := ask_own c w now hlen hv.1.1 hv.1.2 hv.2
    generalize ask c w now = r at eS sg eO
    obtain ⟨g, b⟩ := r
    dsimp only at eS sg eO
    have hgl := sg.cacheN
    have hm1 := (mksRou_len c.cache 1).symm
    have hm2 := (mksRou_len g.cache 1).symm
    have eG := Cal.eq_ok g g sg
    rw [decide_eq_true rfl] at eG
    have eN := markCal g 1 (by omega) (by omega) (by omega)
    have eH := heldCal g 1 (by omega) (by omega) (by omega)
    refine Pu.of D Try.func8 rfl rfl rfl ?_
    repeat' (first
    | (refine W.cond rfl ?_ ?_ <;> intro hb <;> (try simp at hb) <;> (try contradiction) <;> (try (exfalso; omega)))
    | refine W.dfm 8 [2, 3, 4, 6, 8, 9] 8 10 36 mixed (by decide +kernel) (by repeat' (first | exact .nil | refine .box rfl ?_ | refine .arr (rs_low _ _ _) ?_ | refine .dead ?_ | fail)) ?_
    | refine W.dfm 10 [2, 3, 4, 6, 8, 9, 10, 11, 12] 7 9 46 mixed (by decide +kernel) (by repeat' (first | exact .nil | refine .box rfl ?_ | refine .arr (rs_low _ _ _) ?_ | refine .dead ?_ | fail)) ?_
    | refine W.dfm 27 [6, 8, 9, 11, 14, 15, 16, 17] 8 10 96 mixed (by decide +kernel) (by repeat' (first | exact .nil | refine .box rfl ?_ | refine .arr (rs_low _ _ _) ?_ | refine .dead ?_ | fail)) ?_
    | apply Dfm.go
    | exact Mid.go
    | (refine TF.mk ?_ ?_ <;> dsimp only [dropE, Nat.reduceBEq, cond_true, cond_false, List.size_toArray, List.length_cons, List.length_nil, Nat.reduceAdd, Nat.reduceSub])
    | refine cl (z1) ?_
    | refine cl (z2) ?_
    | (refine OpK.at 38 ?_; refine co [] (eW) ?_)
    | (refine OpM.at 38 ?_; refine co [] (eW) ?_)
    | (refine OpD.at 38 ?_; refine co [] (eW) ?_)
    | (refine OpK.at 44 ?_; refine coz [] (eO) ?_)
    | (refine OpM.at 44 ?_; refine coz [] (eO) ?_)
    | (refine OpD.at 44 ?_; refine coz [] (eO) ?_)
    | (refine OpK.at 94 ?_; refine coz [] (eO) ?_)
    | (refine OpM.at 94 ?_; refine coz [] (eO) ?_)
    | (refine OpD.at 94 ?_; refine coz [] (eO) ?_)
    | refine cl (eT) ?_
    | refine cl (eU) ?_
    | refine cl (eS) ?_
    | (refine OpK.at 49 ?_; refine coz [] (Pu.po (eG)) ?_)
    | (refine OpM.at 49 ?_; refine coz [] (Pu.po (eG)) ?_)
    | (refine OpD.at 49 ?_; refine coz [] (Pu.po (eG)) ?_)
    | (refine OpK.at 59 ?_; refine coz [] (Pu.po (eC)) ?_)
    | (refine OpM.at 59 ?_; refine coz [] (Pu.po (eC)) ?_)
    | (refine OpD.at 59 ?_; refine coz [] (Pu.po (eC)) ?_)
    | (refine OpK.at 69 ?_; refine coz [] (Pu.po (eG)) ?_)
    | (refine OpM.at 69 ?_; refine coz [] (Pu.po (eG)) ?_)
    | (refine OpD.at 69 ?_; refine coz [] (Pu.po (eG)) ?_)
    | (refine OpK.at 99 ?_; refine coz [] (Pu.po (eG)) ?_)
    | (refine OpM.at 99 ?_; refine coz [] (Pu.po (eG)) ?_)
    | (refine OpD.at 99 ?_; refine coz [] (Pu.po (eG)) ?_)
    | (refine OpK.at 63 ?_; refine co [3] (eM) ?_)
    | (refine OpM.at 63 ?_; refine co [3] (eM) ?_)
    | (refine OpD.at 63 ?_; refine co [3] (eM) ?_)
    | (refine OpK.at 79 ?_; refine co [5] (eN) ?_)
    | (refine OpM.at 79 ?_; refine co [5] (eN) ?_)
    | (refine OpD.at 79 ?_; refine co [5] (eN) ?_)
    | refine coz [] (Pu.po (eH)) ?_
    | refine goO ?_
    | refine WE.done (by with_unfolding_all rfl) ?_
    | refine WE.step (by with_unfolding_all rfl) ?_
    | refine WI.g0 rfl ?_
    | refine WI.r D rfl ?_
    | refine WI.g rfl rfl rfl ?_
    | refine WL.cons ?_ ?_
    | exact WL.nil
    | exact WL.on (by with_unfolding_all rfl)
    | refine WL.oc (by with_unfolding_all rfl) ?_ ?_
    | refine goN ?_
    | (refine WO.gs _ rfl rfl rfl ?_ ?_ <;> intro hb <;> simp only [hb] <;> (try simp at hb) <;> (try contradiction) <;> (try (exfalso; omega)))
    | (refine WD.gs _ rfl rfl rfl ?_ ?_ <;> intro hb <;> simp only [hb] <;> (try simp at hb) <;> (try contradiction) <;> (try (exfalso; omega)))
    | (refine WM.gs _ rfl rfl rfl ?_ ?_ <;> intro hb <;> simp only [hb] <;> (try simp at hb) <;> (try contradiction) <;> (try (exfalso; omega)))
    | (refine WF.gs _ rfl rfl rfl ?_ ?_ <;> intro hb <;> simp only [hb] <;> (try simp at hb) <;> (try contradiction) <;> (try (exfalso; omega)))
    | (refine WI.gs _ rfl rfl rfl ?_ ?_ <;> intro hb <;> simp only [hb] <;> (try simp at hb) <;> (try contradiction) <;> (try (exfalso; omega))))
    all_goals first | (refine ⟨.inr rfl, _, _, rfl, .cons (.c (.id rfl)) .nil, ?_⟩; rfl) | trace_state
  · have hn : ask c w now = (zCal, false) := by unfold ask; rw [if_neg hv]
    have eI := ask_none c w now hlen hv
    rw [hn] at eS
    have eG := Cal.eq_ok zCal zCal zCal_sm
    rw [decide_eq_true rfl] at eG
    refine Pu.of D Try.func8 rfl rfl rfl ?_
    repeat' (first
    | (refine W.cond rfl ?_ ?_ <;> intro hb <;> (try simp at hb) <;> (try contradiction) <;> (try (exfalso; omega)))
    | refine W.dfm 8 [2, 3, 4, 6, 8, 9] 8 10 36 mixed (by decide +kernel) (by repeat' (first | exact .nil | refine .box rfl ?_ | refine .arr (rs_low _ _ _) ?_ | refine .dead ?_ | fail)) ?_
    | refine W.dfm 10 [2, 3, 4, 6, 8, 9, 10, 11, 12] 7 9 46 mixed (by decide +kernel) (by repeat' (first | exact .nil | refine .box rfl ?_ | refine .arr (rs_low _ _ _) ?_ | refine .dead ?_ | fail)) ?_
    | refine W.dfm 27 [6, 8, 9, 11, 14, 15, 16, 17] 8 10 96 mixed (by decide +kernel) (by repeat' (first | exact .nil | refine .box rfl ?_ | refine .arr (rs_low _ _ _) ?_ | refine .dead ?_ | fail)) ?_
    | apply Dfm.go
    | exact Mid.go
    | (refine TF.mk ?_ ?_ <;> dsimp only [dropE, Nat.reduceBEq, cond_true, cond_false, List.size_toArray, List.length_cons, List.length_nil, Nat.reduceAdd, Nat.reduceSub])
    | refine cl (z1) ?_
    | refine cl (z2) ?_
    | (refine OpK.at 38 ?_; refine co [] (eW) ?_)
    | (refine OpM.at 38 ?_; refine co [] (eW) ?_)
    | (refine OpD.at 38 ?_; refine co [] (eW) ?_)
    | (refine OpK.at 44 ?_; refine coz [] (eI) ?_)
    | (refine OpM.at 44 ?_; refine coz [] (eI) ?_)
    | (refine OpD.at 44 ?_; refine coz [] (eI) ?_)
    | (refine OpK.at 94 ?_; refine coz [] (eI) ?_)
    | (refine OpM.at 94 ?_; refine coz [] (eI) ?_)
    | (refine OpD.at 94 ?_; refine coz [] (eI) ?_)
    | refine cl (eT) ?_
    | refine cl (eU) ?_
    | refine cl (eS) ?_
    | (refine OpK.at 49 ?_; refine cl (eG) ?_)
    | (refine OpM.at 49 ?_; refine cl (eG) ?_)
    | (refine OpD.at 49 ?_; refine cl (eG) ?_)
    | (refine OpK.at 69 ?_; refine cl (eG) ?_)
    | (refine OpM.at 69 ?_; refine cl (eG) ?_)
    | (refine OpD.at 69 ?_; refine cl (eG) ?_)
    | (refine OpK.at 99 ?_; refine cl (eG) ?_)
    | (refine OpM.at 99 ?_; refine cl (eG) ?_)
    | (refine OpD.at 99 ?_; refine cl (eG) ?_)
    | (refine OpK.at 59 ?_; refine coz [] (Pu.po (eC)) ?_)
    | (refine OpM.at 59 ?_; refine coz [] (Pu.po (eC)) ?_)
    | (refine OpD.at 59 ?_; refine coz [] (Pu.po (eC)) ?_)
    | (refine OpK.at 63 ?_; refine co [3] (eM) ?_)
    | (refine OpM.at 63 ?_; refine co [3] (eM) ?_)
    | (refine OpD.at 63 ?_; refine co [3] (eM) ?_)
    | refine cl (markCal0 1) ?_
    | refine cl (heldCal0 1) ?_
    | refine goO ?_
    | refine WE.done (by with_unfolding_all rfl) ?_
    | refine WE.step (by with_unfolding_all rfl) ?_
    | refine WI.g0 rfl ?_
    | refine WI.r D rfl ?_
    | refine WI.g rfl rfl rfl ?_
    | refine WL.cons ?_ ?_
    | exact WL.nil
    | exact WL.on (by with_unfolding_all rfl)
    | refine WL.oc (by with_unfolding_all rfl) ?_ ?_
    | refine goN ?_
    | (refine WO.gs _ rfl rfl rfl ?_ ?_ <;> intro hb <;> simp only [hb] <;> (try simp at hb) <;> (try contradiction) <;> (try (exfalso; omega)))
    | (refine WD.gs _ rfl rfl rfl ?_ ?_ <;> intro hb <;> simp only [hb] <;> (try simp at hb) <;> (try contradiction) <;> (try (exfalso; omega)))
    | (refine WM.gs _ rfl rfl rfl ?_ ?_ <;> intro hb <;> simp only [hb] <;> (try simp at hb) <;> (try contradiction) <;> (try (exfalso; omega)))
    | (refine WF.gs _ rfl rfl rfl ?_ ?_ <;> intro hb <;> simp only [hb] <;> (try simp at hb) <;> (try contradiction) <;> (try (exfalso; omega)))
    | (refine WI.gs _ rfl rfl rfl ?_ ?_ <;> intro hb <;> simp only [hb] <;> (try simp at hb) <;> (try contradiction) <;> (try (exfalso; omega))))
    all_goals first | (refine ⟨.inr rfl, _, _, rfl, .cons (.c (.id rfl)) .nil, ?_⟩; rfl) | trace_state
end Go.YtamlleimfopmhaaMc

namespace Go.YtamlleimfopmhaaMc
open Go.Proofs
theorem zRes_sm : zRes.Sm := ⟨⟨by simp [zRes, zCmd]⟩⟩
set_option maxHeartbeats 4000000 in
theorem fin_none (c : Cal) (cn rp now : Int) (hs : c.cache.length ≤ 1048576) (hf : finOk c cn rp now = false) : Po Try.prog 23 [A c.e, I cn, I rp, I now] [] (.tu [.ag (.emp :: tc [tI 0, .b false, tI 0, .s [], tI 0, tI 0, tI 0]), .ag (tc zRes.e), .c (.t (.b false))]) [] := by
  have e1 := cal_impl c hs
  have e2 := clientN_ok cn
  have e3 := reply_ok rp
  refine Po.of D Try.func23 rfl rfl rfl ?_
  repeat' (first
    | (refine W.cond rfl ?_ ?_ <;> intro hb <;> (try simp at hb) <;> try contradiction)
    | refine W.dfm 4 [8, 9, 10] 2 3 54 mixed (by decide +kernel) (by repeat' (first | exact .nil | refine .box rfl ?_ | refine .arr (rs_low _ _ _) ?_ | refine .dead ?_ | fail)) ?_
    | apply Dfm.go
    | exact Mid.go
    | (refine TF.mk ?_ ?_ <;> dsimp only [dropE, Nat.reduceBEq, cond_true, cond_false, List.size_toArray, List.length_cons, List.length_nil, Nat.reduceAdd, Nat.reduceSub])
    | refine cl (e1) ?_
    | refine cl (e2) ?_
    | refine cl (e3) ?_
    | refine goO ?_
    | refine WE.done (by with_unfolding_all rfl) ?_
    | refine WE.step (by with_unfolding_all rfl) ?_
    | refine WI.g0 rfl ?_
    | refine WI.r D rfl ?_
    | refine WI.g rfl rfl rfl ?_
    | refine WL.cons ?_ ?_
    | exact WL.nil
    | exact WL.on (by with_unfolding_all rfl)
    | refine WL.oc (by with_unfolding_all rfl) ?_ ?_
    | refine goN ?_
    | (refine WO.gs _ rfl rfl rfl ?_ ?_ <;> intro hb <;> simp only [hb] <;> (try simp at hb) <;> try contradiction)
    | (refine WM.gs _ rfl rfl rfl ?_ ?_ <;> intro hb <;> simp only [hb] <;> (try simp at hb) <;> try contradiction)
    | (refine WF.gs _ rfl rfl rfl ?_ ?_ <;> intro hb <;> simp only [hb] <;> (try simp at hb) <;> try contradiction)
    | (refine WI.gs _ rfl rfl rfl ?_ ?_ <;> intro hb <;> simp only [hb] <;> (try simp at hb) <;> try contradiction))
  all_goals first
    | (first | refine Ro.c1 (.inr rfl) [] rfl (by decide) (kp rfl) ?_ ?_ | refine Ro.a1 (.inr rfl) [] rfl (by decide) (kp rfl) ?_ ?_ | refine Ro.t1 (.inr rfl) [] rfl (by decide) (kp rfl) ?_ ?_ rfl); (repeat' (first | exact .nil | refine .cons rfl ?_ ?_ | refine .cons ?_ ?_ | refine .c ?_ | refine .ag ?_ | refine .box ?_ | exact .arr (rs_low _ _ _) | exact .dead | exact .id rfl | exact .sl rfl | exact .ptr rfl | exact .ap rfl | exact .emp | exact .full rfl rfl rfl rfl rfl | fail))
    | (exfalso; clear e1 e2 e3; simp [finOk, inR] at *; grind)
set_option maxHeartbeats 8000000 in
theorem law_fin (c : Cal) (cn rp now : Int) (fc : c.Fit) (f1 : i64 cn) (f2 : i64 rp) (f3 : i64 now) : Pu Try.prog 10 [A c.e, I cn, I rp, I now] (B true) := by
  have z1 := Cal.sz_ok c fc 1048576 (by omega) (by omega)
  by_cases h1 : c.sz 1048576 < 0
  · refine Pu.of D Try.func10 rfl rfl rfl ?_
    repeat' (first
    | (refine W.cond rfl ?_ ?_ <;> intro hb <;> (try simp at hb) <;> (try contradiction) <;> (try (exfalso; omega)))
    | refine cl (z1) ?_
    | refine goO ?_
    | refine goN ?_
    | (refine WO.gs _ rfl rfl rfl ?_ ?_ <;> intro hb <;> simp only [hb] <;> (try simp at hb) <;> (try contradiction) <;> (try (exfalso; omega)))
    | (refine WD.gs _ rfl rfl rfl ?_ ?_ <;> intro hb <;> simp only [hb] <;> (try simp at hb) <;> (try contradiction) <;> (try (exfalso; omega))))
    all_goals (refine ⟨.inr rfl, _, _, rfl, .cons (.c (.id rfl)) .nil, ?_⟩; rfl)
  have hle := Cal.sz_lo c 1048576 (by omega)
  have s1 := Cal.sz_sm c (x := 1048576) (by omega) (by omega) (by omega)
  have hlen := s1.cacheN
  have eS := fin_spec c cn rp now hlen
  have eT := Cal.to_ok c s1
  have eC := Cal.eq_ok c c s1
  rw [decide_eq_true rfl] at eC
  have eW := ownCal c s1
  have eM := markCal c 1 (by omega) (by omega) (by omega)
  by_cases hv : finOk c cn rp now = true
  · have eO := fin_own c cn rp now hlen hv
    rw [fin_yes hv] at eS
    have sg : (idleC c).Sm := ⟨s1.cacheN, s1.cache, ⟨by simp [idleC, zCmd]⟩⟩
    have sr : (resOf c cn rp now).Sm := ⟨s1.wish⟩
    generalize idleC c = g at eS sg eO
    generalize resOf c cn rp now = r at eS sr eO
    have hgl := sg.cacheN
    have hm1 := (mksRou_len c.cache 1).symm
    have hm2 := (mksRou_len g.cache 1).symm
    have eG := Cal.eq_ok g g sg
    rw [decide_eq_true rfl] at eG
    have eR := Res.eq_ok r r sr
    rw [decide_eq_true rfl] at eR
    have eN := markCal g 1 (by omega) (by omega) (by omega)
    have eH := heldCal g 1 (by omega) (by omega) (by omega)
    refine Pu.of D Try.func10 rfl rfl rfl ?_
    repeat' (first
    | (refine W.cond rfl ?_ ?_ <;> intro hb <;> (try simp at hb) <;> (try contradiction) <;> (try (exfalso; omega)))
    | refine cl (z1) ?_
    | (refine OpK.at 39 ?_; refine co [] (eW) ?_)
    | (refine OpD.at 39 ?_; refine co [] (eW) ?_)
    | (refine OpK.at 45 ?_; refine coz [] (eO) ?_)
    | (refine OpD.at 45 ?_; refine coz [] (eO) ?_)
    | (refine OpK.at 108 ?_; refine coz [] (eO) ?_)
    | (refine OpD.at 108 ?_; refine coz [] (eO) ?_)
    | refine cl (eT) ?_
    | refine cl (eS) ?_
    | refine cl (eR) ?_
    | (refine OpK.at 51 ?_; refine coz [] (Pu.po (eG)) ?_)
    | (refine OpD.at 51 ?_; refine coz [] (Pu.po (eG)) ?_)
    | (refine OpK.at 67 ?_; refine coz [] (Pu.po (eC)) ?_)
    | (refine OpD.at 67 ?_; refine coz [] (Pu.po (eC)) ?_)
    | (refine OpK.at 77 ?_; refine coz [] (Pu.po (eG)) ?_)
    | (refine OpD.at 77 ?_; refine coz [] (Pu.po (eG)) ?_)
    | (refine OpK.at 114 ?_; refine coz [] (Pu.po (eG)) ?_)
    | (refine OpD.at 114 ?_; refine coz [] (Pu.po (eG)) ?_)
    | (refine OpK.at 71 ?_; refine co [3] (eM) ?_)
    | (refine OpD.at 71 ?_; refine co [3] (eM) ?_)
    | (refine OpK.at 93 ?_; refine co [5] (eN) ?_)
    | (refine OpD.at 93 ?_; refine co [5] (eN) ?_)
    | refine coz [] (Pu.po (eH)) ?_
    | refine goO ?_
    | refine goN ?_
    | (refine WO.gs _ rfl rfl rfl ?_ ?_ <;> intro hb <;> simp only [hb] <;> (try simp at hb) <;> (try contradiction) <;> (try (exfalso; omega)))
    | (refine WD.gs _ rfl rfl rfl ?_ ?_ <;> intro hb <;> simp only [hb] <;> (try simp at hb) <;> (try contradiction) <;> (try (exfalso; omega))))
    all_goals first | (refine ⟨.inr rfl, _, _, rfl, .cons (.c (.id rfl)) .nil, ?_⟩; rfl) | trace_state
  · have hv := Bool.eq_false_iff.2 hv
    have eI := fin_none c cn rp now hlen hv
    rw [fin_no hv] at eS
    have eG := Cal.eq_ok zCal zCal zCal_sm
    rw [decide_eq_true rfl] at eG
    have eR := Res.eq_ok zRes zRes zRes_sm
    rw [decide_eq_true rfl] at eR
    refine Pu.of D Try.func10 rfl rfl rfl ?_
    repeat' (first
    | (refine W.cond rfl ?_ ?_ <;> intro hb <;> (try simp at hb) <;> (try contradiction) <;> (try (exfalso; omega)))
    | refine cl (z1) ?_
    | (refine OpK.at 39 ?_; refine co [] (eW) ?_)
    | (refine OpD.at 39 ?_; refine co [] (eW) ?_)
    | (refine OpK.at 45 ?_; refine coz [] (eI) ?_)
    | (refine OpD.at 45 ?_; refine coz [] (eI) ?_)
    | (refine OpK.at 108 ?_; refine coz [] (eI) ?_)
    | (refine OpD.at 108 ?_; refine coz [] (eI) ?_)
    | refine cl (eT) ?_
    | refine cl (eS) ?_
    | refine cl (eR) ?_
    | (refine OpK.at 51 ?_; refine cl (eG) ?_)
    | (refine OpD.at 51 ?_; refine cl (eG) ?_)
    | (refine OpK.at 77 ?_; refine cl (eG) ?_)
    | (refine OpD.at 77 ?_; refine cl (eG) ?_)
    | (refine OpK.at 114 ?_; refine cl (eG) ?_)
    | (refine OpD.at 114 ?_; refine cl (eG) ?_)
    | (refine OpK.at 67 ?_; refine coz [] (Pu.po (eC)) ?_)
    | (refine OpD.at 67 ?_; refine coz [] (Pu.po (eC)) ?_)
    | (refine OpK.at 71 ?_; refine co [3] (eM) ?_)
    | (refine OpD.at 71 ?_; refine co [3] (eM) ?_)
    | refine cl (markCal0 1) ?_
    | refine cl (heldCal0 1) ?_
    | refine goO ?_
    | refine goN ?_
    | (refine WO.gs _ rfl rfl rfl ?_ ?_ <;> intro hb <;> simp only [hb] <;> (try simp at hb) <;> (try contradiction) <;> (try (exfalso; omega)))
    | (refine WD.gs _ rfl rfl rfl ?_ ?_ <;> intro hb <;> simp only [hb] <;> (try simp at hb) <;> (try contradiction) <;> (try (exfalso; omega))))
    all_goals first | (refine ⟨.inr rfl, _, _, rfl, .cons (.c (.id rfl)) .nil, ?_⟩; rfl) | trace_state
end Go.YtamlleimfopmhaaMc
