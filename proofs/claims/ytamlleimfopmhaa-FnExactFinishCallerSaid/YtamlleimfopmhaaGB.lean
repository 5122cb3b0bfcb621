/- Lemmas of this claim: walks through code, values and memory, and the contracts of functions; under no condition beyond those that each states. -/
import Derived.Test.YtamlleimfopmhaaGA
set_option maxRecDepth 100000
set_option linter.unusedVariables false
set_option linter.unusedSimpArgs false
namespace Go.YtamlleimfopmhaaMc
open Go.Proofs
/-! ### Strings, in order -/
abbrev lt (x y : List UInt8) : Bool := Op.bytesLess x y
/-! ### Keys -/
def inR (n lo hi : Int) : Bool := decide (lo ≤ n) && decide (n ≤ hi)
def letter (c : UInt8) : Bool := decide (97 ≤ c.toNat) && decide (c.toNat ≤ 122)
def keyOk (s : List UInt8) : Bool := decide (1 ≤ s.length) && decide (s.length ≤ 4) && s.all letter
theorem in_ok (n lo hi : Int) : Pu Try.prog 74 [I n, I lo, I hi] (B (inR n lo hi)) := by
  refine Pu.of D Try.func74 rfl rfl rfl ?_
  repeat' (first
    | (refine W.cond rfl ?_ ?_ <;> intro hb <;> try simp at hb)
    | refine goO ?_
    | refine goS ?_
    | (refine WO.gs _ rfl rfl rfl ?_ ?_ <;> intro hb <;> simp only [hb] <;> try simp at hb))
  all_goals refine ⟨.inr rfl, _, _, rfl, .cons (.c (.id rfl)) .nil, ?_⟩
  all_goals (simp [resV, X.v, inR, *]; try omega)
theorem lettersOnly_ok : ∀ (s : List UInt8), Pu Try.prog 128 [Sx s] (B (s.all letter))
  | [] => by
    refine Pu.of D Try.func128 rfl rfl rfl ?_
    repeat' (first
    | (refine W.cond rfl ?_ ?_ <;> intro hb <;> try simp at hb)
    | refine goO ?_
    | refine goS ?_
    | (refine WO.gs _ rfl rfl rfl ?_ ?_ <;> intro hb <;> simp only [hb] <;> try simp at hb))
    all_goals first | (exfalso; simp_all; done) | skip
    all_goals refine ⟨.inr rfl, _, _, rfl, .cons (.c (.id rfl)) .nil, ?_⟩
    all_goals rfl
  | c :: s => by
    have ih := lettersOnly_ok s
    refine Pu.of D Try.func128 rfl rfl rfl ?_
    repeat' (first
    | (refine W.cond rfl ?_ ?_ <;> intro hb <;> try simp at hb)
    | refine OpK.of (OpOk.ixS D rfl rfl rfl rfl rfl (by decide) rfl) ?_
    | refine OpK.of (OpOk.slSd D rfl rfl rfl rfl rfl (by simp)) ?_
    | refine cl (ih) ?_
    | refine goO ?_
    | refine goS ?_
    | (refine WO.gs _ rfl rfl rfl ?_ ?_ <;> intro hb <;> simp only [hb] <;> try simp at hb))
    all_goals refine ⟨.inr rfl, _, _, rfl, .cons (.c (.id rfl)) .nil, ?_⟩
    all_goals (simp [resV, X.v, letter]; grind)
theorem keyOk_impl (s : List UInt8) : Pu Try.prog 94 [Sx s] (B (keyOk s)) := by
  refine Pu.of D Try.func94 rfl rfl rfl ?_
  repeat' (first
    | (refine W.cond rfl ?_ ?_ <;> intro hb <;> try simp at hb)
    | refine cl (lettersOnly_ok s) ?_
    | refine goO ?_
    | refine goS ?_
    | (refine WO.gs _ rfl rfl rfl ?_ ?_ <;> intro hb <;> simp only [hb] <;> try simp at hb))
  all_goals refine ⟨.inr rfl, _, _, rfl, .cons (.c (.id rfl)) .nil, ?_⟩
  all_goals (simp [resV, X.v, keyOk]; grind)
theorem keyOk_spec (s : List UInt8) : Pu Try.prog 125 [Sx s] (B (keyOk s)) := by
  refine Pu.of D Try.func125 rfl rfl rfl ?_
  repeat' (first
    | (refine W.cond rfl ?_ ?_ <;> intro hb <;> try simp at hb)
    | refine cl (in_ok _ _ _) ?_
    | refine goO ?_
    | refine goS ?_
    | (refine WO.gs _ rfl rfl rfl ?_ ?_ <;> intro hb <;> simp only [hb] <;> try simp at hb))
  · refine ⟨.inr rfl, _, _, rfl, .cons (.c (.id rfl)) .nil, ?_⟩
    simp [resV, X.v, keyOk, inR] at *; grind
  · refine W.loop (σ := Nat) (fun k => [(3, I k), (0, Sx s)]) (fun _ => []) (fun k => k ≤ s.length ∧ keyOk s = (s.drop k).all letter) (fun k => s.length - k) 0 (fun _ _ => rfl) 0 ⟨by simp, by simp [keyOk, inR] at *; grind⟩ rfl (.cons rfl rfl (.cons rfl rfl (.nil))) ?_
    rintro k ⟨hk, hy⟩
    have hl : s.length ≤ 4 := by simp [inR] at hb; omega
    repeat' (first
    | (refine W.cond rfl ?_ ?_ <;> intro hb <;> try simp at hb)
    | refine OpK.of (OpOk.ixSk D rfl rfl rfl rfl rfl (by assumption)) ?_
    | refine goO ?_
    | refine goS ?_
    | (refine WO.gs _ rfl rfl rfl ?_ ?_ <;> intro hb <;> simp only [hb] <;> try simp at hb))
    · have hlt : k < s.length := by assumption
      refine ⟨.inr rfl, _, _, rfl, .cons (.c (.id rfl)) .nil, ?_⟩
      rw [drop_cons hlt, List.all_cons] at hy
      simp [resV, X.v, hy, letter]; omega
    · have hlt : k < s.length := by assumption
      refine ⟨.inr rfl, _, _, rfl, .cons (.c (.id rfl)) .nil, ?_⟩
      rw [drop_cons hlt, List.all_cons] at hy
      simp [resV, X.v, hy, letter]; omega
    · have hlt : k < s.length := by assumption
      rw [drop_cons hlt, List.all_cons] at hy
      exact ⟨k + 1, ⟨by omega, by rw [hy]; simp [letter]; omega⟩, by omega, (.cons rfl rfl (.cons rfl rfl (.nil))), rfl, rfl⟩
    · refine ⟨.inr rfl, _, _, rfl, .cons (.c (.id rfl)) .nil, ?_⟩
      rw [drop_nil (by omega)] at hy
      simp [resV, X.v, hy]
/-! ### Intervals -/
def ivOk (v : Iv) : Bool := (v.lo == [] || keyOk v.lo) && (v.hi == [] || keyOk v.hi) && (v.hi == [] || (lt v.lo v.hi && (v.lo != [] || v.hi != [97])))
theorem ivOk_spec (v : Iv) : Pu Try.prog 127 [A v.e] (B (ivOk v)) := by
  refine Pu.of D Try.func127 rfl rfl rfl ?_
  repeat' (first
    | (refine W.cond rfl ?_ ?_ <;> intro hb <;> try simp at hb)
    | refine cl (keyOk_spec v.lo) ?_
    | refine cl (keyOk_spec v.hi) ?_
    | refine goO ?_
    | refine goS ?_
    | (refine WO.gs _ rfl rfl rfl ?_ ?_ <;> intro hb <;> simp only [hb] <;> try simp at hb))
  all_goals refine ⟨.inr rfl, _, _, rfl, .cons (.c (.id rfl)) .nil, ?_⟩
  all_goals first | (simp_all [resV, X.v, ivOk, lt]; done) | (simp [resV, X.v, ivOk, lt] at *; grind) | (simp [resV, X.v, ivOk, lt] at *; omega)
def lowKey (v : Iv) : List UInt8 := if v.lo = [] then [97] else v.lo
theorem lowKey_ok (v : Iv) : Pu Try.prog 131 [A v.e] (Sx (lowKey v)) := by
  refine Pu.of D Try.func131 rfl rfl rfl ?_
  repeat' (first
    | (refine W.cond rfl ?_ ?_ <;> intro hb <;> try simp at hb)
    | refine goO ?_
    | refine goS ?_
    | (refine WO.gs _ rfl rfl rfl ?_ ?_ <;> intro hb <;> simp only [hb] <;> try simp at hb))
  all_goals refine ⟨.inr rfl, _, _, rfl, .cons (.c (.id rfl)) .nil, ?_⟩
  all_goals first | (simp_all [resV, X.v, lowKey]; done) | (simp [resV, X.v, lowKey] at *; grind) | (simp [resV, X.v, lowKey] at *; omega)
theorem lt_a {s : List UInt8} (h : keyOk s = true) : Op.bytesLess [97] s = true ↔ s ≠ [97] := by
  cases s with
  | nil => simp [keyOk] at h
  | cons c s =>
    simp only [keyOk, List.all_cons, letter, Bool.and_eq_true, decide_eq_true_eq] at h
    have h1 : 97 ≤ c.toNat := h.2.1.1
    by_cases e : c = 97
    · subst e; cases s <;> simp [Op.bytesLess]
    · have : (97 : UInt8) < c := by rw [UInt8.lt_iff_toNat_lt]; have : c.toNat ≠ 97 := fun h => e (UInt8.toNat_inj.1 (by simpa using h)); simp; omega
      simp [Op.bytesLess, this, e]
theorem lt_e {s : List UInt8} (h : s ≠ []) : Op.bytesLess [] s = true := by cases s <;> simp_all [Op.bytesLess]
theorem ivOk_impl (v : Iv) : Pu Try.prog 106 [A v.e] (B (ivOk v)) := by
  refine Pu.of D Try.func106 rfl rfl rfl ?_
  repeat' (first
    | (refine W.cond rfl ?_ ?_ <;> intro hb <;> try simp at hb)
    | refine cl (keyOk_impl v.lo) ?_
    | refine cl (keyOk_impl v.hi) ?_
    | refine cl (lowKey_ok v) ?_
    | refine goO ?_
    | refine goS ?_
    | (refine WO.gs _ rfl rfl rfl ?_ ?_ <;> intro hb <;> simp only [hb] <;> try simp at hb)
    | (refine WD.gs _ rfl rfl rfl ?_ ?_ <;> intro hb <;> simp only [hb] <;> try simp at hb))
  all_goals refine ⟨.inr rfl, _, _, rfl, .cons (.c (.id rfl)) .nil, ?_⟩
  all_goals
    have ha := @lt_a v.hi
    have he := @lt_e v.hi
    by_cases hl : v.lo = [] <;> simp_all [resV, X.v, ivOk, lt, lowKey]
  all_goals try grind
/-! ### Commands, entries, logs -/
def cmdOk (c : Cmd) : Bool := (keyOk c.key || (decide (c.kind = 5) && decide (c.key = []))) && (((decide (c.kind = 1) || decide (c.kind = 3) || decide (c.kind = 5)) && decide (c.val = 0) && decide (c.old = 0)) || (decide (c.kind = 2) && inR c.val 0 999 && decide (c.old = 0)) || (decide (c.kind = 4) && inR c.val 0 999 && inR c.old (-1) 999))
theorem value_ok (n : Int) : Pu Try.prog 136 [I n] (B (inR n 0 999)) := by
  refine Pu.of D Try.func136 rfl rfl rfl ?_
  repeat' (first
    | (refine W.cond rfl ?_ ?_ <;> intro hb <;> try simp at hb)
    | refine goO ?_
    | refine goS ?_
    | (refine WO.gs _ rfl rfl rfl ?_ ?_ <;> intro hb <;> simp only [hb] <;> try simp at hb))
  all_goals refine ⟨.inr rfl, _, _, rfl, .cons (.c (.id rfl)) .nil, ?_⟩
  all_goals first | (simp_all [resV, X.v, inR]; done) | (simp [resV, X.v, inR] at *; grind) | (simp [resV, X.v, inR] at *; omega)
theorem seq_ok (n : Int) : Pu Try.prog 81 [I n] (B (inR n 1 999)) := by
  refine Pu.of D Try.func81 rfl rfl rfl ?_
  repeat' (first
    | (refine W.cond rfl ?_ ?_ <;> intro hb <;> try simp at hb)
    | refine goO ?_
    | refine goS ?_
    | (refine WO.gs _ rfl rfl rfl ?_ ?_ <;> intro hb <;> simp only [hb] <;> try simp at hb))
  all_goals refine ⟨.inr rfl, _, _, rfl, .cons (.c (.id rfl)) .nil, ?_⟩
  all_goals first | (simp_all [resV, X.v, inR]; done) | (simp [resV, X.v, inR] at *; grind) | (simp [resV, X.v, inR] at *; omega)
theorem cmdOk_spec (c : Cmd) : Pu Try.prog 122 [A c.e] (B (cmdOk c)) := by
  refine Pu.of D Try.func122 rfl rfl rfl ?_
  repeat' (first
    | (refine W.cond rfl ?_ ?_ <;> intro hb <;> try simp at hb)
    | refine cl (keyOk_spec c.key) ?_
    | refine cl (in_ok _ _ _) ?_
    | refine goO ?_
    | refine goS ?_
    | (refine WO.gs _ rfl rfl rfl ?_ ?_ <;> intro hb <;> simp only [hb] <;> try simp at hb))
  all_goals refine ⟨.inr rfl, _, _, rfl, .cons (.c (.id rfl)) .nil, ?_⟩
  all_goals (simp [resV, X.v, cmdOk] at *; grind)
theorem cmdOk_impl (c : Cmd) : Pu Try.prog 121 [A c.e] (B (cmdOk c)) := by
  refine Pu.of D Try.func121 rfl rfl rfl ?_
  repeat' (first
    | (refine W.cond rfl ?_ ?_ <;> intro hb <;> try simp at hb)
    | refine cl (keyOk_impl c.key) ?_
    | refine cl (value_ok _) ?_
    | refine goO ?_
    | refine goS ?_
    | (refine WO.gs _ rfl rfl rfl ?_ ?_ <;> intro hb <;> simp only [hb] <;> try simp at hb))
  all_goals refine ⟨.inr rfl, _, _, rfl, .cons (.c (.id rfl)) .nil, ?_⟩
  all_goals (simp [resV, X.v, cmdOk, inR] at *; grind)
def entOk (a : Ent) : Bool := inR a.client 0 3 && inR a.seq 1 999 && cmdOk a.cmd
def logOk (l : List Ent) : Bool := decide (l.length ≤ 24) && l.all entOk
end Go.YtamlleimfopmhaaMc
namespace Go.YtamlleimfopmhaaMc
open Go.Proofs
/-! ### The order of strings -/
theorem lt_anti : ∀ (a b : List UInt8), Op.bytesLess a b = !(Op.bytesLess b a || b == a)
  | [], [] => rfl
  | [], _ :: _ => by simp [Op.bytesLess]
  | _ :: _, [] => by simp [Op.bytesLess]
  | x :: a, y :: b => by
    have ih := lt_anti a b
    simp only [Op.bytesLess, ih]
    by_cases h1 : x < y
    · have h2 : ¬ y < x := fun h => UInt8.lt_asymm h1 h
      have h3 : ¬ y = x := fun h => by subst h; exact UInt8.lt_irrefl _ h1
      simp [h1, h2, h3]
    · by_cases h2 : y < x
      · have h3 : ¬ x = y := fun h => by subst h; exact UInt8.lt_irrefl _ h2
        simp [h1, h2, h3]
      · have h3 : x = y := UInt8.le_antisymm (UInt8.not_lt.1 h2) (UInt8.not_lt.1 h1)
        subst h3
        simp [UInt8.lt_irrefl]
/-! ### Pairs and sessions, in order -/
/-- What stands ahead of the element k. -/
def ahead {α : Type} (l : List α) (k : Nat) : Option α := if k = 0 then none else l[k - 1]?
def prOk (p : Option Pr) (a : Pr) : Bool := keyOk a.key && inR a.val 0 999 && (match p with | none => true | some q => lt q.key a.key)
def seOk (p : Option Ses) (a : Ses) : Bool := inR a.client 0 3 && inR a.seq 1 999 && inR a.reply (-2) 999 && (match p with | none => true | some q => decide (q.client < a.client))
def rowOk {α : Type} (f : Option α → α → Bool) : Option α → List α → Bool
  | _, [] => true
  | p, a :: l => f p a && rowOk f (some a) l
theorem rowOk_cons {α : Type} (f : Option α → α → Bool) {l : List α} {k : Nat} (h : k < l.length) : rowOk f (ahead l k) (l.drop k) = (f (ahead l k) l[k] && rowOk f (ahead l (k + 1)) (l.drop (k + 1))) := by
  rw [drop_cons h, rowOk]
  have : ahead l (k + 1) = some l[k] := by simp [ahead, h]
  rw [this]
theorem rowOk_nil {α : Type} (f : Option α → α → Bool) {l : List α} {k : Nat} (h : l.length ≤ k) : rowOk f (ahead l k) (l.drop k) = true := by rw [drop_nil h, rowOk]
theorem ahead_0 {α : Type} {l : List α} {k : Nat} (h : k = 0) : ahead l k = none := by simp [ahead, h]
theorem ahead_s {α : Type} {l : List α} {k : Nat} (h : k ≠ 0) (hk : k - 1 < l.length) : ahead l k = some l[k - 1] := by simp [ahead, h, hk]
theorem toNat_pred {k : Nat} (h : k ≠ 0) : ((k : Int) - 1).toNat = k - 1 := by omega
def pairsOk (l : List Pr) : Bool := decide (l.length ≤ 48) && rowOk prOk none l
def sesOk (l : List Ses) : Bool := rowOk seOk none l
end Go.YtamlleimfopmhaaMc
namespace Go.YtamlleimfopmhaaMc
open Go.Proofs
/-! ### Routes: numbers and intervals -/
def rPl (n : Int) : Nat → List Rou → Int
  | _, [] => -1
  | i, r :: l => if r.num = n then (i : Int) else rPl n (i + 1) l
theorem rPl_some {n : Int} : ∀ {l : List Rou} {i : Nat}, decide (rPl n i l ≥ 0) = l.any fun q => decide (q.num = n)
  | [], i => by simp [rPl]
  | r :: l, i => by
    have ih := @rPl_some n l (i + 1)
    unfold rPl
    by_cases e : r.num = n
    · rw [if_pos e, List.any_cons, decide_eq_true e, Bool.true_or, decide_eq_true (by omega)]
    · rw [if_neg e, List.any_cons, decide_eq_false e, Bool.false_or, ih]
theorem rPlace_ok (l : List Rou) (n : Int) (hl : l.length ≤ 1048576) : Pu Try.prog 87 [L Rou.e l, I n] (I (rPl n 0 l)) := by
  refine Pu.of D Try.func87 rfl rfl rfl ?_
  repeat' (first
    | (refine W.cond rfl ?_ ?_ <;> intro hb <;> try simp at hb)
    | refine goO ?_
    | refine goN ?_
    | (refine WO.gs _ rfl rfl rfl ?_ ?_ <;> intro hb <;> simp only [hb] <;> try simp at hb))
  refine W.loop (σ := Nat) (fun k => [(9, I k), (8, I l.length), (7, L Rou.e l), (1, I n)]) (fun _ => []) (fun k => k ≤ l.length ∧ rPl n 0 l = rPl n k (l.drop k)) (fun k => l.length - k) 0 (fun _ _ => rfl) 0 ⟨by simp, by simp⟩ rfl (.cons rfl rfl (.cons rfl rfl (.cons rfl rfl (.cons rfl rfl (.nil))))) ?_
  rintro k ⟨hk1, hy⟩
  by_cases hlt : k < l.length
  · rw [drop_cons hlt, rPl] at hy
    repeat' (first
    | (refine W.cond rfl ?_ ?_ <;> intro hb <;> try simp at hb)
    | refine goO ?_
    | refine goN ?_
    | (refine WO.gs _ rfl rfl rfl ?_ ?_ <;> intro hb <;> simp only [hb] <;> try simp at hb))
    all_goals first
      | (exfalso; omega)
      | (rw [if_pos (by assumption)] at hy
         refine ⟨.inr rfl, _, _, rfl, .cons (.c (.id rfl)) .nil, ?_⟩; rw [hy]; rfl)
      | (rw [if_neg (by assumption)] at hy
         exact ⟨k + 1, ⟨by omega, hy⟩, by omega, (.cons rfl rfl (.cons rfl rfl (.cons rfl rfl (.cons rfl rfl (.nil))))), rfl, rfl⟩)
  · repeat' (first
    | (refine W.cond rfl ?_ ?_ <;> intro hb <;> try simp at hb)
    | refine goO ?_
    | refine goN ?_
    | (refine WO.gs _ rfl rfl rfl ?_ ?_ <;> intro hb <;> simp only [hb] <;> try simp at hb))
    all_goals first
      | (exfalso; omega)
      | (refine ⟨.inr rfl, _, _, rfl, .cons (.c (.id rfl)) .nil, ?_⟩; rw [hy, drop_nil (by omega)]; rfl)
end Go.YtamlleimfopmhaaMc
namespace Go.YtamlleimfopmhaaMc
open Go.Proofs
theorem shardNum_ok (n : Int) : Pu Try.prog 107 [I n] (B (inR n 0 7)) := by
  refine Pu.of D Try.func107 rfl rfl rfl ?_
  repeat' (first
    | (refine W.cond rfl ?_ ?_ <;> intro hb <;> try simp at hb)
    | refine goO ?_
    | refine goS ?_
    | (refine WO.gs _ rfl rfl rfl ?_ ?_ <;> intro hb <;> simp only [hb] <;> try simp at hb))
  all_goals refine ⟨.inr rfl, _, _, rfl, .cons (.c (.id rfl)) .nil, ?_⟩
  all_goals first | (simp_all [resV, X.v, inR]; done) | (simp [resV, X.v, inR] at *; grind) | (simp [resV, X.v, inR] at *; omega)
def spans (l : List Rou) : List Iv := l.map (·.span)
theorem spans_take {l : List Rou} {k : Nat} (h : k < l.length) : spans (l.take (k + 1)) = spans (l.take k) ++ [l[k].span] := by
  unfold spans; rw [List.take_succ_eq_append_getElem h, List.map_append]; rfl
set_option maxHeartbeats 1000000 in
theorem spans_impl (l : List Rou) (hl : l.length ≤ 1000) : Pu Try.prog 99 [L Rou.e l] (L Iv.e (spans l)) := by
  refine Pu.of D Try.func99 rfl rfl rfl ?_
  repeat' (first
    | (refine W.cond rfl ?_ ?_ <;> intro hb <;> try simp at hb)
    | refine goO ?_
    | refine goN ?_
    | (refine WO.gs _ rfl rfl rfl ?_ ?_ <;> intro hb <;> simp only [hb] <;> try simp at hb))
  refine W.ghe Iv.e 3 2 (by decide) rfl ?_
  refine W.loop (σ := Nat) (fun k => [(8, I k), (7, I l.length), (6, L Rou.e l), (3, .c (.sl 0 (spans (l.take k)).length 0 (spans (l.take k)).length))]) (fun k => [.arr (Rs Iv.e (spans (l.take k))) 2]) (fun k => k ≤ l.length) (fun k => l.length - k) 1 (fun _ _ => rfl) 0 (by simp) rfl (.cons rfl rfl (.cons rfl rfl (.cons rfl rfl (.cons rfl rfl (.nil))))) ?_
  intro k hk
  by_cases hlt : k < l.length
  · have h1 : (spans (l.take k)).length = k := by simp [spans]; omega
    have h2 := spans_take hlt
    repeat' (first
    | (refine W.cond rfl ?_ ?_ <;> intro hb <;> try simp at hb)
    | refine OpK.of (OpOk.bldF D [l[k].span] Iv.e rfl rfl rfl rfl (by decide) (by decide) (by decide) rfl rfl rfl) ?_
    | refine OpK.of (OpOk.apM D rfl rfl rfl rfl rfl rfl rfl rfl (by first | rfl | simp) rfl rfl (fun _ => rfl) (by first | assumption | omega | (simp; omega)) (by decide)) ?_
    | refine goO ?_
    | refine goS ?_
    | (refine WO.gs _ rfl rfl rfl ?_ ?_ <;> intro hb <;> simp only [hb] <;> try simp at hb))
    all_goals first
      | (exfalso; omega)
      | exact ⟨k + 1, hlt, by omega, by dsimp only; rw [h2]; exact (.cons rfl rfl (.cons rfl rfl (.cons rfl rfl (.cons rfl rfl (.nil))))), by dsimp only; rw [h2]; rfl, LH.lows (by repeat' (first | exact .nil | refine .box rfl ?_ | refine .arr (rs_low _ _ _) ?_ | refine .dead ?_ | fail))⟩
  · repeat' (first
    | (refine W.cond rfl ?_ ?_ <;> intro hb <;> try simp at hb)
    | refine goO ?_
    | refine goS ?_
    | (refine WO.gs _ rfl rfl rfl ?_ ?_ <;> intro hb <;> simp only [hb] <;> try simp at hb))
    all_goals first
      | (exfalso; omega)
      | (refine ⟨.inr rfl, _, _, rfl, .cons (.c (by first | exact .emp | exact .full rfl rfl rfl | exact .id rfl | fail)) (.nil), ?_⟩; simp only [resV, X.v]; rw [List.take_of_length_le (by omega)])
def freshAt (l : List Rou) (k : Nat) : Bool := match l[k]? with | none => true | some r => inR r.num 0 7 && !((l.take k).any fun q => decide (q.num = r.num))
theorem freshAt_eq {l : List Rou} {k : Nat} (h : k < l.length) : freshAt l k = (inR l[k].num 0 7 && !((l.take k).any fun q => decide (q.num = l[k].num))) := by
  unfold freshAt; rw [List.getElem?_eq_getElem h]
def numsOk (l : List Rou) : Bool := (List.range l.length).all (freshAt l)
theorem rng_drop {n k : Nat} (h : k < n) : (List.range n).drop k = k :: (List.range n).drop (k + 1) := by
  have : k < (List.range n).length := by simpa using h
  rw [drop_cons this]; simp
set_option maxHeartbeats 1000000 in
theorem nums_impl (l : List Rou) (hl : l.length ≤ 1048576) : Pu Try.prog 103 [L Rou.e l] (B (numsOk l)) := by
  refine Pu.of D Try.func103 rfl rfl rfl ?_
  repeat' (first
    | (refine W.cond rfl ?_ ?_ <;> intro hb <;> try simp at hb)
    | refine goO ?_
    | refine goN ?_
    | (refine WO.gs _ rfl rfl rfl ?_ ?_ <;> intro hb <;> simp only [hb] <;> try simp at hb)
    | (refine WD.gs _ rfl rfl rfl ?_ ?_ <;> intro hb <;> simp only [hb] <;> try simp at hb))
  refine W.loop (σ := Nat) (fun k => [(7, I k), (6, I l.length), (5, L Rou.e l), (0, L Rou.e l)]) (fun _ => []) (fun k => k ≤ l.length ∧ numsOk l = ((List.range l.length).drop k).all (freshAt l)) (fun k => l.length - k) 0 (fun _ _ => rfl) 0 ⟨by simp, by simp [numsOk]⟩ rfl (.cons rfl rfl (.cons rfl rfl (.cons rfl rfl (.cons rfl rfl (.nil))))) ?_
  rintro k ⟨hk1, hy⟩
  by_cases hlt : k < l.length
  · rw [rng_drop hlt, List.all_cons, freshAt_eq hlt] at hy
    have ep := rPlace_ok (l.take k) l[k].num (by simp; omega)
    have er : decide (rPl l[k].num 0 (l.take k) ≥ 0) = (l.take k).any fun q => decide (q.num = l[k].num) := rPl_some
    repeat' (first
    | (refine W.cond rfl ?_ ?_ <;> intro hb <;> try simp at hb)
    | refine cl (shardNum_ok l[k].num) ?_
    | refine cl (ep) ?_
    | refine OpK.of (OpOk.slMt D rfl rfl rfl rfl rfl (fun _ => rfl) rfl (by omega)) ?_
    | refine OpD.of (OpOk.slMt D rfl rfl rfl rfl rfl (fun _ => rfl) rfl (by omega)) ?_
    | refine goO ?_
    | refine goN ?_
    | (refine WO.gs _ rfl rfl rfl ?_ ?_ <;> intro hb <;> simp only [hb] <;> try simp at hb)
    | (refine WD.gs _ rfl rfl rfl ?_ ?_ <;> intro hb <;> simp only [hb] <;> try simp at hb))
    all_goals first
      | (exfalso; omega)
      | (refine ⟨.inr rfl, _, _, rfl, .cons (.c (.id rfl)) .nil, ?_⟩; have hb2 : (inR l[k].num 0 7 && !((l.take k).any fun q => decide (q.num = l[k].num))) = false := by rw [← er]; first | (simp_all; done) | (simp at *; grind)
         rw [hy, hb2, Bool.false_and]; rfl)
      | (have hb2 : (inR l[k].num 0 7 && !((l.take k).any fun q => decide (q.num = l[k].num))) = true := by rw [← er]; first | (simp_all; done) | (simp at *; grind)
         rw [hb2, Bool.true_and] at hy
         exact ⟨k + 1, ⟨by omega, hy⟩, by omega, (.cons rfl rfl (.cons rfl rfl (.cons rfl rfl (.cons rfl rfl (.nil))))), rfl, rfl⟩)
  · repeat' (first
    | (refine W.cond rfl ?_ ?_ <;> intro hb <;> try simp at hb)
    | refine goO ?_
    | refine goN ?_
    | (refine WO.gs _ rfl rfl rfl ?_ ?_ <;> intro hb <;> simp only [hb] <;> try simp at hb)
    | (refine WD.gs _ rfl rfl rfl ?_ ?_ <;> intro hb <;> simp only [hb] <;> try simp at hb))
    all_goals first
      | (exfalso; omega)
      | (refine ⟨.inr rfl, _, _, rfl, .cons (.c (.id rfl)) .nil, ?_⟩; rw [hy, drop_nil (by simpa using hlt)]; rfl)
end Go.YtamlleimfopmhaaMc

namespace Go.YtamlleimfopmhaaMc
open Go.Proofs
/-! ### Caches -/
theorem pig (m : Nat) : ∀ l : List Nat, l.Nodup → (∀ x ∈ l, x < m) → l.length ≤ m := by
  induction m with
  | zero => intro l _ h; cases l with
    | nil => exact Nat.le_refl _
    | cons a t => exact absurd (h a List.mem_cons_self) (by omega)
  | succ m ih =>
    intro l hn h
    by_cases hm : m ∈ l
    · have h1 := ih (l.erase m) (hn.erase m) (fun x hx => by
        have hx' := (hn.mem_erase_iff).1 hx
        have := h x hx'.2
        have := hx'.1
        omega)
      rw [List.length_erase_of_mem hm] at h1
      omega
    · have h1 := ih l hn (fun x hx => by
        have := h x hx
        have : x ≠ m := fun e => hm (e ▸ hx)
        omega)
      omega
theorem numsOk_at {l : List Rou} (h : numsOk l = true) {k : Nat} (hk : k < l.length) : inR l[k].num 0 7 = true ∧ ∀ j (hj : j < k), ¬ (l[j]'(by omega)).num = l[k].num := by
  unfold numsOk at h
  have := List.all_eq_true.1 h k (by simpa using hk)
  rw [freshAt_eq hk, Bool.and_eq_true] at this
  refine ⟨this.1, fun j hj e => ?_⟩
  have h2 : ((l.take k).any fun q => decide (q.num = l[k].num)) = true := by
    rw [List.any_eq_true]
    exact ⟨l[j], by rw [List.mem_iff_getElem]; exact ⟨j, by simp; omega, by simp⟩, by simpa using e⟩
  rw [h2] at this
  exact absurd this.2 (by decide)
theorem nums8 {l : List Rou} (h : numsOk l = true) : l.length ≤ 8 := by
  have := pig 8 (l.map fun r => r.num.toNat) (by
    rw [List.Nodup, List.pairwise_iff_getElem]
    intro i j hi hj hij
    simp only [List.length_map] at hi hj
    have h1 := numsOk_at h hi
    have h2 := numsOk_at h hj
    have h3 := h2.2 i hij
    have a1 := h1.1; have a2 := h2.1
    simp [inR] at a1 a2
    simp only [List.getElem_map]
    omega) (fun x hx => by
    obtain ⟨r, hr, rfl⟩ := List.mem_map.1 hx
    obtain ⟨i, hi, rfl⟩ := List.mem_iff_getElem.1 hr
    have := (numsOk_at h hi).1
    simp [inR] at this
    omega)
  simpa using this
def caRow (p : Option Rou) (r : Rou) : Bool := ivOk r.span && (match p with | none => true | some q => q.span.hi != [] && (lt q.span.hi r.span.lo || q.span.hi == r.span.lo))
def cacheOk (l : List Rou) : Bool := numsOk l && rowOk caRow none l
set_option maxHeartbeats 4000000 in
theorem cache_impl (l : List Rou) (hl : l.length ≤ 1048576) : Pu Try.prog 45 [L Rou.e l] (B (cacheOk l)) := by
  have e3 := nums_impl l hl
  by_cases hn : numsOk l = true
  · have h8 := nums8 hn
    rw [hn] at e3
    have hc : cacheOk l = rowOk caRow none l := by unfold cacheOk; rw [hn]; rfl
    rw [hc]
    refine Pu.of D Try.func45 rfl rfl rfl ?_
    repeat' (first
    | (refine W.cond rfl ?_ ?_ <;> intro hb <;> (try simp at hb) <;> try contradiction)
    | refine cl (e3) ?_
    | refine goO ?_
    | refine goN ?_
    | (refine WO.gs _ rfl rfl rfl ?_ ?_ <;> intro hb <;> simp only [hb] <;> (try simp at hb) <;> try contradiction)
    | (refine WD.gs _ rfl rfl rfl ?_ ?_ <;> intro hb <;> simp only [hb] <;> (try simp at hb) <;> try contradiction))
    all_goals first
      | (exfalso; omega)
      | skip
    refine W.loop (σ := Nat) (fun k => [(15, I k), (14, I l.length), (13, L Rou.e l), (0, L Rou.e l)]) (fun _ => []) (fun k => k ≤ l.length ∧ rowOk caRow none l = rowOk caRow (ahead l k) (l.drop k)) (fun k => l.length - k) 0 (fun _ _ => rfl) 0 ⟨by simp, by simp [ahead]⟩ rfl (.cons rfl rfl (.cons rfl rfl (.cons rfl rfl (.cons rfl rfl (.nil))))) ?_
    rintro k ⟨hk1, hy⟩
    by_cases hlt : k < l.length
    · rw [rowOk_cons _ hlt] at hy
      have ei := ivOk_impl l[k].span
      by_cases hz : k = 0
      · rw [ahead_0 hz] at hy
        have hzn : ¬ 0 < k := by omega
        repeat' (first
    | (refine W.cond rfl ?_ ?_ <;> intro hb <;> (try simp at hb) <;> try contradiction)
    | refine cl (ei) ?_
    | refine goO ?_
    | refine goN ?_
    | (refine WO.gs _ rfl rfl rfl ?_ ?_ <;> intro hb <;> simp only [hb] <;> (try simp at hb) <;> try contradiction)
    | (refine WD.gs _ rfl rfl rfl ?_ ?_ <;> intro hb <;> simp only [hb] <;> (try simp at hb) <;> try contradiction))
        all_goals first
          | (exfalso; omega)
          | (refine ⟨.inr rfl, _, _, rfl, .cons (.c (.id rfl)) .nil, ?_⟩; have hb2 : caRow none l[k] = false := by unfold caRow; simp only [Bool.and_true]; assumption
             rw [hy, hb2, Bool.false_and]; rfl)
          | (have hb2 : caRow none l[k] = true := by unfold caRow; simp only [Bool.and_true]; assumption
             rw [hb2, Bool.true_and] at hy
             exact ⟨k + 1, ⟨by omega, hy⟩, by omega, (.cons rfl rfl (.cons rfl rfl (.cons rfl rfl (.cons rfl rfl (.nil))))), rfl, rfl⟩)
      · have hk2 : k - 1 < l.length := by omega
        rw [ahead_s hz hk2] at hy
        repeat' (first
    | (refine W.cond rfl ?_ ?_ <;> intro hb <;> (try simp at hb) <;> try contradiction)
    | refine cl (ei) ?_
    | refine OpK.of (OpOk.sub rfl rfl rfl (by omega)) ?_
    | refine OpD.of (OpOk.sub rfl rfl rfl (by omega)) ?_
    | refine OpK.of (OpOk.ixJ D (k - 1) rfl rfl rfl rfl rfl rfl (by omega) hk2 (fun _ => rfl)) ?_
    | refine OpD.of (OpOk.ixJ D (k - 1) rfl rfl rfl rfl rfl rfl (by omega) hk2 (fun _ => rfl)) ?_
    | refine goO ?_
    | refine goN ?_
    | (refine WO.gs _ rfl rfl rfl ?_ ?_ <;> intro hb <;> simp only [hb] <;> (try simp at hb) <;> try contradiction)
    | (refine WD.gs _ rfl rfl rfl ?_ ?_ <;> intro hb <;> simp only [hb] <;> (try simp at hb) <;> try contradiction))
        all_goals first
          | (exfalso; omega)
          | (refine ⟨.inr rfl, _, _, rfl, .cons (.c (.id rfl)) .nil, ?_⟩; have hb2 : caRow (some l[k - 1]) l[k] = false := by unfold caRow; (try dsimp only); first | (simp_all; done) | (simp at *; grind)
             rw [hy, hb2, Bool.false_and]; rfl)
          | (have hb2 : caRow (some l[k - 1]) l[k] = true := by unfold caRow; (try dsimp only); first | (simp_all; done) | (simp at *; grind)
             rw [hb2, Bool.true_and] at hy
             exact ⟨k + 1, ⟨by omega, hy⟩, by omega, (.cons rfl rfl (.cons rfl rfl (.cons rfl rfl (.cons rfl rfl (.nil))))), rfl, rfl⟩)
    · repeat' (first
    | (refine W.cond rfl ?_ ?_ <;> intro hb <;> try simp at hb)
    | refine goO ?_
    | refine goN ?_
    | (refine WO.gs _ rfl rfl rfl ?_ ?_ <;> intro hb <;> simp only [hb] <;> try simp at hb)
    | (refine WD.gs _ rfl rfl rfl ?_ ?_ <;> intro hb <;> simp only [hb] <;> try simp at hb))
      all_goals first
        | (exfalso; omega)
        | (refine ⟨.inr rfl, _, _, rfl, .cons (.c (.id rfl)) .nil, ?_⟩; rw [hy, rowOk_nil _ (by omega)]; rfl)
  · have hn := Bool.eq_false_iff.2 hn
    rw [hn] at e3
    have hc : cacheOk l = false := by unfold cacheOk; rw [hn]; rfl
    rw [hc]
    refine Pu.of D Try.func45 rfl rfl rfl ?_
    repeat' (first
    | (refine W.cond rfl ?_ ?_ <;> intro hb <;> (try simp at hb) <;> try contradiction)
    | refine cl (e3) ?_
    | refine goO ?_
    | refine goN ?_
    | (refine WO.gs _ rfl rfl rfl ?_ ?_ <;> intro hb <;> simp only [hb] <;> (try simp at hb) <;> try contradiction)
    | (refine WD.gs _ rfl rfl rfl ?_ ?_ <;> intro hb <;> simp only [hb] <;> (try simp at hb) <;> try contradiction))
    all_goals (refine ⟨.inr rfl, _, _, rfl, .cons (.c (.id rfl)) .nil, ?_⟩; rfl)
end Go.YtamlleimfopmhaaMc

namespace Go.YtamlleimfopmhaaMc
open Go.Proofs
theorem any_step {l : List Rou} {n : Int} {j : Nat} (hl : j < l.length) (h : (l.take j).any (fun q => decide (q.num = n)) = false) (hn : ¬ l[j].num = n) : (l.take (j + 1)).any (fun q => decide (q.num = n)) = false := by
  rw [List.take_succ_eq_append_getElem hl, List.any_append, h]; simp [hn]
theorem any_le {l : List Rou} {n : Int} {j k : Nat} (hj : j < k) (hl : j < l.length) (hn : l[j].num = n) : (l.take k).any (fun q => decide (q.num = n)) = true := by
  rw [List.any_eq_true]
  refine ⟨l[j], ?_, by simp [hn]⟩
  rw [List.mem_iff_getElem]
  exact ⟨j, by simp; omega, by simp⟩
set_option maxHeartbeats 8000000 in
theorem cache_spec (l : List Rou) (hl : l.length ≤ 1048576) : Pu Try.prog 110 [L Rou.e l] (B (cacheOk l)) := by
  refine Pu.of D Try.func110 rfl rfl rfl ?_
  repeat' (first
    | (refine W.cond rfl ?_ ?_ <;> intro hb <;> try simp at hb)
    | refine goO ?_
    | refine goN ?_
    | (refine WO.gs _ rfl rfl rfl ?_ ?_ <;> intro hb <;> simp only [hb] <;> try simp at hb)
    | (refine WD.gs _ rfl rfl rfl ?_ ?_ <;> intro hb <;> simp only [hb] <;> try simp at hb))
  refine W.loop (σ := Nat) (fun k => [(3, I k), (0, L Rou.e l)]) (fun _ => []) (fun k => k ≤ l.length ∧ cacheOk l = (((List.range l.length).drop k).all (freshAt l) && rowOk caRow (ahead l k) (l.drop k))) (fun k => l.length - k) 0 (fun _ _ => rfl) 0 ⟨by simp, by simp [ahead, cacheOk, numsOk]⟩ rfl (.cons rfl rfl (.cons rfl rfl (.nil))) ?_
  rintro k ⟨hk1, hy⟩
  by_cases hlt : k < l.length
  · rw [rng_drop hlt, List.all_cons, freshAt_eq hlt, rowOk_cons _ hlt] at hy
    have ei := ivOk_spec l[k].span
    have en := in_ok l[k].num 0 7
    by_cases hv : ivOk l[k].span = true
    · by_cases hn : inR l[k].num 0 7 = true
      · rw [hv] at ei
        rw [hn] at en hy
        rw [Bool.true_and] at hy
        repeat' (first
    | (refine W.cond rfl ?_ ?_ <;> intro hb <;> (try simp at hb) <;> try contradiction)
    | refine cl (ei) ?_
    | refine cl (en) ?_
    | refine goO ?_
    | refine goN ?_
    | (refine WO.gs _ rfl rfl rfl ?_ ?_ <;> intro hb <;> simp only [hb] <;> (try simp at hb) <;> try contradiction)
    | (refine WD.gs _ rfl rfl rfl ?_ ?_ <;> intro hb <;> simp only [hb] <;> (try simp at hb) <;> try contradiction))
        all_goals first
          | (exfalso; omega)
          | skip
        refine W.loop (σ := Nat) (fun j => [(4, I j), (3, I k), (0, L Rou.e l)]) (fun _ => []) (fun j => j ≤ k ∧ (l.take j).any (fun q => decide (q.num = l[k].num)) = false) (fun j => k - j) 0 (fun _ _ => rfl) 0 ⟨by omega, by simp⟩ rfl (.cons rfl rfl (.cons rfl rfl (.cons rfl rfl (.nil)))) ?_
        rintro j ⟨hj1, hjy⟩
        by_cases hjk : j < k
        · have hjl : j < l.length := by omega
          by_cases he : l[j].num = l[k].num
          · have hr : cacheOk l = false := by rw [hy, any_le hjk hjl he]; rfl
            repeat' (first
    | (refine W.cond rfl ?_ ?_ <;> intro hb <;> (try simp at hb) <;> try contradiction)
    | refine goO ?_
    | refine goN ?_
    | (refine WO.gs _ rfl rfl rfl ?_ ?_ <;> intro hb <;> simp only [hb] <;> (try simp at hb) <;> try contradiction)
    | (refine WD.gs _ rfl rfl rfl ?_ ?_ <;> intro hb <;> simp only [hb] <;> (try simp at hb) <;> try contradiction))
            all_goals first
              | (exfalso; omega)
              | (refine ⟨.inr rfl, _, _, rfl, .cons (.c (.id rfl)) .nil, ?_⟩; rw [hr]; rfl)
          · repeat' (first
    | (refine W.cond rfl ?_ ?_ <;> intro hb <;> (try simp at hb) <;> try contradiction)
    | refine goO ?_
    | refine goN ?_
    | (refine WO.gs _ rfl rfl rfl ?_ ?_ <;> intro hb <;> simp only [hb] <;> (try simp at hb) <;> try contradiction)
    | (refine WD.gs _ rfl rfl rfl ?_ ?_ <;> intro hb <;> simp only [hb] <;> (try simp at hb) <;> try contradiction))
            all_goals first
              | (exfalso; omega)
              | exact ⟨j + 1, ⟨by omega, any_step hjl hjy he⟩, by omega, (.cons rfl rfl (.cons rfl rfl (.cons rfl rfl (.nil)))), rfl, rfl⟩
        · have hjk : j = k := by omega
          subst hjk
          rw [hjy, Bool.not_false, Bool.true_and] at hy
          by_cases hz : j = 0
          · have hzn : ¬ 0 < j := by omega
            have hb2 : caRow (ahead l j) l[j] = true := by rw [ahead_0 hz]; unfold caRow; rw [hv]; rfl
            rw [hb2, Bool.true_and] at hy
            repeat' (first
    | (refine W.cond rfl ?_ ?_ <;> intro hb <;> (try simp at hb) <;> try contradiction)
    | refine goO ?_
    | refine goN ?_
    | (refine WO.gs _ rfl rfl rfl ?_ ?_ <;> intro hb <;> simp only [hb] <;> (try simp at hb) <;> try contradiction)
    | (refine WD.gs _ rfl rfl rfl ?_ ?_ <;> intro hb <;> simp only [hb] <;> (try simp at hb) <;> try contradiction))
            all_goals first
              | (exfalso; omega)
              | exact ⟨j + 1, ⟨by omega, hy⟩, by omega, (.cons rfl rfl (.cons rfl rfl (.nil))), rfl, rfl⟩
          · have hk2 : j - 1 < l.length := by omega
            rw [ahead_s hz hk2] at hy
            repeat' (first
    | (refine W.cond rfl ?_ ?_ <;> intro hb <;> (try simp at hb) <;> try contradiction)
    | refine OpK.of (OpOk.sub rfl rfl rfl (by omega)) ?_
    | refine OpD.of (OpOk.sub rfl rfl rfl (by omega)) ?_
    | refine OpK.of (OpOk.ixJ D (j - 1) rfl rfl rfl rfl rfl rfl (by omega) hk2 (fun _ => rfl)) ?_
    | refine OpD.of (OpOk.ixJ D (j - 1) rfl rfl rfl rfl rfl rfl (by omega) hk2 (fun _ => rfl)) ?_
    | refine goO ?_
    | refine goN ?_
    | (refine WO.gs _ rfl rfl rfl ?_ ?_ <;> intro hb <;> simp only [hb] <;> (try simp at hb) <;> try contradiction)
    | (refine WD.gs _ rfl rfl rfl ?_ ?_ <;> intro hb <;> simp only [hb] <;> (try simp at hb) <;> try contradiction))
            all_goals first
              | (exfalso; omega)
              | (refine ⟨.inr rfl, _, _, rfl, .cons (.c (.id rfl)) .nil, ?_⟩; have hb2 : caRow (some l[j - 1]) l[j] = false := by unfold caRow; (try dsimp only); first | (simp_all; done) | (simp at *; grind)
                 rw [hy, hb2, Bool.false_and, Bool.and_false]; rfl)
              | (have hb2 : caRow (some l[j - 1]) l[j] = true := by unfold caRow; (try dsimp only); first | (simp_all; done) | (simp at *; grind)
                 rw [hb2, Bool.true_and] at hy
                 exact ⟨j + 1, ⟨by omega, hy⟩, by omega, (.cons rfl rfl (.cons rfl rfl (.nil))), rfl, rfl⟩)
      · have hn := Bool.eq_false_iff.2 hn
        have hr : cacheOk l = false := by rw [hy, hn]; rfl
        rw [hv] at ei
        rw [hn] at en
        repeat' (first
    | (refine W.cond rfl ?_ ?_ <;> intro hb <;> (try simp at hb) <;> try contradiction)
    | refine cl (ei) ?_
    | refine cl (en) ?_
    | refine goO ?_
    | refine goN ?_
    | (refine WO.gs _ rfl rfl rfl ?_ ?_ <;> intro hb <;> simp only [hb] <;> (try simp at hb) <;> try contradiction)
    | (refine WD.gs _ rfl rfl rfl ?_ ?_ <;> intro hb <;> simp only [hb] <;> (try simp at hb) <;> try contradiction))
        all_goals first
          | (exfalso; omega)
          | (refine ⟨.inr rfl, _, _, rfl, .cons (.c (.id rfl)) .nil, ?_⟩; rw [hr]; rfl)
    · have hv := Bool.eq_false_iff.2 hv
      have hr : cacheOk l = false := by
        rw [hy, show caRow (ahead l k) l[k] = false by unfold caRow; rw [hv]; rfl, Bool.false_and, Bool.and_false]
      rw [hv] at ei
      repeat' (first
    | (refine W.cond rfl ?_ ?_ <;> intro hb <;> (try simp at hb) <;> try contradiction)
    | refine cl (ei) ?_
    | refine cl (en) ?_
    | refine goO ?_
    | refine goN ?_
    | (refine WO.gs _ rfl rfl rfl ?_ ?_ <;> intro hb <;> simp only [hb] <;> (try simp at hb) <;> try contradiction)
    | (refine WD.gs _ rfl rfl rfl ?_ ?_ <;> intro hb <;> simp only [hb] <;> (try simp at hb) <;> try contradiction))
      all_goals first
        | (exfalso; omega)
        | (refine ⟨.inr rfl, _, _, rfl, .cons (.c (.id rfl)) .nil, ?_⟩; rw [hr]; rfl)
  · repeat' (first
    | (refine W.cond rfl ?_ ?_ <;> intro hb <;> try simp at hb)
    | refine goO ?_
    | refine goN ?_
    | (refine WO.gs _ rfl rfl rfl ?_ ?_ <;> intro hb <;> simp only [hb] <;> try simp at hb)
    | (refine WD.gs _ rfl rfl rfl ?_ ?_ <;> intro hb <;> simp only [hb] <;> try simp at hb))
    all_goals first
      | (exfalso; omega)
      | (refine ⟨.inr rfl, _, _, rfl, .cons (.c (.id rfl)) .nil, ?_⟩; rw [hy, rowOk_nil _ (by omega), drop_nil (by simpa using hlt)]; rfl)
end Go.YtamlleimfopmhaaMc

namespace Go.YtamlleimfopmhaaMc
open Go.Proofs
/-! ### Callers -/
theorem cmdC (m : Nat) : EqC Try.prog 31 [.i .i64, .s, .i .i64, .i .i64] (m + 1) true :=
  .st' [(0, 3, [.i .i64]), (1, 9, [.s]), (2, 3, [.i .i64]), (3, 3, [.i .i64])] (by kernel_rfl) (by kernel_rfl) (by kernel_rfl) rfl rfl (.cons (.i m (by kernel_rfl)) (.cons (.s m (by kernel_rfl)) (.cons (.i m (by kernel_rfl)) (.cons (.i m (by kernel_rfl)) .nil))))
def zCmd : Cmd := ⟨0, [], 0, 0⟩
theorem eqTs_cmd (a b : Cmd) : eqTs a.e b.e = decide (a = b) := by
  obtain ⟨a1, a2, a3, a4⟩ := a; obtain ⟨b1, b2, b3, b4⟩ := b
  simp [Cmd.e, eqTs, T.eq]; grind
def wishOk (w : Cmd) : Bool := cmdOk w && !decide (w.kind = 5)
theorem wish_impl (w : Cmd) : Pu Try.prog 69 [A w.e] (B (wishOk w)) := by
  refine Pu.of D Try.func69 rfl rfl rfl ?_
  repeat' (first
    | (refine W.cond rfl ?_ ?_ <;> intro hb <;> try simp at hb)
    | refine cl (cmdOk_impl w) ?_
    | refine goO ?_
    | refine goS ?_
    | (refine WO.gs _ rfl rfl rfl ?_ ?_ <;> intro hb <;> simp only [hb] <;> try simp at hb))
  all_goals refine ⟨.inr rfl, _, _, rfl, .cons (.c (.id rfl)) .nil, ?_⟩
  all_goals first | (simp_all [resV, X.v, wishOk]; done) | (simp [resV, X.v, wishOk] at *; grind) | (simp [resV, X.v, wishOk] at *; omega)
theorem wish_spec (w : Cmd) : Pu Try.prog 73 [A w.e] (B (wishOk w)) := by
  refine Pu.of D Try.func73 rfl rfl rfl ?_
  repeat' (first
    | (refine W.cond rfl ?_ ?_ <;> intro hb <;> try simp at hb)
    | refine cl (cmdOk_spec w) ?_
    | refine goO ?_
    | refine goS ?_
    | (refine WO.gs _ rfl rfl rfl ?_ ?_ <;> intro hb <;> simp only [hb] <;> try simp at hb))
  all_goals refine ⟨.inr rfl, _, _, rfl, .cons (.c (.id rfl)) .nil, ?_⟩
  all_goals first | (simp_all [resV, X.v, wishOk]; done) | (simp [resV, X.v, wishOk] at *; grind) | (simp [resV, X.v, wishOk] at *; omega)
theorem time_ok (n : Int) : Pu Try.prog 70 [I n] (B (inR n 0 200)) := by
  refine Pu.of D Try.func70 rfl rfl rfl ?_
  repeat' (first
    | (refine W.cond rfl ?_ ?_ <;> intro hb <;> try simp at hb)
    | refine goO ?_
    | refine goS ?_
    | (refine WO.gs _ rfl rfl rfl ?_ ?_ <;> intro hb <;> simp only [hb] <;> try simp at hb))
  all_goals refine ⟨.inr rfl, _, _, rfl, .cons (.c (.id rfl)) .nil, ?_⟩
  all_goals first | (simp_all [resV, X.v, inR]; done) | (simp [resV, X.v, inR] at *; grind) | (simp [resV, X.v, inR] at *; omega)
theorem clientN_ok (n : Int) : Pu Try.prog 78 [I n] (B (inR n 1 3)) := by
  refine Pu.of D Try.func78 rfl rfl rfl ?_
  repeat' (first
    | (refine W.cond rfl ?_ ?_ <;> intro hb <;> try simp at hb)
    | refine goO ?_
    | refine goS ?_
    | (refine WO.gs _ rfl rfl rfl ?_ ?_ <;> intro hb <;> simp only [hb] <;> try simp at hb))
  all_goals refine ⟨.inr rfl, _, _, rfl, .cons (.c (.id rfl)) .nil, ?_⟩
  all_goals first | (simp_all [resV, X.v, inR]; done) | (simp [resV, X.v, inR] at *; grind) | (simp [resV, X.v, inR] at *; omega)
theorem reply_ok (n : Int) : Pu Try.prog 79 [I n] (B (inR n (-4) 999)) := by
  refine Pu.of D Try.func79 rfl rfl rfl ?_
  repeat' (first
    | (refine W.cond rfl ?_ ?_ <;> intro hb <;> try simp at hb)
    | refine goO ?_
    | refine goS ?_
    | (refine WO.gs _ rfl rfl rfl ?_ ?_ <;> intro hb <;> simp only [hb] <;> try simp at hb))
  all_goals refine ⟨.inr rfl, _, _, rfl, .cons (.c (.id rfl)) .nil, ?_⟩
  all_goals first | (simp_all [resV, X.v, inR]; done) | (simp [resV, X.v, inR] at *; grind) | (simp [resV, X.v, inR] at *; omega)
def calOk (c : Cal) : Bool := cacheOk c.cache && inR c.seq 0 999 && (if c.busy then decide (1 ≤ c.seq) && wishOk c.wish && inR c.called 0 200 else decide (c.wish = zCmd) && decide (c.called = 0))
theorem cal_impl (c : Cal) (hs : c.cache.length ≤ 1048576) : Pu Try.prog 21 [A c.e] (B (calOk c)) := by
  have hq : ∀ w : Cmd, eqTs [tI w.kind, .s w.key, tI w.val, tI w.old] [tI 0, .s [], tI 0, tI 0] = decide (w = zCmd) := fun w => eqTs_cmd w zCmd
  refine Pu.of D Try.func21 rfl rfl rfl ?_
  repeat' (first
    | (refine W.cond rfl ?_ ?_ <;> intro hb <;> try simp at hb)
    | refine cl (cache_impl c.cache hs) ?_
    | refine cl (wish_impl c.wish) ?_
    | refine cl (time_ok c.called) ?_
    | refine OpK.of (OpOk.eqE c.wish.e zCmd.e rfl (cmdC 0) (by decide) (by kernel_rfl) rfl rfl rfl rfl) ?_
    | refine goO ?_
    | refine goN ?_
    | (refine WO.gs _ rfl rfl rfl ?_ ?_ <;> intro hb <;> simp only [hb] <;> try simp at hb))
  all_goals refine ⟨.inr rfl, _, _, rfl, .cons (.c (.id rfl)) .nil, ?_⟩
  all_goals first
    | (simp_all [resV, X.v, calOk, inR, eqTs_cmd]; done)
    | (simp [resV, X.v, calOk, inR, eqTs_cmd] at *; grind)
theorem cal_spec (c : Cal) (hs : c.cache.length ≤ 1048576) : Pu Try.prog 72 [A c.e] (B (calOk c)) := by
  refine Pu.of D Try.func72 rfl rfl rfl ?_
  repeat' (first
    | (refine W.cond rfl ?_ ?_ <;> intro hb <;> try simp at hb)
    | refine cl (cache_spec c.cache hs) ?_
    | refine cl (wish_spec c.wish) ?_
    | refine cl (in_ok _ _ _) ?_
    | refine OpK.of (OpOk.eqE c.wish.e zCmd.e rfl (cmdC 0) (by decide) (by kernel_rfl) rfl rfl rfl rfl) ?_
    | refine goO ?_
    | refine goN ?_
    | (refine WO.gs _ rfl rfl rfl ?_ ?_ <;> intro hb <;> simp only [hb] <;> try simp at hb))
  all_goals refine ⟨.inr rfl, _, _, rfl, .cons (.c (.id rfl)) .nil, ?_⟩
  all_goals first
    | (simp_all [resV, X.v, calOk, eqTs_cmd]; done)
    | (simp [resV, X.v, calOk, eqTs_cmd] at *; grind)
def resOk (r : Res) : Bool := inR r.client 1 3 && inR r.seq 1 999 && wishOk r.wish && inR r.reply (-4) 999 && inR r.returned 0 200 && inR r.called 0 r.returned
theorem res_impl (r : Res) : Pu Try.prog 26 [A r.e] (B (resOk r)) := by
  refine Pu.of D Try.func26 rfl rfl rfl ?_
  repeat' (first
    | (refine W.cond rfl ?_ ?_ <;> intro hb <;> try simp at hb)
    | refine cl (clientN_ok _) ?_
    | refine cl (seq_ok _) ?_
    | refine cl (wish_impl r.wish) ?_
    | refine cl (reply_ok _) ?_
    | refine cl (time_ok _) ?_
    | refine goO ?_
    | refine goN ?_
    | (refine WO.gs _ rfl rfl rfl ?_ ?_ <;> intro hb <;> simp only [hb] <;> try simp at hb))
  all_goals refine ⟨.inr rfl, _, _, rfl, .cons (.c (.id rfl)) .nil, ?_⟩
  all_goals first
    | (simp_all [resV, X.v, resOk, inR]; done)
    | (simp [resV, X.v, resOk, inR] at *; grind)
theorem res_spec (r : Res) : Pu Try.prog 80 [A r.e] (B (resOk r)) := by
  refine Pu.of D Try.func80 rfl rfl rfl ?_
  repeat' (first
    | (refine W.cond rfl ?_ ?_ <;> intro hb <;> try simp at hb)
    | refine cl (in_ok _ _ _) ?_
    | refine cl (wish_spec r.wish) ?_
    | refine goO ?_
    | refine goN ?_
    | (refine WO.gs _ rfl rfl rfl ?_ ?_ <;> intro hb <;> simp only [hb] <;> try simp at hb))
  all_goals refine ⟨.inr rfl, _, _, rfl, .cons (.c (.id rfl)) .nil, ?_⟩
  all_goals first
    | (simp_all [resV, X.v, resOk]; done)
    | (simp [resV, X.v, resOk] at *; grind)
end Go.YtamlleimfopmhaaMc
