/- Lemmas of this claim: walks through code, values and memory, and the contracts of functions; under no condition beyond those that each states. -/
import Derived.Test.YtakiodehjhpgkaaGreatGB
set_option maxRecDepth 100000
set_option linter.unusedVariables false
set_option linter.unusedSimpArgs false
namespace Go.YtakiodehjhpgkaaGreatMc
open Go.Proofs
/-! ### Cuts -/
def cutOk (v : Iv) (k : List UInt8) : Bool := ivOk v && keyOk k && ivOk ⟨v.lo, k⟩ && ivOk ⟨k, v.hi⟩
abbrev Xi (v : Iv) : X := .ag (tc v.e)
def cutV (v : Iv) (k : List UInt8) : V := if cutOk v k then .tu [Xi ⟨v.lo, k⟩, Xi ⟨k, v.hi⟩, .c (.t (.b true))] else .tu [Xi ⟨[], []⟩, Xi ⟨[], []⟩, .c (.t (.b false))]
theorem cut_impl (v : Iv) (k : List UInt8) : Pu Tryz.prog 269 [A v.e, Sx k] (cutV v k) := by
  refine Pu.of D Tryz.func269 rfl rfl rfl ?_
  repeat' (first
    | (refine WO.id ?_; first
      | refine stp1_ok D rfl ?_
      | refine WO.nil ?_
      | refine WO.g rfl rfl rfl ?_
      | refine WO.g0 rfl ?_
      | (refine WO.gs _ rfl rfl rfl ?_ ?_ <;> intro hb <;> simp only [hb] <;> try simp at hb))
    | (refine OpK.id ?_; first
      | refine OpK.of (OpOk.call rfl (ivOk_impl v) rfl rfl rfl) ?_
      | refine OpK.of (OpOk.call rfl (ivOk_impl ⟨v.lo, k⟩) rfl rfl rfl) ?_
      | refine OpK.of (OpOk.call rfl (ivOk_impl ⟨k, v.hi⟩) rfl rfl rfl) ?_
      | refine OpK.of (OpOk.call rfl (keyOk_impl k) rfl rfl rfl) ?_
      | refine OpK.of (OpOk.lenS D rfl rfl rfl rfl) ?_
      | refine OpK.of (OpOk.lenM D rfl rfl rfl rfl) ?_
      | refine OpK.of (OpOk.lenL D rfl rfl rfl rfl) ?_
      | refine OpK.of (OpOk.lenA D rfl rfl rfl rfl rfl rfl) ?_
      | refine OpK.of (OpOk.lenE D rfl rfl rfl rfl) ?_
      | refine OpK.of (OpOk.inc rfl rfl rfl (by omega)) ?_
      | refine OpK.of (OpOk.add rfl rfl rfl (by omega)) ?_
      | refine OpK.of (OpOk.sub rfl rfl rfl (by omega)) ?_
      | refine OpK.of (OpOk.ixM D rfl rfl rfl rfl rfl rfl (by first | assumption | omega) (fun _ => rfl)) ?_)
    | (refine W.id ?_; first
      | refine W.db 7 [0, 0, 1, 7, 15] mixed (by decide +kernel) ?_
      | refine W.regs ?_
      | refine W.ret ?_
      | refine W.seq ?_
      | refine W.skip ?_
      | refine W.region ?_
      | refine W.exit ?_
      | refine W.block ?_
      | (refine W.cond rfl ?_ ?_ <;> intro hb <;> try simp at hb))
    | (refine Then.id ?_; first
      | refine Then.rn ?_
      | refine Then.rr ?_
      | refine Then.rx ?_)
    | (refine InBlk.id ?_; first
      | refine InBlk.rn ?_
      | refine InBlk.rr ?_
      | refine InBlk.re ?_
      | refine InBlk.rx rfl ?_)
    | (refine WB.id ?_; first
      | refine WB.done rfl ?_
      | refine WB.step rfl ?_)
    | (refine WBI.id ?_; first
      | refine WBI.r D rfl rfl ?_
      | refine WBI.g rfl rfl rfl rfl ?_
      | refine WBI.g0 rfl rfl ?_
      | (refine WBI.gs _ rfl rfl rfl ?_ ?_ <;> intro hb <;> simp only [hb] <;> try simp at hb))
    | (refine WBL.id ?_; first
      | exact WBL.nil
      | refine WBL.cons ?_ ?_
      | exact WBL.on rfl
      | refine WBL.oc rfl ?_ ?_)
    | fail)
  all_goals refine ⟨.inr rfl, _, _, rfl, .cons (.ag (.cons (.id rfl) (.cons (.id rfl) .nil))) (.cons (.ag (.cons (.id rfl) (.cons (.id rfl) .nil))) (.cons (.c (.id rfl)) .nil)), ?_⟩
  all_goals (simp [cutV, cutOk, *]; try rfl)
theorem cut_spec (v : Iv) (k : List UInt8) : Pu Tryz.prog 259 [A v.e, Sx k] (cutV v k) := by
  refine Pu.of D Tryz.func259 rfl rfl rfl ?_
  repeat' (first
    | (refine WO.id ?_; first
      | refine stp1_ok D rfl ?_
      | refine WO.nil ?_
      | refine WO.g rfl rfl rfl ?_
      | refine WO.g0 rfl ?_
      | (refine WO.gs _ rfl rfl rfl ?_ ?_ <;> intro hb <;> simp only [hb] <;> try simp at hb))
    | (refine OpK.id ?_; first
      | refine OpK.of (OpOk.call rfl (ivOk_spec v) rfl rfl rfl) ?_
      | refine OpK.of (OpOk.call rfl (ivOk_spec ⟨v.lo, k⟩) rfl rfl rfl) ?_
      | refine OpK.of (OpOk.call rfl (ivOk_spec ⟨k, v.hi⟩) rfl rfl rfl) ?_
      | refine OpK.of (OpOk.call rfl (keyOk_spec k) rfl rfl rfl) ?_
      | refine OpK.of (OpOk.lenS D rfl rfl rfl rfl) ?_
      | refine OpK.of (OpOk.lenM D rfl rfl rfl rfl) ?_
      | refine OpK.of (OpOk.lenL D rfl rfl rfl rfl) ?_
      | refine OpK.of (OpOk.lenA D rfl rfl rfl rfl rfl rfl) ?_
      | refine OpK.of (OpOk.lenE D rfl rfl rfl rfl) ?_
      | refine OpK.of (OpOk.inc rfl rfl rfl (by omega)) ?_
      | refine OpK.of (OpOk.add rfl rfl rfl (by omega)) ?_
      | refine OpK.of (OpOk.sub rfl rfl rfl (by omega)) ?_
      | refine OpK.of (OpOk.ixM D rfl rfl rfl rfl rfl rfl (by first | assumption | omega) (fun _ => rfl)) ?_)
    | (refine W.id ?_; first
      | refine W.db 5 [0, 0, 1, 7, 15] mixed (by decide +kernel) ?_
      | refine W.regs ?_
      | refine W.ret ?_
      | refine W.seq ?_
      | refine W.skip ?_
      | refine W.region ?_
      | refine W.exit ?_
      | refine W.block ?_
      | (refine W.cond rfl ?_ ?_ <;> intro hb <;> try simp at hb))
    | (refine Then.id ?_; first
      | refine Then.rn ?_
      | refine Then.rr ?_
      | refine Then.rx ?_)
    | (refine InBlk.id ?_; first
      | refine InBlk.rn ?_
      | refine InBlk.rr ?_
      | refine InBlk.re ?_
      | refine InBlk.rx rfl ?_)
    | (refine WB.id ?_; first
      | refine WB.done rfl ?_
      | refine WB.step rfl ?_)
    | (refine WBI.id ?_; first
      | refine WBI.r D rfl rfl ?_
      | refine WBI.g rfl rfl rfl rfl ?_
      | refine WBI.g0 rfl rfl ?_
      | (refine WBI.gs _ rfl rfl rfl ?_ ?_ <;> intro hb <;> simp only [hb] <;> try simp at hb))
    | (refine WBL.id ?_; first
      | exact WBL.nil
      | refine WBL.cons ?_ ?_
      | exact WBL.on rfl
      | refine WBL.oc rfl ?_ ?_)
    | fail)
  all_goals refine ⟨.inr rfl, _, _, rfl, .cons (.ag (.cons (.id rfl) (.cons (.id rfl) .nil))) (.cons (.ag (.cons (.id rfl) (.cons (.id rfl) .nil))) (.cons (.c (.id rfl)) .nil)), ?_⟩
  all_goals (simp [cutV, cutOk, *]; try rfl)
def hasK (v : Iv) (k : List UInt8) : Bool := (lt v.lo k || v.lo == k) && (v.hi == [] || lt k v.hi)
theorem inside_ok (v : Iv) (k : List UInt8) : Pu Tryz.prog 268 [A v.e, Sx k] (B (hasK v k)) := by
  refine Pu.of D Tryz.func268 rfl rfl rfl ?_
  repeat' (first
    | (refine W.cond rfl ?_ ?_ <;> intro hb <;> try simp at hb)
    | refine goO ?_
    | refine goS ?_
    | (refine WO.gs _ rfl rfl rfl ?_ ?_ <;> intro hb <;> simp only [hb] <;> try simp at hb))
  all_goals refine ⟨.inr rfl, _, _, rfl, .cons (.c (.id rfl)) .nil, ?_⟩
  all_goals first | (simp_all [resV, X.v, hasK, lt]; done) | (simp [resV, X.v, hasK, lt] at *; grind) | (simp [resV, X.v, hasK, lt] at *; omega)
theorem has_ok (v : Iv) (k : List UInt8) : Pu Tryz.prog 258 [A v.e, Sx k] (B (ivOk v && keyOk k && hasK v k)) := by
  refine Pu.of D Tryz.func258 rfl rfl rfl ?_
  repeat' (first
    | (refine W.cond rfl ?_ ?_ <;> intro hb <;> try simp at hb)
    | refine cl (ivOk_spec v) ?_
    | refine cl (keyOk_spec k) ?_
    | refine goO ?_
    | refine goS ?_
    | (refine WO.gs _ rfl rfl rfl ?_ ?_ <;> intro hb <;> simp only [hb] <;> try simp at hb))
  all_goals refine ⟨.inr rfl, _, _, rfl, .cons (.c (.id rfl)) .nil, ?_⟩
  all_goals (have := lt_anti k v.lo; cases h1 : Op.bytesLess v.lo k <;> simp_all [resV, X.v, hasK, lt])
end Go.YtakiodehjhpgkaaGreatMc

namespace Go.YtakiodehjhpgkaaGreatMc
open Go.Proofs
/-! ### States -/
def cutW (v : Iv) (k : List UInt8) : V := .tu [Xi (if cutOk v k then ⟨v.lo, k⟩ else ⟨[], []⟩), Xi (if cutOk v k then ⟨k, v.hi⟩ else ⟨[], []⟩), .c (.t (.b (cutOk v k)))]
theorem cutW_eq (v : Iv) (k : List UInt8) : cutV v k = cutW v k := by unfold cutV cutW; cases cutOk v k <;> rfl
theorem cut_impl2 (v : Iv) (k : List UInt8) : Pu Tryz.prog 269 [A v.e, Sx k] (cutW v k) := cutW_eq v k ▸ cut_impl v k
theorem cut_spec2 (v : Iv) (k : List UInt8) : Pu Tryz.prog 259 [A v.e, Sx k] (cutW v k) := cutW_eq v k ▸ cut_spec v k
def hasAll (s : Stt) : Bool := s.pairs.all (fun p => hasK s.span p.key)
def stOk (s : Stt) : Bool := ivOk s.span && pairsOk s.pairs && sesOk s.known && hasAll s && (decide (s.cut = []) || (s.sealed && cutOk s.span s.cut))
theorem pair_key {l : List Pr} (h : pairsOk l = true) {k : Nat} (hk : k < l.length) : keyOk l[k].key = true := by
  have gen : ∀ (l : List Pr) (p : Option Pr), rowOk prOk p l = true → ∀ (k : Nat) (hk : k < l.length), keyOk l[k].key = true := by
    intro l
    induction l with
    | nil => intro p _ k hk; simp at hk
    | cons a l ih =>
      intro p h k hk
      simp only [rowOk, Bool.and_eq_true] at h
      cases k with
      | zero => have := h.1; simp only [prOk, Bool.and_eq_true] at this; exact this.1.1
      | succ k => exact ih _ h.2 k (by simpa using hk)
  simp only [pairsOk, Bool.and_eq_true] at h
  exact gen l none h.2 k hk
theorem stOk_impl (s : Stt) (hs : s.Sm) : Pu Tryz.prog 170 [A s.e] (B (stOk s)) := by
  refine Pu.of D Tryz.func170 rfl rfl rfl ?_
  repeat' (first
    | (refine W.cond rfl ?_ ?_ <;> intro hb <;> try simp at hb)
    | refine cl (ivOk_impl s.span) ?_
    | refine cl (pairsOk_impl s.pairs) ?_
    | refine cl (sesOk_impl s.known hs.knownN) ?_
    | refine goO ?_
    | refine goS ?_
    | (refine WO.gs _ rfl rfl rfl ?_ ?_ <;> intro hb <;> simp only [hb] <;> try simp at hb))
  all_goals first | (refine ⟨.inr rfl, _, _, rfl, .cons (.c (.id rfl)) .nil, ?_⟩; simp_all [resV, X.v, stOk]; done) | skip
  have lp := hs.pairsN
  refine W.loop (σ := Nat) (fun k => [(27, I k), (26, I s.pairs.length), (25, L Pr.e s.pairs), (1, .c (.ptr 0 0))]) (fun _ => [.box (tc s.e)]) (fun k => k ≤ s.pairs.length ∧ hasAll s = (s.pairs.drop k).all (fun p => hasK s.span p.key)) (fun k => s.pairs.length - k) 1 (fun _ _ => rfl) 0 ⟨by simp, by simp [hasAll]⟩ rfl (.cons rfl rfl (.cons rfl rfl (.cons rfl rfl (.cons rfl rfl (.nil))))) ?_
  rintro k ⟨hk1, hy⟩
  repeat' (first
    | (refine W.cond rfl ?_ ?_ <;> intro hb <;> try simp at hb)
    | refine cl (inside_ok s.span s.pairs[k].key) ?_
    | refine cl (cut_impl2 s.span s.cut) ?_
    | refine goO ?_
    | refine goS ?_
    | (refine WO.gs _ rfl rfl rfl ?_ ?_ <;> intro hb <;> simp only [hb] <;> try simp at hb))
  all_goals first
    | (have hlt : k < s.pairs.length := by assumption
       rw [drop_cons hlt, List.all_cons] at hy
       first
       | (have hb2 : hasK s.span s.pairs[k].key = true := by first | assumption | (simp_all; done)
          rw [hb2, Bool.true_and] at hy
          exact ⟨k + 1, ⟨by omega, hy⟩, by omega, (.cons rfl rfl (.cons rfl rfl (.cons rfl rfl (.cons rfl rfl (.nil))))), rfl, rfl⟩)
       | (have hb2 : hasK s.span s.pairs[k].key = false := by first | assumption | (simp_all; done)
          rw [hb2, Bool.false_and] at hy
          refine ⟨.inr rfl, _, _, rfl, .cons (.c (.id rfl)) .nil, ?_⟩; simp [resV, X.v, stOk, hy]; done)
       | (exfalso; simp_all; done))
    | (refine ⟨.inr rfl, _, _, rfl, .cons (.c (.id rfl)) .nil, ?_⟩; rw [drop_nil (by omega)] at hy; simp_all [resV, X.v, stOk]; done)
theorem stOk_spec (s : Stt) (hs : s.Sm) : Pu Tryz.prog 159 [A s.e] (B (stOk s)) := by
  refine Pu.of D Tryz.func159 rfl rfl rfl ?_
  repeat' (first
    | (refine W.cond rfl ?_ ?_ <;> intro hb <;> try simp at hb)
    | refine cl (ivOk_spec s.span) ?_
    | refine cl (pairsOk_spec s.pairs) ?_
    | refine cl (sesOk_spec s.known hs.knownN) ?_
    | refine goO ?_
    | refine goS ?_
    | (refine WO.gs _ rfl rfl rfl ?_ ?_ <;> intro hb <;> simp only [hb] <;> try simp at hb)
    | (refine WD.gs _ rfl rfl rfl ?_ ?_ <;> intro hb <;> simp only [hb] <;> try simp at hb))
  all_goals first | (refine ⟨.inr rfl, _, _, rfl, .cons (.c (.id rfl)) .nil, ?_⟩; simp_all [resV, X.v, stOk]; done) | skip
  have lp := hs.pairsN
  have hp : pairsOk s.pairs = true := by assumption
  refine W.loop (σ := Nat) (fun k => [(3, I k), (1, .c (.ptr 0 0))]) (fun _ => [.box (tc s.e)]) (fun k => k ≤ s.pairs.length ∧ hasAll s = (s.pairs.drop k).all (fun p => hasK s.span p.key)) (fun k => s.pairs.length - k) 1 (fun _ _ => rfl) 0 ⟨by simp, by simp [hasAll]⟩ rfl (.cons rfl rfl (.cons rfl rfl (.nil))) ?_
  rintro k ⟨hk1, hy⟩
  repeat' (first
    | (refine W.cond rfl ?_ ?_ <;> intro hb <;> try simp at hb)
    | refine cl (has_ok s.span s.pairs[k].key) ?_
    | refine cl (cut_spec2 s.span s.cut) ?_
    | refine goO ?_
    | refine goS ?_
    | (refine WO.gs _ rfl rfl rfl ?_ ?_ <;> intro hb <;> simp only [hb] <;> try simp at hb)
    | (refine WD.gs _ rfl rfl rfl ?_ ?_ <;> intro hb <;> simp only [hb] <;> try simp at hb))
  all_goals first
    | (have hlt : k < s.pairs.length := by assumption
       have hkk := pair_key hp hlt
       rw [drop_cons hlt, List.all_cons] at hy
       first
       | (have hb2 : hasK s.span s.pairs[k].key = true := by first | assumption | (simp_all; done)
          rw [hb2, Bool.true_and] at hy
          exact ⟨k + 1, ⟨by omega, hy⟩, by omega, (.cons rfl rfl (.cons rfl rfl (.nil))), rfl, rfl⟩)
       | (have hb2 : hasK s.span s.pairs[k].key = false := by first | assumption | (simp_all; done)
          rw [hb2, Bool.false_and] at hy
          refine ⟨.inr rfl, _, _, rfl, .cons (.c (.id rfl)) .nil, ?_⟩; simp [resV, X.v, stOk, hy]; done)
       | (exfalso; simp_all; done))
    | (refine ⟨.inr rfl, _, _, rfl, .cons (.c (.id rfl)) .nil, ?_⟩; rw [drop_nil (by omega)] at hy; simp_all [resV, X.v, stOk]; done)
/-! ### Chains -/
def ansOk (a : Ans) : Bool := entOk a.asked && inR a.reply (-4) 999
def answersOk (l : List Ans) : Bool := decide (l.length ≤ 24) && l.all ansOk
theorem answersOk_impl (l : List Ans) : Pu Tryz.prog 174 [L Ans.e l] (B (answersOk l)) := by
  refine Pu.of D Tryz.func174 rfl rfl rfl ?_
  repeat' (first
    | (refine W.cond rfl ?_ ?_ <;> intro hb <;> try simp at hb)
    | refine goO ?_
    | refine goS ?_
    | (refine WO.gs _ rfl rfl rfl ?_ ?_ <;> intro hb <;> simp only [hb] <;> try simp at hb))
  · refine ⟨.inr rfl, _, _, rfl, .cons (.c (.id rfl)) .nil, ?_⟩
    simp [resV, X.v, answersOk] at *; grind
  · refine W.loop (σ := Nat) (fun k => [(10, I k), (9, I l.length), (8, L Ans.e l)]) (fun _ => []) (fun k => k ≤ (l).length ∧ (l).all (ansOk) = ((l).drop k).all (ansOk)) (fun k => (l).length - k) 0 (fun _ _ => rfl) 0 ⟨by simp, by simp⟩ rfl (.cons rfl rfl (.cons rfl rfl (.cons rfl rfl (.nil)))) ?_
    rintro k ⟨hk1, hy⟩
    repeat' (first
    | (refine W.cond rfl ?_ ?_ <;> intro hb <;> try simp at hb)
    | refine cl (entOk_impl l[k].asked) ?_
    | refine goO ?_
    | refine goS ?_
    | (refine WO.gs _ rfl rfl rfl ?_ ?_ <;> intro hb <;> simp only [hb] <;> try simp at hb))
    all_goals first
      | (have hlt : k < (l).length := by assumption
         rw [drop_cons hlt, List.all_cons] at hy
         first
         | (refine ⟨.inr rfl, _, _, rfl, .cons (.c (.id rfl)) .nil, ?_⟩; simp_all [resV, X.v, answersOk, ansOk, inR]; done)
         | (refine ⟨.inr rfl, _, _, rfl, .cons (.c (.id rfl)) .nil, ?_⟩; simp [resV, X.v, answersOk, ansOk, inR] at *; grind)
         | (refine ⟨k + 1, ⟨by omega, ?_⟩, by omega, (.cons rfl rfl (.cons rfl rfl (.cons rfl rfl (.nil)))), rfl, rfl⟩; simp_all [answersOk, ansOk, inR]; done)
         | (refine ⟨k + 1, ⟨by omega, ?_⟩, by omega, (.cons rfl rfl (.cons rfl rfl (.cons rfl rfl (.nil)))), rfl, rfl⟩; simp [answersOk, ansOk, inR] at *; grind))
      | (refine ⟨.inr rfl, _, _, rfl, .cons (.c (.id rfl)) .nil, ?_⟩; rw [drop_nil (by omega)] at hy; simp_all [resV, X.v, answersOk, ansOk, inR]; done)
      | (refine ⟨.inr rfl, _, _, rfl, .cons (.c (.id rfl)) .nil, ?_⟩; rw [drop_nil (by omega)] at hy; simp [resV, X.v, answersOk, ansOk, inR] at *; grind)

def nodeIn (c : Chn) (r : Rep) : Bool := repOk r && decide (r.conf.epoch ≤ c.conf.epoch)
def bagIn (c : Chn) (m : Msg) : Bool := decide (m.epoch ≤ c.conf.epoch)
def chOk (c : Chn) : Bool := stOk c.base && confOk c.conf && decide (c.nodes.length = 5) && decide (c.up.length = 5) && bagOk c.bag && c.nodes.all (nodeIn c) && c.bag.all (bagIn c) && answersOk c.answers
theorem chOk_impl (c : Chn) (hs : c.Sm) : Pu Tryz.prog 67 [A c.e] (B (chOk c)) := by
  refine Pu.of D Tryz.func67 rfl rfl rfl ?_
  repeat' (first
    | (refine W.cond rfl ?_ ?_ <;> intro hb <;> try simp at hb)
    | refine cl (stOk_impl c.base hs.base) ?_
    | refine cl (confOk_impl c.conf hs.conf.memN) ?_
    | refine cl (bagOk_impl c.bag hs.bag) ?_
    | refine goO ?_
    | refine goS ?_
    | (refine WO.gs _ rfl rfl rfl ?_ ?_ <;> intro hb <;> simp only [hb] <;> try simp at hb))
  all_goals first | (refine ⟨.inr rfl, _, _, rfl, .cons (.c (.id rfl)) .nil, ?_⟩; simp [resV, X.v, chOk] at *; grind) | skip
  have hl5 : c.nodes.length = 5 := by omega
  have hu5 : c.up.length = 5 := by omega
  have hbag : bagOk c.bag = true := by assumption
  have hbl : c.bag.length ≤ 10 := by simp only [bagOk, Bool.and_eq_true, decide_eq_true_eq] at hbag; exact hbag.1
  have hbase : stOk c.base = true := by assumption
  have hconf : confOk c.conf = true := by assumption
  refine W.loop (σ := Nat) (fun k => [(38, I k), (37, I c.nodes.length), (36, L Rep.e c.nodes), (1, .c (.ptr 0 0))]) (fun _ => [.box (tc c.e)]) (fun k => k ≤ (c.nodes).length ∧ (c.nodes).all (nodeIn c) = ((c.nodes).drop k).all (nodeIn c)) (fun k => (c.nodes).length - k) 1 (fun _ _ => rfl) 0 ⟨by simp, by simp⟩ rfl (.cons rfl rfl (.cons rfl rfl (.cons rfl rfl (.cons rfl rfl (.nil))))) ?_
  rintro k ⟨hk1, hy⟩
  repeat' (first
    | (refine W.cond rfl ?_ ?_ <;> intro hb <;> try simp at hb)
    | refine cl (repOk_impl c.nodes[k] (hs.nodes _ (List.getElem_mem _))) ?_
    | refine goO ?_
    | refine goS ?_
    | (refine WO.gs _ rfl rfl rfl ?_ ?_ <;> intro hb <;> simp only [hb] <;> try simp at hb))
  all_goals first
    | (have hlt : k < (c.nodes).length := by omega
       rw [drop_cons hlt, List.all_cons] at hy
       first
       | (have hb2 : (nodeIn c) (c.nodes)[k] = true := by first | assumption | (clear hy; simp_all [nodeIn]; done) | (clear hy; simp [nodeIn] at *; grind)
          rw [hb2, Bool.true_and] at hy
          exact ⟨k + 1, ⟨by omega, hy⟩, by omega, (.cons rfl rfl (.cons rfl rfl (.cons rfl rfl (.cons rfl rfl (.nil))))), rfl, rfl⟩)
       | (have hb2 : (nodeIn c) (c.nodes)[k] = false := by first | assumption | (clear hy; simp_all [nodeIn]; done) | (clear hy; simp [nodeIn] at *; grind)
          rw [hb2, Bool.false_and] at hy
          refine ⟨.inr rfl, _, _, rfl, .cons (.c (.id rfl)) .nil, ?_⟩; simp [resV, X.v, chOk, hy]; done))
    | skip
  all_goals
    have hy1 : (c.nodes).all (nodeIn c) = true := by rw [hy, drop_nil (by omega)]; rfl
    clear hy
  clear hk1
  refine W.loop (σ := Nat) (fun k => [(58, I k), (57, I c.bag.length), (56, L Msg.e c.bag), (1, .c (.ptr 0 0))]) (fun _ => [.box (tc c.e)]) (fun k => k ≤ (c.bag).length ∧ (c.bag).all (bagIn c) = ((c.bag).drop k).all (bagIn c)) (fun k => (c.bag).length - k) 1 (fun _ _ => rfl) 0 ⟨by simp, by simp⟩ rfl (.cons rfl rfl (.cons rfl rfl (.cons rfl rfl (.cons rfl rfl (.nil))))) ?_
  rintro k ⟨hk1, hy⟩
  repeat' (first
    | (refine W.cond rfl ?_ ?_ <;> intro hb <;> try simp at hb)
    | refine cl (answersOk_impl c.answers) ?_
    | refine goO ?_
    | refine goS ?_
    | (refine WO.gs _ rfl rfl rfl ?_ ?_ <;> intro hb <;> simp only [hb] <;> try simp at hb))
  all_goals first
    | (have hlt : k < (c.bag).length := by omega
       rw [drop_cons hlt, List.all_cons] at hy
       first
       | (have hb2 : (bagIn c) (c.bag)[k] = true := by first | assumption | (clear hy; simp_all [bagIn]; done) | (clear hy; simp [bagIn] at *; grind)
          rw [hb2, Bool.true_and] at hy
          exact ⟨k + 1, ⟨by omega, hy⟩, by omega, (.cons rfl rfl (.cons rfl rfl (.cons rfl rfl (.cons rfl rfl (.nil))))), rfl, rfl⟩)
       | (have hb2 : (bagIn c) (c.bag)[k] = false := by first | assumption | (clear hy; simp_all [bagIn]; done) | (clear hy; simp [bagIn] at *; grind)
          rw [hb2, Bool.false_and] at hy
          refine ⟨.inr rfl, _, _, rfl, .cons (.c (.id rfl)) .nil, ?_⟩; simp [resV, X.v, chOk, hy]; done))
    | skip
  all_goals
    have hy1 : (c.bag).all (bagIn c) = true := by rw [hy, drop_nil (by omega)]; rfl
    clear hy
  refine ⟨.inr rfl, _, _, rfl, .cons (.c (.id rfl)) .nil, ?_⟩
  simp [resV, X.v, chOk, *]
end Go.YtakiodehjhpgkaaGreatMc

namespace Go.YtakiodehjhpgkaaGreatMc
open Go.Proofs
theorem cmdC (m : Nat) : EqC Tryz.prog 85 [.i .i64, .s, .i .i64, .i .i64] (m + 1) true :=
  .st' [(0, 3, [.i .i64]), (1, 9, [.s]), (2, 3, [.i .i64]), (3, 3, [.i .i64])] (by kernel_rfl) (by kernel_rfl) (by kernel_rfl) rfl rfl (.cons (.i m (by kernel_rfl)) (.cons (.s m (by kernel_rfl)) (.cons (.i m (by kernel_rfl)) (.cons (.i m (by kernel_rfl)) .nil))))
theorem entC (m : Nat) : EqC Tryz.prog 87 [.i .i64, .i .i64, .i .i64, .s, .i .i64, .i .i64] (m + 2) true :=
  .st' [(0, 3, [.i .i64]), (1, 3, [.i .i64]), (2, 85, [.i .i64, .s, .i .i64, .i .i64])] (by kernel_rfl) (by kernel_rfl) (by kernel_rfl) rfl rfl (.cons (.i _ (by kernel_rfl)) (.cons (.i _ (by kernel_rfl)) (.cons (cmdC m) .nil)))
theorem eqTs_ent (a b : Ent) : eqTs a.e b.e = decide (a = b) := by
  obtain ⟨a1, a2, a3, a4, a5, a6⟩ := a; obtain ⟨b1, b2, b3, b4, b5, b6⟩ := b
  simp [Ent.e, eqTs, T.eq]; grind
theorem chOk_spec (c : Chn) (hs : c.Sm) : Pu Tryz.prog 59 [A c.e] (B (chOk c)) := by
  refine Pu.of D Tryz.func59 rfl rfl rfl ?_
  repeat' (first
    | (refine W.cond rfl ?_ ?_ <;> intro hb <;> try simp at hb)
    | refine cl (stOk_spec c.base hs.base) ?_
    | refine cl (confOk_spec c.conf hs.conf.memN) ?_
    | refine cl (bagOk_spec c.bag hs.bag) ?_
    | refine goO ?_
    | refine goS ?_
    | (refine WO.gs _ rfl rfl rfl ?_ ?_ <;> intro hb <;> simp only [hb] <;> try simp at hb)
    | (refine WD.gs _ rfl rfl rfl ?_ ?_ <;> intro hb <;> simp only [hb] <;> try simp at hb))
  all_goals first | (refine ⟨.inr rfl, _, _, rfl, .cons (.c (.id rfl)) .nil, ?_⟩; simp [resV, X.v, chOk, answersOk] at *; grind) | skip
  have hl5 : c.nodes.length = 5 := by omega
  have hu5 : c.up.length = 5 := by omega
  have ha24 : c.answers.length ≤ 24 := by omega
  have hbag : bagOk c.bag = true := by assumption
  have hbl : c.bag.length ≤ 10 := by simp only [bagOk, Bool.and_eq_true, decide_eq_true_eq] at hbag; exact hbag.1
  have hbase : stOk c.base = true := by assumption
  have hconf : confOk c.conf = true := by assumption
  refine W.loop (σ := Nat) (fun k => [(3, I k), (1, .c (.ptr 0 0))]) (fun _ => [.box (tc c.e)]) (fun k => k ≤ (c.nodes).length ∧ (c.nodes).all (nodeIn c) = ((c.nodes).drop k).all (nodeIn c)) (fun k => (c.nodes).length - k) 1 (fun _ _ => rfl) 0 ⟨by simp, by simp⟩ rfl (.cons rfl rfl (.cons rfl rfl (.nil))) ?_
  rintro k ⟨hk1, hy⟩
  repeat' (first
    | (refine W.cond rfl ?_ ?_ <;> intro hb <;> try simp at hb)
    | refine cl (repOk_spec c.nodes[k] (hs.nodes _ (List.getElem_mem _))) ?_
    | refine goO ?_
    | refine goS ?_
    | (refine WO.gs _ rfl rfl rfl ?_ ?_ <;> intro hb <;> simp only [hb] <;> try simp at hb)
    | (refine WD.gs _ rfl rfl rfl ?_ ?_ <;> intro hb <;> simp only [hb] <;> try simp at hb))
  all_goals first
    | (have hlt : k < (c.nodes).length := by omega
       rw [drop_cons hlt, List.all_cons] at hy
       first
       | (have hb2 : (nodeIn c) (c.nodes)[k] = true := by first | assumption | (clear hy; simp_all [nodeIn]; done) | (clear hy; simp [nodeIn] at *; grind)
          rw [hb2, Bool.true_and] at hy
          exact ⟨k + 1, ⟨by omega, hy⟩, by omega, (.cons rfl rfl (.cons rfl rfl (.nil))), rfl, rfl⟩)
       | (have hb2 : (nodeIn c) (c.nodes)[k] = false := by first | assumption | (clear hy; simp_all [nodeIn]; done) | (clear hy; simp [nodeIn] at *; grind)
          rw [hb2, Bool.false_and] at hy
          refine ⟨.inr rfl, _, _, rfl, .cons (.c (.id rfl)) .nil, ?_⟩; simp [resV, X.v, chOk, hy]; done))
    | skip
  all_goals
    have hy1 : (c.nodes).all (nodeIn c) = true := by rw [hy, drop_nil (by omega)]; rfl
    clear hy
  clear hk1
  refine W.loop (σ := Nat) (fun k => [(4, I k), (1, .c (.ptr 0 0))]) (fun _ => [.box (tc c.e)]) (fun k => k ≤ (c.bag).length ∧ (c.bag).all (bagIn c) = ((c.bag).drop k).all (bagIn c)) (fun k => (c.bag).length - k) 1 (fun _ _ => rfl) 0 ⟨by simp, by simp⟩ rfl (.cons rfl rfl (.cons rfl rfl (.nil))) ?_
  rintro k ⟨hk1, hy⟩
  repeat' (first
    | (refine W.cond rfl ?_ ?_ <;> intro hb <;> try simp at hb)
    | refine goO ?_
    | refine goS ?_
    | (refine WO.gs _ rfl rfl rfl ?_ ?_ <;> intro hb <;> simp only [hb] <;> try simp at hb)
    | (refine WD.gs _ rfl rfl rfl ?_ ?_ <;> intro hb <;> simp only [hb] <;> try simp at hb))
  all_goals first
    | (have hlt : k < (c.bag).length := by omega
       rw [drop_cons hlt, List.all_cons] at hy
       first
       | (have hb2 : (bagIn c) (c.bag)[k] = true := by first | assumption | (clear hy; simp_all [bagIn]; done) | (clear hy; simp [bagIn] at *; grind)
          rw [hb2, Bool.true_and] at hy
          exact ⟨k + 1, ⟨by omega, hy⟩, by omega, (.cons rfl rfl (.cons rfl rfl (.nil))), rfl, rfl⟩)
       | (have hb2 : (bagIn c) (c.bag)[k] = false := by first | assumption | (clear hy; simp_all [bagIn]; done) | (clear hy; simp [bagIn] at *; grind)
          rw [hb2, Bool.false_and] at hy
          refine ⟨.inr rfl, _, _, rfl, .cons (.c (.id rfl)) .nil, ?_⟩; simp [resV, X.v, chOk, hy]; done))
    | skip
  all_goals
    have hy1 : (c.bag).all (bagIn c) = true := by rw [hy, drop_nil (by omega)]; rfl
    clear hy
  clear hk1
  refine W.loop (σ := Nat) (fun k => [(5, I k), (1, .c (.ptr 0 0))]) (fun _ => [.box (tc c.e)]) (fun k => k ≤ (c.answers).length ∧ (c.answers).all (ansOk) = ((c.answers).drop k).all (ansOk)) (fun k => (c.answers).length - k) 1 (fun _ _ => rfl) 0 ⟨by simp, by simp⟩ rfl (.cons rfl rfl (.cons rfl rfl (.nil))) ?_
  rintro k ⟨hk1, hy⟩
  repeat' (first
    | (refine W.cond rfl ?_ ?_ <;> intro hb <;> try simp at hb)
    | refine cl (entOk_spec c.answers[k].asked) ?_
    | refine cl (in_ok _ _ _) ?_
    | refine goO ?_
    | refine goS ?_
    | (refine WO.gs _ rfl rfl rfl ?_ ?_ <;> intro hb <;> simp only [hb] <;> try simp at hb)
    | (refine WD.gs _ rfl rfl rfl ?_ ?_ <;> intro hb <;> simp only [hb] <;> try simp at hb))
  all_goals first
    | (have hlt : k < (c.answers).length := by omega
       rw [drop_cons hlt, List.all_cons] at hy
       first
       | (have hb2 : (ansOk) (c.answers)[k] = true := by first | assumption | (clear hy; simp_all [ansOk]; done) | (clear hy; simp [ansOk] at *; grind)
          rw [hb2, Bool.true_and] at hy
          exact ⟨k + 1, ⟨by omega, hy⟩, by omega, (.cons rfl rfl (.cons rfl rfl (.nil))), rfl, rfl⟩)
       | (have hb2 : (ansOk) (c.answers)[k] = false := by first | assumption | (clear hy; simp_all [ansOk]; done) | (clear hy; simp [ansOk] at *; grind)
          rw [hb2, Bool.false_and] at hy
          refine ⟨.inr rfl, _, _, rfl, .cons (.c (.id rfl)) .nil, ?_⟩; simp [resV, X.v, chOk, answersOk, hy]; done))
    | skip
  all_goals
    have hy1 : (c.answers).all (ansOk) = true := by rw [hy, drop_nil (by omega)]; rfl
    clear hy
  refine ⟨.inr rfl, _, _, rfl, .cons (.c (.id rfl)) .nil, ?_⟩
  simp [resV, X.v, chOk, answersOk, *]
end Go.YtakiodehjhpgkaaGreatMc

namespace Go.YtakiodehjhpgkaaGreatMc
open Go.Proofs
/-! ### Heads, logs -/
theorem memFrom_mem : ∀ {l p : List Int}, memFrom p l = true → ∀ a ∈ l, 0 ≤ a ∧ a ≤ 4
  | [], _, _, a, ha => by cases ha
  | b :: l, p, h, a, ha => by
    simp only [memFrom, Bool.and_eq_true] at h
    rcases List.mem_cons.1 ha with rfl | ha
    · have := h.1.1; simpa [inR] using this
    · exact memFrom_mem h.2 a ha
theorem confOk_mem {c : Cfg} (h : confOk c = true) : 1 ≤ c.mem.length ∧ c.mem.length ≤ 4 ∧ ∀ a ∈ c.mem, 0 ≤ a ∧ a ≤ 4 := by
  simp only [confOk, Bool.and_eq_true] at h
  have h1 := h.1.1.2
  simp [inR] at h1
  exact ⟨by omega, by omega, memFrom_mem h.2⟩
theorem confOk_at {c : Cfg} (h : confOk c = true) (k : Nat) (hk : k < c.mem.length) : 0 ≤ c.mem[k] ∧ c.mem[k].toNat < 5 := by
  have := (confOk_mem h).2.2 _ (List.getElem_mem hk); omega
structure ChD (c : Chn) : Prop where
  base : stOk c.base = true
  conf : confOk c.conf = true
  nodes : c.nodes.length = 5
  up : c.up.length = 5
  bag : bagOk c.bag = true
  nodeIn : ∀ r ∈ c.nodes, repOk r = true ∧ r.conf.epoch ≤ c.conf.epoch
  bagIn : ∀ m ∈ c.bag, m.epoch ≤ c.conf.epoch
  ans : answersOk c.answers = true
theorem chOk_d {c : Chn} (h : chOk c = true) : ChD c := by
  simp only [chOk, Bool.and_eq_true, decide_eq_true_eq, List.all_eq_true] at h
  obtain ⟨⟨⟨⟨⟨⟨⟨h1, h2⟩, h3⟩, h4⟩, h5⟩, h6⟩, h7⟩, h8⟩ := h
  exact ⟨h1, h2, h3, h4, h5, fun r hr => by have := h6 r hr; simpa [YtakiodehjhpgkaaGreatMc.nodeIn] using this, fun m hm => by have := h7 m hm; simpa [YtakiodehjhpgkaaGreatMc.bagIn] using this, h8⟩
theorem ChD.ans24 {c : Chn} (h : ChD c) : c.answers.length ≤ 24 := by
  have := h.ans; simp only [answersOk, Bool.and_eq_true, decide_eq_true_eq] at this; exact this.1
theorem repOk_log {r : Rep} (h : repOk r = true) : r.log.length ≤ 24 ∧ ∀ e ∈ r.log, entOk e = true := by
  unfold repOk at h
  split at h
  · simp only [Bool.and_eq_true, decide_eq_true_eq] at h
    have : r.log = [] := List.length_eq_zero_iff.1 h.2
    rw [this]; simp
  · simp only [Bool.and_eq_true, logOk, decide_eq_true_eq, List.all_eq_true] at h
    exact h.1.2
def nodeAt (c : Chn) (n : Int) : Rep := (c.nodes[n.toNat]?).getD ⟨⟨0, [], false⟩, false, []⟩
theorem nodeAt_eq {c : Chn} {n : Int} (h : n.toNat < c.nodes.length) : nodeAt c n = c.nodes[n.toNat] := by simp [nodeAt, h]
def headOf (c : Chn) : Int := c.conf.mem.headD 0
theorem headOf_eq {c : Chn} (h : 0 < c.conf.mem.length) : headOf c = c.conf.mem[0] := by
  unfold headOf
  generalize c.conf.mem = l at h ⊢
  cases l with
  | nil => simp at h
  | cons a l => rfl
def hLog (c : Chn) : List Ent := (nodeAt c (headOf c)).log
theorem hLog_eq {c : Chn} (h0 : 0 < c.conf.mem.length) (h : (c.conf.mem[0]).toNat < c.nodes.length) : hLog c = c.nodes[(c.conf.mem[0]).toNat].log := by
  unfold hLog; rw [headOf_eq h0, nodeAt_eq h]
theorem hLog_len {c : Chn} (h : chOk c = true) : (hLog c).length ≤ 24 := by
  have d := chOk_d h
  have hm := confOk_mem d.conf
  have h0 := confOk_at d.conf 0 (by omega)
  rw [hLog_eq (by omega) (by rw [d.nodes]; exact h0.2)]
  exact (repOk_log (d.nodeIn _ (List.getElem_mem _)).1).1
theorem head_ok (c : Chn) (hc : chOk c = true) : Pu Tryz.prog 68 [A c.e] (L Ent.e (hLog c)) := by
  have d := chOk_d hc
  have hl := d.nodes
  have hm : 0 < c.conf.mem.length := (confOk_mem d.conf).1
  have h0 : 0 ≤ c.conf.mem[(0 : Int).toNat]'(by exact hm) ∧ (c.conf.mem[(0 : Int).toNat]'(by exact hm)).toNat < 5 := confOk_at d.conf 0 (by omega)
  refine Pu.of D Tryz.func68 rfl rfl rfl ?_
  repeat' (first
    | (refine W.cond rfl ?_ ?_ <;> intro hb <;> try simp at hb)
    | refine OpK.of (OpOk.ixI D rfl rfl rfl rfl rfl rfl (by omega) (by omega) (fun _ => rfl)) ?_
    | refine OpD.of (OpOk.ixI D rfl rfl rfl rfl rfl rfl (by omega) (by omega) (fun _ => rfl)) ?_
    | refine goO ?_
    | refine goS ?_
    | (refine WO.gs _ rfl rfl rfl ?_ ?_ <;> intro hb <;> simp only [hb] <;> try simp at hb)
    | (refine WD.gs _ rfl rfl rfl ?_ ?_ <;> intro hb <;> simp only [hb] <;> try simp at hb))
  refine ⟨.inr rfl, _, _, rfl, .cons (.c (.id rfl)) .nil, ?_⟩
  rw [hLog_eq (by omega) (by rw [hl]; exact h0.2)]
  rfl
theorem off_spec (c : Chn) (hs : c.Sm) : Pu Tryz.prog 60 [A c.e] (L Ent.e (if chOk c then hLog c else [])) := by
  by_cases hc : chOk c = true
  · have d := chOk_d hc
    have hl := d.nodes
    have hm : 0 < c.conf.mem.length := (confOk_mem d.conf).1
    have h0 : 0 ≤ c.conf.mem[(0 : Int).toNat]'(by exact hm) ∧ (c.conf.mem[(0 : Int).toNat]'(by exact hm)).toNat < 5 := confOk_at d.conf 0 (by omega)
    have hh : (c.nodes[(c.conf.mem[(0 : Int).toNat]'(by exact hm)).toNat]'(by rw [hl]; exact h0.2)).log.length ≤ 1048576 := by
      have := (repOk_log (d.nodeIn _ (List.getElem_mem (by rw [hl]; exact h0.2 : (c.conf.mem[(0 : Int).toNat]'(by exact hm)).toNat < c.nodes.length))).1).1
      omega
    refine Pu.of D Tryz.func60 rfl rfl rfl ?_
    repeat' (first
    | (refine W.cond rfl ?_ ?_ <;> intro hb <;> try simp at hb)
    | refine cl (chOk_spec c hs) ?_
    | refine OpK.of (OpOk.bldE D rfl rfl rfl rfl) ?_
    | refine OpD.of (OpOk.bldE D rfl rfl rfl rfl) ?_
    | refine OpK.of (OpOk.ixI D rfl rfl rfl rfl rfl rfl (by omega) (by omega) (fun _ => rfl)) ?_
    | refine OpD.of (OpOk.ixI D rfl rfl rfl rfl rfl rfl (by omega) (by omega) (fun _ => rfl)) ?_
    | refine OpK.of (OpOk.cpM D rfl rfl rfl rfl rfl rfl rfl rfl (by decide) (fun _ => rfl) hh (by decide)) ?_
    | refine OpD.of (OpOk.cpM D rfl rfl rfl rfl rfl rfl rfl rfl (by decide) (fun _ => rfl) hh (by decide)) ?_
    | refine goO ?_
    | refine goS ?_
    | (refine WO.gs _ rfl rfl rfl ?_ ?_ <;> intro hb <;> simp only [hb] <;> try simp at hb)
    | (refine WD.gs _ rfl rfl rfl ?_ ?_ <;> intro hb <;> simp only [hb] <;> try simp at hb))
    all_goals refine ⟨.inr rfl, _, _, rfl, .cons (.c (.id rfl)) .nil, ?_⟩
    all_goals first
      | (exfalso; simp_all; done)
      | (rw [if_pos hc, hLog_eq (by omega) (by rw [hl]; exact h0.2)]; rfl)
  · refine Pu.of D Tryz.func60 rfl rfl rfl ?_
    repeat' (first
    | (refine W.cond rfl ?_ ?_ <;> intro hb <;> try simp at hb)
    | refine cl (chOk_spec c hs) ?_
    | refine OpK.of (OpOk.bldE D rfl rfl rfl rfl) ?_
    | refine OpD.of (OpOk.bldE D rfl rfl rfl rfl) ?_
    | refine goO ?_
    | refine goS ?_
    | (refine WO.gs _ rfl rfl rfl ?_ ?_ <;> intro hb <;> simp only [hb] <;> try simp at hb)
    | (refine WD.gs _ rfl rfl rfl ?_ ?_ <;> intro hb <;> simp only [hb] <;> try simp at hb))
    all_goals first
      | (exfalso; simp_all; done)
      | (refine ⟨.inr rfl, _, _, rfl, .cons (.c .emp) .nil, ?_⟩; rw [if_neg hc]; rfl)
/-! ### Unanswered -/
def unans (c : Chn) : Int := if chOk c then (if (hLog c).length < c.answers.length then 0 else ((hLog c).length : Int) - c.answers.length) else -1
theorem unans_impl (c : Chn) (hs : c.Sm) : Pu Tryz.prog 16 [A c.e] (I (unans c)) := by
  by_cases hc : chOk c = true
  · have h1 := hLog_len hc
    have h2 := (chOk_d hc).ans24
    refine Pu.of D Tryz.func16 rfl rfl rfl ?_
    repeat' (first
    | (refine W.cond rfl ?_ ?_ <;> intro hb <;> try simp at hb)
    | refine cl (chOk_impl c hs) ?_
    | refine cl (head_ok c hc) ?_
    | refine OpK.of (OpOk.max rfl rfl rfl) ?_
    | refine OpD.of (OpOk.max rfl rfl rfl) ?_
    | refine goO ?_
    | refine goS ?_
    | (refine WO.gs _ rfl rfl rfl ?_ ?_ <;> intro hb <;> simp only [hb] <;> try simp at hb)
    | (refine WD.gs _ rfl rfl rfl ?_ ?_ <;> intro hb <;> simp only [hb] <;> try simp at hb))
    all_goals first
      | (exfalso; simp_all; done)
      | (refine ⟨.inr rfl, _, _, rfl, .cons (.c (.id rfl)) .nil, ?_⟩; simp only [resV, X.v, unans, if_pos hc]; congr 3; split <;> split <;> omega)
  · refine Pu.of D Tryz.func16 rfl rfl rfl ?_
    repeat' (first
    | (refine W.cond rfl ?_ ?_ <;> intro hb <;> try simp at hb)
    | refine cl (chOk_impl c hs) ?_
    | refine goO ?_
    | refine goS ?_
    | (refine WO.gs _ rfl rfl rfl ?_ ?_ <;> intro hb <;> simp only [hb] <;> try simp at hb)
    | (refine WD.gs _ rfl rfl rfl ?_ ?_ <;> intro hb <;> simp only [hb] <;> try simp at hb))
    all_goals first
      | (exfalso; simp_all; done)
      | (refine ⟨.inr rfl, _, _, rfl, .cons (.c (.id rfl)) .nil, ?_⟩; simp [resV, X.v, unans, hc])
theorem unans_spec (c : Chn) (hs : c.Sm) : Pu Tryz.prog 14 [A c.e] (I (unans c)) := by
  by_cases hc : chOk c = true
  · have h1 := hLog_len hc
    have h2 := (chOk_d hc).ans24
    have ho := off_spec c hs
    rw [if_pos hc] at ho
    refine Pu.of D Tryz.func14 rfl rfl rfl ?_
    repeat' (first
    | (refine W.cond rfl ?_ ?_ <;> intro hb <;> try simp at hb)
    | refine cl (chOk_spec c hs) ?_
    | refine cl (ho) ?_
    | refine OpK.of (OpOk.max rfl rfl rfl) ?_
    | refine OpD.of (OpOk.max rfl rfl rfl) ?_
    | refine goO ?_
    | refine goS ?_
    | (refine WO.gs _ rfl rfl rfl ?_ ?_ <;> intro hb <;> simp only [hb] <;> try simp at hb)
    | (refine WD.gs _ rfl rfl rfl ?_ ?_ <;> intro hb <;> simp only [hb] <;> try simp at hb))
    all_goals first
      | (exfalso; simp_all; done)
      | (refine ⟨.inr rfl, _, _, rfl, .cons (.c (.id rfl)) .nil, ?_⟩; simp only [resV, X.v, unans, if_pos hc]; congr 3; split <;> split <;> omega)
  · refine Pu.of D Tryz.func14 rfl rfl rfl ?_
    repeat' (first
    | (refine W.cond rfl ?_ ?_ <;> intro hb <;> try simp at hb)
    | refine cl (chOk_spec c hs) ?_
    | refine goO ?_
    | refine goS ?_
    | (refine WO.gs _ rfl rfl rfl ?_ ?_ <;> intro hb <;> simp only [hb] <;> try simp at hb)
    | (refine WD.gs _ rfl rfl rfl ?_ ?_ <;> intro hb <;> simp only [hb] <;> try simp at hb))
    all_goals first
      | (exfalso; simp_all; done)
      | (refine ⟨.inr rfl, _, _, rfl, .cons (.c (.id rfl)) .nil, ?_⟩; simp [resV, X.v, unans, hc])
theorem law_unans (c : Chn) (fc : c.Fit) : Pu Tryz.prog 3 [A c.e] (B true) := by
  refine Pu.of D Tryz.func3 rfl rfl rfl ?_
  repeat' (first
    | (refine W.cond rfl ?_ ?_ <;> intro hb <;> try simp at hb)
    | refine cl (Chn.sz_ok c fc 1048576 (by omega) (by omega)) ?_
    | refine goO ?_
    | refine goS ?_
    | (refine WO.gs _ rfl rfl rfl ?_ ?_ <;> intro hb <;> simp only [hb] <;> try simp at hb)
    | (refine WD.gs _ rfl rfl rfl ?_ ?_ <;> intro hb <;> simp only [hb] <;> try simp at hb))
  all_goals first | (refine ⟨.inr rfl, _, _, rfl, .cons (.c (.id rfl)) .nil, ?_⟩; rfl) | skip
  have s1 := Chn.sz_sm c (x := 1048576) (by omega) (by omega) hb
  repeat' (first
    | (refine W.cond rfl ?_ ?_ <;> intro hb <;> try simp at hb)
    | refine cl (Chn.to_ok c s1) ?_
    | refine cl (unans_spec c s1) ?_
    | refine cl (unans_impl c s1) ?_
    | refine cl (Chn.eq_ok c c s1) ?_
    | refine goO ?_
    | refine goS ?_
    | (refine WO.gs _ rfl rfl rfl ?_ ?_ <;> intro hb <;> simp only [hb] <;> try simp at hb)
    | (refine WD.gs _ rfl rfl rfl ?_ ?_ <;> intro hb <;> simp only [hb] <;> try simp at hb))
  all_goals (refine ⟨.inr rfl, _, _, rfl, .cons (.c (.id rfl)) .nil, ?_⟩; rfl)
end Go.YtakiodehjhpgkaaGreatMc

namespace Go.YtakiodehjhpgkaaGreatMc
open Go.Proofs
/-! ### At rest -/
theorem idxB_ok (l : List Bool) (b : Bool) (hl : l.length ≤ 1048576) : Pu Tryz.prog 77 [L eB l, B b] (B (decide (b ∈ l))) := by
  have h1 : Pu Tryz.prog 181 [L eB l, B b] (I (if b ∈ l then (l.idxOf b : Int) else -1)) := by
    refine Pu.of D Tryz.func181 rfl rfl rfl ?_
    repeat' (first
    | (refine W.cond rfl ?_ ?_ <;> intro hb <;> try simp at hb)
    | refine goO ?_
    | refine goS ?_
    | (refine WO.gs _ rfl rfl rfl ?_ ?_ <;> intro hb <;> simp only [hb] <;> try simp at hb))
    refine W.loop (σ := Nat) (fun k => [(8, I k), (7, I l.length), (1, B b), (0, L eB l)]) (fun _ => []) (fun k => k ≤ l.length ∧ ¬ b ∈ l.take k) (fun k => l.length - k) 0 (fun _ _ => rfl) 0 ⟨by simp, by simp⟩ rfl (.cons rfl rfl (.cons rfl rfl (.cons rfl rfl (.cons rfl rfl (.nil))))) ?_
    rintro k ⟨hk1, hy⟩
    repeat' (first
    | (refine W.cond rfl ?_ ?_ <;> intro hb <;> try simp at hb)
    | refine goO ?_
    | refine goS ?_
    | (refine WO.gs _ rfl rfl rfl ?_ ?_ <;> intro hb <;> simp only [hb] <;> try simp at hb))
    · have hlt : k < l.length := by assumption
      have hm : b ∈ l := by rw [hb]; exact List.getElem_mem hlt
      refine ⟨.inr rfl, _, _, rfl, .cons (.c (.id rfl)) .nil, ?_⟩
      have e : l.idxOf b = k := by
        have h2 : l[k] = b := hb.symm
        have : l = l.take k ++ b :: l.drop (k + 1) := by rw [← h2, ← drop_cons hlt, List.take_append_drop]
        rw [this, List.idxOf_append, if_neg hy]
        simp; omega
      simp [resV, X.v, hm, e]
    · have hlt : k < l.length := by assumption
      refine ⟨k + 1, ⟨by omega, ?_⟩, by omega, (.cons rfl rfl (.cons rfl rfl (.cons rfl rfl (.cons rfl rfl (.nil))))), rfl, rfl⟩
      rw [List.take_succ_eq_append_getElem hlt]
      simp only [List.mem_append, List.mem_singleton, not_or]
      exact ⟨hy, by first | exact hb | simpa using hb⟩
    · rw [List.take_of_length_le (by omega)] at hy
      refine ⟨.inr rfl, _, _, rfl, .cons (.c (.id rfl)) .nil, ?_⟩
      simp [resV, X.v, hy]
  refine Pu.of D Tryz.func77 rfl rfl rfl ?_
  repeat' (first
    | (refine W.cond rfl ?_ ?_ <;> intro hb <;> try simp at hb)
    | refine cl (h1) ?_
    | refine goO ?_
    | refine goS ?_
    | (refine WO.gs _ rfl rfl rfl ?_ ?_ <;> intro hb <;> simp only [hb] <;> try simp at hb))
  all_goals refine ⟨.inr rfl, _, _, rfl, .cons (.c (.id rfl)) .nil, ?_⟩
  all_goals (simp only [resV, X.v]; congr 3; split <;> simp_all <;> omega)
theorem eqIl_ok (a b : List Int) (ha : a.length ≤ 1048576) : Pu Tryz.prog 78 [L eI a, L eI b] (B (decide (a = b))) := by
  refine Pu.of D Tryz.func78 rfl rfl rfl ?_
  repeat' (first
    | (refine W.cond rfl ?_ ?_ <;> intro hb <;> try simp at hb)
    | refine goO ?_
    | refine goS ?_
    | (refine WO.gs _ rfl rfl rfl ?_ ?_ <;> intro hb <;> simp only [hb] <;> try simp at hb)
    | (refine WD.gs _ rfl rfl rfl ?_ ?_ <;> intro hb <;> simp only [hb] <;> try simp at hb))
  · refine ⟨.inr rfl, _, _, rfl, .cons (.c (.id rfl)) .nil, ?_⟩
    have : ¬ a = b := by rintro rfl; simp at hb
    simp [resV, X.v, this]
  · have hlr : a.length = b.length := by omega
    refine W.loop (σ := Nat) (fun k => [(13, I k), (12, I a.length), (1, L eI b), (0, L eI a)]) (fun _ => []) (fun k => k ≤ a.length ∧ (a = b ↔ a.drop k = b.drop k)) (fun k => a.length - k) 0 (fun _ _ => rfl) 0 ⟨by simp, by simp⟩ rfl (.cons rfl rfl (.cons rfl rfl (.cons rfl rfl (.cons rfl rfl (.nil))))) ?_
    rintro k ⟨hk1, hy⟩
    repeat' (first
    | (refine W.cond rfl ?_ ?_ <;> intro hb <;> try simp at hb)
    | refine goO ?_
    | refine goS ?_
    | (refine WO.gs _ rfl rfl rfl ?_ ?_ <;> intro hb <;> simp only [hb] <;> try simp at hb)
    | (refine WD.gs _ rfl rfl rfl ?_ ?_ <;> intro hb <;> simp only [hb] <;> try simp at hb))
    · rw [drop_eq (by omega) (by omega)] at hy
      refine ⟨.inr rfl, _, _, rfl, .cons (.c (.id rfl)) .nil, ?_⟩
      simp [resV, X.v, hy, hb]
    · rw [drop_eq (by omega) (by omega)] at hy
      exact ⟨k + 1, ⟨by omega, by simpa [hb] using hy⟩, by omega, (.cons rfl rfl (.cons rfl rfl (.cons rfl rfl (.cons rfl rfl (.nil))))), rfl, rfl⟩
    · rw [drop_nil (by omega), drop_nil (by omega)] at hy
      refine ⟨.inr rfl, _, _, rfl, .cons (.c (.id rfl)) .nil, ?_⟩
      have hy := hy.2 rfl
      simp [resV, X.v, hy]
theorem same_ok (a b : List Int) (ha : a.length ≤ 1048576) : Pu Tryz.prog 75 [L eI a, L eI b] (B (decide (a = b))) := by
  refine Pu.of D Tryz.func75 rfl rfl rfl ?_
  repeat' (first
    | (refine W.cond rfl ?_ ?_ <;> intro hb <;> try simp at hb)
    | refine goO ?_
    | refine goS ?_
    | (refine WO.gs _ rfl rfl rfl ?_ ?_ <;> intro hb <;> simp only [hb] <;> try simp at hb)
    | (refine WD.gs _ rfl rfl rfl ?_ ?_ <;> intro hb <;> simp only [hb] <;> try simp at hb))
  · refine ⟨.inr rfl, _, _, rfl, .cons (.c (.id rfl)) .nil, ?_⟩
    have : ¬ a = b := by rintro rfl; simp at hb
    simp [resV, X.v, this]
  · have hlr : a.length = b.length := by omega
    refine W.loop (σ := Nat) (fun k => [(5, I k), (1, L eI b), (0, L eI a)]) (fun _ => []) (fun k => k ≤ a.length ∧ (a = b ↔ a.drop k = b.drop k)) (fun k => a.length - k) 0 (fun _ _ => rfl) 0 ⟨by simp, by simp⟩ rfl (.cons rfl rfl (.cons rfl rfl (.cons rfl rfl (.nil)))) ?_
    rintro k ⟨hk1, hy⟩
    repeat' (first
    | (refine W.cond rfl ?_ ?_ <;> intro hb <;> try simp at hb)
    | refine goO ?_
    | refine goS ?_
    | (refine WO.gs _ rfl rfl rfl ?_ ?_ <;> intro hb <;> simp only [hb] <;> try simp at hb)
    | (refine WD.gs _ rfl rfl rfl ?_ ?_ <;> intro hb <;> simp only [hb] <;> try simp at hb))
    · rw [drop_eq (by omega) (by omega)] at hy
      refine ⟨.inr rfl, _, _, rfl, .cons (.c (.id rfl)) .nil, ?_⟩
      simp [resV, X.v, hy, hb]
    · rw [drop_eq (by omega) (by omega)] at hy
      exact ⟨k + 1, ⟨by omega, by simpa [hb] using hy⟩, by omega, (.cons rfl rfl (.cons rfl rfl (.cons rfl rfl (.nil)))), rfl, rfl⟩
    · rw [drop_nil (by omega), drop_nil (by omega)] at hy
      refine ⟨.inr rfl, _, _, rfl, .cons (.c (.id rfl)) .nil, ?_⟩
      have hy := hy.2 rfl
      simp [resV, X.v, hy]
def pre (a b : List Ent) : Bool := decide (b.length ≤ a.length) && decide (a.take b.length = b)
theorem pre_spec (a b : List Ent) (ha : a.length ≤ 1048576) (hb : b.length ≤ 1048576) : Pu Tryz.prog 76 [L Ent.e a, L Ent.e b] (B (pre a b)) := by
  refine Pu.of D Tryz.func76 rfl rfl rfl ?_
  repeat' (first
    | (refine W.cond rfl ?_ ?_ <;> intro hb <;> try simp at hb)
    | refine goO ?_
    | refine goS ?_
    | (refine WO.gs _ rfl rfl rfl ?_ ?_ <;> intro hb <;> simp only [hb] <;> try simp at hb)
    | (refine WD.gs _ rfl rfl rfl ?_ ?_ <;> intro hb <;> simp only [hb] <;> try simp at hb))
  · refine ⟨.inr rfl, _, _, rfl, .cons (.c (.id rfl)) .nil, ?_⟩
    have : ¬ b.length ≤ a.length := by omega
    simp [resV, X.v, pre, this]
  · have hba : b.length ≤ a.length := by omega
    refine W.loop (σ := Nat) (fun k => [(5, I k), (1, L Ent.e b), (0, L Ent.e a)]) (fun _ => []) (fun k => k ≤ b.length ∧ (a.take b.length = b ↔ (a.take b.length).drop k = b.drop k)) (fun k => b.length - k) 0 (fun _ _ => rfl) 0 ⟨by simp, by simp⟩ rfl (.cons rfl rfl (.cons rfl rfl (.cons rfl rfl (.nil)))) ?_
    rintro k ⟨hk1, hy⟩
    repeat' (first
    | (refine W.cond rfl ?_ ?_ <;> intro hb <;> try simp at hb)
    | refine OpK.of (OpOk.eqN a[k].e b[k].e rfl (entC 0) (by decide) (by kernel_rfl) rfl rfl rfl rfl) ?_
    | refine OpD.of (OpOk.eqN a[k].e b[k].e rfl (entC 0) (by decide) (by kernel_rfl) rfl rfl rfl rfl) ?_
    | refine goO ?_
    | refine goS ?_
    | (refine WO.gs _ rfl rfl rfl ?_ ?_ <;> intro hb <;> simp only [hb] <;> try simp at hb)
    | (refine WD.gs _ rfl rfl rfl ?_ ?_ <;> intro hb <;> simp only [hb] <;> try simp at hb))
    · rw [drop_eq (by simp; omega) (by omega)] at hy
      simp only [List.getElem_take] at hy
      refine ⟨.inr rfl, _, _, rfl, .cons (.c (.id rfl)) .nil, ?_⟩
      have hne : ¬ a[k] = b[k] := by simpa [eqTs_ent] using hb
      simp [resV, X.v, pre, hy, hne]
    · rw [drop_eq (by simp; omega) (by omega)] at hy
      simp only [List.getElem_take] at hy
      have hne : a[k] = b[k] := by simpa [eqTs_ent] using hb
      exact ⟨k + 1, ⟨by omega, by simpa [hne] using hy⟩, by omega, (.cons rfl rfl (.cons rfl rfl (.cons rfl rfl (.nil)))), rfl, rfl⟩
    · rw [drop_nil (by simp; omega), drop_nil (by omega)] at hy
      refine ⟨.inr rfl, _, _, rfl, .cons (.c (.id rfl)) .nil, ?_⟩
      have hy := hy.2 rfl
      simp [resV, X.v, pre, hy, hba]
theorem equal_ok (a b : List Ent) (ha : a.length ≤ 1048576) : Pu Tryz.prog 79 [L Ent.e a, L Ent.e b] (B (decide (a = b))) := by
  refine Pu.of D Tryz.func79 rfl rfl rfl ?_
  repeat' (first
    | (refine W.cond rfl ?_ ?_ <;> intro hb <;> try simp at hb)
    | refine goO ?_
    | refine goS ?_
    | (refine WO.gs _ rfl rfl rfl ?_ ?_ <;> intro hb <;> simp only [hb] <;> try simp at hb)
    | (refine WD.gs _ rfl rfl rfl ?_ ?_ <;> intro hb <;> simp only [hb] <;> try simp at hb))
  · refine ⟨.inr rfl, _, _, rfl, .cons (.c (.id rfl)) .nil, ?_⟩
    have : ¬ a = b := by rintro rfl; simp at hb
    simp [resV, X.v, this]
  · have hlr : a.length = b.length := by omega
    refine W.loop (σ := Nat) (fun k => [(13, I k), (12, I a.length), (1, L Ent.e b), (0, L Ent.e a)]) (fun _ => []) (fun k => k ≤ a.length ∧ (a = b ↔ a.drop k = b.drop k)) (fun k => a.length - k) 0 (fun _ _ => rfl) 0 ⟨by simp, by simp⟩ rfl (.cons rfl rfl (.cons rfl rfl (.cons rfl rfl (.cons rfl rfl (.nil))))) ?_
    rintro k ⟨hk1, hy⟩
    repeat' (first
    | (refine W.cond rfl ?_ ?_ <;> intro hb <;> try simp at hb)
    | refine OpK.of (OpOk.eqN a[k].e b[k].e rfl (entC 0) (by decide) (by kernel_rfl) rfl rfl rfl rfl) ?_
    | refine OpD.of (OpOk.eqN a[k].e b[k].e rfl (entC 0) (by decide) (by kernel_rfl) rfl rfl rfl rfl) ?_
    | refine goO ?_
    | refine goS ?_
    | (refine WO.gs _ rfl rfl rfl ?_ ?_ <;> intro hb <;> simp only [hb] <;> try simp at hb)
    | (refine WD.gs _ rfl rfl rfl ?_ ?_ <;> intro hb <;> simp only [hb] <;> try simp at hb))
    · rw [drop_eq (by omega) (by omega)] at hy
      refine ⟨.inr rfl, _, _, rfl, .cons (.c (.id rfl)) .nil, ?_⟩
      have hne : ¬ a[k] = b[k] := by simpa [eqTs_ent] using hb
      simp [resV, X.v, hy, hne]
    · rw [drop_eq (by omega) (by omega)] at hy
      have hne : a[k] = b[k] := by simpa [eqTs_ent] using hb
      exact ⟨k + 1, ⟨by omega, by simpa [hne] using hy⟩, by omega, (.cons rfl rfl (.cons rfl rfl (.cons rfl rfl (.cons rfl rfl (.nil))))), rfl, rfl⟩
    · rw [drop_nil (by omega), drop_nil (by omega)] at hy
      refine ⟨.inr rfl, _, _, rfl, .cons (.c (.id rfl)) .nil, ?_⟩
      have hy := hy.2 rfl
      simp [resV, X.v, hy]
theorem pre_impl (a b : List Ent) (ha : a.length ≤ 1048576) (hb : b.length ≤ 1048576) : Pu Tryz.prog 91 [L Ent.e a, L Ent.e b] (B (pre a b)) := by
  refine Pu.of D Tryz.func91 rfl rfl rfl ?_
  repeat' (first
    | (refine W.cond rfl ?_ ?_ <;> intro hb <;> try simp at hb)
    | refine cl (equal_ok (a.take b.length) b (by simp; omega)) ?_
    | refine OpK.of (OpOk.slMt D rfl rfl rfl rfl rfl (fun _ => rfl) rfl (by omega)) ?_
    | refine goO ?_
    | refine goS ?_
    | (refine WO.gs _ rfl rfl rfl ?_ ?_ <;> intro hb <;> simp only [hb] <;> try simp at hb))
  all_goals refine ⟨.inr rfl, _, _, rfl, .cons (.c (.id rfl)) .nil, ?_⟩
  · simp [resV, X.v, pre, hb]
  · have : ¬ b.length ≤ a.length := by omega
    simp [resV, X.v, pre, this]
theorem pre_eq (a b : List Ent) : (decide (a.length = b.length) && pre a b) = decide (a = b) := by
  unfold pre
  by_cases h : a = b
  · subst h; simp
  · by_cases hl : a.length = b.length
    · have : a.take b.length = a := List.take_of_length_le (by omega)
      simp [this, h]
    · simp [hl, h]
end Go.YtakiodehjhpgkaaGreatMc
