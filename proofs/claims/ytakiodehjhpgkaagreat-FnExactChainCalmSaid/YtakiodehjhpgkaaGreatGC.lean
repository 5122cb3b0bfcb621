/- Lemmas of this claim: walks through code, values and memory, and the contracts of functions; under no condition beyond those that each states. -/
import Derived.Test.YtakiodehjhpgkaaGreatGB
import Derived.Test.YtakiodehjhpgkaaGreatMD
set_option maxRecDepth 100000
set_option linter.unusedVariables false
set_option linter.unusedSimpArgs false
namespace Go.YtakiodehjhpgkaaGreatMc
open Go.Proofs
/-! ### Orders of members -/
theorem len0 {α : Type} (l : List α) : ((l.length : Int) = 0) ↔ l = [] := by simp
def noConf (c : Cfg) : Bool := decide (c.epoch = 0) && decide (c.mem.length = 0) && !c.fresh
theorem noConf_spec (c : Cfg) : Pu Tryz.prog 261 [A c.e] (B (noConf c)) := by
  refine Pu.of D Tryz.func261 rfl rfl rfl ?_
  repeat' (first
    | (refine WO.id ?_; first
      | refine stp1_ok D rfl ?_
      | refine WO.nil ?_
      | refine WO.g rfl rfl rfl ?_
      | refine WO.g0 rfl ?_
      | (refine WO.gs _ rfl rfl rfl ?_ ?_ <;> intro hb <;> simp only [hb] <;> try simp at hb))
    | (refine OpK.id ?_; first
      | refine OpK.of (OpOk.lenS D rfl rfl rfl rfl) ?_
      | refine OpK.of (OpOk.lenM D rfl rfl rfl rfl) ?_
      | refine OpK.of (OpOk.lenL D rfl rfl rfl rfl) ?_
      | refine OpK.of (OpOk.lenA D rfl rfl rfl rfl rfl rfl) ?_
      | refine OpK.of (OpOk.lenE D rfl rfl rfl rfl) ?_
      | refine OpK.of (OpOk.inc rfl rfl rfl (by omega)) ?_
      | refine OpK.of (OpOk.add rfl rfl rfl (by omega)) ?_
      | refine OpK.of (OpOk.sub rfl rfl rfl (by omega)) ?_
      | refine OpK.of (OpOk.ixM D rfl rfl rfl rfl rfl rfl (by first | assumption | omega) (fun _ => rfl)) ?_)
    | (refine W.id ?_; first
      | refine W.regs ?_
      | refine W.drs0 mixed (by kernel_rfl) ?_
      | refine W.drs1 mixed (by kernel_rfl) ?_
      | refine W.drs2 mixed (by kernel_rfl) ?_
      | refine W.ret ?_
      | refine W.seq ?_
      | refine W.skip ?_
      | refine W.region ?_
      | refine W.exit ?_
      | refine W.block ?_
      | (refine W.cond rfl ?_ ?_ <;> intro hb <;> try simp at hb)
      | refine W.drawn mixed ?_)
    | (refine Then.id ?_; first
      | refine Then.rn ?_
      | refine Then.rr ?_
      | refine Then.rx ?_)
    | (refine InBlk.id ?_; first
      | refine InBlk.rn ?_
      | refine InBlk.rr ?_
      | refine InBlk.re ?_
      | refine InBlk.rx rfl ?_)
    | (refine WD.id ?_; first
      | refine WD.done rfl ?_
      | refine WD.t rfl ?_ rfl
      | refine WD.g rfl rfl rfl ?_
      | refine WD.u rfl rfl rfl ?_
      | (refine WD.gs _ rfl rfl rfl ?_ ?_ <;> intro hb <;> simp only [hb] <;> try simp at hb))
    | (refine OpD.id ?_; first
      | refine OpD.of (stpR_ok D rfl) ?_
      | refine OpD.of (OpOk.lenS D rfl rfl rfl rfl) ?_
      | refine OpD.of (OpOk.lenM D rfl rfl rfl rfl) ?_
      | refine OpD.of (OpOk.lenL D rfl rfl rfl rfl) ?_
      | refine OpD.of (OpOk.lenA D rfl rfl rfl rfl rfl rfl) ?_
      | refine OpD.of (OpOk.lenE D rfl rfl rfl rfl) ?_
      | refine OpD.of (OpOk.inc rfl rfl rfl (by omega)) ?_
      | refine OpD.of (OpOk.add rfl rfl rfl (by omega)) ?_
      | refine OpD.of (OpOk.sub rfl rfl rfl (by omega)) ?_
      | refine OpD.of (OpOk.ixM D rfl rfl rfl rfl rfl rfl (by first | assumption | omega) (fun _ => rfl)) ?_)
    | (refine WE.id ?_; first
      | refine WE.done (by with_unfolding_all rfl) ?_
      | refine WE.step (by with_unfolding_all rfl) ?_)
    | (refine WI.id ?_; first
      | refine WI.r D rfl ?_
      | refine WI.g rfl rfl rfl ?_
      | refine WI.g0 rfl ?_
      | (refine WI.gs _ rfl rfl rfl ?_ ?_ <;> intro hb <;> simp only [hb] <;> try simp at hb))
    | (refine WL.id ?_; first
      | refine WL.cons ?_ ?_
      | exact WL.nil
      | exact WL.on (by with_unfolding_all rfl)
      | refine WL.oc (by with_unfolding_all rfl) ?_ ?_))
  all_goals refine ⟨.inr rfl, _, _, rfl, .cons (.c (.id rfl)) .nil, ?_⟩
  all_goals first | (simp_all [resV, X.v, noConf]; done) | (simp [resV, X.v, noConf] at *; grind) | (simp [resV, X.v, noConf] at *; omega)
theorem noConf_impl (c : Cfg) : Pu Tryz.prog 271 [A c.e] (B (noConf c)) := by
  refine Pu.of D Tryz.func271 rfl rfl rfl ?_
  repeat' (first
    | (refine WO.id ?_; first
      | refine stp1_ok D rfl ?_
      | refine WO.nil ?_
      | refine WO.g rfl rfl rfl ?_
      | refine WO.g0 rfl ?_
      | (refine WO.gs _ rfl rfl rfl ?_ ?_ <;> intro hb <;> simp only [hb] <;> try simp at hb))
    | (refine OpK.id ?_; first
      | refine OpK.of (OpOk.lenS D rfl rfl rfl rfl) ?_
      | refine OpK.of (OpOk.lenM D rfl rfl rfl rfl) ?_
      | refine OpK.of (OpOk.lenL D rfl rfl rfl rfl) ?_
      | refine OpK.of (OpOk.lenA D rfl rfl rfl rfl rfl rfl) ?_
      | refine OpK.of (OpOk.lenE D rfl rfl rfl rfl) ?_
      | refine OpK.of (OpOk.inc rfl rfl rfl (by omega)) ?_
      | refine OpK.of (OpOk.add rfl rfl rfl (by omega)) ?_
      | refine OpK.of (OpOk.sub rfl rfl rfl (by omega)) ?_
      | refine OpK.of (OpOk.ixM D rfl rfl rfl rfl rfl rfl (by first | assumption | omega) (fun _ => rfl)) ?_)
    | (refine W.id ?_; first
      | refine W.regs ?_
      | refine W.drs0 mixed (by kernel_rfl) ?_
      | refine W.drs1 mixed (by kernel_rfl) ?_
      | refine W.drs2 mixed (by kernel_rfl) ?_
      | refine W.ret ?_
      | refine W.seq ?_
      | refine W.skip ?_
      | refine W.region ?_
      | refine W.exit ?_
      | refine W.block ?_
      | (refine W.cond rfl ?_ ?_ <;> intro hb <;> try simp at hb)
      | refine W.drawn mixed ?_)
    | (refine Then.id ?_; first
      | refine Then.rn ?_
      | refine Then.rr ?_
      | refine Then.rx ?_)
    | (refine InBlk.id ?_; first
      | refine InBlk.rn ?_
      | refine InBlk.rr ?_
      | refine InBlk.re ?_
      | refine InBlk.rx rfl ?_)
    | (refine WD.id ?_; first
      | refine WD.done rfl ?_
      | refine WD.t rfl ?_ rfl
      | refine WD.g rfl rfl rfl ?_
      | refine WD.u rfl rfl rfl ?_
      | (refine WD.gs _ rfl rfl rfl ?_ ?_ <;> intro hb <;> simp only [hb] <;> try simp at hb))
    | (refine OpD.id ?_; first
      | refine OpD.of (stpR_ok D rfl) ?_
      | refine OpD.of (OpOk.lenS D rfl rfl rfl rfl) ?_
      | refine OpD.of (OpOk.lenM D rfl rfl rfl rfl) ?_
      | refine OpD.of (OpOk.lenL D rfl rfl rfl rfl) ?_
      | refine OpD.of (OpOk.lenA D rfl rfl rfl rfl rfl rfl) ?_
      | refine OpD.of (OpOk.lenE D rfl rfl rfl rfl) ?_
      | refine OpD.of (OpOk.inc rfl rfl rfl (by omega)) ?_
      | refine OpD.of (OpOk.add rfl rfl rfl (by omega)) ?_
      | refine OpD.of (OpOk.sub rfl rfl rfl (by omega)) ?_
      | refine OpD.of (OpOk.ixM D rfl rfl rfl rfl rfl rfl (by first | assumption | omega) (fun _ => rfl)) ?_)
    | (refine WE.id ?_; first
      | refine WE.done (by with_unfolding_all rfl) ?_
      | refine WE.step (by with_unfolding_all rfl) ?_)
    | (refine WI.id ?_; first
      | refine WI.r D rfl ?_
      | refine WI.g rfl rfl rfl ?_
      | refine WI.g0 rfl ?_
      | (refine WI.gs _ rfl rfl rfl ?_ ?_ <;> intro hb <;> simp only [hb] <;> try simp at hb))
    | (refine WL.id ?_; first
      | refine WL.cons ?_ ?_
      | exact WL.nil
      | exact WL.on (by with_unfolding_all rfl)
      | refine WL.oc (by with_unfolding_all rfl) ?_ ?_))
  all_goals refine ⟨.inr rfl, _, _, rfl, .cons (.c (.id rfl)) .nil, ?_⟩
  all_goals first | (simp_all [resV, X.v, noConf]; done) | (simp [resV, X.v, noConf] at *; grind) | (simp [resV, X.v, noConf] at *; omega)
theorem node_ok (n : Int) : Pu Tryz.prog 208 [I n] (B (inR n 0 4)) := by
  refine Pu.of D Tryz.func208 rfl rfl rfl ?_
  repeat' (first
    | (refine WO.id ?_; first
      | refine stp1_ok D rfl ?_
      | refine WO.nil ?_
      | refine WO.g rfl rfl rfl ?_
      | refine WO.g0 rfl ?_
      | (refine WO.gs _ rfl rfl rfl ?_ ?_ <;> intro hb <;> simp only [hb] <;> try simp at hb))
    | (refine OpK.id ?_; first
      | refine OpK.of (OpOk.lenS D rfl rfl rfl rfl) ?_
      | refine OpK.of (OpOk.lenM D rfl rfl rfl rfl) ?_
      | refine OpK.of (OpOk.lenL D rfl rfl rfl rfl) ?_
      | refine OpK.of (OpOk.lenA D rfl rfl rfl rfl rfl rfl) ?_
      | refine OpK.of (OpOk.lenE D rfl rfl rfl rfl) ?_
      | refine OpK.of (OpOk.inc rfl rfl rfl (by omega)) ?_
      | refine OpK.of (OpOk.add rfl rfl rfl (by omega)) ?_
      | refine OpK.of (OpOk.sub rfl rfl rfl (by omega)) ?_
      | refine OpK.of (OpOk.ixM D rfl rfl rfl rfl rfl rfl (by first | assumption | omega) (fun _ => rfl)) ?_)
    | (refine W.id ?_; first
      | refine W.regs ?_
      | refine W.drs0 mixed (by kernel_rfl) ?_
      | refine W.drs1 mixed (by kernel_rfl) ?_
      | refine W.drs2 mixed (by kernel_rfl) ?_
      | refine W.ret ?_
      | refine W.seq ?_
      | refine W.skip ?_
      | refine W.region ?_
      | refine W.exit ?_
      | refine W.block ?_
      | (refine W.cond rfl ?_ ?_ <;> intro hb <;> try simp at hb)
      | refine W.drawn mixed ?_)
    | (refine Then.id ?_; first
      | refine Then.rn ?_
      | refine Then.rr ?_
      | refine Then.rx ?_)
    | (refine InBlk.id ?_; first
      | refine InBlk.rn ?_
      | refine InBlk.rr ?_
      | refine InBlk.re ?_
      | refine InBlk.rx rfl ?_)
    | (refine WD.id ?_; first
      | refine WD.done rfl ?_
      | refine WD.t rfl ?_ rfl
      | refine WD.g rfl rfl rfl ?_
      | refine WD.u rfl rfl rfl ?_
      | (refine WD.gs _ rfl rfl rfl ?_ ?_ <;> intro hb <;> simp only [hb] <;> try simp at hb))
    | (refine OpD.id ?_; first
      | refine OpD.of (stpR_ok D rfl) ?_
      | refine OpD.of (OpOk.lenS D rfl rfl rfl rfl) ?_
      | refine OpD.of (OpOk.lenM D rfl rfl rfl rfl) ?_
      | refine OpD.of (OpOk.lenL D rfl rfl rfl rfl) ?_
      | refine OpD.of (OpOk.lenA D rfl rfl rfl rfl rfl rfl) ?_
      | refine OpD.of (OpOk.lenE D rfl rfl rfl rfl) ?_
      | refine OpD.of (OpOk.inc rfl rfl rfl (by omega)) ?_
      | refine OpD.of (OpOk.add rfl rfl rfl (by omega)) ?_
      | refine OpD.of (OpOk.sub rfl rfl rfl (by omega)) ?_
      | refine OpD.of (OpOk.ixM D rfl rfl rfl rfl rfl rfl (by first | assumption | omega) (fun _ => rfl)) ?_)
    | (refine WE.id ?_; first
      | refine WE.done (by with_unfolding_all rfl) ?_
      | refine WE.step (by with_unfolding_all rfl) ?_)
    | (refine WI.id ?_; first
      | refine WI.r D rfl ?_
      | refine WI.g rfl rfl rfl ?_
      | refine WI.g0 rfl ?_
      | (refine WI.gs _ rfl rfl rfl ?_ ?_ <;> intro hb <;> simp only [hb] <;> try simp at hb))
    | (refine WL.id ?_; first
      | refine WL.cons ?_ ?_
      | exact WL.nil
      | exact WL.on (by with_unfolding_all rfl)
      | refine WL.oc (by with_unfolding_all rfl) ?_ ?_))
  all_goals refine ⟨.inr rfl, _, _, rfl, .cons (.c (.id rfl)) .nil, ?_⟩
  all_goals first | (simp_all [resV, X.v, inR]; done) | (simp [resV, X.v, inR] at *; grind) | (simp [resV, X.v, inR] at *; omega)
def idx (n : Int) : List Int → Nat → Int
  | [], _ => -1
  | a :: l, k => if n = a then k else idx n l (k + 1)
theorem idx_ok (l : List Int) (n : Int) (hl : l.length ≤ 1048576) : Pu Tryz.prog 248 [L eI l, I n] (I (idx n l 0)) := by
  refine Pu.of D Tryz.func248 rfl rfl rfl ?_
  repeat' (first
    | (refine WO.id ?_; first
      | refine stp1_ok D rfl ?_
      | refine WO.nil ?_
      | refine WO.g rfl rfl rfl ?_
      | refine WO.g0 rfl ?_
      | (refine WO.gs _ rfl rfl rfl ?_ ?_ <;> intro hb <;> simp only [hb] <;> try simp at hb))
    | (refine OpK.id ?_; first
      | refine OpK.of (OpOk.lenS D rfl rfl rfl rfl) ?_
      | refine OpK.of (OpOk.lenM D rfl rfl rfl rfl) ?_
      | refine OpK.of (OpOk.lenL D rfl rfl rfl rfl) ?_
      | refine OpK.of (OpOk.lenA D rfl rfl rfl rfl rfl rfl) ?_
      | refine OpK.of (OpOk.lenE D rfl rfl rfl rfl) ?_
      | refine OpK.of (OpOk.inc rfl rfl rfl (by omega)) ?_
      | refine OpK.of (OpOk.add rfl rfl rfl (by omega)) ?_
      | refine OpK.of (OpOk.sub rfl rfl rfl (by omega)) ?_
      | refine OpK.of (OpOk.ixM D rfl rfl rfl rfl rfl rfl (by first | assumption | omega) (fun _ => rfl)) ?_)
    | (refine W.id ?_; first
      | refine W.regs ?_
      | refine W.drs0 mixed (by kernel_rfl) ?_
      | refine W.drs1 mixed (by kernel_rfl) ?_
      | refine W.drs2 mixed (by kernel_rfl) ?_
      | refine W.ret ?_
      | refine W.seq ?_
      | refine W.skip ?_
      | refine W.region ?_
      | refine W.exit ?_
      | refine W.block ?_
      | (refine W.cond rfl ?_ ?_ <;> intro hb <;> try simp at hb)
      | refine W.drawn mixed ?_)
    | (refine Then.id ?_; first
      | refine Then.rn ?_
      | refine Then.rr ?_
      | refine Then.rx ?_)
    | (refine InBlk.id ?_; first
      | refine InBlk.rn ?_
      | refine InBlk.rr ?_
      | refine InBlk.re ?_
      | refine InBlk.rx rfl ?_)
    | (refine WD.id ?_; first
      | refine WD.done rfl ?_
      | refine WD.t rfl ?_ rfl
      | refine WD.g rfl rfl rfl ?_
      | refine WD.u rfl rfl rfl ?_
      | (refine WD.gs _ rfl rfl rfl ?_ ?_ <;> intro hb <;> simp only [hb] <;> try simp at hb))
    | (refine OpD.id ?_; first
      | refine OpD.of (stpR_ok D rfl) ?_
      | refine OpD.of (OpOk.lenS D rfl rfl rfl rfl) ?_
      | refine OpD.of (OpOk.lenM D rfl rfl rfl rfl) ?_
      | refine OpD.of (OpOk.lenL D rfl rfl rfl rfl) ?_
      | refine OpD.of (OpOk.lenA D rfl rfl rfl rfl rfl rfl) ?_
      | refine OpD.of (OpOk.lenE D rfl rfl rfl rfl) ?_
      | refine OpD.of (OpOk.inc rfl rfl rfl (by omega)) ?_
      | refine OpD.of (OpOk.add rfl rfl rfl (by omega)) ?_
      | refine OpD.of (OpOk.sub rfl rfl rfl (by omega)) ?_
      | refine OpD.of (OpOk.ixM D rfl rfl rfl rfl rfl rfl (by first | assumption | omega) (fun _ => rfl)) ?_)
    | (refine WE.id ?_; first
      | refine WE.done (by with_unfolding_all rfl) ?_
      | refine WE.step (by with_unfolding_all rfl) ?_)
    | (refine WI.id ?_; first
      | refine WI.r D rfl ?_
      | refine WI.g rfl rfl rfl ?_
      | refine WI.g0 rfl ?_
      | (refine WI.gs _ rfl rfl rfl ?_ ?_ <;> intro hb <;> simp only [hb] <;> try simp at hb))
    | (refine WL.id ?_; first
      | refine WL.cons ?_ ?_
      | exact WL.nil
      | exact WL.on (by with_unfolding_all rfl)
      | refine WL.oc (by with_unfolding_all rfl) ?_ ?_))
  refine W.loop (σ := Nat) (fun k => [(8, I k), (7, I l.length), (1, I n), (0, L eI l)]) (fun _ => []) (fun k => k ≤ l.length ∧ idx n l 0 = idx n (l.drop k) k) (fun k => l.length - k) 0 (fun _ _ => rfl) 0 ⟨by simp, by simp⟩ rfl (.cons rfl rfl (.cons rfl rfl (.cons rfl rfl (.cons rfl rfl (.nil))))) ?_
  rintro k ⟨hk1, hy⟩
  repeat' (first
    | (refine WO.id ?_; first
      | refine stp1_ok D rfl ?_
      | refine WO.nil ?_
      | refine WO.g rfl rfl rfl ?_
      | refine WO.g0 rfl ?_
      | (refine WO.gs _ rfl rfl rfl ?_ ?_ <;> intro hb <;> simp only [hb] <;> try simp at hb))
    | (refine OpK.id ?_; first
      | refine OpK.of (OpOk.lenS D rfl rfl rfl rfl) ?_
      | refine OpK.of (OpOk.lenM D rfl rfl rfl rfl) ?_
      | refine OpK.of (OpOk.lenL D rfl rfl rfl rfl) ?_
      | refine OpK.of (OpOk.lenA D rfl rfl rfl rfl rfl rfl) ?_
      | refine OpK.of (OpOk.lenE D rfl rfl rfl rfl) ?_
      | refine OpK.of (OpOk.inc rfl rfl rfl (by omega)) ?_
      | refine OpK.of (OpOk.add rfl rfl rfl (by omega)) ?_
      | refine OpK.of (OpOk.sub rfl rfl rfl (by omega)) ?_
      | refine OpK.of (OpOk.ixM D rfl rfl rfl rfl rfl rfl (by first | assumption | omega) (fun _ => rfl)) ?_)
    | (refine W.id ?_; first
      | refine W.regs ?_
      | refine W.drs0 mixed (by kernel_rfl) ?_
      | refine W.drs1 mixed (by kernel_rfl) ?_
      | refine W.drs2 mixed (by kernel_rfl) ?_
      | refine W.ret ?_
      | refine W.seq ?_
      | refine W.skip ?_
      | refine W.region ?_
      | refine W.exit ?_
      | refine W.block ?_
      | (refine W.cond rfl ?_ ?_ <;> intro hb <;> try simp at hb)
      | refine W.drawn mixed ?_)
    | (refine Then.id ?_; first
      | refine Then.rn ?_
      | refine Then.rr ?_
      | refine Then.rx ?_)
    | (refine InBlk.id ?_; first
      | refine InBlk.rn ?_
      | refine InBlk.rr ?_
      | refine InBlk.re ?_
      | refine InBlk.rx rfl ?_)
    | (refine WD.id ?_; first
      | refine WD.done rfl ?_
      | refine WD.t rfl ?_ rfl
      | refine WD.g rfl rfl rfl ?_
      | refine WD.u rfl rfl rfl ?_
      | (refine WD.gs _ rfl rfl rfl ?_ ?_ <;> intro hb <;> simp only [hb] <;> try simp at hb))
    | (refine OpD.id ?_; first
      | refine OpD.of (stpR_ok D rfl) ?_
      | refine OpD.of (OpOk.lenS D rfl rfl rfl rfl) ?_
      | refine OpD.of (OpOk.lenM D rfl rfl rfl rfl) ?_
      | refine OpD.of (OpOk.lenL D rfl rfl rfl rfl) ?_
      | refine OpD.of (OpOk.lenA D rfl rfl rfl rfl rfl rfl) ?_
      | refine OpD.of (OpOk.lenE D rfl rfl rfl rfl) ?_
      | refine OpD.of (OpOk.inc rfl rfl rfl (by omega)) ?_
      | refine OpD.of (OpOk.add rfl rfl rfl (by omega)) ?_
      | refine OpD.of (OpOk.sub rfl rfl rfl (by omega)) ?_
      | refine OpD.of (OpOk.ixM D rfl rfl rfl rfl rfl rfl (by first | assumption | omega) (fun _ => rfl)) ?_)
    | (refine WE.id ?_; first
      | refine WE.done (by with_unfolding_all rfl) ?_
      | refine WE.step (by with_unfolding_all rfl) ?_)
    | (refine WI.id ?_; first
      | refine WI.r D rfl ?_
      | refine WI.g rfl rfl rfl ?_
      | refine WI.g0 rfl ?_
      | (refine WI.gs _ rfl rfl rfl ?_ ?_ <;> intro hb <;> simp only [hb] <;> try simp at hb))
    | (refine WL.id ?_; first
      | refine WL.cons ?_ ?_
      | exact WL.nil
      | exact WL.on (by with_unfolding_all rfl)
      | refine WL.oc (by with_unfolding_all rfl) ?_ ?_))
  · have hlt : k < l.length := by assumption
    rw [drop_cons hlt, idx, if_pos hb] at hy
    refine ⟨.inr rfl, _, _, rfl, .cons (.c (.id rfl)) .nil, ?_⟩
    simp [resV, X.v, hy]
  · have hlt : k < l.length := by assumption
    rw [drop_cons hlt, idx, if_neg hb] at hy
    exact ⟨k + 1, ⟨by omega, hy⟩, by omega, (.cons rfl rfl (.cons rfl rfl (.cons rfl rfl (.cons rfl rfl (.nil))))), rfl, rfl⟩
  · rw [drop_nil (by omega), idx] at hy
    refine ⟨.inr rfl, _, _, rfl, .cons (.c (.id rfl)) .nil, ?_⟩
    simp [resV, X.v, hy]
theorem idx_ge (n : Int) : ∀ (l : List Int) (k : Nat), (0 ≤ idx n l k ↔ n ∈ l)
  | [], k => by simp [idx]
  | a :: l, k => by
    rw [idx]; split
    · simp_all
    · rename_i h; rw [idx_ge n l (k + 1)]; simp [h]
theorem contains_ok (l : List Int) (n : Int) (hl : l.length ≤ 1048576) : Pu Tryz.prog 138 [L eI l, I n] (B (decide (n ∈ l))) := by
  refine Pu.of D Tryz.func138 rfl rfl rfl ?_
  repeat' (first
    | (refine WO.id ?_; first
      | refine stp1_ok D rfl ?_
      | refine WO.nil ?_
      | refine WO.g rfl rfl rfl ?_
      | refine WO.g0 rfl ?_
      | (refine WO.gs _ rfl rfl rfl ?_ ?_ <;> intro hb <;> simp only [hb] <;> try simp at hb))
    | (refine OpK.id ?_; first
      | refine OpK.of (OpOk.call rfl (idx_ok l n hl) rfl rfl rfl) ?_
      | refine OpK.of (OpOk.lenS D rfl rfl rfl rfl) ?_
      | refine OpK.of (OpOk.lenM D rfl rfl rfl rfl) ?_
      | refine OpK.of (OpOk.lenL D rfl rfl rfl rfl) ?_
      | refine OpK.of (OpOk.lenA D rfl rfl rfl rfl rfl rfl) ?_
      | refine OpK.of (OpOk.lenE D rfl rfl rfl rfl) ?_
      | refine OpK.of (OpOk.inc rfl rfl rfl (by omega)) ?_
      | refine OpK.of (OpOk.add rfl rfl rfl (by omega)) ?_
      | refine OpK.of (OpOk.sub rfl rfl rfl (by omega)) ?_
      | refine OpK.of (OpOk.ixM D rfl rfl rfl rfl rfl rfl (by first | assumption | omega) (fun _ => rfl)) ?_)
    | (refine W.id ?_; first
      | refine W.regs ?_
      | refine W.drs0 mixed (by kernel_rfl) ?_
      | refine W.drs1 mixed (by kernel_rfl) ?_
      | refine W.drs2 mixed (by kernel_rfl) ?_
      | refine W.ret ?_
      | refine W.seq ?_
      | refine W.skip ?_
      | refine W.region ?_
      | refine W.exit ?_
      | refine W.block ?_
      | (refine W.cond rfl ?_ ?_ <;> intro hb <;> try simp at hb)
      | refine W.drawn mixed ?_)
    | (refine Then.id ?_; first
      | refine Then.rn ?_
      | refine Then.rr ?_
      | refine Then.rx ?_)
    | (refine InBlk.id ?_; first
      | refine InBlk.rn ?_
      | refine InBlk.rr ?_
      | refine InBlk.re ?_
      | refine InBlk.rx rfl ?_)
    | (refine WD.id ?_; first
      | refine WD.done rfl ?_
      | refine WD.t rfl ?_ rfl
      | refine WD.g rfl rfl rfl ?_
      | refine WD.u rfl rfl rfl ?_
      | (refine WD.gs _ rfl rfl rfl ?_ ?_ <;> intro hb <;> simp only [hb] <;> try simp at hb))
    | (refine OpD.id ?_; first
      | refine OpD.of (stpR_ok D rfl) ?_
      | refine OpD.of (OpOk.call rfl (idx_ok l n hl) rfl rfl rfl) ?_
      | refine OpD.of (OpOk.lenS D rfl rfl rfl rfl) ?_
      | refine OpD.of (OpOk.lenM D rfl rfl rfl rfl) ?_
      | refine OpD.of (OpOk.lenL D rfl rfl rfl rfl) ?_
      | refine OpD.of (OpOk.lenA D rfl rfl rfl rfl rfl rfl) ?_
      | refine OpD.of (OpOk.lenE D rfl rfl rfl rfl) ?_
      | refine OpD.of (OpOk.inc rfl rfl rfl (by omega)) ?_
      | refine OpD.of (OpOk.add rfl rfl rfl (by omega)) ?_
      | refine OpD.of (OpOk.sub rfl rfl rfl (by omega)) ?_
      | refine OpD.of (OpOk.ixM D rfl rfl rfl rfl rfl rfl (by first | assumption | omega) (fun _ => rfl)) ?_)
    | (refine WE.id ?_; first
      | refine WE.done (by with_unfolding_all rfl) ?_
      | refine WE.step (by with_unfolding_all rfl) ?_)
    | (refine WI.id ?_; first
      | refine WI.r D rfl ?_
      | refine WI.g rfl rfl rfl ?_
      | refine WI.g0 rfl ?_
      | (refine WI.gs _ rfl rfl rfl ?_ ?_ <;> intro hb <;> simp only [hb] <;> try simp at hb))
    | (refine WL.id ?_; first
      | refine WL.cons ?_ ?_
      | exact WL.nil
      | exact WL.on (by with_unfolding_all rfl)
      | refine WL.oc (by with_unfolding_all rfl) ?_ ?_))
  all_goals refine ⟨.inr rfl, _, _, rfl, .cons (.c (.id rfl)) .nil, ?_⟩
  all_goals (have := idx_ge n l 0; simp [resV, X.v, this])
def memFrom : List Int → List Int → Bool
  | _, [] => true
  | p, a :: l => inR a 0 4 && !decide (a ∈ p) && memFrom (p ++ [a]) l
theorem memFrom_cons {l : List Int} {k : Nat} (h : k < l.length) : memFrom (l.take k) (l.drop k) = (inR l[k] 0 4 && !decide (l[k] ∈ l.take k) && memFrom (l.take (k + 1)) (l.drop (k + 1))) := by
  rw [drop_cons h, memFrom, List.take_succ_eq_append_getElem h]
theorem memFrom_nil {l : List Int} {k : Nat} (h : l.length ≤ k) : memFrom (l.take k) (l.drop k) = true := by rw [drop_nil h, memFrom]
def confOk (c : Cfg) : Bool := inR c.epoch 1 60 && inR c.mem.length 1 4 && !(c.fresh && decide (c.mem.length < 2)) && memFrom [] c.mem
theorem confOk_impl (c : Cfg) (hs : c.mem.length ≤ 1048576) : Pu Tryz.prog 171 [A c.e] (B (confOk c)) := by
  refine Pu.of D Tryz.func171 rfl rfl rfl ?_
  repeat' (first
    | (refine WO.id ?_; first
      | refine stp1_ok D rfl ?_
      | refine WO.nil ?_
      | refine WO.g rfl rfl rfl ?_
      | refine WO.g0 rfl ?_
      | (refine WO.gs _ rfl rfl rfl ?_ ?_ <;> intro hb <;> simp only [hb] <;> try simp at hb))
    | (refine OpK.id ?_; first
      | refine OpK.of (OpOk.lenS D rfl rfl rfl rfl) ?_
      | refine OpK.of (OpOk.lenM D rfl rfl rfl rfl) ?_
      | refine OpK.of (OpOk.lenL D rfl rfl rfl rfl) ?_
      | refine OpK.of (OpOk.lenA D rfl rfl rfl rfl rfl rfl) ?_
      | refine OpK.of (OpOk.lenE D rfl rfl rfl rfl) ?_
      | refine OpK.of (OpOk.inc rfl rfl rfl (by omega)) ?_
      | refine OpK.of (OpOk.add rfl rfl rfl (by omega)) ?_
      | refine OpK.of (OpOk.sub rfl rfl rfl (by omega)) ?_
      | refine OpK.of (OpOk.ixM D rfl rfl rfl rfl rfl rfl (by first | assumption | omega) (fun _ => rfl)) ?_)
    | (refine W.id ?_; first
      | refine W.regs ?_
      | refine W.drs0 mixed (by kernel_rfl) ?_
      | refine W.drs1 mixed (by kernel_rfl) ?_
      | refine W.drs2 mixed (by kernel_rfl) ?_
      | refine W.ret ?_
      | refine W.seq ?_
      | refine W.skip ?_
      | refine W.region ?_
      | refine W.exit ?_
      | refine W.block ?_
      | (refine W.cond rfl ?_ ?_ <;> intro hb <;> try simp at hb)
      | refine W.drawn mixed ?_)
    | (refine Then.id ?_; first
      | refine Then.rn ?_
      | refine Then.rr ?_
      | refine Then.rx ?_)
    | (refine InBlk.id ?_; first
      | refine InBlk.rn ?_
      | refine InBlk.rr ?_
      | refine InBlk.re ?_
      | refine InBlk.rx rfl ?_)
    | (refine WD.id ?_; first
      | refine WD.done rfl ?_
      | refine WD.t rfl ?_ rfl
      | refine WD.g rfl rfl rfl ?_
      | refine WD.u rfl rfl rfl ?_
      | (refine WD.gs _ rfl rfl rfl ?_ ?_ <;> intro hb <;> simp only [hb] <;> try simp at hb))
    | (refine OpD.id ?_; first
      | refine OpD.of (stpR_ok D rfl) ?_
      | refine OpD.of (OpOk.lenS D rfl rfl rfl rfl) ?_
      | refine OpD.of (OpOk.lenM D rfl rfl rfl rfl) ?_
      | refine OpD.of (OpOk.lenL D rfl rfl rfl rfl) ?_
      | refine OpD.of (OpOk.lenA D rfl rfl rfl rfl rfl rfl) ?_
      | refine OpD.of (OpOk.lenE D rfl rfl rfl rfl) ?_
      | refine OpD.of (OpOk.inc rfl rfl rfl (by omega)) ?_
      | refine OpD.of (OpOk.add rfl rfl rfl (by omega)) ?_
      | refine OpD.of (OpOk.sub rfl rfl rfl (by omega)) ?_
      | refine OpD.of (OpOk.ixM D rfl rfl rfl rfl rfl rfl (by first | assumption | omega) (fun _ => rfl)) ?_)
    | (refine WE.id ?_; first
      | refine WE.done (by with_unfolding_all rfl) ?_
      | refine WE.step (by with_unfolding_all rfl) ?_)
    | (refine WI.id ?_; first
      | refine WI.r D rfl ?_
      | refine WI.g rfl rfl rfl ?_
      | refine WI.g0 rfl ?_
      | (refine WI.gs _ rfl rfl rfl ?_ ?_ <;> intro hb <;> simp only [hb] <;> try simp at hb))
    | (refine WL.id ?_; first
      | refine WL.cons ?_ ?_
      | exact WL.nil
      | exact WL.on (by with_unfolding_all rfl)
      | refine WL.oc (by with_unfolding_all rfl) ?_ ?_))
  all_goals first
    | (refine ⟨.inr rfl, _, _, rfl, .cons (.c (.id rfl)) .nil, ?_⟩; simp [resV, X.v, confOk, inR] at *; grind)
    | skip
  all_goals refine W.loop (σ := Nat) (fun k => [(36, I k), (35, I c.mem.length), (34, L eI c.mem), (1, .c (.ptr 0 0))]) (fun _ => [.box (tc c.e)]) (fun k => k ≤ c.mem.length ∧ confOk c = memFrom (c.mem.take k) (c.mem.drop k)) (fun k => c.mem.length - k) 1 (fun _ _ => rfl) 0 ⟨by simp, by simp [confOk, inR]; grind⟩ rfl (.cons rfl rfl (.cons rfl rfl (.cons rfl rfl (.cons rfl rfl (.nil))))) ?_
  all_goals rintro k ⟨hk1, hy⟩
  all_goals repeat' (first
    | (refine WO.id ?_; first
      | refine stp1_ok D rfl ?_
      | refine WO.nil ?_
      | refine WO.g rfl rfl rfl ?_
      | refine WO.g0 rfl ?_
      | (refine WO.gs _ rfl rfl rfl ?_ ?_ <;> intro hb <;> simp only [hb] <;> try simp at hb))
    | (refine OpK.id ?_; first
      | refine OpK.of (OpOk.call rfl (node_ok _) rfl rfl rfl) ?_
      | refine OpK.of (OpOk.call rfl (contains_ok (c.mem.take k) c.mem[k] (by simp; omega)) rfl rfl rfl) ?_
      | refine OpK.of (OpOk.slMt D rfl rfl rfl rfl rfl (fun _ => rfl) rfl (by omega)) ?_
      | refine OpK.of (OpOk.lenS D rfl rfl rfl rfl) ?_
      | refine OpK.of (OpOk.lenM D rfl rfl rfl rfl) ?_
      | refine OpK.of (OpOk.lenL D rfl rfl rfl rfl) ?_
      | refine OpK.of (OpOk.lenA D rfl rfl rfl rfl rfl rfl) ?_
      | refine OpK.of (OpOk.lenE D rfl rfl rfl rfl) ?_
      | refine OpK.of (OpOk.inc rfl rfl rfl (by omega)) ?_
      | refine OpK.of (OpOk.add rfl rfl rfl (by omega)) ?_
      | refine OpK.of (OpOk.sub rfl rfl rfl (by omega)) ?_
      | refine OpK.of (OpOk.ixM D rfl rfl rfl rfl rfl rfl (by first | assumption | omega) (fun _ => rfl)) ?_)
    | (refine W.id ?_; first
      | refine W.regs ?_
      | refine W.drs0 mixed (by kernel_rfl) ?_
      | refine W.drs1 mixed (by kernel_rfl) ?_
      | refine W.drs2 mixed (by kernel_rfl) ?_
      | refine W.ret ?_
      | refine W.seq ?_
      | refine W.skip ?_
      | refine W.region ?_
      | refine W.exit ?_
      | refine W.block ?_
      | (refine W.cond rfl ?_ ?_ <;> intro hb <;> try simp at hb)
      | refine W.drawn mixed ?_)
    | (refine Then.id ?_; first
      | refine Then.rn ?_
      | refine Then.rr ?_
      | refine Then.rx ?_)
    | (refine InBlk.id ?_; first
      | refine InBlk.rn ?_
      | refine InBlk.rr ?_
      | refine InBlk.re ?_
      | refine InBlk.rx rfl ?_)
    | (refine WD.id ?_; first
      | refine WD.done rfl ?_
      | refine WD.t rfl ?_ rfl
      | refine WD.g rfl rfl rfl ?_
      | refine WD.u rfl rfl rfl ?_
      | (refine WD.gs _ rfl rfl rfl ?_ ?_ <;> intro hb <;> simp only [hb] <;> try simp at hb))
    | (refine OpD.id ?_; first
      | refine OpD.of (stpR_ok D rfl) ?_
      | refine OpD.of (OpOk.call rfl (node_ok _) rfl rfl rfl) ?_
      | refine OpD.of (OpOk.call rfl (contains_ok (c.mem.take k) c.mem[k] (by simp; omega)) rfl rfl rfl) ?_
      | refine OpD.of (OpOk.slMt D rfl rfl rfl rfl rfl (fun _ => rfl) rfl (by omega)) ?_
      | refine OpD.of (OpOk.lenS D rfl rfl rfl rfl) ?_
      | refine OpD.of (OpOk.lenM D rfl rfl rfl rfl) ?_
      | refine OpD.of (OpOk.lenL D rfl rfl rfl rfl) ?_
      | refine OpD.of (OpOk.lenA D rfl rfl rfl rfl rfl rfl) ?_
      | refine OpD.of (OpOk.lenE D rfl rfl rfl rfl) ?_
      | refine OpD.of (OpOk.inc rfl rfl rfl (by omega)) ?_
      | refine OpD.of (OpOk.add rfl rfl rfl (by omega)) ?_
      | refine OpD.of (OpOk.sub rfl rfl rfl (by omega)) ?_
      | refine OpD.of (OpOk.ixM D rfl rfl rfl rfl rfl rfl (by first | assumption | omega) (fun _ => rfl)) ?_)
    | (refine WE.id ?_; first
      | refine WE.done (by with_unfolding_all rfl) ?_
      | refine WE.step (by with_unfolding_all rfl) ?_)
    | (refine WI.id ?_; first
      | refine WI.r D rfl ?_
      | refine WI.g rfl rfl rfl ?_
      | refine WI.g0 rfl ?_
      | (refine WI.gs _ rfl rfl rfl ?_ ?_ <;> intro hb <;> simp only [hb] <;> try simp at hb))
    | (refine WL.id ?_; first
      | refine WL.cons ?_ ?_
      | exact WL.nil
      | exact WL.on (by with_unfolding_all rfl)
      | refine WL.oc (by with_unfolding_all rfl) ?_ ?_))
  all_goals first
    | (have hlt : k < c.mem.length := by assumption
       rw [memFrom_cons hlt] at hy
       first
       | (refine ⟨.inr rfl, _, _, rfl, .cons (.c (.id rfl)) .nil, ?_⟩; simp_all [resV, X.v]; done)
       | exact ⟨k + 1, ⟨by omega, by simp_all⟩, by omega, (.cons rfl rfl (.cons rfl rfl (.cons rfl rfl (.cons rfl rfl (.nil))))), rfl, rfl⟩)
    | (refine ⟨.inr rfl, _, _, rfl, .cons (.c (.id rfl)) .nil, ?_⟩; rw [memFrom_nil (by omega)] at hy; simp_all [resV, X.v]; done)
theorem confOk_spec (c : Cfg) (hs : c.mem.length ≤ 1048576) : Pu Tryz.prog 160 [A c.e] (B (confOk c)) := by
  refine Pu.of D Tryz.func160 rfl rfl rfl ?_
  repeat' (first
    | (refine WO.id ?_; first
      | refine stp1_ok D rfl ?_
      | refine WO.nil ?_
      | refine WO.g rfl rfl rfl ?_
      | refine WO.g0 rfl ?_
      | (refine WO.gs _ rfl rfl rfl ?_ ?_ <;> intro hb <;> simp only [hb] <;> try simp at hb))
    | (refine OpK.id ?_; first
      | refine OpK.of (OpOk.call rfl (in_ok _ _ _) rfl rfl rfl) ?_
      | refine OpK.of (OpOk.lenS D rfl rfl rfl rfl) ?_
      | refine OpK.of (OpOk.lenM D rfl rfl rfl rfl) ?_
      | refine OpK.of (OpOk.lenL D rfl rfl rfl rfl) ?_
      | refine OpK.of (OpOk.lenA D rfl rfl rfl rfl rfl rfl) ?_
      | refine OpK.of (OpOk.lenE D rfl rfl rfl rfl) ?_
      | refine OpK.of (OpOk.inc rfl rfl rfl (by omega)) ?_
      | refine OpK.of (OpOk.add rfl rfl rfl (by omega)) ?_
      | refine OpK.of (OpOk.sub rfl rfl rfl (by omega)) ?_
      | refine OpK.of (OpOk.ixM D rfl rfl rfl rfl rfl rfl (by first | assumption | omega) (fun _ => rfl)) ?_)
    | (refine W.id ?_; first
      | refine W.regs ?_
      | refine W.drs0 mixed (by kernel_rfl) ?_
      | refine W.drs1 mixed (by kernel_rfl) ?_
      | refine W.drs2 mixed (by kernel_rfl) ?_
      | refine W.ret ?_
      | refine W.seq ?_
      | refine W.skip ?_
      | refine W.region ?_
      | refine W.exit ?_
      | refine W.block ?_
      | (refine W.cond rfl ?_ ?_ <;> intro hb <;> try simp at hb)
      | refine W.drawn mixed ?_)
    | (refine Then.id ?_; first
      | refine Then.rn ?_
      | refine Then.rr ?_
      | refine Then.rx ?_)
    | (refine InBlk.id ?_; first
      | refine InBlk.rn ?_
      | refine InBlk.rr ?_
      | refine InBlk.re ?_
      | refine InBlk.rx rfl ?_)
    | (refine WD.id ?_; first
      | refine WD.done rfl ?_
      | refine WD.t rfl ?_ rfl
      | refine WD.g rfl rfl rfl ?_
      | refine WD.u rfl rfl rfl ?_
      | (refine WD.gs _ rfl rfl rfl ?_ ?_ <;> intro hb <;> simp only [hb] <;> try simp at hb))
    | (refine OpD.id ?_; first
      | refine OpD.of (stpR_ok D rfl) ?_
      | refine OpD.of (OpOk.call rfl (in_ok _ _ _) rfl rfl rfl) ?_
      | refine OpD.of (OpOk.lenS D rfl rfl rfl rfl) ?_
      | refine OpD.of (OpOk.lenM D rfl rfl rfl rfl) ?_
      | refine OpD.of (OpOk.lenL D rfl rfl rfl rfl) ?_
      | refine OpD.of (OpOk.lenA D rfl rfl rfl rfl rfl rfl) ?_
      | refine OpD.of (OpOk.lenE D rfl rfl rfl rfl) ?_
      | refine OpD.of (OpOk.inc rfl rfl rfl (by omega)) ?_
      | refine OpD.of (OpOk.add rfl rfl rfl (by omega)) ?_
      | refine OpD.of (OpOk.sub rfl rfl rfl (by omega)) ?_
      | refine OpD.of (OpOk.ixM D rfl rfl rfl rfl rfl rfl (by first | assumption | omega) (fun _ => rfl)) ?_)
    | (refine WE.id ?_; first
      | refine WE.done (by with_unfolding_all rfl) ?_
      | refine WE.step (by with_unfolding_all rfl) ?_)
    | (refine WI.id ?_; first
      | refine WI.r D rfl ?_
      | refine WI.g rfl rfl rfl ?_
      | refine WI.g0 rfl ?_
      | (refine WI.gs _ rfl rfl rfl ?_ ?_ <;> intro hb <;> simp only [hb] <;> try simp at hb))
    | (refine WL.id ?_; first
      | refine WL.cons ?_ ?_
      | exact WL.nil
      | exact WL.on (by with_unfolding_all rfl)
      | refine WL.oc (by with_unfolding_all rfl) ?_ ?_))
  all_goals first
    | (refine ⟨.inr rfl, _, _, rfl, .cons (.c (.id rfl)) .nil, ?_⟩; simp [resV, X.v, confOk, inR] at *; grind)
    | skip
  all_goals refine W.loop (σ := Nat) (fun k => [(3, I k), (1, .c (.ptr 0 0))]) (fun _ => [.box (tc c.e)]) (fun k => k ≤ c.mem.length ∧ confOk c = memFrom (c.mem.take k) (c.mem.drop k)) (fun k => c.mem.length - k) 1 (fun _ _ => rfl) 0 ⟨by simp, by simp [confOk, inR] at *; grind⟩ rfl (.cons rfl rfl (.cons rfl rfl (.nil))) ?_
  all_goals rintro k ⟨hk1, hy⟩
  all_goals repeat' (first
    | (refine WO.id ?_; first
      | refine stp1_ok D rfl ?_
      | refine WO.nil ?_
      | refine WO.g rfl rfl rfl ?_
      | refine WO.g0 rfl ?_
      | (refine WO.gs _ rfl rfl rfl ?_ ?_ <;> intro hb <;> simp only [hb] <;> try simp at hb))
    | (refine OpK.id ?_; first
      | refine OpK.of (OpOk.call rfl (in_ok _ _ _) rfl rfl rfl) ?_
      | refine OpK.of (OpOk.lenS D rfl rfl rfl rfl) ?_
      | refine OpK.of (OpOk.lenM D rfl rfl rfl rfl) ?_
      | refine OpK.of (OpOk.lenL D rfl rfl rfl rfl) ?_
      | refine OpK.of (OpOk.lenA D rfl rfl rfl rfl rfl rfl) ?_
      | refine OpK.of (OpOk.lenE D rfl rfl rfl rfl) ?_
      | refine OpK.of (OpOk.inc rfl rfl rfl (by omega)) ?_
      | refine OpK.of (OpOk.add rfl rfl rfl (by omega)) ?_
      | refine OpK.of (OpOk.sub rfl rfl rfl (by omega)) ?_
      | refine OpK.of (OpOk.ixM D rfl rfl rfl rfl rfl rfl (by first | assumption | omega) (fun _ => rfl)) ?_)
    | (refine W.id ?_; first
      | refine W.regs ?_
      | refine W.drs0 mixed (by kernel_rfl) ?_
      | refine W.drs1 mixed (by kernel_rfl) ?_
      | refine W.drs2 mixed (by kernel_rfl) ?_
      | refine W.ret ?_
      | refine W.seq ?_
      | refine W.skip ?_
      | refine W.region ?_
      | refine W.exit ?_
      | refine W.block ?_
      | (refine W.cond rfl ?_ ?_ <;> intro hb <;> try simp at hb)
      | refine W.drawn mixed ?_)
    | (refine Then.id ?_; first
      | refine Then.rn ?_
      | refine Then.rr ?_
      | refine Then.rx ?_)
    | (refine InBlk.id ?_; first
      | refine InBlk.rn ?_
      | refine InBlk.rr ?_
      | refine InBlk.re ?_
      | refine InBlk.rx rfl ?_)
    | (refine WD.id ?_; first
      | refine WD.done rfl ?_
      | refine WD.t rfl ?_ rfl
      | refine WD.g rfl rfl rfl ?_
      | refine WD.u rfl rfl rfl ?_
      | (refine WD.gs _ rfl rfl rfl ?_ ?_ <;> intro hb <;> simp only [hb] <;> try simp at hb))
    | (refine OpD.id ?_; first
      | refine OpD.of (stpR_ok D rfl) ?_
      | refine OpD.of (OpOk.call rfl (in_ok _ _ _) rfl rfl rfl) ?_
      | refine OpD.of (OpOk.lenS D rfl rfl rfl rfl) ?_
      | refine OpD.of (OpOk.lenM D rfl rfl rfl rfl) ?_
      | refine OpD.of (OpOk.lenL D rfl rfl rfl rfl) ?_
      | refine OpD.of (OpOk.lenA D rfl rfl rfl rfl rfl rfl) ?_
      | refine OpD.of (OpOk.lenE D rfl rfl rfl rfl) ?_
      | refine OpD.of (OpOk.inc rfl rfl rfl (by omega)) ?_
      | refine OpD.of (OpOk.add rfl rfl rfl (by omega)) ?_
      | refine OpD.of (OpOk.sub rfl rfl rfl (by omega)) ?_
      | refine OpD.of (OpOk.ixM D rfl rfl rfl rfl rfl rfl (by first | assumption | omega) (fun _ => rfl)) ?_)
    | (refine WE.id ?_; first
      | refine WE.done (by with_unfolding_all rfl) ?_
      | refine WE.step (by with_unfolding_all rfl) ?_)
    | (refine WI.id ?_; first
      | refine WI.r D rfl ?_
      | refine WI.g rfl rfl rfl ?_
      | refine WI.g0 rfl ?_
      | (refine WI.gs _ rfl rfl rfl ?_ ?_ <;> intro hb <;> simp only [hb] <;> try simp at hb))
    | (refine WL.id ?_; first
      | refine WL.cons ?_ ?_
      | exact WL.nil
      | exact WL.on (by with_unfolding_all rfl)
      | refine WL.oc (by with_unfolding_all rfl) ?_ ?_))
  all_goals first
    | (have hlt : k < c.mem.length := by assumption
       rw [memFrom_cons hlt] at hy
       (refine ⟨.inr rfl, _, _, rfl, .cons (.c (.id rfl)) .nil, ?_⟩; simp_all [resV, X.v]; done))
    | (refine ⟨.inr rfl, _, _, rfl, .cons (.c (.id rfl)) .nil, ?_⟩; rw [memFrom_nil (by omega)] at hy; simp_all [resV, X.v]; done)
    | skip
  all_goals have hlt : k < c.mem.length := by assumption
  all_goals refine W.loop (σ := Nat) (fun j => [(4, I j), (3, I k), (1, .c (.ptr 0 0))]) (fun _ => [.box (tc c.e)]) (fun j => j ≤ k ∧ ∀ i, i < j → c.mem[i]? ≠ some c.mem[k]) (fun j => k - j) 1 (fun _ _ => rfl) 0 ⟨by omega, by intro i hi; omega⟩ rfl (.cons rfl rfl (.cons rfl rfl (.cons rfl rfl (.nil)))) ?_
  all_goals rintro j ⟨hj1, hz⟩
  all_goals rw [memFrom_cons hlt] at hy
  all_goals repeat' (first
    | (refine WO.id ?_; first
      | refine stp1_ok D rfl ?_
      | refine WO.nil ?_
      | refine WO.g rfl rfl rfl ?_
      | refine WO.g0 rfl ?_
      | (refine WO.gs _ rfl rfl rfl ?_ ?_ <;> intro hb <;> simp only [hb] <;> try simp at hb))
    | (refine OpK.id ?_; first
      | refine OpK.of (OpOk.lenS D rfl rfl rfl rfl) ?_
      | refine OpK.of (OpOk.lenM D rfl rfl rfl rfl) ?_
      | refine OpK.of (OpOk.lenL D rfl rfl rfl rfl) ?_
      | refine OpK.of (OpOk.lenA D rfl rfl rfl rfl rfl rfl) ?_
      | refine OpK.of (OpOk.lenE D rfl rfl rfl rfl) ?_
      | refine OpK.of (OpOk.inc rfl rfl rfl (by omega)) ?_
      | refine OpK.of (OpOk.add rfl rfl rfl (by omega)) ?_
      | refine OpK.of (OpOk.sub rfl rfl rfl (by omega)) ?_
      | refine OpK.of (OpOk.ixM D rfl rfl rfl rfl rfl rfl (by first | assumption | omega) (fun _ => rfl)) ?_)
    | (refine W.id ?_; first
      | refine W.regs ?_
      | refine W.drs0 mixed (by kernel_rfl) ?_
      | refine W.drs1 mixed (by kernel_rfl) ?_
      | refine W.drs2 mixed (by kernel_rfl) ?_
      | refine W.ret ?_
      | refine W.seq ?_
      | refine W.skip ?_
      | refine W.region ?_
      | refine W.exit ?_
      | refine W.block ?_
      | (refine W.cond rfl ?_ ?_ <;> intro hb <;> try simp at hb)
      | refine W.drawn mixed ?_)
    | (refine Then.id ?_; first
      | refine Then.rn ?_
      | refine Then.rr ?_
      | refine Then.rx ?_)
    | (refine InBlk.id ?_; first
      | refine InBlk.rn ?_
      | refine InBlk.rr ?_
      | refine InBlk.re ?_
      | refine InBlk.rx rfl ?_)
    | (refine WD.id ?_; first
      | refine WD.done rfl ?_
      | refine WD.t rfl ?_ rfl
      | refine WD.g rfl rfl rfl ?_
      | refine WD.u rfl rfl rfl ?_
      | (refine WD.gs _ rfl rfl rfl ?_ ?_ <;> intro hb <;> simp only [hb] <;> try simp at hb))
    | (refine OpD.id ?_; first
      | refine OpD.of (stpR_ok D rfl) ?_
      | refine OpD.of (OpOk.lenS D rfl rfl rfl rfl) ?_
      | refine OpD.of (OpOk.lenM D rfl rfl rfl rfl) ?_
      | refine OpD.of (OpOk.lenL D rfl rfl rfl rfl) ?_
      | refine OpD.of (OpOk.lenA D rfl rfl rfl rfl rfl rfl) ?_
      | refine OpD.of (OpOk.lenE D rfl rfl rfl rfl) ?_
      | refine OpD.of (OpOk.inc rfl rfl rfl (by omega)) ?_
      | refine OpD.of (OpOk.add rfl rfl rfl (by omega)) ?_
      | refine OpD.of (OpOk.sub rfl rfl rfl (by omega)) ?_
      | refine OpD.of (OpOk.ixM D rfl rfl rfl rfl rfl rfl (by first | assumption | omega) (fun _ => rfl)) ?_)
    | (refine WE.id ?_; first
      | refine WE.done (by with_unfolding_all rfl) ?_
      | refine WE.step (by with_unfolding_all rfl) ?_)
    | (refine WI.id ?_; first
      | refine WI.r D rfl ?_
      | refine WI.g rfl rfl rfl ?_
      | refine WI.g0 rfl ?_
      | (refine WI.gs _ rfl rfl rfl ?_ ?_ <;> intro hb <;> simp only [hb] <;> try simp at hb))
    | (refine WL.id ?_; first
      | refine WL.cons ?_ ?_
      | exact WL.nil
      | exact WL.on (by with_unfolding_all rfl)
      | refine WL.oc (by with_unfolding_all rfl) ?_ ?_))
  all_goals first
    | (have hm : c.mem[k] ∈ c.mem.take k := List.mem_iff_getElem.2 ⟨j, by simp; omega, by simp [List.getElem_take, hb]⟩
       refine ⟨.inr rfl, _, _, rfl, .cons (.c (.id rfl)) .nil, ?_⟩
       simp [resV, X.v, hy, hm]; done)
    | exact ⟨j + 1, ⟨by omega, fun i hi => by
        by_cases e : i = j
        · subst e; rw [List.getElem?_eq_getElem (by omega)]; simpa using hb
        · exact hz i (by omega)⟩, by omega, (.cons rfl rfl (.cons rfl rfl (.cons rfl rfl (.nil)))), rfl, rfl⟩
    | (have hm : ¬ c.mem[k] ∈ c.mem.take k := fun hm => by
        obtain ⟨i, hi, e⟩ := List.mem_iff_getElem.1 hm
        simp at hi
        refine hz i (by omega) ?_
        rw [List.getElem?_eq_getElem (by omega), ← e, List.getElem_take]
       exact ⟨k + 1, ⟨by omega, by simp_all⟩, by omega, (.cons rfl rfl (.cons rfl rfl (.nil))), rfl, rfl⟩)
/-! ### Messages, replicas -/
def msgOk (m : Msg) : Bool := inR m.epoch 1 60 && ((decide (m.kind = 1) && inR m.to 0 4 && confOk m.conf && decide (m.conf.epoch = m.epoch) && decide (m.log.length = 0)) || (decide (m.kind = 2) && inR m.to 0 4 && noConf m.conf && logOk m.log) || (decide (m.kind = 3) && decide (m.to = -1) && noConf m.conf && decide (m.log.length = 0)))
theorem msgOk_impl (m : Msg) (hs : m.Sm) : Pu Tryz.prog 270 [A m.e] (B (msgOk m)) := by
  refine Pu.of D Tryz.func270 rfl rfl rfl ?_
  repeat' (first
    | (refine WO.id ?_; first
      | refine stp1_ok D rfl ?_
      | refine WO.nil ?_
      | refine WO.g rfl rfl rfl ?_
      | refine WO.g0 rfl ?_
      | (refine WO.gs _ rfl rfl rfl ?_ ?_ <;> intro hb <;> simp only [hb] <;> try simp at hb))
    | (refine OpK.id ?_; first
      | refine OpK.of (OpOk.call rfl (node_ok _) rfl rfl rfl) ?_
      | refine OpK.of (OpOk.call rfl (confOk_impl m.conf hs.conf.memN) rfl rfl rfl) ?_
      | refine OpK.of (OpOk.call rfl (noConf_impl m.conf) rfl rfl rfl) ?_
      | refine OpK.of (OpOk.call rfl (logOk_impl m.log) rfl rfl rfl) ?_
      | refine OpK.of (OpOk.lenS D rfl rfl rfl rfl) ?_
      | refine OpK.of (OpOk.lenM D rfl rfl rfl rfl) ?_
      | refine OpK.of (OpOk.lenL D rfl rfl rfl rfl) ?_
      | refine OpK.of (OpOk.lenA D rfl rfl rfl rfl rfl rfl) ?_
      | refine OpK.of (OpOk.lenE D rfl rfl rfl rfl) ?_
      | refine OpK.of (OpOk.inc rfl rfl rfl (by omega)) ?_
      | refine OpK.of (OpOk.add rfl rfl rfl (by omega)) ?_
      | refine OpK.of (OpOk.sub rfl rfl rfl (by omega)) ?_
      | refine OpK.of (OpOk.ixM D rfl rfl rfl rfl rfl rfl (by first | assumption | omega) (fun _ => rfl)) ?_)
    | (refine W.id ?_; first
      | refine W.regs ?_
      | refine W.drs0 mixed (by kernel_rfl) ?_
      | refine W.drs1 mixed (by kernel_rfl) ?_
      | refine W.drs2 mixed (by kernel_rfl) ?_
      | refine W.ret ?_
      | refine W.seq ?_
      | refine W.skip ?_
      | refine W.region ?_
      | refine W.exit ?_
      | refine W.block ?_
      | (refine W.cond rfl ?_ ?_ <;> intro hb <;> try simp at hb)
      | refine W.drawn mixed ?_)
    | (refine Then.id ?_; first
      | refine Then.rn ?_
      | refine Then.rr ?_
      | refine Then.rx ?_)
    | (refine InBlk.id ?_; first
      | refine InBlk.rn ?_
      | refine InBlk.rr ?_
      | refine InBlk.re ?_
      | refine InBlk.rx rfl ?_)
    | (refine WD.id ?_; first
      | refine WD.done rfl ?_
      | refine WD.t rfl ?_ rfl
      | refine WD.g rfl rfl rfl ?_
      | refine WD.u rfl rfl rfl ?_
      | (refine WD.gs _ rfl rfl rfl ?_ ?_ <;> intro hb <;> simp only [hb] <;> try simp at hb))
    | (refine OpD.id ?_; first
      | refine OpD.of (stpR_ok D rfl) ?_
      | refine OpD.of (OpOk.call rfl (node_ok _) rfl rfl rfl) ?_
      | refine OpD.of (OpOk.call rfl (confOk_impl m.conf hs.conf.memN) rfl rfl rfl) ?_
      | refine OpD.of (OpOk.call rfl (noConf_impl m.conf) rfl rfl rfl) ?_
      | refine OpD.of (OpOk.call rfl (logOk_impl m.log) rfl rfl rfl) ?_
      | refine OpD.of (OpOk.lenS D rfl rfl rfl rfl) ?_
      | refine OpD.of (OpOk.lenM D rfl rfl rfl rfl) ?_
      | refine OpD.of (OpOk.lenL D rfl rfl rfl rfl) ?_
      | refine OpD.of (OpOk.lenA D rfl rfl rfl rfl rfl rfl) ?_
      | refine OpD.of (OpOk.lenE D rfl rfl rfl rfl) ?_
      | refine OpD.of (OpOk.inc rfl rfl rfl (by omega)) ?_
      | refine OpD.of (OpOk.add rfl rfl rfl (by omega)) ?_
      | refine OpD.of (OpOk.sub rfl rfl rfl (by omega)) ?_
      | refine OpD.of (OpOk.ixM D rfl rfl rfl rfl rfl rfl (by first | assumption | omega) (fun _ => rfl)) ?_)
    | (refine WE.id ?_; first
      | refine WE.done (by with_unfolding_all rfl) ?_
      | refine WE.step (by with_unfolding_all rfl) ?_)
    | (refine WI.id ?_; first
      | refine WI.r D rfl ?_
      | refine WI.g rfl rfl rfl ?_
      | refine WI.g0 rfl ?_
      | (refine WI.gs _ rfl rfl rfl ?_ ?_ <;> intro hb <;> simp only [hb] <;> try simp at hb))
    | (refine WL.id ?_; first
      | refine WL.cons ?_ ?_
      | exact WL.nil
      | exact WL.on (by with_unfolding_all rfl)
      | refine WL.oc (by with_unfolding_all rfl) ?_ ?_))
  all_goals refine ⟨.inr rfl, _, _, rfl, .cons (.c (.id rfl)) .nil, ?_⟩
  all_goals (simp [resV, X.v, msgOk, inR] at *; have hl := len0 m.log; grind)
theorem confOk_epoch {c : Cfg} (h : confOk c = true) : 1 ≤ c.epoch ∧ c.epoch ≤ 60 := by
  simp [confOk, inR] at h; exact h.1.1.1
theorem msgOk_spec (m : Msg) (hs : m.Sm) : Pu Tryz.prog 260 [A m.e] (B (msgOk m)) := by
  refine Pu.of D Tryz.func260 rfl rfl rfl ?_
  repeat' (first
    | (refine WO.id ?_; first
      | refine stp1_ok D rfl ?_
      | refine WO.nil ?_
      | refine WO.g rfl rfl rfl ?_
      | refine WO.g0 rfl ?_
      | (refine WO.gs _ rfl rfl rfl ?_ ?_ <;> intro hb <;> simp only [hb] <;> try simp at hb))
    | (refine OpK.id ?_; first
      | refine OpK.of (OpOk.call rfl (in_ok _ _ _) rfl rfl rfl) ?_
      | refine OpK.of (OpOk.call rfl (confOk_spec m.conf hs.conf.memN) rfl rfl rfl) ?_
      | refine OpK.of (OpOk.call rfl (noConf_spec m.conf) rfl rfl rfl) ?_
      | refine OpK.of (OpOk.call rfl (logOk_spec m.log) rfl rfl rfl) ?_
      | refine OpK.of (OpOk.lenS D rfl rfl rfl rfl) ?_
      | refine OpK.of (OpOk.lenM D rfl rfl rfl rfl) ?_
      | refine OpK.of (OpOk.lenL D rfl rfl rfl rfl) ?_
      | refine OpK.of (OpOk.lenA D rfl rfl rfl rfl rfl rfl) ?_
      | refine OpK.of (OpOk.lenE D rfl rfl rfl rfl) ?_
      | refine OpK.of (OpOk.inc rfl rfl rfl (by omega)) ?_
      | refine OpK.of (OpOk.add rfl rfl rfl (by omega)) ?_
      | refine OpK.of (OpOk.sub rfl rfl rfl (by omega)) ?_
      | refine OpK.of (OpOk.ixM D rfl rfl rfl rfl rfl rfl (by first | assumption | omega) (fun _ => rfl)) ?_)
    | (refine W.id ?_; first
      | refine W.regs ?_
      | refine W.drs0 mixed (by kernel_rfl) ?_
      | refine W.drs1 mixed (by kernel_rfl) ?_
      | refine W.drs2 mixed (by kernel_rfl) ?_
      | refine W.ret ?_
      | refine W.seq ?_
      | refine W.skip ?_
      | refine W.region ?_
      | refine W.exit ?_
      | refine W.block ?_
      | (refine W.cond rfl ?_ ?_ <;> intro hb <;> try simp at hb)
      | refine W.drawn mixed ?_)
    | (refine Then.id ?_; first
      | refine Then.rn ?_
      | refine Then.rr ?_
      | refine Then.rx ?_)
    | (refine InBlk.id ?_; first
      | refine InBlk.rn ?_
      | refine InBlk.rr ?_
      | refine InBlk.re ?_
      | refine InBlk.rx rfl ?_)
    | (refine WD.id ?_; first
      | refine WD.done rfl ?_
      | refine WD.t rfl ?_ rfl
      | refine WD.g rfl rfl rfl ?_
      | refine WD.u rfl rfl rfl ?_
      | (refine WD.gs _ rfl rfl rfl ?_ ?_ <;> intro hb <;> simp only [hb] <;> try simp at hb))
    | (refine OpD.id ?_; first
      | refine OpD.of (stpR_ok D rfl) ?_
      | refine OpD.of (OpOk.call rfl (in_ok _ _ _) rfl rfl rfl) ?_
      | refine OpD.of (OpOk.call rfl (confOk_spec m.conf hs.conf.memN) rfl rfl rfl) ?_
      | refine OpD.of (OpOk.call rfl (noConf_spec m.conf) rfl rfl rfl) ?_
      | refine OpD.of (OpOk.call rfl (logOk_spec m.log) rfl rfl rfl) ?_
      | refine OpD.of (OpOk.lenS D rfl rfl rfl rfl) ?_
      | refine OpD.of (OpOk.lenM D rfl rfl rfl rfl) ?_
      | refine OpD.of (OpOk.lenL D rfl rfl rfl rfl) ?_
      | refine OpD.of (OpOk.lenA D rfl rfl rfl rfl rfl rfl) ?_
      | refine OpD.of (OpOk.lenE D rfl rfl rfl rfl) ?_
      | refine OpD.of (OpOk.inc rfl rfl rfl (by omega)) ?_
      | refine OpD.of (OpOk.add rfl rfl rfl (by omega)) ?_
      | refine OpD.of (OpOk.sub rfl rfl rfl (by omega)) ?_
      | refine OpD.of (OpOk.ixM D rfl rfl rfl rfl rfl rfl (by first | assumption | omega) (fun _ => rfl)) ?_)
    | (refine WE.id ?_; first
      | refine WE.done (by with_unfolding_all rfl) ?_
      | refine WE.step (by with_unfolding_all rfl) ?_)
    | (refine WI.id ?_; first
      | refine WI.r D rfl ?_
      | refine WI.g rfl rfl rfl ?_
      | refine WI.g0 rfl ?_
      | (refine WI.gs _ rfl rfl rfl ?_ ?_ <;> intro hb <;> simp only [hb] <;> try simp at hb))
    | (refine WL.id ?_; first
      | refine WL.cons ?_ ?_
      | exact WL.nil
      | exact WL.on (by with_unfolding_all rfl)
      | refine WL.oc (by with_unfolding_all rfl) ?_ ?_))
  all_goals refine ⟨.inr rfl, _, _, rfl, .cons (.c (.id rfl)) .nil, ?_⟩
  all_goals (have := @confOk_epoch m.conf; simp [resV, X.v, msgOk, inR] at *; have hl := len0 m.log; grind)
def bagOk (l : List Msg) : Bool := decide (l.length ≤ 10) && l.all msgOk
theorem bagOk_impl (l : List Msg) (hs : ∀ m ∈ l, m.Sm) : Pu Tryz.prog 172 [L Msg.e l] (B (bagOk l)) := by
  refine Pu.of D Tryz.func172 rfl rfl rfl ?_
  repeat' (first
    | (refine WO.id ?_; first
      | refine stp1_ok D rfl ?_
      | refine WO.nil ?_
      | refine WO.g rfl rfl rfl ?_
      | refine WO.g0 rfl ?_
      | (refine WO.gs _ rfl rfl rfl ?_ ?_ <;> intro hb <;> simp only [hb] <;> try simp at hb))
    | (refine OpK.id ?_; first
      | refine OpK.of (OpOk.lenS D rfl rfl rfl rfl) ?_
      | refine OpK.of (OpOk.lenM D rfl rfl rfl rfl) ?_
      | refine OpK.of (OpOk.lenL D rfl rfl rfl rfl) ?_
      | refine OpK.of (OpOk.lenA D rfl rfl rfl rfl rfl rfl) ?_
      | refine OpK.of (OpOk.lenE D rfl rfl rfl rfl) ?_
      | refine OpK.of (OpOk.inc rfl rfl rfl (by omega)) ?_
      | refine OpK.of (OpOk.add rfl rfl rfl (by omega)) ?_
      | refine OpK.of (OpOk.sub rfl rfl rfl (by omega)) ?_
      | refine OpK.of (OpOk.ixM D rfl rfl rfl rfl rfl rfl (by first | assumption | omega) (fun _ => rfl)) ?_)
    | (refine W.id ?_; first
      | refine W.regs ?_
      | refine W.drs0 mixed (by kernel_rfl) ?_
      | refine W.drs1 mixed (by kernel_rfl) ?_
      | refine W.drs2 mixed (by kernel_rfl) ?_
      | refine W.ret ?_
      | refine W.seq ?_
      | refine W.skip ?_
      | refine W.region ?_
      | refine W.exit ?_
      | refine W.block ?_
      | (refine W.cond rfl ?_ ?_ <;> intro hb <;> try simp at hb)
      | refine W.drawn mixed ?_)
    | (refine Then.id ?_; first
      | refine Then.rn ?_
      | refine Then.rr ?_
      | refine Then.rx ?_)
    | (refine InBlk.id ?_; first
      | refine InBlk.rn ?_
      | refine InBlk.rr ?_
      | refine InBlk.re ?_
      | refine InBlk.rx rfl ?_)
    | (refine WD.id ?_; first
      | refine WD.done rfl ?_
      | refine WD.t rfl ?_ rfl
      | refine WD.g rfl rfl rfl ?_
      | refine WD.u rfl rfl rfl ?_
      | (refine WD.gs _ rfl rfl rfl ?_ ?_ <;> intro hb <;> simp only [hb] <;> try simp at hb))
    | (refine OpD.id ?_; first
      | refine OpD.of (stpR_ok D rfl) ?_
      | refine OpD.of (OpOk.lenS D rfl rfl rfl rfl) ?_
      | refine OpD.of (OpOk.lenM D rfl rfl rfl rfl) ?_
      | refine OpD.of (OpOk.lenL D rfl rfl rfl rfl) ?_
      | refine OpD.of (OpOk.lenA D rfl rfl rfl rfl rfl rfl) ?_
      | refine OpD.of (OpOk.lenE D rfl rfl rfl rfl) ?_
      | refine OpD.of (OpOk.inc rfl rfl rfl (by omega)) ?_
      | refine OpD.of (OpOk.add rfl rfl rfl (by omega)) ?_
      | refine OpD.of (OpOk.sub rfl rfl rfl (by omega)) ?_
      | refine OpD.of (OpOk.ixM D rfl rfl rfl rfl rfl rfl (by first | assumption | omega) (fun _ => rfl)) ?_)
    | (refine WE.id ?_; first
      | refine WE.done (by with_unfolding_all rfl) ?_
      | refine WE.step (by with_unfolding_all rfl) ?_)
    | (refine WI.id ?_; first
      | refine WI.r D rfl ?_
      | refine WI.g rfl rfl rfl ?_
      | refine WI.g0 rfl ?_
      | (refine WI.gs _ rfl rfl rfl ?_ ?_ <;> intro hb <;> simp only [hb] <;> try simp at hb))
    | (refine WL.id ?_; first
      | refine WL.cons ?_ ?_
      | exact WL.nil
      | exact WL.on (by with_unfolding_all rfl)
      | refine WL.oc (by with_unfolding_all rfl) ?_ ?_))
  · refine ⟨.inr rfl, _, _, rfl, .cons (.c (.id rfl)) .nil, ?_⟩
    simp [resV, X.v, bagOk] at *; grind
  · refine W.loop (σ := Nat) (fun k => [(10, I k), (9, I l.length), (8, L Msg.e l)]) (fun _ => []) (fun k => k ≤ (l).length ∧ (l).all (msgOk) = ((l).drop k).all (msgOk)) (fun k => (l).length - k) 0 (fun _ _ => rfl) 0 ⟨by simp, by simp⟩ rfl (.cons rfl rfl (.cons rfl rfl (.cons rfl rfl (.nil)))) ?_
    rintro k ⟨hk1, hy⟩
    repeat' (first
    | (refine WO.id ?_; first
      | refine stp1_ok D rfl ?_
      | refine WO.nil ?_
      | refine WO.g rfl rfl rfl ?_
      | refine WO.g0 rfl ?_
      | (refine WO.gs _ rfl rfl rfl ?_ ?_ <;> intro hb <;> simp only [hb] <;> try simp at hb))
    | (refine OpK.id ?_; first
      | refine OpK.of (OpOk.call rfl (msgOk_impl l[k] (hs _ (List.getElem_mem _))) rfl rfl rfl) ?_
      | refine OpK.of (OpOk.lenS D rfl rfl rfl rfl) ?_
      | refine OpK.of (OpOk.lenM D rfl rfl rfl rfl) ?_
      | refine OpK.of (OpOk.lenL D rfl rfl rfl rfl) ?_
      | refine OpK.of (OpOk.lenA D rfl rfl rfl rfl rfl rfl) ?_
      | refine OpK.of (OpOk.lenE D rfl rfl rfl rfl) ?_
      | refine OpK.of (OpOk.inc rfl rfl rfl (by omega)) ?_
      | refine OpK.of (OpOk.add rfl rfl rfl (by omega)) ?_
      | refine OpK.of (OpOk.sub rfl rfl rfl (by omega)) ?_
      | refine OpK.of (OpOk.ixM D rfl rfl rfl rfl rfl rfl (by first | assumption | omega) (fun _ => rfl)) ?_)
    | (refine W.id ?_; first
      | refine W.regs ?_
      | refine W.drs0 mixed (by kernel_rfl) ?_
      | refine W.drs1 mixed (by kernel_rfl) ?_
      | refine W.drs2 mixed (by kernel_rfl) ?_
      | refine W.ret ?_
      | refine W.seq ?_
      | refine W.skip ?_
      | refine W.region ?_
      | refine W.exit ?_
      | refine W.block ?_
      | (refine W.cond rfl ?_ ?_ <;> intro hb <;> try simp at hb)
      | refine W.drawn mixed ?_)
    | (refine Then.id ?_; first
      | refine Then.rn ?_
      | refine Then.rr ?_
      | refine Then.rx ?_)
    | (refine InBlk.id ?_; first
      | refine InBlk.rn ?_
      | refine InBlk.rr ?_
      | refine InBlk.re ?_
      | refine InBlk.rx rfl ?_)
    | (refine WD.id ?_; first
      | refine WD.done rfl ?_
      | refine WD.t rfl ?_ rfl
      | refine WD.g rfl rfl rfl ?_
      | refine WD.u rfl rfl rfl ?_
      | (refine WD.gs _ rfl rfl rfl ?_ ?_ <;> intro hb <;> simp only [hb] <;> try simp at hb))
    | (refine OpD.id ?_; first
      | refine OpD.of (stpR_ok D rfl) ?_
      | refine OpD.of (OpOk.call rfl (msgOk_impl l[k] (hs _ (List.getElem_mem _))) rfl rfl rfl) ?_
      | refine OpD.of (OpOk.lenS D rfl rfl rfl rfl) ?_
      | refine OpD.of (OpOk.lenM D rfl rfl rfl rfl) ?_
      | refine OpD.of (OpOk.lenL D rfl rfl rfl rfl) ?_
      | refine OpD.of (OpOk.lenA D rfl rfl rfl rfl rfl rfl) ?_
      | refine OpD.of (OpOk.lenE D rfl rfl rfl rfl) ?_
      | refine OpD.of (OpOk.inc rfl rfl rfl (by omega)) ?_
      | refine OpD.of (OpOk.add rfl rfl rfl (by omega)) ?_
      | refine OpD.of (OpOk.sub rfl rfl rfl (by omega)) ?_
      | refine OpD.of (OpOk.ixM D rfl rfl rfl rfl rfl rfl (by first | assumption | omega) (fun _ => rfl)) ?_)
    | (refine WE.id ?_; first
      | refine WE.done (by with_unfolding_all rfl) ?_
      | refine WE.step (by with_unfolding_all rfl) ?_)
    | (refine WI.id ?_; first
      | refine WI.r D rfl ?_
      | refine WI.g rfl rfl rfl ?_
      | refine WI.g0 rfl ?_
      | (refine WI.gs _ rfl rfl rfl ?_ ?_ <;> intro hb <;> simp only [hb] <;> try simp at hb))
    | (refine WL.id ?_; first
      | refine WL.cons ?_ ?_
      | exact WL.nil
      | exact WL.on (by with_unfolding_all rfl)
      | refine WL.oc (by with_unfolding_all rfl) ?_ ?_))
    all_goals first
      | (have hlt : k < (l).length := by assumption
         rw [drop_cons hlt, List.all_cons] at hy
         first
         | (refine ⟨.inr rfl, _, _, rfl, .cons (.c (.id rfl)) .nil, ?_⟩; simp_all [resV, X.v, bagOk]; done)
         | (refine ⟨.inr rfl, _, _, rfl, .cons (.c (.id rfl)) .nil, ?_⟩; simp [resV, X.v, bagOk] at *; grind)
         | (refine ⟨k + 1, ⟨by omega, ?_⟩, by omega, (.cons rfl rfl (.cons rfl rfl (.cons rfl rfl (.nil)))), rfl, rfl⟩; simp_all [bagOk]; done)
         | (refine ⟨k + 1, ⟨by omega, ?_⟩, by omega, (.cons rfl rfl (.cons rfl rfl (.cons rfl rfl (.nil)))), rfl, rfl⟩; simp [bagOk] at *; grind))
      | (refine ⟨.inr rfl, _, _, rfl, .cons (.c (.id rfl)) .nil, ?_⟩; rw [drop_nil (by omega)] at hy; simp_all [resV, X.v, bagOk]; done)
      | (refine ⟨.inr rfl, _, _, rfl, .cons (.c (.id rfl)) .nil, ?_⟩; rw [drop_nil (by omega)] at hy; simp [resV, X.v, bagOk] at *; grind)

theorem bagOk_spec (l : List Msg) (hs : ∀ m ∈ l, m.Sm) : Pu Tryz.prog 161 [L Msg.e l] (B (bagOk l)) := by
  refine Pu.of D Tryz.func161 rfl rfl rfl ?_
  repeat' (first
    | (refine WO.id ?_; first
      | refine stp1_ok D rfl ?_
      | refine WO.nil ?_
      | refine WO.g rfl rfl rfl ?_
      | refine WO.g0 rfl ?_
      | (refine WO.gs _ rfl rfl rfl ?_ ?_ <;> intro hb <;> simp only [hb] <;> try simp at hb))
    | (refine OpK.id ?_; first
      | refine OpK.of (OpOk.lenS D rfl rfl rfl rfl) ?_
      | refine OpK.of (OpOk.lenM D rfl rfl rfl rfl) ?_
      | refine OpK.of (OpOk.lenL D rfl rfl rfl rfl) ?_
      | refine OpK.of (OpOk.lenA D rfl rfl rfl rfl rfl rfl) ?_
      | refine OpK.of (OpOk.lenE D rfl rfl rfl rfl) ?_
      | refine OpK.of (OpOk.inc rfl rfl rfl (by omega)) ?_
      | refine OpK.of (OpOk.add rfl rfl rfl (by omega)) ?_
      | refine OpK.of (OpOk.sub rfl rfl rfl (by omega)) ?_
      | refine OpK.of (OpOk.ixM D rfl rfl rfl rfl rfl rfl (by first | assumption | omega) (fun _ => rfl)) ?_)
    | (refine W.id ?_; first
      | refine W.regs ?_
      | refine W.drs0 mixed (by kernel_rfl) ?_
      | refine W.drs1 mixed (by kernel_rfl) ?_
      | refine W.drs2 mixed (by kernel_rfl) ?_
      | refine W.ret ?_
      | refine W.seq ?_
      | refine W.skip ?_
      | refine W.region ?_
      | refine W.exit ?_
      | refine W.block ?_
      | (refine W.cond rfl ?_ ?_ <;> intro hb <;> try simp at hb)
      | refine W.drawn mixed ?_)
    | (refine Then.id ?_; first
      | refine Then.rn ?_
      | refine Then.rr ?_
      | refine Then.rx ?_)
    | (refine InBlk.id ?_; first
      | refine InBlk.rn ?_
      | refine InBlk.rr ?_
      | refine InBlk.re ?_
      | refine InBlk.rx rfl ?_)
    | (refine WD.id ?_; first
      | refine WD.done rfl ?_
      | refine WD.t rfl ?_ rfl
      | refine WD.g rfl rfl rfl ?_
      | refine WD.u rfl rfl rfl ?_
      | (refine WD.gs _ rfl rfl rfl ?_ ?_ <;> intro hb <;> simp only [hb] <;> try simp at hb))
    | (refine OpD.id ?_; first
      | refine OpD.of (stpR_ok D rfl) ?_
      | refine OpD.of (OpOk.lenS D rfl rfl rfl rfl) ?_
      | refine OpD.of (OpOk.lenM D rfl rfl rfl rfl) ?_
      | refine OpD.of (OpOk.lenL D rfl rfl rfl rfl) ?_
      | refine OpD.of (OpOk.lenA D rfl rfl rfl rfl rfl rfl) ?_
      | refine OpD.of (OpOk.lenE D rfl rfl rfl rfl) ?_
      | refine OpD.of (OpOk.inc rfl rfl rfl (by omega)) ?_
      | refine OpD.of (OpOk.add rfl rfl rfl (by omega)) ?_
      | refine OpD.of (OpOk.sub rfl rfl rfl (by omega)) ?_
      | refine OpD.of (OpOk.ixM D rfl rfl rfl rfl rfl rfl (by first | assumption | omega) (fun _ => rfl)) ?_)
    | (refine WE.id ?_; first
      | refine WE.done (by with_unfolding_all rfl) ?_
      | refine WE.step (by with_unfolding_all rfl) ?_)
    | (refine WI.id ?_; first
      | refine WI.r D rfl ?_
      | refine WI.g rfl rfl rfl ?_
      | refine WI.g0 rfl ?_
      | (refine WI.gs _ rfl rfl rfl ?_ ?_ <;> intro hb <;> simp only [hb] <;> try simp at hb))
    | (refine WL.id ?_; first
      | refine WL.cons ?_ ?_
      | exact WL.nil
      | exact WL.on (by with_unfolding_all rfl)
      | refine WL.oc (by with_unfolding_all rfl) ?_ ?_))
  refine W.loop (σ := Nat) (fun k => [(3, I k), (0, L Msg.e l)]) (fun _ => []) (fun k => k ≤ (l).length ∧ k ≤ 10 ∧ bagOk l = (decide ((l).length ≤ 10) && ((l).drop k).all (msgOk))) (fun k => (l).length - k) 0 (fun _ _ => rfl) 0 ⟨by simp, by simp, by simp [bagOk]⟩ rfl (.cons rfl rfl (.cons rfl rfl (.nil))) ?_
  rintro k ⟨hk1, hk2, hy⟩
  repeat' (first
    | (refine WO.id ?_; first
      | refine stp1_ok D rfl ?_
      | refine WO.nil ?_
      | refine WO.g rfl rfl rfl ?_
      | refine WO.g0 rfl ?_
      | (refine WO.gs _ rfl rfl rfl ?_ ?_ <;> intro hb <;> simp only [hb] <;> try simp at hb))
    | (refine OpK.id ?_; first
      | refine OpK.of (OpOk.call rfl (msgOk_spec l[k] (hs _ (List.getElem_mem _))) rfl rfl rfl) ?_
      | refine OpK.of (OpOk.lenS D rfl rfl rfl rfl) ?_
      | refine OpK.of (OpOk.lenM D rfl rfl rfl rfl) ?_
      | refine OpK.of (OpOk.lenL D rfl rfl rfl rfl) ?_
      | refine OpK.of (OpOk.lenA D rfl rfl rfl rfl rfl rfl) ?_
      | refine OpK.of (OpOk.lenE D rfl rfl rfl rfl) ?_
      | refine OpK.of (OpOk.inc rfl rfl rfl (by omega)) ?_
      | refine OpK.of (OpOk.add rfl rfl rfl (by omega)) ?_
      | refine OpK.of (OpOk.sub rfl rfl rfl (by omega)) ?_
      | refine OpK.of (OpOk.ixM D rfl rfl rfl rfl rfl rfl (by first | assumption | omega) (fun _ => rfl)) ?_)
    | (refine W.id ?_; first
      | refine W.regs ?_
      | refine W.drs0 mixed (by kernel_rfl) ?_
      | refine W.drs1 mixed (by kernel_rfl) ?_
      | refine W.drs2 mixed (by kernel_rfl) ?_
      | refine W.ret ?_
      | refine W.seq ?_
      | refine W.skip ?_
      | refine W.region ?_
      | refine W.exit ?_
      | refine W.block ?_
      | (refine W.cond rfl ?_ ?_ <;> intro hb <;> try simp at hb)
      | refine W.drawn mixed ?_)
    | (refine Then.id ?_; first
      | refine Then.rn ?_
      | refine Then.rr ?_
      | refine Then.rx ?_)
    | (refine InBlk.id ?_; first
      | refine InBlk.rn ?_
      | refine InBlk.rr ?_
      | refine InBlk.re ?_
      | refine InBlk.rx rfl ?_)
    | (refine WD.id ?_; first
      | refine WD.done rfl ?_
      | refine WD.t rfl ?_ rfl
      | refine WD.g rfl rfl rfl ?_
      | refine WD.u rfl rfl rfl ?_
      | (refine WD.gs _ rfl rfl rfl ?_ ?_ <;> intro hb <;> simp only [hb] <;> try simp at hb))
    | (refine OpD.id ?_; first
      | refine OpD.of (stpR_ok D rfl) ?_
      | refine OpD.of (OpOk.call rfl (msgOk_spec l[k] (hs _ (List.getElem_mem _))) rfl rfl rfl) ?_
      | refine OpD.of (OpOk.lenS D rfl rfl rfl rfl) ?_
      | refine OpD.of (OpOk.lenM D rfl rfl rfl rfl) ?_
      | refine OpD.of (OpOk.lenL D rfl rfl rfl rfl) ?_
      | refine OpD.of (OpOk.lenA D rfl rfl rfl rfl rfl rfl) ?_
      | refine OpD.of (OpOk.lenE D rfl rfl rfl rfl) ?_
      | refine OpD.of (OpOk.inc rfl rfl rfl (by omega)) ?_
      | refine OpD.of (OpOk.add rfl rfl rfl (by omega)) ?_
      | refine OpD.of (OpOk.sub rfl rfl rfl (by omega)) ?_
      | refine OpD.of (OpOk.ixM D rfl rfl rfl rfl rfl rfl (by first | assumption | omega) (fun _ => rfl)) ?_)
    | (refine WE.id ?_; first
      | refine WE.done (by with_unfolding_all rfl) ?_
      | refine WE.step (by with_unfolding_all rfl) ?_)
    | (refine WI.id ?_; first
      | refine WI.r D rfl ?_
      | refine WI.g rfl rfl rfl ?_
      | refine WI.g0 rfl ?_
      | (refine WI.gs _ rfl rfl rfl ?_ ?_ <;> intro hb <;> simp only [hb] <;> try simp at hb))
    | (refine WL.id ?_; first
      | refine WL.cons ?_ ?_
      | exact WL.nil
      | exact WL.on (by with_unfolding_all rfl)
      | refine WL.oc (by with_unfolding_all rfl) ?_ ?_))
  all_goals first
    | (have hlt : k < (l).length := by assumption
       rw [drop_cons hlt, List.all_cons] at hy
       first
       | (refine ⟨.inr rfl, _, _, rfl, .cons (.c (.id rfl)) .nil, ?_⟩; simp_all [resV, X.v]; done)
       | (refine ⟨.inr rfl, _, _, rfl, .cons (.c (.id rfl)) .nil, ?_⟩; have hno : ¬ (l).length ≤ 10 := by omega
          simp [resV, X.v, hy, hno]; done)
       | exact ⟨k + 1, ⟨by omega, by omega, by simp_all⟩, by omega, (.cons rfl rfl (.cons rfl rfl (.nil))), rfl, rfl⟩)
    | (refine ⟨.inr rfl, _, _, rfl, .cons (.c (.id rfl)) .nil, ?_⟩; have hle : (l).length ≤ 10 := by omega
       rw [drop_nil (by omega)] at hy; simp_all [resV, X.v]; done)

def repOk (r : Rep) : Bool := if noConf r.conf then !r.ready && decide (r.log.length = 0) else confOk r.conf && logOk r.log && (r.ready || decide (r.log.length = 0))
theorem repOk_impl (r : Rep) (hs : r.Sm) : Pu Tryz.prog 173 [A r.e] (B (repOk r)) := by
  refine Pu.of D Tryz.func173 rfl rfl rfl ?_
  repeat' (first
    | (refine WO.id ?_; first
      | refine stp1_ok D rfl ?_
      | refine WO.nil ?_
      | refine WO.g rfl rfl rfl ?_
      | refine WO.g0 rfl ?_
      | (refine WO.gs _ rfl rfl rfl ?_ ?_ <;> intro hb <;> simp only [hb] <;> try simp at hb))
    | (refine OpK.id ?_; first
      | refine OpK.of (OpOk.call rfl (confOk_impl r.conf hs.conf.memN) rfl rfl rfl) ?_
      | refine OpK.of (OpOk.call rfl (noConf_impl r.conf) rfl rfl rfl) ?_
      | refine OpK.of (OpOk.call rfl (logOk_impl r.log) rfl rfl rfl) ?_
      | refine OpK.of (OpOk.lenS D rfl rfl rfl rfl) ?_
      | refine OpK.of (OpOk.lenM D rfl rfl rfl rfl) ?_
      | refine OpK.of (OpOk.lenL D rfl rfl rfl rfl) ?_
      | refine OpK.of (OpOk.lenA D rfl rfl rfl rfl rfl rfl) ?_
      | refine OpK.of (OpOk.lenE D rfl rfl rfl rfl) ?_
      | refine OpK.of (OpOk.inc rfl rfl rfl (by omega)) ?_
      | refine OpK.of (OpOk.add rfl rfl rfl (by omega)) ?_
      | refine OpK.of (OpOk.sub rfl rfl rfl (by omega)) ?_
      | refine OpK.of (OpOk.ixM D rfl rfl rfl rfl rfl rfl (by first | assumption | omega) (fun _ => rfl)) ?_)
    | (refine W.id ?_; first
      | refine W.regs ?_
      | refine W.drs0 mixed (by kernel_rfl) ?_
      | refine W.drs1 mixed (by kernel_rfl) ?_
      | refine W.drs2 mixed (by kernel_rfl) ?_
      | refine W.ret ?_
      | refine W.seq ?_
      | refine W.skip ?_
      | refine W.region ?_
      | refine W.exit ?_
      | refine W.block ?_
      | (refine W.cond rfl ?_ ?_ <;> intro hb <;> try simp at hb)
      | refine W.drawn mixed ?_)
    | (refine Then.id ?_; first
      | refine Then.rn ?_
      | refine Then.rr ?_
      | refine Then.rx ?_)
    | (refine InBlk.id ?_; first
      | refine InBlk.rn ?_
      | refine InBlk.rr ?_
      | refine InBlk.re ?_
      | refine InBlk.rx rfl ?_)
    | (refine WD.id ?_; first
      | refine WD.done rfl ?_
      | refine WD.t rfl ?_ rfl
      | refine WD.g rfl rfl rfl ?_
      | refine WD.u rfl rfl rfl ?_
      | (refine WD.gs _ rfl rfl rfl ?_ ?_ <;> intro hb <;> simp only [hb] <;> try simp at hb))
    | (refine OpD.id ?_; first
      | refine OpD.of (stpR_ok D rfl) ?_
      | refine OpD.of (OpOk.call rfl (confOk_impl r.conf hs.conf.memN) rfl rfl rfl) ?_
      | refine OpD.of (OpOk.call rfl (noConf_impl r.conf) rfl rfl rfl) ?_
      | refine OpD.of (OpOk.call rfl (logOk_impl r.log) rfl rfl rfl) ?_
      | refine OpD.of (OpOk.lenS D rfl rfl rfl rfl) ?_
      | refine OpD.of (OpOk.lenM D rfl rfl rfl rfl) ?_
      | refine OpD.of (OpOk.lenL D rfl rfl rfl rfl) ?_
      | refine OpD.of (OpOk.lenA D rfl rfl rfl rfl rfl rfl) ?_
      | refine OpD.of (OpOk.lenE D rfl rfl rfl rfl) ?_
      | refine OpD.of (OpOk.inc rfl rfl rfl (by omega)) ?_
      | refine OpD.of (OpOk.add rfl rfl rfl (by omega)) ?_
      | refine OpD.of (OpOk.sub rfl rfl rfl (by omega)) ?_
      | refine OpD.of (OpOk.ixM D rfl rfl rfl rfl rfl rfl (by first | assumption | omega) (fun _ => rfl)) ?_)
    | (refine WE.id ?_; first
      | refine WE.done (by with_unfolding_all rfl) ?_
      | refine WE.step (by with_unfolding_all rfl) ?_)
    | (refine WI.id ?_; first
      | refine WI.r D rfl ?_
      | refine WI.g rfl rfl rfl ?_
      | refine WI.g0 rfl ?_
      | (refine WI.gs _ rfl rfl rfl ?_ ?_ <;> intro hb <;> simp only [hb] <;> try simp at hb))
    | (refine WL.id ?_; first
      | refine WL.cons ?_ ?_
      | exact WL.nil
      | exact WL.on (by with_unfolding_all rfl)
      | refine WL.oc (by with_unfolding_all rfl) ?_ ?_))
  all_goals refine ⟨.inr rfl, _, _, rfl, .cons (.c (.id rfl)) .nil, ?_⟩
  all_goals (simp [resV, X.v, repOk] at *; have hl := len0 r.log; grind)
theorem repOk_spec (r : Rep) (hs : r.Sm) : Pu Tryz.prog 162 [A r.e] (B (repOk r)) := by
  refine Pu.of D Tryz.func162 rfl rfl rfl ?_
  repeat' (first
    | (refine WO.id ?_; first
      | refine stp1_ok D rfl ?_
      | refine WO.nil ?_
      | refine WO.g rfl rfl rfl ?_
      | refine WO.g0 rfl ?_
      | (refine WO.gs _ rfl rfl rfl ?_ ?_ <;> intro hb <;> simp only [hb] <;> try simp at hb))
    | (refine OpK.id ?_; first
      | refine OpK.of (OpOk.call rfl (confOk_spec r.conf hs.conf.memN) rfl rfl rfl) ?_
      | refine OpK.of (OpOk.call rfl (noConf_spec r.conf) rfl rfl rfl) ?_
      | refine OpK.of (OpOk.call rfl (logOk_spec r.log) rfl rfl rfl) ?_
      | refine OpK.of (OpOk.lenS D rfl rfl rfl rfl) ?_
      | refine OpK.of (OpOk.lenM D rfl rfl rfl rfl) ?_
      | refine OpK.of (OpOk.lenL D rfl rfl rfl rfl) ?_
      | refine OpK.of (OpOk.lenA D rfl rfl rfl rfl rfl rfl) ?_
      | refine OpK.of (OpOk.lenE D rfl rfl rfl rfl) ?_
      | refine OpK.of (OpOk.inc rfl rfl rfl (by omega)) ?_
      | refine OpK.of (OpOk.add rfl rfl rfl (by omega)) ?_
      | refine OpK.of (OpOk.sub rfl rfl rfl (by omega)) ?_
      | refine OpK.of (OpOk.ixM D rfl rfl rfl rfl rfl rfl (by first | assumption | omega) (fun _ => rfl)) ?_)
    | (refine W.id ?_; first
      | refine W.regs ?_
      | refine W.drs0 mixed (by kernel_rfl) ?_
      | refine W.drs1 mixed (by kernel_rfl) ?_
      | refine W.drs2 mixed (by kernel_rfl) ?_
      | refine W.ret ?_
      | refine W.seq ?_
      | refine W.skip ?_
      | refine W.region ?_
      | refine W.exit ?_
      | refine W.block ?_
      | (refine W.cond rfl ?_ ?_ <;> intro hb <;> try simp at hb)
      | refine W.drawn mixed ?_)
    | (refine Then.id ?_; first
      | refine Then.rn ?_
      | refine Then.rr ?_
      | refine Then.rx ?_)
    | (refine InBlk.id ?_; first
      | refine InBlk.rn ?_
      | refine InBlk.rr ?_
      | refine InBlk.re ?_
      | refine InBlk.rx rfl ?_)
    | (refine WD.id ?_; first
      | refine WD.done rfl ?_
      | refine WD.t rfl ?_ rfl
      | refine WD.g rfl rfl rfl ?_
      | refine WD.u rfl rfl rfl ?_
      | (refine WD.gs _ rfl rfl rfl ?_ ?_ <;> intro hb <;> simp only [hb] <;> try simp at hb))
    | (refine OpD.id ?_; first
      | refine OpD.of (stpR_ok D rfl) ?_
      | refine OpD.of (OpOk.call rfl (confOk_spec r.conf hs.conf.memN) rfl rfl rfl) ?_
      | refine OpD.of (OpOk.call rfl (noConf_spec r.conf) rfl rfl rfl) ?_
      | refine OpD.of (OpOk.call rfl (logOk_spec r.log) rfl rfl rfl) ?_
      | refine OpD.of (OpOk.lenS D rfl rfl rfl rfl) ?_
      | refine OpD.of (OpOk.lenM D rfl rfl rfl rfl) ?_
      | refine OpD.of (OpOk.lenL D rfl rfl rfl rfl) ?_
      | refine OpD.of (OpOk.lenA D rfl rfl rfl rfl rfl rfl) ?_
      | refine OpD.of (OpOk.lenE D rfl rfl rfl rfl) ?_
      | refine OpD.of (OpOk.inc rfl rfl rfl (by omega)) ?_
      | refine OpD.of (OpOk.add rfl rfl rfl (by omega)) ?_
      | refine OpD.of (OpOk.sub rfl rfl rfl (by omega)) ?_
      | refine OpD.of (OpOk.ixM D rfl rfl rfl rfl rfl rfl (by first | assumption | omega) (fun _ => rfl)) ?_)
    | (refine WE.id ?_; first
      | refine WE.done (by with_unfolding_all rfl) ?_
      | refine WE.step (by with_unfolding_all rfl) ?_)
    | (refine WI.id ?_; first
      | refine WI.r D rfl ?_
      | refine WI.g rfl rfl rfl ?_
      | refine WI.g0 rfl ?_
      | (refine WI.gs _ rfl rfl rfl ?_ ?_ <;> intro hb <;> simp only [hb] <;> try simp at hb))
    | (refine WL.id ?_; first
      | refine WL.cons ?_ ?_
      | exact WL.nil
      | exact WL.on (by with_unfolding_all rfl)
      | refine WL.oc (by with_unfolding_all rfl) ?_ ?_))
  all_goals refine ⟨.inr rfl, _, _, rfl, .cons (.c (.id rfl)) .nil, ?_⟩
  all_goals (simp [resV, X.v, repOk] at *; have hl := len0 r.log; grind)
end Go.YtakiodehjhpgkaaGreatMc

namespace Go.YtakiodehjhpgkaaGreatMc
open Go.Proofs
/-! ### The order of strings -/
theorem lt_anti : ∀ (a b : List UInt8), Op.bytesLess a b = !(Op.bytesLess b a || b == a)
  | [], [] => rfl
  | [], _ :: _ => by simp [Op.bytesLess]
  | _ :: _, [] => by simp [Op.bytesLess]
  | x :: a, y :: b => by
    have ih := lt_anti a b
    simp only [Op.bytesLess, ih]
    by_cases h1 : x < y
    · have h2 : ¬ y < x := fun h => UInt8.lt_asymm h1 h
      have h3 : ¬ y = x := fun h => by subst h; exact UInt8.lt_irrefl _ h1
      simp [h1, h2, h3]
    · by_cases h2 : y < x
      · have h3 : ¬ x = y := fun h => by subst h; exact UInt8.lt_irrefl _ h2
        simp [h1, h2, h3]
      · have h3 : x = y := UInt8.le_antisymm (UInt8.not_lt.1 h2) (UInt8.not_lt.1 h1)
        subst h3
        simp [UInt8.lt_irrefl]
/-! ### Pairs and sessions, in order -/
/-- What stands ahead of the element k. -/
def ahead {α : Type} (l : List α) (k : Nat) : Option α := if k = 0 then none else l[k - 1]?
def prOk (p : Option Pr) (a : Pr) : Bool := keyOk a.key && inR a.val 0 999 && (match p with | none => true | some q => lt q.key a.key)
def seOk (p : Option Ses) (a : Ses) : Bool := inR a.client 0 3 && inR a.seq 1 999 && inR a.reply (-2) 999 && (match p with | none => true | some q => decide (q.client < a.client))
def rowOk {α : Type} (f : Option α → α → Bool) : Option α → List α → Bool
  | _, [] => true
  | p, a :: l => f p a && rowOk f (some a) l
theorem rowOk_cons {α : Type} (f : Option α → α → Bool) {l : List α} {k : Nat} (h : k < l.length) : rowOk f (ahead l k) (l.drop k) = (f (ahead l k) l[k] && rowOk f (ahead l (k + 1)) (l.drop (k + 1))) := by
  rw [drop_cons h, rowOk]
  have : ahead l (k + 1) = some l[k] := by simp [ahead, h]
  rw [this]
theorem rowOk_nil {α : Type} (f : Option α → α → Bool) {l : List α} {k : Nat} (h : l.length ≤ k) : rowOk f (ahead l k) (l.drop k) = true := by rw [drop_nil h, rowOk]
theorem ahead_0 {α : Type} {l : List α} {k : Nat} (h : k = 0) : ahead l k = none := by simp [ahead, h]
theorem ahead_s {α : Type} {l : List α} {k : Nat} (h : k ≠ 0) (hk : k - 1 < l.length) : ahead l k = some l[k - 1] := by simp [ahead, h, hk]
theorem toNat_pred {k : Nat} (h : k ≠ 0) : ((k : Int) - 1).toNat = k - 1 := by omega
def pairsOk (l : List Pr) : Bool := decide (l.length ≤ 48) && rowOk prOk none l
def sesOk (l : List Ses) : Bool := rowOk seOk none l
theorem pairsOk_impl (l : List Pr) : Pu Tryz.prog 266 [L Pr.e l] (B (pairsOk l)) := by
  refine Pu.of D Tryz.func266 rfl rfl rfl ?_
  repeat' (first
    | (refine WO.id ?_; first
      | refine stp1_ok D rfl ?_
      | refine WO.nil ?_
      | refine WO.g rfl rfl rfl ?_
      | refine WO.g0 rfl ?_
      | (refine WO.gs _ rfl rfl rfl ?_ ?_ <;> intro hb <;> simp only [hb] <;> try simp at hb))
    | (refine OpK.id ?_; first
      | refine OpK.of (OpOk.lenS D rfl rfl rfl rfl) ?_
      | refine OpK.of (OpOk.lenM D rfl rfl rfl rfl) ?_
      | refine OpK.of (OpOk.lenL D rfl rfl rfl rfl) ?_
      | refine OpK.of (OpOk.lenA D rfl rfl rfl rfl rfl rfl) ?_
      | refine OpK.of (OpOk.lenE D rfl rfl rfl rfl) ?_
      | refine OpK.of (OpOk.inc rfl rfl rfl (by omega)) ?_
      | refine OpK.of (OpOk.add rfl rfl rfl (by omega)) ?_
      | refine OpK.of (OpOk.sub rfl rfl rfl (by omega)) ?_
      | refine OpK.of (OpOk.ixM D rfl rfl rfl rfl rfl rfl (by first | assumption | omega) (fun _ => rfl)) ?_)
    | (refine W.id ?_; first
      | refine W.regs ?_
      | refine W.drs0 mixed (by kernel_rfl) ?_
      | refine W.drs1 mixed (by kernel_rfl) ?_
      | refine W.drs2 mixed (by kernel_rfl) ?_
      | refine W.ret ?_
      | refine W.seq ?_
      | refine W.skip ?_
      | refine W.region ?_
      | refine W.exit ?_
      | refine W.block ?_
      | (refine W.cond rfl ?_ ?_ <;> intro hb <;> try simp at hb)
      | refine W.drawn mixed ?_)
    | (refine Then.id ?_; first
      | refine Then.rn ?_
      | refine Then.rr ?_
      | refine Then.rx ?_)
    | (refine InBlk.id ?_; first
      | refine InBlk.rn ?_
      | refine InBlk.rr ?_
      | refine InBlk.re ?_
      | refine InBlk.rx rfl ?_)
    | (refine WD.id ?_; first
      | refine WD.done rfl ?_
      | refine WD.t rfl ?_ rfl
      | refine WD.g rfl rfl rfl ?_
      | refine WD.u rfl rfl rfl ?_
      | (refine WD.gs _ rfl rfl rfl ?_ ?_ <;> intro hb <;> simp only [hb] <;> try simp at hb))
    | (refine OpD.id ?_; first
      | refine OpD.of (stpR_ok D rfl) ?_
      | refine OpD.of (OpOk.lenS D rfl rfl rfl rfl) ?_
      | refine OpD.of (OpOk.lenM D rfl rfl rfl rfl) ?_
      | refine OpD.of (OpOk.lenL D rfl rfl rfl rfl) ?_
      | refine OpD.of (OpOk.lenA D rfl rfl rfl rfl rfl rfl) ?_
      | refine OpD.of (OpOk.lenE D rfl rfl rfl rfl) ?_
      | refine OpD.of (OpOk.inc rfl rfl rfl (by omega)) ?_
      | refine OpD.of (OpOk.add rfl rfl rfl (by omega)) ?_
      | refine OpD.of (OpOk.sub rfl rfl rfl (by omega)) ?_
      | refine OpD.of (OpOk.ixM D rfl rfl rfl rfl rfl rfl (by first | assumption | omega) (fun _ => rfl)) ?_)
    | (refine WE.id ?_; first
      | refine WE.done (by with_unfolding_all rfl) ?_
      | refine WE.step (by with_unfolding_all rfl) ?_)
    | (refine WI.id ?_; first
      | refine WI.r D rfl ?_
      | refine WI.g rfl rfl rfl ?_
      | refine WI.g0 rfl ?_
      | (refine WI.gs _ rfl rfl rfl ?_ ?_ <;> intro hb <;> simp only [hb] <;> try simp at hb))
    | (refine WL.id ?_; first
      | refine WL.cons ?_ ?_
      | exact WL.nil
      | exact WL.on (by with_unfolding_all rfl)
      | refine WL.oc (by with_unfolding_all rfl) ?_ ?_))
  · refine ⟨.inr rfl, _, _, rfl, .cons (.c (.id rfl)) .nil, ?_⟩
    simp [resV, X.v, pairsOk] at *; grind
  refine W.loop (σ := Nat) (fun k => [(10, I k), (9, I l.length), (8, L Pr.e l), (0, L Pr.e l)]) (fun _ => []) (fun k => k ≤ l.length ∧ pairsOk l = rowOk prOk (ahead l k) (l.drop k)) (fun k => l.length - k) 0 (fun _ _ => rfl) 0 ⟨by simp, by simp [pairsOk, ahead]; omega⟩ rfl (.cons rfl rfl (.cons rfl rfl (.cons rfl rfl (.cons rfl rfl (.nil))))) ?_
  rintro k ⟨hk1, hy⟩
  repeat' (first
    | (refine WO.id ?_; first
      | refine stp1_ok D rfl ?_
      | refine WO.nil ?_
      | refine WO.g rfl rfl rfl ?_
      | refine WO.g0 rfl ?_
      | (refine WO.gs _ rfl rfl rfl ?_ ?_ <;> intro hb <;> simp only [hb] <;> try simp at hb))
    | (refine OpK.id ?_; first
      | refine OpK.of (OpOk.call rfl (keyOk_impl l[k].key) rfl rfl rfl) ?_
      | refine OpK.of (OpOk.call rfl (value_ok _) rfl rfl rfl) ?_
      | refine OpK.of (OpOk.ixI D rfl rfl rfl rfl rfl rfl (by omega) (by omega) (fun _ => rfl)) ?_
      | refine OpK.of (OpOk.lenS D rfl rfl rfl rfl) ?_
      | refine OpK.of (OpOk.lenM D rfl rfl rfl rfl) ?_
      | refine OpK.of (OpOk.lenL D rfl rfl rfl rfl) ?_
      | refine OpK.of (OpOk.lenA D rfl rfl rfl rfl rfl rfl) ?_
      | refine OpK.of (OpOk.lenE D rfl rfl rfl rfl) ?_
      | refine OpK.of (OpOk.inc rfl rfl rfl (by omega)) ?_
      | refine OpK.of (OpOk.add rfl rfl rfl (by omega)) ?_
      | refine OpK.of (OpOk.sub rfl rfl rfl (by omega)) ?_
      | refine OpK.of (OpOk.ixM D rfl rfl rfl rfl rfl rfl (by first | assumption | omega) (fun _ => rfl)) ?_)
    | (refine W.id ?_; first
      | refine W.regs ?_
      | refine W.drs0 mixed (by kernel_rfl) ?_
      | refine W.drs1 mixed (by kernel_rfl) ?_
      | refine W.drs2 mixed (by kernel_rfl) ?_
      | refine W.ret ?_
      | refine W.seq ?_
      | refine W.skip ?_
      | refine W.region ?_
      | refine W.exit ?_
      | refine W.block ?_
      | (refine W.cond rfl ?_ ?_ <;> intro hb <;> try simp at hb)
      | refine W.drawn mixed ?_)
    | (refine Then.id ?_; first
      | refine Then.rn ?_
      | refine Then.rr ?_
      | refine Then.rx ?_)
    | (refine InBlk.id ?_; first
      | refine InBlk.rn ?_
      | refine InBlk.rr ?_
      | refine InBlk.re ?_
      | refine InBlk.rx rfl ?_)
    | (refine WD.id ?_; first
      | refine WD.done rfl ?_
      | refine WD.t rfl ?_ rfl
      | refine WD.g rfl rfl rfl ?_
      | refine WD.u rfl rfl rfl ?_
      | (refine WD.gs _ rfl rfl rfl ?_ ?_ <;> intro hb <;> simp only [hb] <;> try simp at hb))
    | (refine OpD.id ?_; first
      | refine OpD.of (stpR_ok D rfl) ?_
      | refine OpD.of (OpOk.call rfl (keyOk_impl l[k].key) rfl rfl rfl) ?_
      | refine OpD.of (OpOk.call rfl (value_ok _) rfl rfl rfl) ?_
      | refine OpD.of (OpOk.ixI D rfl rfl rfl rfl rfl rfl (by omega) (by omega) (fun _ => rfl)) ?_
      | refine OpD.of (OpOk.lenS D rfl rfl rfl rfl) ?_
      | refine OpD.of (OpOk.lenM D rfl rfl rfl rfl) ?_
      | refine OpD.of (OpOk.lenL D rfl rfl rfl rfl) ?_
      | refine OpD.of (OpOk.lenA D rfl rfl rfl rfl rfl rfl) ?_
      | refine OpD.of (OpOk.lenE D rfl rfl rfl rfl) ?_
      | refine OpD.of (OpOk.inc rfl rfl rfl (by omega)) ?_
      | refine OpD.of (OpOk.add rfl rfl rfl (by omega)) ?_
      | refine OpD.of (OpOk.sub rfl rfl rfl (by omega)) ?_
      | refine OpD.of (OpOk.ixM D rfl rfl rfl rfl rfl rfl (by first | assumption | omega) (fun _ => rfl)) ?_)
    | (refine WE.id ?_; first
      | refine WE.done (by with_unfolding_all rfl) ?_
      | refine WE.step (by with_unfolding_all rfl) ?_)
    | (refine WI.id ?_; first
      | refine WI.r D rfl ?_
      | refine WI.g rfl rfl rfl ?_
      | refine WI.g0 rfl ?_
      | (refine WI.gs _ rfl rfl rfl ?_ ?_ <;> intro hb <;> simp only [hb] <;> try simp at hb))
    | (refine WL.id ?_; first
      | refine WL.cons ?_ ?_
      | exact WL.nil
      | exact WL.on (by with_unfolding_all rfl)
      | refine WL.oc (by with_unfolding_all rfl) ?_ ?_))
  all_goals first
    | (have hlt : k < l.length := by assumption
       rw [rowOk_cons _ hlt] at hy
       by_cases hk0 : k = 0
       · rw [ahead_0 hk0] at hy
         first
          | (refine ⟨.inr rfl, _, _, rfl, .cons (.c (.id rfl)) .nil, ?_⟩; simp_all [resV, X.v, prOk, lt]; done)
          | (refine ⟨.inr rfl, _, _, rfl, .cons (.c (.id rfl)) .nil, ?_⟩; simp [resV, X.v, prOk, lt] at *; grind)
          | (refine ⟨k + 1, ⟨by omega, ?_⟩, by omega, (.cons rfl rfl (.cons rfl rfl (.cons rfl rfl (.cons rfl rfl (.nil))))), rfl, rfl⟩; simp_all [prOk, lt]; done)
          | (refine ⟨k + 1, ⟨by omega, ?_⟩, by omega, (.cons rfl rfl (.cons rfl rfl (.cons rfl rfl (.cons rfl rfl (.nil))))), rfl, rfl⟩; simp_all [prOk, lt]; omega)
          | (refine ⟨k + 1, ⟨by omega, ?_⟩, by omega, (.cons rfl rfl (.cons rfl rfl (.cons rfl rfl (.cons rfl rfl (.nil))))), rfl, rfl⟩; simp [prOk, lt] at *; grind)
          | (exfalso; omega)
       · rw [ahead_s hk0 (by omega)] at hy
         first
          | (refine ⟨.inr rfl, _, _, rfl, .cons (.c (.id rfl)) .nil, ?_⟩; simp_all [resV, X.v, prOk, lt]; done)
          | (refine ⟨.inr rfl, _, _, rfl, .cons (.c (.id rfl)) .nil, ?_⟩; simp [resV, X.v, prOk, lt] at *; grind)
          | (refine ⟨k + 1, ⟨by omega, ?_⟩, by omega, (.cons rfl rfl (.cons rfl rfl (.cons rfl rfl (.cons rfl rfl (.nil))))), rfl, rfl⟩; simp_all [prOk, lt]; done)
          | (refine ⟨k + 1, ⟨by omega, ?_⟩, by omega, (.cons rfl rfl (.cons rfl rfl (.cons rfl rfl (.cons rfl rfl (.nil))))), rfl, rfl⟩; simp_all [prOk, lt]; omega)
          | (refine ⟨k + 1, ⟨by omega, ?_⟩, by omega, (.cons rfl rfl (.cons rfl rfl (.cons rfl rfl (.cons rfl rfl (.nil))))), rfl, rfl⟩; simp [prOk, lt] at *; grind)
          | (exfalso; omega))
    | (refine ⟨.inr rfl, _, _, rfl, .cons (.c (.id rfl)) .nil, ?_⟩; rw [rowOk_nil _ (by omega)] at hy; simp_all [resV, X.v]; done)

theorem pairsOk_spec (l : List Pr) : Pu Tryz.prog 256 [L Pr.e l] (B (pairsOk l)) := by
  refine Pu.of D Tryz.func256 rfl rfl rfl ?_
  repeat' (first
    | (refine WO.id ?_; first
      | refine stp1_ok D rfl ?_
      | refine WO.nil ?_
      | refine WO.g rfl rfl rfl ?_
      | refine WO.g0 rfl ?_
      | (refine WO.gs _ rfl rfl rfl ?_ ?_ <;> intro hb <;> simp only [hb] <;> try simp at hb))
    | (refine OpK.id ?_; first
      | refine OpK.of (OpOk.lenS D rfl rfl rfl rfl) ?_
      | refine OpK.of (OpOk.lenM D rfl rfl rfl rfl) ?_
      | refine OpK.of (OpOk.lenL D rfl rfl rfl rfl) ?_
      | refine OpK.of (OpOk.lenA D rfl rfl rfl rfl rfl rfl) ?_
      | refine OpK.of (OpOk.lenE D rfl rfl rfl rfl) ?_
      | refine OpK.of (OpOk.inc rfl rfl rfl (by omega)) ?_
      | refine OpK.of (OpOk.add rfl rfl rfl (by omega)) ?_
      | refine OpK.of (OpOk.sub rfl rfl rfl (by omega)) ?_
      | refine OpK.of (OpOk.ixM D rfl rfl rfl rfl rfl rfl (by first | assumption | omega) (fun _ => rfl)) ?_)
    | (refine W.id ?_; first
      | refine W.regs ?_
      | refine W.drs0 mixed (by kernel_rfl) ?_
      | refine W.drs1 mixed (by kernel_rfl) ?_
      | refine W.drs2 mixed (by kernel_rfl) ?_
      | refine W.ret ?_
      | refine W.seq ?_
      | refine W.skip ?_
      | refine W.region ?_
      | refine W.exit ?_
      | refine W.block ?_
      | (refine W.cond rfl ?_ ?_ <;> intro hb <;> try simp at hb)
      | refine W.drawn mixed ?_)
    | (refine Then.id ?_; first
      | refine Then.rn ?_
      | refine Then.rr ?_
      | refine Then.rx ?_)
    | (refine InBlk.id ?_; first
      | refine InBlk.rn ?_
      | refine InBlk.rr ?_
      | refine InBlk.re ?_
      | refine InBlk.rx rfl ?_)
    | (refine WD.id ?_; first
      | refine WD.done rfl ?_
      | refine WD.t rfl ?_ rfl
      | refine WD.g rfl rfl rfl ?_
      | refine WD.u rfl rfl rfl ?_
      | (refine WD.gs _ rfl rfl rfl ?_ ?_ <;> intro hb <;> simp only [hb] <;> try simp at hb))
    | (refine OpD.id ?_; first
      | refine OpD.of (stpR_ok D rfl) ?_
      | refine OpD.of (OpOk.lenS D rfl rfl rfl rfl) ?_
      | refine OpD.of (OpOk.lenM D rfl rfl rfl rfl) ?_
      | refine OpD.of (OpOk.lenL D rfl rfl rfl rfl) ?_
      | refine OpD.of (OpOk.lenA D rfl rfl rfl rfl rfl rfl) ?_
      | refine OpD.of (OpOk.lenE D rfl rfl rfl rfl) ?_
      | refine OpD.of (OpOk.inc rfl rfl rfl (by omega)) ?_
      | refine OpD.of (OpOk.add rfl rfl rfl (by omega)) ?_
      | refine OpD.of (OpOk.sub rfl rfl rfl (by omega)) ?_
      | refine OpD.of (OpOk.ixM D rfl rfl rfl rfl rfl rfl (by first | assumption | omega) (fun _ => rfl)) ?_)
    | (refine WE.id ?_; first
      | refine WE.done (by with_unfolding_all rfl) ?_
      | refine WE.step (by with_unfolding_all rfl) ?_)
    | (refine WI.id ?_; first
      | refine WI.r D rfl ?_
      | refine WI.g rfl rfl rfl ?_
      | refine WI.g0 rfl ?_
      | (refine WI.gs _ rfl rfl rfl ?_ ?_ <;> intro hb <;> simp only [hb] <;> try simp at hb))
    | (refine WL.id ?_; first
      | refine WL.cons ?_ ?_
      | exact WL.nil
      | exact WL.on (by with_unfolding_all rfl)
      | refine WL.oc (by with_unfolding_all rfl) ?_ ?_))
  · refine ⟨.inr rfl, _, _, rfl, .cons (.c (.id rfl)) .nil, ?_⟩
    simp [resV, X.v, pairsOk] at *; grind
  refine W.loop (σ := Nat) (fun k => [(3, I k), (0, L Pr.e l)]) (fun _ => []) (fun k => k ≤ l.length ∧ pairsOk l = rowOk prOk (ahead l k) (l.drop k)) (fun k => l.length - k) 0 (fun _ _ => rfl) 0 ⟨by simp, by simp [pairsOk, ahead]; omega⟩ rfl (.cons rfl rfl (.cons rfl rfl (.nil))) ?_
  rintro k ⟨hk1, hy⟩
  repeat' (first
    | (refine WO.id ?_; first
      | refine stp1_ok D rfl ?_
      | refine WO.nil ?_
      | refine WO.g rfl rfl rfl ?_
      | refine WO.g0 rfl ?_
      | (refine WO.gs _ rfl rfl rfl ?_ ?_ <;> intro hb <;> simp only [hb] <;> try simp at hb))
    | (refine OpK.id ?_; first
      | refine OpK.of (OpOk.call rfl (keyOk_spec l[k].key) rfl rfl rfl) ?_
      | refine OpK.of (OpOk.call rfl (in_ok _ _ _) rfl rfl rfl) ?_
      | refine OpK.of (OpOk.ixI D rfl rfl rfl rfl rfl rfl (by omega) (by omega) (fun _ => rfl)) ?_
      | refine OpK.of (OpOk.lenS D rfl rfl rfl rfl) ?_
      | refine OpK.of (OpOk.lenM D rfl rfl rfl rfl) ?_
      | refine OpK.of (OpOk.lenL D rfl rfl rfl rfl) ?_
      | refine OpK.of (OpOk.lenA D rfl rfl rfl rfl rfl rfl) ?_
      | refine OpK.of (OpOk.lenE D rfl rfl rfl rfl) ?_
      | refine OpK.of (OpOk.inc rfl rfl rfl (by omega)) ?_
      | refine OpK.of (OpOk.add rfl rfl rfl (by omega)) ?_
      | refine OpK.of (OpOk.sub rfl rfl rfl (by omega)) ?_
      | refine OpK.of (OpOk.ixM D rfl rfl rfl rfl rfl rfl (by first | assumption | omega) (fun _ => rfl)) ?_)
    | (refine W.id ?_; first
      | refine W.regs ?_
      | refine W.drs0 mixed (by kernel_rfl) ?_
      | refine W.drs1 mixed (by kernel_rfl) ?_
      | refine W.drs2 mixed (by kernel_rfl) ?_
      | refine W.ret ?_
      | refine W.seq ?_
      | refine W.skip ?_
      | refine W.region ?_
      | refine W.exit ?_
      | refine W.block ?_
      | (refine W.cond rfl ?_ ?_ <;> intro hb <;> try simp at hb)
      | refine W.drawn mixed ?_)
    | (refine Then.id ?_; first
      | refine Then.rn ?_
      | refine Then.rr ?_
      | refine Then.rx ?_)
    | (refine InBlk.id ?_; first
      | refine InBlk.rn ?_
      | refine InBlk.rr ?_
      | refine InBlk.re ?_
      | refine InBlk.rx rfl ?_)
    | (refine WD.id ?_; first
      | refine WD.done rfl ?_
      | refine WD.t rfl ?_ rfl
      | refine WD.g rfl rfl rfl ?_
      | refine WD.u rfl rfl rfl ?_
      | (refine WD.gs _ rfl rfl rfl ?_ ?_ <;> intro hb <;> simp only [hb] <;> try simp at hb))
    | (refine OpD.id ?_; first
      | refine OpD.of (stpR_ok D rfl) ?_
      | refine OpD.of (OpOk.call rfl (keyOk_spec l[k].key) rfl rfl rfl) ?_
      | refine OpD.of (OpOk.call rfl (in_ok _ _ _) rfl rfl rfl) ?_
      | refine OpD.of (OpOk.ixI D rfl rfl rfl rfl rfl rfl (by omega) (by omega) (fun _ => rfl)) ?_
      | refine OpD.of (OpOk.lenS D rfl rfl rfl rfl) ?_
      | refine OpD.of (OpOk.lenM D rfl rfl rfl rfl) ?_
      | refine OpD.of (OpOk.lenL D rfl rfl rfl rfl) ?_
      | refine OpD.of (OpOk.lenA D rfl rfl rfl rfl rfl rfl) ?_
      | refine OpD.of (OpOk.lenE D rfl rfl rfl rfl) ?_
      | refine OpD.of (OpOk.inc rfl rfl rfl (by omega)) ?_
      | refine OpD.of (OpOk.add rfl rfl rfl (by omega)) ?_
      | refine OpD.of (OpOk.sub rfl rfl rfl (by omega)) ?_
      | refine OpD.of (OpOk.ixM D rfl rfl rfl rfl rfl rfl (by first | assumption | omega) (fun _ => rfl)) ?_)
    | (refine WE.id ?_; first
      | refine WE.done (by with_unfolding_all rfl) ?_
      | refine WE.step (by with_unfolding_all rfl) ?_)
    | (refine WI.id ?_; first
      | refine WI.r D rfl ?_
      | refine WI.g rfl rfl rfl ?_
      | refine WI.g0 rfl ?_
      | (refine WI.gs _ rfl rfl rfl ?_ ?_ <;> intro hb <;> simp only [hb] <;> try simp at hb))
    | (refine WL.id ?_; first
      | refine WL.cons ?_ ?_
      | exact WL.nil
      | exact WL.on (by with_unfolding_all rfl)
      | refine WL.oc (by with_unfolding_all rfl) ?_ ?_))
  all_goals first
    | (have hlt : k < l.length := by assumption
       rw [rowOk_cons _ hlt] at hy
       by_cases hk0 : k = 0
       · rw [ahead_0 hk0] at hy
         first
          | (refine ⟨.inr rfl, _, _, rfl, .cons (.c (.id rfl)) .nil, ?_⟩; simp_all [resV, X.v, prOk, lt, lt_anti l[k - 1].key l[k].key]; done)
          | (refine ⟨.inr rfl, _, _, rfl, .cons (.c (.id rfl)) .nil, ?_⟩; simp [resV, X.v, prOk, lt, lt_anti l[k - 1].key l[k].key] at *; grind)
          | (refine ⟨k + 1, ⟨by omega, ?_⟩, by omega, (.cons rfl rfl (.cons rfl rfl (.nil))), rfl, rfl⟩; simp_all [prOk, lt, lt_anti l[k - 1].key l[k].key]; done)
          | (refine ⟨k + 1, ⟨by omega, ?_⟩, by omega, (.cons rfl rfl (.cons rfl rfl (.nil))), rfl, rfl⟩; simp_all [prOk, lt, lt_anti l[k - 1].key l[k].key]; omega)
          | (refine ⟨k + 1, ⟨by omega, ?_⟩, by omega, (.cons rfl rfl (.cons rfl rfl (.nil))), rfl, rfl⟩; simp [prOk, lt, lt_anti l[k - 1].key l[k].key] at *; grind)
          | (exfalso; omega)
       · rw [ahead_s hk0 (by omega)] at hy
         first
          | (refine ⟨.inr rfl, _, _, rfl, .cons (.c (.id rfl)) .nil, ?_⟩; simp_all [resV, X.v, prOk, lt, lt_anti l[k - 1].key l[k].key]; done)
          | (refine ⟨.inr rfl, _, _, rfl, .cons (.c (.id rfl)) .nil, ?_⟩; simp [resV, X.v, prOk, lt, lt_anti l[k - 1].key l[k].key] at *; grind)
          | (refine ⟨k + 1, ⟨by omega, ?_⟩, by omega, (.cons rfl rfl (.cons rfl rfl (.nil))), rfl, rfl⟩; simp_all [prOk, lt, lt_anti l[k - 1].key l[k].key]; done)
          | (refine ⟨k + 1, ⟨by omega, ?_⟩, by omega, (.cons rfl rfl (.cons rfl rfl (.nil))), rfl, rfl⟩; simp_all [prOk, lt, lt_anti l[k - 1].key l[k].key]; omega)
          | (refine ⟨k + 1, ⟨by omega, ?_⟩, by omega, (.cons rfl rfl (.cons rfl rfl (.nil))), rfl, rfl⟩; simp [prOk, lt, lt_anti l[k - 1].key l[k].key] at *; grind)
          | (exfalso; omega))
    | (refine ⟨.inr rfl, _, _, rfl, .cons (.c (.id rfl)) .nil, ?_⟩; rw [rowOk_nil _ (by omega)] at hy; simp_all [resV, X.v]; done)

theorem sesOk_impl (l : List Ses) (hl : l.length ≤ 1048576) : Pu Tryz.prog 267 [L Ses.e l] (B (sesOk l)) := by
  refine Pu.of D Tryz.func267 rfl rfl rfl ?_
  repeat' (first
    | (refine WO.id ?_; first
      | refine stp1_ok D rfl ?_
      | refine WO.nil ?_
      | refine WO.g rfl rfl rfl ?_
      | refine WO.g0 rfl ?_
      | (refine WO.gs _ rfl rfl rfl ?_ ?_ <;> intro hb <;> simp only [hb] <;> try simp at hb))
    | (refine OpK.id ?_; first
      | refine OpK.of (OpOk.lenS D rfl rfl rfl rfl) ?_
      | refine OpK.of (OpOk.lenM D rfl rfl rfl rfl) ?_
      | refine OpK.of (OpOk.lenL D rfl rfl rfl rfl) ?_
      | refine OpK.of (OpOk.lenA D rfl rfl rfl rfl rfl rfl) ?_
      | refine OpK.of (OpOk.lenE D rfl rfl rfl rfl) ?_
      | refine OpK.of (OpOk.inc rfl rfl rfl (by omega)) ?_
      | refine OpK.of (OpOk.add rfl rfl rfl (by omega)) ?_
      | refine OpK.of (OpOk.sub rfl rfl rfl (by omega)) ?_
      | refine OpK.of (OpOk.ixM D rfl rfl rfl rfl rfl rfl (by first | assumption | omega) (fun _ => rfl)) ?_)
    | (refine W.id ?_; first
      | refine W.regs ?_
      | refine W.drs0 mixed (by kernel_rfl) ?_
      | refine W.drs1 mixed (by kernel_rfl) ?_
      | refine W.drs2 mixed (by kernel_rfl) ?_
      | refine W.ret ?_
      | refine W.seq ?_
      | refine W.skip ?_
      | refine W.region ?_
      | refine W.exit ?_
      | refine W.block ?_
      | (refine W.cond rfl ?_ ?_ <;> intro hb <;> try simp at hb)
      | refine W.drawn mixed ?_)
    | (refine Then.id ?_; first
      | refine Then.rn ?_
      | refine Then.rr ?_
      | refine Then.rx ?_)
    | (refine InBlk.id ?_; first
      | refine InBlk.rn ?_
      | refine InBlk.rr ?_
      | refine InBlk.re ?_
      | refine InBlk.rx rfl ?_)
    | (refine WD.id ?_; first
      | refine WD.done rfl ?_
      | refine WD.t rfl ?_ rfl
      | refine WD.g rfl rfl rfl ?_
      | refine WD.u rfl rfl rfl ?_
      | (refine WD.gs _ rfl rfl rfl ?_ ?_ <;> intro hb <;> simp only [hb] <;> try simp at hb))
    | (refine OpD.id ?_; first
      | refine OpD.of (stpR_ok D rfl) ?_
      | refine OpD.of (OpOk.lenS D rfl rfl rfl rfl) ?_
      | refine OpD.of (OpOk.lenM D rfl rfl rfl rfl) ?_
      | refine OpD.of (OpOk.lenL D rfl rfl rfl rfl) ?_
      | refine OpD.of (OpOk.lenA D rfl rfl rfl rfl rfl rfl) ?_
      | refine OpD.of (OpOk.lenE D rfl rfl rfl rfl) ?_
      | refine OpD.of (OpOk.inc rfl rfl rfl (by omega)) ?_
      | refine OpD.of (OpOk.add rfl rfl rfl (by omega)) ?_
      | refine OpD.of (OpOk.sub rfl rfl rfl (by omega)) ?_
      | refine OpD.of (OpOk.ixM D rfl rfl rfl rfl rfl rfl (by first | assumption | omega) (fun _ => rfl)) ?_)
    | (refine WE.id ?_; first
      | refine WE.done (by with_unfolding_all rfl) ?_
      | refine WE.step (by with_unfolding_all rfl) ?_)
    | (refine WI.id ?_; first
      | refine WI.r D rfl ?_
      | refine WI.g rfl rfl rfl ?_
      | refine WI.g0 rfl ?_
      | (refine WI.gs _ rfl rfl rfl ?_ ?_ <;> intro hb <;> simp only [hb] <;> try simp at hb))
    | (refine WL.id ?_; first
      | refine WL.cons ?_ ?_
      | exact WL.nil
      | exact WL.on (by with_unfolding_all rfl)
      | refine WL.oc (by with_unfolding_all rfl) ?_ ?_))
  refine W.loop (σ := Nat) (fun k => [(7, I k), (6, I l.length), (5, L Ses.e l), (0, L Ses.e l)]) (fun _ => []) (fun k => k ≤ l.length ∧ sesOk l = rowOk seOk (ahead l k) (l.drop k)) (fun k => l.length - k) 0 (fun _ _ => rfl) 0 ⟨by simp, by simp [sesOk, ahead]⟩ rfl (.cons rfl rfl (.cons rfl rfl (.cons rfl rfl (.cons rfl rfl (.nil))))) ?_
  rintro k ⟨hk1, hy⟩
  repeat' (first
    | (refine WO.id ?_; first
      | refine stp1_ok D rfl ?_
      | refine WO.nil ?_
      | refine WO.g rfl rfl rfl ?_
      | refine WO.g0 rfl ?_
      | (refine WO.gs _ rfl rfl rfl ?_ ?_ <;> intro hb <;> simp only [hb] <;> try simp at hb))
    | (refine OpK.id ?_; first
      | refine OpK.of (OpOk.call rfl (seq_ok _) rfl rfl rfl) ?_
      | refine OpK.of (OpOk.ixI D rfl rfl rfl rfl rfl rfl (by omega) (by omega) (fun _ => rfl)) ?_
      | refine OpK.of (OpOk.lenS D rfl rfl rfl rfl) ?_
      | refine OpK.of (OpOk.lenM D rfl rfl rfl rfl) ?_
      | refine OpK.of (OpOk.lenL D rfl rfl rfl rfl) ?_
      | refine OpK.of (OpOk.lenA D rfl rfl rfl rfl rfl rfl) ?_
      | refine OpK.of (OpOk.lenE D rfl rfl rfl rfl) ?_
      | refine OpK.of (OpOk.inc rfl rfl rfl (by omega)) ?_
      | refine OpK.of (OpOk.add rfl rfl rfl (by omega)) ?_
      | refine OpK.of (OpOk.sub rfl rfl rfl (by omega)) ?_
      | refine OpK.of (OpOk.ixM D rfl rfl rfl rfl rfl rfl (by first | assumption | omega) (fun _ => rfl)) ?_)
    | (refine W.id ?_; first
      | refine W.regs ?_
      | refine W.drs0 mixed (by kernel_rfl) ?_
      | refine W.drs1 mixed (by kernel_rfl) ?_
      | refine W.drs2 mixed (by kernel_rfl) ?_
      | refine W.ret ?_
      | refine W.seq ?_
      | refine W.skip ?_
      | refine W.region ?_
      | refine W.exit ?_
      | refine W.block ?_
      | (refine W.cond rfl ?_ ?_ <;> intro hb <;> try simp at hb)
      | refine W.drawn mixed ?_)
    | (refine Then.id ?_; first
      | refine Then.rn ?_
      | refine Then.rr ?_
      | refine Then.rx ?_)
    | (refine InBlk.id ?_; first
      | refine InBlk.rn ?_
      | refine InBlk.rr ?_
      | refine InBlk.re ?_
      | refine InBlk.rx rfl ?_)
    | (refine WD.id ?_; first
      | refine WD.done rfl ?_
      | refine WD.t rfl ?_ rfl
      | refine WD.g rfl rfl rfl ?_
      | refine WD.u rfl rfl rfl ?_
      | (refine WD.gs _ rfl rfl rfl ?_ ?_ <;> intro hb <;> simp only [hb] <;> try simp at hb))
    | (refine OpD.id ?_; first
      | refine OpD.of (stpR_ok D rfl) ?_
      | refine OpD.of (OpOk.call rfl (seq_ok _) rfl rfl rfl) ?_
      | refine OpD.of (OpOk.ixI D rfl rfl rfl rfl rfl rfl (by omega) (by omega) (fun _ => rfl)) ?_
      | refine OpD.of (OpOk.lenS D rfl rfl rfl rfl) ?_
      | refine OpD.of (OpOk.lenM D rfl rfl rfl rfl) ?_
      | refine OpD.of (OpOk.lenL D rfl rfl rfl rfl) ?_
      | refine OpD.of (OpOk.lenA D rfl rfl rfl rfl rfl rfl) ?_
      | refine OpD.of (OpOk.lenE D rfl rfl rfl rfl) ?_
      | refine OpD.of (OpOk.inc rfl rfl rfl (by omega)) ?_
      | refine OpD.of (OpOk.add rfl rfl rfl (by omega)) ?_
      | refine OpD.of (OpOk.sub rfl rfl rfl (by omega)) ?_
      | refine OpD.of (OpOk.ixM D rfl rfl rfl rfl rfl rfl (by first | assumption | omega) (fun _ => rfl)) ?_)
    | (refine WE.id ?_; first
      | refine WE.done (by with_unfolding_all rfl) ?_
      | refine WE.step (by with_unfolding_all rfl) ?_)
    | (refine WI.id ?_; first
      | refine WI.r D rfl ?_
      | refine WI.g rfl rfl rfl ?_
      | refine WI.g0 rfl ?_
      | (refine WI.gs _ rfl rfl rfl ?_ ?_ <;> intro hb <;> simp only [hb] <;> try simp at hb))
    | (refine WL.id ?_; first
      | refine WL.cons ?_ ?_
      | exact WL.nil
      | exact WL.on (by with_unfolding_all rfl)
      | refine WL.oc (by with_unfolding_all rfl) ?_ ?_))
  all_goals first
    | (have hlt : k < l.length := by assumption
       rw [rowOk_cons _ hlt] at hy
       by_cases hk0 : k = 0
       · rw [ahead_0 hk0] at hy
         first
          | (refine ⟨.inr rfl, _, _, rfl, .cons (.c (.id rfl)) .nil, ?_⟩; simp_all [resV, X.v, seOk, inR]; done)
          | (refine ⟨.inr rfl, _, _, rfl, .cons (.c (.id rfl)) .nil, ?_⟩; simp [resV, X.v, seOk, inR] at *; grind)
          | (refine ⟨k + 1, ⟨by omega, ?_⟩, by omega, (.cons rfl rfl (.cons rfl rfl (.cons rfl rfl (.cons rfl rfl (.nil))))), rfl, rfl⟩; simp_all [seOk, inR]; done)
          | (refine ⟨k + 1, ⟨by omega, ?_⟩, by omega, (.cons rfl rfl (.cons rfl rfl (.cons rfl rfl (.cons rfl rfl (.nil))))), rfl, rfl⟩; simp_all [seOk, inR]; omega)
          | (refine ⟨k + 1, ⟨by omega, ?_⟩, by omega, (.cons rfl rfl (.cons rfl rfl (.cons rfl rfl (.cons rfl rfl (.nil))))), rfl, rfl⟩; simp [seOk, inR] at *; grind)
          | (exfalso; omega)
       · rw [ahead_s hk0 (by omega)] at hy
         first
          | (refine ⟨.inr rfl, _, _, rfl, .cons (.c (.id rfl)) .nil, ?_⟩; simp_all [resV, X.v, seOk, inR]; done)
          | (refine ⟨.inr rfl, _, _, rfl, .cons (.c (.id rfl)) .nil, ?_⟩; simp [resV, X.v, seOk, inR] at *; grind)
          | (refine ⟨k + 1, ⟨by omega, ?_⟩, by omega, (.cons rfl rfl (.cons rfl rfl (.cons rfl rfl (.cons rfl rfl (.nil))))), rfl, rfl⟩; simp_all [seOk, inR]; done)
          | (refine ⟨k + 1, ⟨by omega, ?_⟩, by omega, (.cons rfl rfl (.cons rfl rfl (.cons rfl rfl (.cons rfl rfl (.nil))))), rfl, rfl⟩; simp_all [seOk, inR]; omega)
          | (refine ⟨k + 1, ⟨by omega, ?_⟩, by omega, (.cons rfl rfl (.cons rfl rfl (.cons rfl rfl (.cons rfl rfl (.nil))))), rfl, rfl⟩; simp [seOk, inR] at *; grind)
          | (exfalso; omega))
    | (refine ⟨.inr rfl, _, _, rfl, .cons (.c (.id rfl)) .nil, ?_⟩; rw [rowOk_nil _ (by omega)] at hy; simp_all [resV, X.v]; done)

theorem sesOk_spec (l : List Ses) (hl : l.length ≤ 1048576) : Pu Tryz.prog 257 [L Ses.e l] (B (sesOk l)) := by
  refine Pu.of D Tryz.func257 rfl rfl rfl ?_
  repeat' (first
    | (refine WO.id ?_; first
      | refine stp1_ok D rfl ?_
      | refine WO.nil ?_
      | refine WO.g rfl rfl rfl ?_
      | refine WO.g0 rfl ?_
      | (refine WO.gs _ rfl rfl rfl ?_ ?_ <;> intro hb <;> simp only [hb] <;> try simp at hb))
    | (refine OpK.id ?_; first
      | refine OpK.of (OpOk.lenS D rfl rfl rfl rfl) ?_
      | refine OpK.of (OpOk.lenM D rfl rfl rfl rfl) ?_
      | refine OpK.of (OpOk.lenL D rfl rfl rfl rfl) ?_
      | refine OpK.of (OpOk.lenA D rfl rfl rfl rfl rfl rfl) ?_
      | refine OpK.of (OpOk.lenE D rfl rfl rfl rfl) ?_
      | refine OpK.of (OpOk.inc rfl rfl rfl (by omega)) ?_
      | refine OpK.of (OpOk.add rfl rfl rfl (by omega)) ?_
      | refine OpK.of (OpOk.sub rfl rfl rfl (by omega)) ?_
      | refine OpK.of (OpOk.ixM D rfl rfl rfl rfl rfl rfl (by first | assumption | omega) (fun _ => rfl)) ?_)
    | (refine W.id ?_; first
      | refine W.regs ?_
      | refine W.drs0 mixed (by kernel_rfl) ?_
      | refine W.drs1 mixed (by kernel_rfl) ?_
      | refine W.drs2 mixed (by kernel_rfl) ?_
      | refine W.ret ?_
      | refine W.seq ?_
      | refine W.skip ?_
      | refine W.region ?_
      | refine W.exit ?_
      | refine W.block ?_
      | (refine W.cond rfl ?_ ?_ <;> intro hb <;> try simp at hb)
      | refine W.drawn mixed ?_)
    | (refine Then.id ?_; first
      | refine Then.rn ?_
      | refine Then.rr ?_
      | refine Then.rx ?_)
    | (refine InBlk.id ?_; first
      | refine InBlk.rn ?_
      | refine InBlk.rr ?_
      | refine InBlk.re ?_
      | refine InBlk.rx rfl ?_)
    | (refine WD.id ?_; first
      | refine WD.done rfl ?_
      | refine WD.t rfl ?_ rfl
      | refine WD.g rfl rfl rfl ?_
      | refine WD.u rfl rfl rfl ?_
      | (refine WD.gs _ rfl rfl rfl ?_ ?_ <;> intro hb <;> simp only [hb] <;> try simp at hb))
    | (refine OpD.id ?_; first
      | refine OpD.of (stpR_ok D rfl) ?_
      | refine OpD.of (OpOk.lenS D rfl rfl rfl rfl) ?_
      | refine OpD.of (OpOk.lenM D rfl rfl rfl rfl) ?_
      | refine OpD.of (OpOk.lenL D rfl rfl rfl rfl) ?_
      | refine OpD.of (OpOk.lenA D rfl rfl rfl rfl rfl rfl) ?_
      | refine OpD.of (OpOk.lenE D rfl rfl rfl rfl) ?_
      | refine OpD.of (OpOk.inc rfl rfl rfl (by omega)) ?_
      | refine OpD.of (OpOk.add rfl rfl rfl (by omega)) ?_
      | refine OpD.of (OpOk.sub rfl rfl rfl (by omega)) ?_
      | refine OpD.of (OpOk.ixM D rfl rfl rfl rfl rfl rfl (by first | assumption | omega) (fun _ => rfl)) ?_)
    | (refine WE.id ?_; first
      | refine WE.done (by with_unfolding_all rfl) ?_
      | refine WE.step (by with_unfolding_all rfl) ?_)
    | (refine WI.id ?_; first
      | refine WI.r D rfl ?_
      | refine WI.g rfl rfl rfl ?_
      | refine WI.g0 rfl ?_
      | (refine WI.gs _ rfl rfl rfl ?_ ?_ <;> intro hb <;> simp only [hb] <;> try simp at hb))
    | (refine WL.id ?_; first
      | refine WL.cons ?_ ?_
      | exact WL.nil
      | exact WL.on (by with_unfolding_all rfl)
      | refine WL.oc (by with_unfolding_all rfl) ?_ ?_))
  refine W.loop (σ := Nat) (fun k => [(3, I k), (0, L Ses.e l)]) (fun _ => []) (fun k => k ≤ l.length ∧ sesOk l = rowOk seOk (ahead l k) (l.drop k)) (fun k => l.length - k) 0 (fun _ _ => rfl) 0 ⟨by simp, by simp [sesOk, ahead]⟩ rfl (.cons rfl rfl (.cons rfl rfl (.nil))) ?_
  rintro k ⟨hk1, hy⟩
  repeat' (first
    | (refine WO.id ?_; first
      | refine stp1_ok D rfl ?_
      | refine WO.nil ?_
      | refine WO.g rfl rfl rfl ?_
      | refine WO.g0 rfl ?_
      | (refine WO.gs _ rfl rfl rfl ?_ ?_ <;> intro hb <;> simp only [hb] <;> try simp at hb))
    | (refine OpK.id ?_; first
      | refine OpK.of (OpOk.call rfl (in_ok _ _ _) rfl rfl rfl) ?_
      | refine OpK.of (OpOk.ixI D rfl rfl rfl rfl rfl rfl (by omega) (by omega) (fun _ => rfl)) ?_
      | refine OpK.of (OpOk.lenS D rfl rfl rfl rfl) ?_
      | refine OpK.of (OpOk.lenM D rfl rfl rfl rfl) ?_
      | refine OpK.of (OpOk.lenL D rfl rfl rfl rfl) ?_
      | refine OpK.of (OpOk.lenA D rfl rfl rfl rfl rfl rfl) ?_
      | refine OpK.of (OpOk.lenE D rfl rfl rfl rfl) ?_
      | refine OpK.of (OpOk.inc rfl rfl rfl (by omega)) ?_
      | refine OpK.of (OpOk.add rfl rfl rfl (by omega)) ?_
      | refine OpK.of (OpOk.sub rfl rfl rfl (by omega)) ?_
      | refine OpK.of (OpOk.ixM D rfl rfl rfl rfl rfl rfl (by first | assumption | omega) (fun _ => rfl)) ?_)
    | (refine W.id ?_; first
      | refine W.regs ?_
      | refine W.drs0 mixed (by kernel_rfl) ?_
      | refine W.drs1 mixed (by kernel_rfl) ?_
      | refine W.drs2 mixed (by kernel_rfl) ?_
      | refine W.ret ?_
      | refine W.seq ?_
      | refine W.skip ?_
      | refine W.region ?_
      | refine W.exit ?_
      | refine W.block ?_
      | (refine W.cond rfl ?_ ?_ <;> intro hb <;> try simp at hb)
      | refine W.drawn mixed ?_)
    | (refine Then.id ?_; first
      | refine Then.rn ?_
      | refine Then.rr ?_
      | refine Then.rx ?_)
    | (refine InBlk.id ?_; first
      | refine InBlk.rn ?_
      | refine InBlk.rr ?_
      | refine InBlk.re ?_
      | refine InBlk.rx rfl ?_)
    | (refine WD.id ?_; first
      | refine WD.done rfl ?_
      | refine WD.t rfl ?_ rfl
      | refine WD.g rfl rfl rfl ?_
      | refine WD.u rfl rfl rfl ?_
      | (refine WD.gs _ rfl rfl rfl ?_ ?_ <;> intro hb <;> simp only [hb] <;> try simp at hb))
    | (refine OpD.id ?_; first
      | refine OpD.of (stpR_ok D rfl) ?_
      | refine OpD.of (OpOk.call rfl (in_ok _ _ _) rfl rfl rfl) ?_
      | refine OpD.of (OpOk.ixI D rfl rfl rfl rfl rfl rfl (by omega) (by omega) (fun _ => rfl)) ?_
      | refine OpD.of (OpOk.lenS D rfl rfl rfl rfl) ?_
      | refine OpD.of (OpOk.lenM D rfl rfl rfl rfl) ?_
      | refine OpD.of (OpOk.lenL D rfl rfl rfl rfl) ?_
      | refine OpD.of (OpOk.lenA D rfl rfl rfl rfl rfl rfl) ?_
      | refine OpD.of (OpOk.lenE D rfl rfl rfl rfl) ?_
      | refine OpD.of (OpOk.inc rfl rfl rfl (by omega)) ?_
      | refine OpD.of (OpOk.add rfl rfl rfl (by omega)) ?_
      | refine OpD.of (OpOk.sub rfl rfl rfl (by omega)) ?_
      | refine OpD.of (OpOk.ixM D rfl rfl rfl rfl rfl rfl (by first | assumption | omega) (fun _ => rfl)) ?_)
    | (refine WE.id ?_; first
      | refine WE.done (by with_unfolding_all rfl) ?_
      | refine WE.step (by with_unfolding_all rfl) ?_)
    | (refine WI.id ?_; first
      | refine WI.r D rfl ?_
      | refine WI.g rfl rfl rfl ?_
      | refine WI.g0 rfl ?_
      | (refine WI.gs _ rfl rfl rfl ?_ ?_ <;> intro hb <;> simp only [hb] <;> try simp at hb))
    | (refine WL.id ?_; first
      | refine WL.cons ?_ ?_
      | exact WL.nil
      | exact WL.on (by with_unfolding_all rfl)
      | refine WL.oc (by with_unfolding_all rfl) ?_ ?_))
  all_goals first
    | (have hlt : k < l.length := by assumption
       rw [rowOk_cons _ hlt] at hy
       by_cases hk0 : k = 0
       · rw [ahead_0 hk0] at hy
         first
          | (refine ⟨.inr rfl, _, _, rfl, .cons (.c (.id rfl)) .nil, ?_⟩; simp_all [resV, X.v, seOk, inR]; done)
          | (refine ⟨.inr rfl, _, _, rfl, .cons (.c (.id rfl)) .nil, ?_⟩; simp [resV, X.v, seOk, inR] at *; grind)
          | (refine ⟨k + 1, ⟨by omega, ?_⟩, by omega, (.cons rfl rfl (.cons rfl rfl (.nil))), rfl, rfl⟩; simp_all [seOk, inR]; done)
          | (refine ⟨k + 1, ⟨by omega, ?_⟩, by omega, (.cons rfl rfl (.cons rfl rfl (.nil))), rfl, rfl⟩; simp_all [seOk, inR]; omega)
          | (refine ⟨k + 1, ⟨by omega, ?_⟩, by omega, (.cons rfl rfl (.cons rfl rfl (.nil))), rfl, rfl⟩; simp [seOk, inR] at *; grind)
          | (exfalso; omega)
       · rw [ahead_s hk0 (by omega)] at hy
         first
          | (refine ⟨.inr rfl, _, _, rfl, .cons (.c (.id rfl)) .nil, ?_⟩; simp_all [resV, X.v, seOk, inR]; done)
          | (refine ⟨.inr rfl, _, _, rfl, .cons (.c (.id rfl)) .nil, ?_⟩; simp [resV, X.v, seOk, inR] at *; grind)
          | (refine ⟨k + 1, ⟨by omega, ?_⟩, by omega, (.cons rfl rfl (.cons rfl rfl (.nil))), rfl, rfl⟩; simp_all [seOk, inR]; done)
          | (refine ⟨k + 1, ⟨by omega, ?_⟩, by omega, (.cons rfl rfl (.cons rfl rfl (.nil))), rfl, rfl⟩; simp_all [seOk, inR]; omega)
          | (refine ⟨k + 1, ⟨by omega, ?_⟩, by omega, (.cons rfl rfl (.cons rfl rfl (.nil))), rfl, rfl⟩; simp [seOk, inR] at *; grind)
          | (exfalso; omega))
    | (refine ⟨.inr rfl, _, _, rfl, .cons (.c (.id rfl)) .nil, ?_⟩; rw [rowOk_nil _ (by omega)] at hy; simp_all [resV, X.v]; done)

end Go.YtakiodehjhpgkaaGreatMc

namespace Go.YtakiodehjhpgkaaGreatMc
open Go.Proofs
/-! ### Cuts -/
def cutOk (v : Iv) (k : List UInt8) : Bool := ivOk v && keyOk k && ivOk ⟨v.lo, k⟩ && ivOk ⟨k, v.hi⟩
abbrev Xi (v : Iv) : X := .ag (tc v.e)
def cutV (v : Iv) (k : List UInt8) : V := if cutOk v k then .tu [Xi ⟨v.lo, k⟩, Xi ⟨k, v.hi⟩, .c (.t (.b true))] else .tu [Xi ⟨[], []⟩, Xi ⟨[], []⟩, .c (.t (.b false))]
theorem cut_impl (v : Iv) (k : List UInt8) : Pu Tryz.prog 269 [A v.e, Sx k] (cutV v k) := by
  refine Pu.of D Tryz.func269 rfl rfl rfl ?_
  repeat' (first
    | (refine WO.id ?_; first
      | refine stp1_ok D rfl ?_
      | refine WO.nil ?_
      | refine WO.g rfl rfl rfl ?_
      | refine WO.g0 rfl ?_
      | (refine WO.gs _ rfl rfl rfl ?_ ?_ <;> intro hb <;> simp only [hb] <;> try simp at hb))
    | (refine OpK.id ?_; first
      | refine OpK.of (OpOk.call rfl (ivOk_impl v) rfl rfl rfl) ?_
      | refine OpK.of (OpOk.call rfl (ivOk_impl ⟨v.lo, k⟩) rfl rfl rfl) ?_
      | refine OpK.of (OpOk.call rfl (ivOk_impl ⟨k, v.hi⟩) rfl rfl rfl) ?_
      | refine OpK.of (OpOk.call rfl (keyOk_impl k) rfl rfl rfl) ?_
      | refine OpK.of (OpOk.lenS D rfl rfl rfl rfl) ?_
      | refine OpK.of (OpOk.lenM D rfl rfl rfl rfl) ?_
      | refine OpK.of (OpOk.lenL D rfl rfl rfl rfl) ?_
      | refine OpK.of (OpOk.lenA D rfl rfl rfl rfl rfl rfl) ?_
      | refine OpK.of (OpOk.lenE D rfl rfl rfl rfl) ?_
      | refine OpK.of (OpOk.inc rfl rfl rfl (by omega)) ?_
      | refine OpK.of (OpOk.add rfl rfl rfl (by omega)) ?_
      | refine OpK.of (OpOk.sub rfl rfl rfl (by omega)) ?_
      | refine OpK.of (OpOk.ixM D rfl rfl rfl rfl rfl rfl (by first | assumption | omega) (fun _ => rfl)) ?_)
    | (refine W.id ?_; first
      | refine W.drws mixed ?_
      | refine W.regs ?_
      | refine W.ret ?_
      | refine W.seq ?_
      | refine W.skip ?_
      | refine W.region ?_
      | refine W.exit ?_
      | refine W.block ?_
      | (refine W.cond rfl ?_ ?_ <;> intro hb <;> try simp at hb)
      | refine W.drawn mixed ?_)
    | (refine Then.id ?_; first
      | refine Then.rn ?_
      | refine Then.rr ?_
      | refine Then.rx ?_)
    | (refine InBlk.id ?_; first
      | refine InBlk.rn ?_
      | refine InBlk.rr ?_
      | refine InBlk.re ?_
      | refine InBlk.rx rfl ?_)
    | (refine WD.id ?_; first
      | refine WD.done rfl ?_
      | refine WD.t rfl ?_ rfl
      | refine WD.g rfl rfl rfl ?_
      | refine WD.u rfl rfl rfl ?_
      | (refine WD.gs _ rfl rfl rfl ?_ ?_ <;> intro hb <;> simp only [hb] <;> try simp at hb))
    | (refine OpD.id ?_; first
      | refine OpD.of (stpR_ok D rfl) ?_
      | refine OpD.of (OpOk.call rfl (ivOk_impl v) rfl rfl rfl) ?_
      | refine OpD.of (OpOk.call rfl (ivOk_impl ⟨v.lo, k⟩) rfl rfl rfl) ?_
      | refine OpD.of (OpOk.call rfl (ivOk_impl ⟨k, v.hi⟩) rfl rfl rfl) ?_
      | refine OpD.of (OpOk.call rfl (keyOk_impl k) rfl rfl rfl) ?_
      | refine OpD.of (OpOk.lenS D rfl rfl rfl rfl) ?_
      | refine OpD.of (OpOk.lenM D rfl rfl rfl rfl) ?_
      | refine OpD.of (OpOk.lenL D rfl rfl rfl rfl) ?_
      | refine OpD.of (OpOk.lenA D rfl rfl rfl rfl rfl rfl) ?_
      | refine OpD.of (OpOk.lenE D rfl rfl rfl rfl) ?_
      | refine OpD.of (OpOk.inc rfl rfl rfl (by omega)) ?_
      | refine OpD.of (OpOk.add rfl rfl rfl (by omega)) ?_
      | refine OpD.of (OpOk.sub rfl rfl rfl (by omega)) ?_
      | refine OpD.of (OpOk.ixM D rfl rfl rfl rfl rfl rfl (by first | assumption | omega) (fun _ => rfl)) ?_)
    | (refine WE.id ?_; first
      | refine WE.done (by with_unfolding_all rfl) ?_
      | refine WE.step (by with_unfolding_all rfl) ?_)
    | (refine WI.id ?_; first
      | refine WI.r D rfl ?_
      | refine WI.g rfl rfl rfl ?_
      | refine WI.g0 rfl ?_
      | (refine WI.gs _ rfl rfl rfl ?_ ?_ <;> intro hb <;> simp only [hb] <;> try simp at hb))
    | (refine WL.id ?_; first
      | refine WL.cons ?_ ?_
      | exact WL.nil
      | exact WL.on (by with_unfolding_all rfl)
      | refine WL.oc (by with_unfolding_all rfl) ?_ ?_))
  all_goals refine ⟨.inr rfl, _, _, rfl, .cons (.ag (.cons (.id rfl) (.cons (.id rfl) .nil))) (.cons (.ag (.cons (.id rfl) (.cons (.id rfl) .nil))) (.cons (.c (.id rfl)) .nil)), ?_⟩
  all_goals (simp [cutV, cutOk, *]; try rfl)
theorem cut_spec (v : Iv) (k : List UInt8) : Pu Tryz.prog 259 [A v.e, Sx k] (cutV v k) := by
  refine Pu.of D Tryz.func259 rfl rfl rfl ?_
  repeat' (first
    | (refine WO.id ?_; first
      | refine stp1_ok D rfl ?_
      | refine WO.nil ?_
      | refine WO.g rfl rfl rfl ?_
      | refine WO.g0 rfl ?_
      | (refine WO.gs _ rfl rfl rfl ?_ ?_ <;> intro hb <;> simp only [hb] <;> try simp at hb))
    | (refine OpK.id ?_; first
      | refine OpK.of (OpOk.call rfl (ivOk_spec v) rfl rfl rfl) ?_
      | refine OpK.of (OpOk.call rfl (ivOk_spec ⟨v.lo, k⟩) rfl rfl rfl) ?_
      | refine OpK.of (OpOk.call rfl (ivOk_spec ⟨k, v.hi⟩) rfl rfl rfl) ?_
      | refine OpK.of (OpOk.call rfl (keyOk_spec k) rfl rfl rfl) ?_
      | refine OpK.of (OpOk.lenS D rfl rfl rfl rfl) ?_
      | refine OpK.of (OpOk.lenM D rfl rfl rfl rfl) ?_
      | refine OpK.of (OpOk.lenL D rfl rfl rfl rfl) ?_
      | refine OpK.of (OpOk.lenA D rfl rfl rfl rfl rfl rfl) ?_
      | refine OpK.of (OpOk.lenE D rfl rfl rfl rfl) ?_
      | refine OpK.of (OpOk.inc rfl rfl rfl (by omega)) ?_
      | refine OpK.of (OpOk.add rfl rfl rfl (by omega)) ?_
      | refine OpK.of (OpOk.sub rfl rfl rfl (by omega)) ?_
      | refine OpK.of (OpOk.ixM D rfl rfl rfl rfl rfl rfl (by first | assumption | omega) (fun _ => rfl)) ?_)
    | (refine W.id ?_; first
      | refine W.drws mixed ?_
      | refine W.regs ?_
      | refine W.ret ?_
      | refine W.seq ?_
      | refine W.skip ?_
      | refine W.region ?_
      | refine W.exit ?_
      | refine W.block ?_
      | (refine W.cond rfl ?_ ?_ <;> intro hb <;> try simp at hb)
      | refine W.drawn mixed ?_)
    | (refine Then.id ?_; first
      | refine Then.rn ?_
      | refine Then.rr ?_
      | refine Then.rx ?_)
    | (refine InBlk.id ?_; first
      | refine InBlk.rn ?_
      | refine InBlk.rr ?_
      | refine InBlk.re ?_
      | refine InBlk.rx rfl ?_)
    | (refine WD.id ?_; first
      | refine WD.done rfl ?_
      | refine WD.t rfl ?_ rfl
      | refine WD.g rfl rfl rfl ?_
      | refine WD.u rfl rfl rfl ?_
      | (refine WD.gs _ rfl rfl rfl ?_ ?_ <;> intro hb <;> simp only [hb] <;> try simp at hb))
    | (refine OpD.id ?_; first
      | refine OpD.of (stpR_ok D rfl) ?_
      | refine OpD.of (OpOk.call rfl (ivOk_spec v) rfl rfl rfl) ?_
      | refine OpD.of (OpOk.call rfl (ivOk_spec ⟨v.lo, k⟩) rfl rfl rfl) ?_
      | refine OpD.of (OpOk.call rfl (ivOk_spec ⟨k, v.hi⟩) rfl rfl rfl) ?_
      | refine OpD.of (OpOk.call rfl (keyOk_spec k) rfl rfl rfl) ?_
      | refine OpD.of (OpOk.lenS D rfl rfl rfl rfl) ?_
      | refine OpD.of (OpOk.lenM D rfl rfl rfl rfl) ?_
      | refine OpD.of (OpOk.lenL D rfl rfl rfl rfl) ?_
      | refine OpD.of (OpOk.lenA D rfl rfl rfl rfl rfl rfl) ?_
      | refine OpD.of (OpOk.lenE D rfl rfl rfl rfl) ?_
      | refine OpD.of (OpOk.inc rfl rfl rfl (by omega)) ?_
      | refine OpD.of (OpOk.add rfl rfl rfl (by omega)) ?_
      | refine OpD.of (OpOk.sub rfl rfl rfl (by omega)) ?_
      | refine OpD.of (OpOk.ixM D rfl rfl rfl rfl rfl rfl (by first | assumption | omega) (fun _ => rfl)) ?_)
    | (refine WE.id ?_; first
      | refine WE.done (by with_unfolding_all rfl) ?_
      | refine WE.step (by with_unfolding_all rfl) ?_)
    | (refine WI.id ?_; first
      | refine WI.r D rfl ?_
      | refine WI.g rfl rfl rfl ?_
      | refine WI.g0 rfl ?_
      | (refine WI.gs _ rfl rfl rfl ?_ ?_ <;> intro hb <;> simp only [hb] <;> try simp at hb))
    | (refine WL.id ?_; first
      | refine WL.cons ?_ ?_
      | exact WL.nil
      | exact WL.on (by with_unfolding_all rfl)
      | refine WL.oc (by with_unfolding_all rfl) ?_ ?_))
  all_goals refine ⟨.inr rfl, _, _, rfl, .cons (.ag (.cons (.id rfl) (.cons (.id rfl) .nil))) (.cons (.ag (.cons (.id rfl) (.cons (.id rfl) .nil))) (.cons (.c (.id rfl)) .nil)), ?_⟩
  all_goals (simp [cutV, cutOk, *]; try rfl)
def hasK (v : Iv) (k : List UInt8) : Bool := (lt v.lo k || v.lo == k) && (v.hi == [] || lt k v.hi)
theorem inside_ok (v : Iv) (k : List UInt8) : Pu Tryz.prog 268 [A v.e, Sx k] (B (hasK v k)) := by
  refine Pu.of D Tryz.func268 rfl rfl rfl ?_
  repeat' (first
    | (refine WO.id ?_; first
      | refine stp1_ok D rfl ?_
      | refine WO.nil ?_
      | refine WO.g rfl rfl rfl ?_
      | refine WO.g0 rfl ?_
      | (refine WO.gs _ rfl rfl rfl ?_ ?_ <;> intro hb <;> simp only [hb] <;> try simp at hb))
    | (refine OpK.id ?_; first
      | refine OpK.of (OpOk.lenS D rfl rfl rfl rfl) ?_
      | refine OpK.of (OpOk.lenM D rfl rfl rfl rfl) ?_
      | refine OpK.of (OpOk.lenL D rfl rfl rfl rfl) ?_
      | refine OpK.of (OpOk.lenA D rfl rfl rfl rfl rfl rfl) ?_
      | refine OpK.of (OpOk.lenE D rfl rfl rfl rfl) ?_
      | refine OpK.of (OpOk.inc rfl rfl rfl (by omega)) ?_
      | refine OpK.of (OpOk.add rfl rfl rfl (by omega)) ?_
      | refine OpK.of (OpOk.sub rfl rfl rfl (by omega)) ?_
      | refine OpK.of (OpOk.ixM D rfl rfl rfl rfl rfl rfl (by first | assumption | omega) (fun _ => rfl)) ?_)
    | (refine W.id ?_; first
      | refine W.regs ?_
      | refine W.drs0 mixed (by kernel_rfl) ?_
      | refine W.drs1 mixed (by kernel_rfl) ?_
      | refine W.drs2 mixed (by kernel_rfl) ?_
      | refine W.ret ?_
      | refine W.seq ?_
      | refine W.skip ?_
      | refine W.region ?_
      | refine W.exit ?_
      | refine W.block ?_
      | (refine W.cond rfl ?_ ?_ <;> intro hb <;> try simp at hb)
      | refine W.drawn mixed ?_)
    | (refine Then.id ?_; first
      | refine Then.rn ?_
      | refine Then.rr ?_
      | refine Then.rx ?_)
    | (refine InBlk.id ?_; first
      | refine InBlk.rn ?_
      | refine InBlk.rr ?_
      | refine InBlk.re ?_
      | refine InBlk.rx rfl ?_)
    | (refine WD.id ?_; first
      | refine WD.done rfl ?_
      | refine WD.t rfl ?_ rfl
      | refine WD.g rfl rfl rfl ?_
      | refine WD.u rfl rfl rfl ?_
      | (refine WD.gs _ rfl rfl rfl ?_ ?_ <;> intro hb <;> simp only [hb] <;> try simp at hb))
    | (refine OpD.id ?_; first
      | refine OpD.of (stpR_ok D rfl) ?_
      | refine OpD.of (OpOk.lenS D rfl rfl rfl rfl) ?_
      | refine OpD.of (OpOk.lenM D rfl rfl rfl rfl) ?_
      | refine OpD.of (OpOk.lenL D rfl rfl rfl rfl) ?_
      | refine OpD.of (OpOk.lenA D rfl rfl rfl rfl rfl rfl) ?_
      | refine OpD.of (OpOk.lenE D rfl rfl rfl rfl) ?_
      | refine OpD.of (OpOk.inc rfl rfl rfl (by omega)) ?_
      | refine OpD.of (OpOk.add rfl rfl rfl (by omega)) ?_
      | refine OpD.of (OpOk.sub rfl rfl rfl (by omega)) ?_
      | refine OpD.of (OpOk.ixM D rfl rfl rfl rfl rfl rfl (by first | assumption | omega) (fun _ => rfl)) ?_)
    | (refine WE.id ?_; first
      | refine WE.done (by with_unfolding_all rfl) ?_
      | refine WE.step (by with_unfolding_all rfl) ?_)
    | (refine WI.id ?_; first
      | refine WI.r D rfl ?_
      | refine WI.g rfl rfl rfl ?_
      | refine WI.g0 rfl ?_
      | (refine WI.gs _ rfl rfl rfl ?_ ?_ <;> intro hb <;> simp only [hb] <;> try simp at hb))
    | (refine WL.id ?_; first
      | refine WL.cons ?_ ?_
      | exact WL.nil
      | exact WL.on (by with_unfolding_all rfl)
      | refine WL.oc (by with_unfolding_all rfl) ?_ ?_))
  all_goals refine ⟨.inr rfl, _, _, rfl, .cons (.c (.id rfl)) .nil, ?_⟩
  all_goals first | (simp_all [resV, X.v, hasK, lt]; done) | (simp [resV, X.v, hasK, lt] at *; grind) | (simp [resV, X.v, hasK, lt] at *; omega)
theorem has_ok (v : Iv) (k : List UInt8) : Pu Tryz.prog 258 [A v.e, Sx k] (B (ivOk v && keyOk k && hasK v k)) := by
  refine Pu.of D Tryz.func258 rfl rfl rfl ?_
  repeat' (first
    | (refine WO.id ?_; first
      | refine stp1_ok D rfl ?_
      | refine WO.nil ?_
      | refine WO.g rfl rfl rfl ?_
      | refine WO.g0 rfl ?_
      | (refine WO.gs _ rfl rfl rfl ?_ ?_ <;> intro hb <;> simp only [hb] <;> try simp at hb))
    | (refine OpK.id ?_; first
      | refine OpK.of (OpOk.call rfl (ivOk_spec v) rfl rfl rfl) ?_
      | refine OpK.of (OpOk.call rfl (keyOk_spec k) rfl rfl rfl) ?_
      | refine OpK.of (OpOk.lenS D rfl rfl rfl rfl) ?_
      | refine OpK.of (OpOk.lenM D rfl rfl rfl rfl) ?_
      | refine OpK.of (OpOk.lenL D rfl rfl rfl rfl) ?_
      | refine OpK.of (OpOk.lenA D rfl rfl rfl rfl rfl rfl) ?_
      | refine OpK.of (OpOk.lenE D rfl rfl rfl rfl) ?_
      | refine OpK.of (OpOk.inc rfl rfl rfl (by omega)) ?_
      | refine OpK.of (OpOk.add rfl rfl rfl (by omega)) ?_
      | refine OpK.of (OpOk.sub rfl rfl rfl (by omega)) ?_
      | refine OpK.of (OpOk.ixM D rfl rfl rfl rfl rfl rfl (by first | assumption | omega) (fun _ => rfl)) ?_)
    | (refine W.id ?_; first
      | refine W.regs ?_
      | refine W.drs0 mixed (by kernel_rfl) ?_
      | refine W.drs1 mixed (by kernel_rfl) ?_
      | refine W.drs2 mixed (by kernel_rfl) ?_
      | refine W.ret ?_
      | refine W.seq ?_
      | refine W.skip ?_
      | refine W.region ?_
      | refine W.exit ?_
      | refine W.block ?_
      | (refine W.cond rfl ?_ ?_ <;> intro hb <;> try simp at hb)
      | refine W.drawn mixed ?_)
    | (refine Then.id ?_; first
      | refine Then.rn ?_
      | refine Then.rr ?_
      | refine Then.rx ?_)
    | (refine InBlk.id ?_; first
      | refine InBlk.rn ?_
      | refine InBlk.rr ?_
      | refine InBlk.re ?_
      | refine InBlk.rx rfl ?_)
    | (refine WD.id ?_; first
      | refine WD.done rfl ?_
      | refine WD.t rfl ?_ rfl
      | refine WD.g rfl rfl rfl ?_
      | refine WD.u rfl rfl rfl ?_
      | (refine WD.gs _ rfl rfl rfl ?_ ?_ <;> intro hb <;> simp only [hb] <;> try simp at hb))
    | (refine OpD.id ?_; first
      | refine OpD.of (stpR_ok D rfl) ?_
      | refine OpD.of (OpOk.call rfl (ivOk_spec v) rfl rfl rfl) ?_
      | refine OpD.of (OpOk.call rfl (keyOk_spec k) rfl rfl rfl) ?_
      | refine OpD.of (OpOk.lenS D rfl rfl rfl rfl) ?_
      | refine OpD.of (OpOk.lenM D rfl rfl rfl rfl) ?_
      | refine OpD.of (OpOk.lenL D rfl rfl rfl rfl) ?_
      | refine OpD.of (OpOk.lenA D rfl rfl rfl rfl rfl rfl) ?_
      | refine OpD.of (OpOk.lenE D rfl rfl rfl rfl) ?_
      | refine OpD.of (OpOk.inc rfl rfl rfl (by omega)) ?_
      | refine OpD.of (OpOk.add rfl rfl rfl (by omega)) ?_
      | refine OpD.of (OpOk.sub rfl rfl rfl (by omega)) ?_
      | refine OpD.of (OpOk.ixM D rfl rfl rfl rfl rfl rfl (by first | assumption | omega) (fun _ => rfl)) ?_)
    | (refine WE.id ?_; first
      | refine WE.done (by with_unfolding_all rfl) ?_
      | refine WE.step (by with_unfolding_all rfl) ?_)
    | (refine WI.id ?_; first
      | refine WI.r D rfl ?_
      | refine WI.g rfl rfl rfl ?_
      | refine WI.g0 rfl ?_
      | (refine WI.gs _ rfl rfl rfl ?_ ?_ <;> intro hb <;> simp only [hb] <;> try simp at hb))
    | (refine WL.id ?_; first
      | refine WL.cons ?_ ?_
      | exact WL.nil
      | exact WL.on (by with_unfolding_all rfl)
      | refine WL.oc (by with_unfolding_all rfl) ?_ ?_))
  all_goals refine ⟨.inr rfl, _, _, rfl, .cons (.c (.id rfl)) .nil, ?_⟩
  all_goals (have := lt_anti k v.lo; cases h1 : Op.bytesLess v.lo k <;> simp_all [resV, X.v, hasK, lt])
end Go.YtakiodehjhpgkaaGreatMc

namespace Go.YtakiodehjhpgkaaGreatMc
open Go.Proofs
/-! ### States -/
def cutW (v : Iv) (k : List UInt8) : V := .tu [Xi (if cutOk v k then ⟨v.lo, k⟩ else ⟨[], []⟩), Xi (if cutOk v k then ⟨k, v.hi⟩ else ⟨[], []⟩), .c (.t (.b (cutOk v k)))]
theorem cutW_eq (v : Iv) (k : List UInt8) : cutV v k = cutW v k := by unfold cutV cutW; cases cutOk v k <;> rfl
theorem cut_impl2 (v : Iv) (k : List UInt8) : Pu Tryz.prog 269 [A v.e, Sx k] (cutW v k) := cutW_eq v k ▸ cut_impl v k
theorem cut_spec2 (v : Iv) (k : List UInt8) : Pu Tryz.prog 259 [A v.e, Sx k] (cutW v k) := cutW_eq v k ▸ cut_spec v k
def hasAll (s : Stt) : Bool := s.pairs.all (fun p => hasK s.span p.key)
def stOk (s : Stt) : Bool := ivOk s.span && pairsOk s.pairs && sesOk s.known && hasAll s && (decide (s.cut = []) || (s.sealed && cutOk s.span s.cut))
theorem pair_key {l : List Pr} (h : pairsOk l = true) {k : Nat} (hk : k < l.length) : keyOk l[k].key = true := by
  have gen : ∀ (l : List Pr) (p : Option Pr), rowOk prOk p l = true → ∀ (k : Nat) (hk : k < l.length), keyOk l[k].key = true := by
    intro l
    induction l with
    | nil => intro p _ k hk; simp at hk
    | cons a l ih =>
      intro p h k hk
      simp only [rowOk, Bool.and_eq_true] at h
      cases k with
      | zero => have := h.1; simp only [prOk, Bool.and_eq_true] at this; exact this.1.1
      | succ k => exact ih _ h.2 k (by simpa using hk)
  simp only [pairsOk, Bool.and_eq_true] at h
  exact gen l none h.2 k hk
theorem stOk_impl (s : Stt) (hs : s.Sm) : Pu Tryz.prog 170 [A s.e] (B (stOk s)) := by
  refine Pu.of D Tryz.func170 rfl rfl rfl ?_
  repeat' (first
    | (refine WO.id ?_; first
      | refine stp1_ok D rfl ?_
      | refine WO.nil ?_
      | refine WO.g rfl rfl rfl ?_
      | refine WO.g0 rfl ?_
      | (refine WO.gs _ rfl rfl rfl ?_ ?_ <;> intro hb <;> simp only [hb] <;> try simp at hb))
    | (refine OpK.id ?_; first
      | refine OpK.of (OpOk.call rfl (ivOk_impl s.span) rfl rfl rfl) ?_
      | refine OpK.of (OpOk.call rfl (pairsOk_impl s.pairs) rfl rfl rfl) ?_
      | refine OpK.of (OpOk.call rfl (sesOk_impl s.known hs.knownN) rfl rfl rfl) ?_
      | refine OpK.of (OpOk.lenS D rfl rfl rfl rfl) ?_
      | refine OpK.of (OpOk.lenM D rfl rfl rfl rfl) ?_
      | refine OpK.of (OpOk.lenL D rfl rfl rfl rfl) ?_
      | refine OpK.of (OpOk.lenA D rfl rfl rfl rfl rfl rfl) ?_
      | refine OpK.of (OpOk.lenE D rfl rfl rfl rfl) ?_
      | refine OpK.of (OpOk.inc rfl rfl rfl (by omega)) ?_
      | refine OpK.of (OpOk.add rfl rfl rfl (by omega)) ?_
      | refine OpK.of (OpOk.sub rfl rfl rfl (by omega)) ?_
      | refine OpK.of (OpOk.ixM D rfl rfl rfl rfl rfl rfl (by first | assumption | omega) (fun _ => rfl)) ?_)
    | (refine W.id ?_; first
      | refine W.regs ?_
      | refine W.drs0 mixed (by kernel_rfl) ?_
      | refine W.drs1 mixed (by kernel_rfl) ?_
      | refine W.drs2 mixed (by kernel_rfl) ?_
      | refine W.ret ?_
      | refine W.seq ?_
      | refine W.skip ?_
      | refine W.region ?_
      | refine W.exit ?_
      | refine W.block ?_
      | (refine W.cond rfl ?_ ?_ <;> intro hb <;> try simp at hb)
      | refine W.drawn mixed ?_)
    | (refine Then.id ?_; first
      | refine Then.rn ?_
      | refine Then.rr ?_
      | refine Then.rx ?_)
    | (refine InBlk.id ?_; first
      | refine InBlk.rn ?_
      | refine InBlk.rr ?_
      | refine InBlk.re ?_
      | refine InBlk.rx rfl ?_)
    | (refine WD.id ?_; first
      | refine WD.done rfl ?_
      | refine WD.t rfl ?_ rfl
      | refine WD.g rfl rfl rfl ?_
      | refine WD.u rfl rfl rfl ?_
      | (refine WD.gs _ rfl rfl rfl ?_ ?_ <;> intro hb <;> simp only [hb] <;> try simp at hb))
    | (refine OpD.id ?_; first
      | refine OpD.of (stpR_ok D rfl) ?_
      | refine OpD.of (OpOk.call rfl (ivOk_impl s.span) rfl rfl rfl) ?_
      | refine OpD.of (OpOk.call rfl (pairsOk_impl s.pairs) rfl rfl rfl) ?_
      | refine OpD.of (OpOk.call rfl (sesOk_impl s.known hs.knownN) rfl rfl rfl) ?_
      | refine OpD.of (OpOk.lenS D rfl rfl rfl rfl) ?_
      | refine OpD.of (OpOk.lenM D rfl rfl rfl rfl) ?_
      | refine OpD.of (OpOk.lenL D rfl rfl rfl rfl) ?_
      | refine OpD.of (OpOk.lenA D rfl rfl rfl rfl rfl rfl) ?_
      | refine OpD.of (OpOk.lenE D rfl rfl rfl rfl) ?_
      | refine OpD.of (OpOk.inc rfl rfl rfl (by omega)) ?_
      | refine OpD.of (OpOk.add rfl rfl rfl (by omega)) ?_
      | refine OpD.of (OpOk.sub rfl rfl rfl (by omega)) ?_
      | refine OpD.of (OpOk.ixM D rfl rfl rfl rfl rfl rfl (by first | assumption | omega) (fun _ => rfl)) ?_)
    | (refine WE.id ?_; first
      | refine WE.done (by with_unfolding_all rfl) ?_
      | refine WE.step (by with_unfolding_all rfl) ?_)
    | (refine WI.id ?_; first
      | refine WI.r D rfl ?_
      | refine WI.g rfl rfl rfl ?_
      | refine WI.g0 rfl ?_
      | (refine WI.gs _ rfl rfl rfl ?_ ?_ <;> intro hb <;> simp only [hb] <;> try simp at hb))
    | (refine WL.id ?_; first
      | refine WL.cons ?_ ?_
      | exact WL.nil
      | exact WL.on (by with_unfolding_all rfl)
      | refine WL.oc (by with_unfolding_all rfl) ?_ ?_))
  all_goals first | (refine ⟨.inr rfl, _, _, rfl, .cons (.c (.id rfl)) .nil, ?_⟩; simp_all [resV, X.v, stOk]; done) | skip
  have lp := hs.pairsN
  refine W.loop (σ := Nat) (fun k => [(27, I k), (26, I s.pairs.length), (25, L Pr.e s.pairs), (1, .c (.ptr 0 0))]) (fun _ => [.box (tc s.e)]) (fun k => k ≤ s.pairs.length ∧ hasAll s = (s.pairs.drop k).all (fun p => hasK s.span p.key)) (fun k => s.pairs.length - k) 1 (fun _ _ => rfl) 0 ⟨by simp, by simp [hasAll]⟩ rfl (.cons rfl rfl (.cons rfl rfl (.cons rfl rfl (.cons rfl rfl (.nil))))) ?_
  rintro k ⟨hk1, hy⟩
  repeat' (first
    | (refine WO.id ?_; first
      | refine stp1_ok D rfl ?_
      | refine WO.nil ?_
      | refine WO.g rfl rfl rfl ?_
      | refine WO.g0 rfl ?_
      | (refine WO.gs _ rfl rfl rfl ?_ ?_ <;> intro hb <;> simp only [hb] <;> try simp at hb))
    | (refine OpK.id ?_; first
      | refine OpK.of (OpOk.call rfl (inside_ok s.span s.pairs[k].key) rfl rfl rfl) ?_
      | refine OpK.of (OpOk.call rfl (cut_impl2 s.span s.cut) rfl rfl rfl) ?_
      | refine OpK.of (OpOk.lenS D rfl rfl rfl rfl) ?_
      | refine OpK.of (OpOk.lenM D rfl rfl rfl rfl) ?_
      | refine OpK.of (OpOk.lenL D rfl rfl rfl rfl) ?_
      | refine OpK.of (OpOk.lenA D rfl rfl rfl rfl rfl rfl) ?_
      | refine OpK.of (OpOk.lenE D rfl rfl rfl rfl) ?_
      | refine OpK.of (OpOk.inc rfl rfl rfl (by omega)) ?_
      | refine OpK.of (OpOk.add rfl rfl rfl (by omega)) ?_
      | refine OpK.of (OpOk.sub rfl rfl rfl (by omega)) ?_
      | refine OpK.of (OpOk.ixM D rfl rfl rfl rfl rfl rfl (by first | assumption | omega) (fun _ => rfl)) ?_)
    | (refine W.id ?_; first
      | refine W.regs ?_
      | refine W.drs0 mixed (by kernel_rfl) ?_
      | refine W.drs1 mixed (by kernel_rfl) ?_
      | refine W.drs2 mixed (by kernel_rfl) ?_
      | refine W.ret ?_
      | refine W.seq ?_
      | refine W.skip ?_
      | refine W.region ?_
      | refine W.exit ?_
      | refine W.block ?_
      | (refine W.cond rfl ?_ ?_ <;> intro hb <;> try simp at hb)
      | refine W.drawn mixed ?_)
    | (refine Then.id ?_; first
      | refine Then.rn ?_
      | refine Then.rr ?_
      | refine Then.rx ?_)
    | (refine InBlk.id ?_; first
      | refine InBlk.rn ?_
      | refine InBlk.rr ?_
      | refine InBlk.re ?_
      | refine InBlk.rx rfl ?_)
    | (refine WD.id ?_; first
      | refine WD.done rfl ?_
      | refine WD.t rfl ?_ rfl
      | refine WD.g rfl rfl rfl ?_
      | refine WD.u rfl rfl rfl ?_
      | (refine WD.gs _ rfl rfl rfl ?_ ?_ <;> intro hb <;> simp only [hb] <;> try simp at hb))
    | (refine OpD.id ?_; first
      | refine OpD.of (stpR_ok D rfl) ?_
      | refine OpD.of (OpOk.call rfl (inside_ok s.span s.pairs[k].key) rfl rfl rfl) ?_
      | refine OpD.of (OpOk.call rfl (cut_impl2 s.span s.cut) rfl rfl rfl) ?_
      | refine OpD.of (OpOk.lenS D rfl rfl rfl rfl) ?_
      | refine OpD.of (OpOk.lenM D rfl rfl rfl rfl) ?_
      | refine OpD.of (OpOk.lenL D rfl rfl rfl rfl) ?_
      | refine OpD.of (OpOk.lenA D rfl rfl rfl rfl rfl rfl) ?_
      | refine OpD.of (OpOk.lenE D rfl rfl rfl rfl) ?_
      | refine OpD.of (OpOk.inc rfl rfl rfl (by omega)) ?_
      | refine OpD.of (OpOk.add rfl rfl rfl (by omega)) ?_
      | refine OpD.of (OpOk.sub rfl rfl rfl (by omega)) ?_
      | refine OpD.of (OpOk.ixM D rfl rfl rfl rfl rfl rfl (by first | assumption | omega) (fun _ => rfl)) ?_)
    | (refine WE.id ?_; first
      | refine WE.done (by with_unfolding_all rfl) ?_
      | refine WE.step (by with_unfolding_all rfl) ?_)
    | (refine WI.id ?_; first
      | refine WI.r D rfl ?_
      | refine WI.g rfl rfl rfl ?_
      | refine WI.g0 rfl ?_
      | (refine WI.gs _ rfl rfl rfl ?_ ?_ <;> intro hb <;> simp only [hb] <;> try simp at hb))
    | (refine WL.id ?_; first
      | refine WL.cons ?_ ?_
      | exact WL.nil
      | exact WL.on (by with_unfolding_all rfl)
      | refine WL.oc (by with_unfolding_all rfl) ?_ ?_))
  all_goals first
    | (have hlt : k < s.pairs.length := by assumption
       rw [drop_cons hlt, List.all_cons] at hy
       first
       | (have hb2 : hasK s.span s.pairs[k].key = true := by first | assumption | (simp_all; done)
          rw [hb2, Bool.true_and] at hy
          exact ⟨k + 1, ⟨by omega, hy⟩, by omega, (.cons rfl rfl (.cons rfl rfl (.cons rfl rfl (.cons rfl rfl (.nil))))), rfl, rfl⟩)
       | (have hb2 : hasK s.span s.pairs[k].key = false := by first | assumption | (simp_all; done)
          rw [hb2, Bool.false_and] at hy
          refine ⟨.inr rfl, _, _, rfl, .cons (.c (.id rfl)) .nil, ?_⟩; simp [resV, X.v, stOk, hy]; done)
       | (exfalso; simp_all; done))
    | (refine ⟨.inr rfl, _, _, rfl, .cons (.c (.id rfl)) .nil, ?_⟩; rw [drop_nil (by omega)] at hy; simp_all [resV, X.v, stOk]; done)
theorem stOk_spec (s : Stt) (hs : s.Sm) : Pu Tryz.prog 159 [A s.e] (B (stOk s)) := by
  refine Pu.of D Tryz.func159 rfl rfl rfl ?_
  repeat' (first
    | (refine WO.id ?_; first
      | refine stp1_ok D rfl ?_
      | refine WO.nil ?_
      | refine WO.g rfl rfl rfl ?_
      | refine WO.g0 rfl ?_
      | (refine WO.gs _ rfl rfl rfl ?_ ?_ <;> intro hb <;> simp only [hb] <;> try simp at hb))
    | (refine OpK.id ?_; first
      | refine OpK.of (OpOk.call rfl (ivOk_spec s.span) rfl rfl rfl) ?_
      | refine OpK.of (OpOk.call rfl (pairsOk_spec s.pairs) rfl rfl rfl) ?_
      | refine OpK.of (OpOk.call rfl (sesOk_spec s.known hs.knownN) rfl rfl rfl) ?_
      | refine OpK.of (OpOk.lenS D rfl rfl rfl rfl) ?_
      | refine OpK.of (OpOk.lenM D rfl rfl rfl rfl) ?_
      | refine OpK.of (OpOk.lenL D rfl rfl rfl rfl) ?_
      | refine OpK.of (OpOk.lenA D rfl rfl rfl rfl rfl rfl) ?_
      | refine OpK.of (OpOk.lenE D rfl rfl rfl rfl) ?_
      | refine OpK.of (OpOk.inc rfl rfl rfl (by omega)) ?_
      | refine OpK.of (OpOk.add rfl rfl rfl (by omega)) ?_
      | refine OpK.of (OpOk.sub rfl rfl rfl (by omega)) ?_
      | refine OpK.of (OpOk.ixM D rfl rfl rfl rfl rfl rfl (by first | assumption | omega) (fun _ => rfl)) ?_)
    | (refine W.id ?_; first
      | refine W.regs ?_
      | refine W.drs0 mixed (by kernel_rfl) ?_
      | refine W.drs1 mixed (by kernel_rfl) ?_
      | refine W.drs2 mixed (by kernel_rfl) ?_
      | refine W.ret ?_
      | refine W.seq ?_
      | refine W.skip ?_
      | refine W.region ?_
      | refine W.exit ?_
      | refine W.block ?_
      | (refine W.cond rfl ?_ ?_ <;> intro hb <;> try simp at hb)
      | refine W.drawn mixed ?_)
    | (refine Then.id ?_; first
      | refine Then.rn ?_
      | refine Then.rr ?_
      | refine Then.rx ?_)
    | (refine InBlk.id ?_; first
      | refine InBlk.rn ?_
      | refine InBlk.rr ?_
      | refine InBlk.re ?_
      | refine InBlk.rx rfl ?_)
    | (refine WD.id ?_; first
      | refine WD.done rfl ?_
      | refine WD.t rfl ?_ rfl
      | refine WD.g rfl rfl rfl ?_
      | refine WD.u rfl rfl rfl ?_
      | (refine WD.gs _ rfl rfl rfl ?_ ?_ <;> intro hb <;> simp only [hb] <;> try simp at hb))
    | (refine OpD.id ?_; first
      | refine OpD.of (stpR_ok D rfl) ?_
      | refine OpD.of (OpOk.call rfl (ivOk_spec s.span) rfl rfl rfl) ?_
      | refine OpD.of (OpOk.call rfl (pairsOk_spec s.pairs) rfl rfl rfl) ?_
      | refine OpD.of (OpOk.call rfl (sesOk_spec s.known hs.knownN) rfl rfl rfl) ?_
      | refine OpD.of (OpOk.lenS D rfl rfl rfl rfl) ?_
      | refine OpD.of (OpOk.lenM D rfl rfl rfl rfl) ?_
      | refine OpD.of (OpOk.lenL D rfl rfl rfl rfl) ?_
      | refine OpD.of (OpOk.lenA D rfl rfl rfl rfl rfl rfl) ?_
      | refine OpD.of (OpOk.lenE D rfl rfl rfl rfl) ?_
      | refine OpD.of (OpOk.inc rfl rfl rfl (by omega)) ?_
      | refine OpD.of (OpOk.add rfl rfl rfl (by omega)) ?_
      | refine OpD.of (OpOk.sub rfl rfl rfl (by omega)) ?_
      | refine OpD.of (OpOk.ixM D rfl rfl rfl rfl rfl rfl (by first | assumption | omega) (fun _ => rfl)) ?_)
    | (refine WE.id ?_; first
      | refine WE.done (by with_unfolding_all rfl) ?_
      | refine WE.step (by with_unfolding_all rfl) ?_)
    | (refine WI.id ?_; first
      | refine WI.r D rfl ?_
      | refine WI.g rfl rfl rfl ?_
      | refine WI.g0 rfl ?_
      | (refine WI.gs _ rfl rfl rfl ?_ ?_ <;> intro hb <;> simp only [hb] <;> try simp at hb))
    | (refine WL.id ?_; first
      | refine WL.cons ?_ ?_
      | exact WL.nil
      | exact WL.on (by with_unfolding_all rfl)
      | refine WL.oc (by with_unfolding_all rfl) ?_ ?_))
  all_goals first | (refine ⟨.inr rfl, _, _, rfl, .cons (.c (.id rfl)) .nil, ?_⟩; simp_all [resV, X.v, stOk]; done) | skip
  have lp := hs.pairsN
  have hp : pairsOk s.pairs = true := by assumption
  refine W.loop (σ := Nat) (fun k => [(3, I k), (1, .c (.ptr 0 0))]) (fun _ => [.box (tc s.e)]) (fun k => k ≤ s.pairs.length ∧ hasAll s = (s.pairs.drop k).all (fun p => hasK s.span p.key)) (fun k => s.pairs.length - k) 1 (fun _ _ => rfl) 0 ⟨by simp, by simp [hasAll]⟩ rfl (.cons rfl rfl (.cons rfl rfl (.nil))) ?_
  rintro k ⟨hk1, hy⟩
  repeat' (first
    | (refine WO.id ?_; first
      | refine stp1_ok D rfl ?_
      | refine WO.nil ?_
      | refine WO.g rfl rfl rfl ?_
      | refine WO.g0 rfl ?_
      | (refine WO.gs _ rfl rfl rfl ?_ ?_ <;> intro hb <;> simp only [hb] <;> try simp at hb))
    | (refine OpK.id ?_; first
      | refine OpK.of (OpOk.call rfl (has_ok s.span s.pairs[k].key) rfl rfl rfl) ?_
      | refine OpK.of (OpOk.call rfl (cut_spec2 s.span s.cut) rfl rfl rfl) ?_
      | refine OpK.of (OpOk.lenS D rfl rfl rfl rfl) ?_
      | refine OpK.of (OpOk.lenM D rfl rfl rfl rfl) ?_
      | refine OpK.of (OpOk.lenL D rfl rfl rfl rfl) ?_
      | refine OpK.of (OpOk.lenA D rfl rfl rfl rfl rfl rfl) ?_
      | refine OpK.of (OpOk.lenE D rfl rfl rfl rfl) ?_
      | refine OpK.of (OpOk.inc rfl rfl rfl (by omega)) ?_
      | refine OpK.of (OpOk.add rfl rfl rfl (by omega)) ?_
      | refine OpK.of (OpOk.sub rfl rfl rfl (by omega)) ?_
      | refine OpK.of (OpOk.ixM D rfl rfl rfl rfl rfl rfl (by first | assumption | omega) (fun _ => rfl)) ?_)
    | (refine W.id ?_; first
      | refine W.regs ?_
      | refine W.drs0 mixed (by kernel_rfl) ?_
      | refine W.drs1 mixed (by kernel_rfl) ?_
      | refine W.drs2 mixed (by kernel_rfl) ?_
      | refine W.ret ?_
      | refine W.seq ?_
      | refine W.skip ?_
      | refine W.region ?_
      | refine W.exit ?_
      | refine W.block ?_
      | (refine W.cond rfl ?_ ?_ <;> intro hb <;> try simp at hb)
      | refine W.drawn mixed ?_)
    | (refine Then.id ?_; first
      | refine Then.rn ?_
      | refine Then.rr ?_
      | refine Then.rx ?_)
    | (refine InBlk.id ?_; first
      | refine InBlk.rn ?_
      | refine InBlk.rr ?_
      | refine InBlk.re ?_
      | refine InBlk.rx rfl ?_)
    | (refine WD.id ?_; first
      | refine WD.done rfl ?_
      | refine WD.t rfl ?_ rfl
      | refine WD.g rfl rfl rfl ?_
      | refine WD.u rfl rfl rfl ?_
      | (refine WD.gs _ rfl rfl rfl ?_ ?_ <;> intro hb <;> simp only [hb] <;> try simp at hb))
    | (refine OpD.id ?_; first
      | refine OpD.of (stpR_ok D rfl) ?_
      | refine OpD.of (OpOk.call rfl (has_ok s.span s.pairs[k].key) rfl rfl rfl) ?_
      | refine OpD.of (OpOk.call rfl (cut_spec2 s.span s.cut) rfl rfl rfl) ?_
      | refine OpD.of (OpOk.lenS D rfl rfl rfl rfl) ?_
      | refine OpD.of (OpOk.lenM D rfl rfl rfl rfl) ?_
      | refine OpD.of (OpOk.lenL D rfl rfl rfl rfl) ?_
      | refine OpD.of (OpOk.lenA D rfl rfl rfl rfl rfl rfl) ?_
      | refine OpD.of (OpOk.lenE D rfl rfl rfl rfl) ?_
      | refine OpD.of (OpOk.inc rfl rfl rfl (by omega)) ?_
      | refine OpD.of (OpOk.add rfl rfl rfl (by omega)) ?_
      | refine OpD.of (OpOk.sub rfl rfl rfl (by omega)) ?_
      | refine OpD.of (OpOk.ixM D rfl rfl rfl rfl rfl rfl (by first | assumption | omega) (fun _ => rfl)) ?_)
    | (refine WE.id ?_; first
      | refine WE.done (by with_unfolding_all rfl) ?_
      | refine WE.step (by with_unfolding_all rfl) ?_)
    | (refine WI.id ?_; first
      | refine WI.r D rfl ?_
      | refine WI.g rfl rfl rfl ?_
      | refine WI.g0 rfl ?_
      | (refine WI.gs _ rfl rfl rfl ?_ ?_ <;> intro hb <;> simp only [hb] <;> try simp at hb))
    | (refine WL.id ?_; first
      | refine WL.cons ?_ ?_
      | exact WL.nil
      | exact WL.on (by with_unfolding_all rfl)
      | refine WL.oc (by with_unfolding_all rfl) ?_ ?_))
  all_goals first
    | (have hlt : k < s.pairs.length := by assumption
       have hkk := pair_key hp hlt
       rw [drop_cons hlt, List.all_cons] at hy
       first
       | (have hb2 : hasK s.span s.pairs[k].key = true := by first | assumption | (simp_all; done)
          rw [hb2, Bool.true_and] at hy
          exact ⟨k + 1, ⟨by omega, hy⟩, by omega, (.cons rfl rfl (.cons rfl rfl (.nil))), rfl, rfl⟩)
       | (have hb2 : hasK s.span s.pairs[k].key = false := by first | assumption | (simp_all; done)
          rw [hb2, Bool.false_and] at hy
          refine ⟨.inr rfl, _, _, rfl, .cons (.c (.id rfl)) .nil, ?_⟩; simp [resV, X.v, stOk, hy]; done)
       | (exfalso; simp_all; done))
    | (refine ⟨.inr rfl, _, _, rfl, .cons (.c (.id rfl)) .nil, ?_⟩; rw [drop_nil (by omega)] at hy; simp_all [resV, X.v, stOk]; done)
/-! ### Chains -/
def ansOk (a : Ans) : Bool := entOk a.asked && inR a.reply (-4) 999
def answersOk (l : List Ans) : Bool := decide (l.length ≤ 24) && l.all ansOk
theorem answersOk_impl (l : List Ans) : Pu Tryz.prog 174 [L Ans.e l] (B (answersOk l)) := by
  refine Pu.of D Tryz.func174 rfl rfl rfl ?_
  repeat' (first
    | (refine WO.id ?_; first
      | refine stp1_ok D rfl ?_
      | refine WO.nil ?_
      | refine WO.g rfl rfl rfl ?_
      | refine WO.g0 rfl ?_
      | (refine WO.gs _ rfl rfl rfl ?_ ?_ <;> intro hb <;> simp only [hb] <;> try simp at hb))
    | (refine OpK.id ?_; first
      | refine OpK.of (OpOk.lenS D rfl rfl rfl rfl) ?_
      | refine OpK.of (OpOk.lenM D rfl rfl rfl rfl) ?_
      | refine OpK.of (OpOk.lenL D rfl rfl rfl rfl) ?_
      | refine OpK.of (OpOk.lenA D rfl rfl rfl rfl rfl rfl) ?_
      | refine OpK.of (OpOk.lenE D rfl rfl rfl rfl) ?_
      | refine OpK.of (OpOk.inc rfl rfl rfl (by omega)) ?_
      | refine OpK.of (OpOk.add rfl rfl rfl (by omega)) ?_
      | refine OpK.of (OpOk.sub rfl rfl rfl (by omega)) ?_
      | refine OpK.of (OpOk.ixM D rfl rfl rfl rfl rfl rfl (by first | assumption | omega) (fun _ => rfl)) ?_)
    | (refine W.id ?_; first
      | refine W.regs ?_
      | refine W.drs0 mixed (by kernel_rfl) ?_
      | refine W.drs1 mixed (by kernel_rfl) ?_
      | refine W.drs2 mixed (by kernel_rfl) ?_
      | refine W.ret ?_
      | refine W.seq ?_
      | refine W.skip ?_
      | refine W.region ?_
      | refine W.exit ?_
      | refine W.block ?_
      | (refine W.cond rfl ?_ ?_ <;> intro hb <;> try simp at hb)
      | refine W.drawn mixed ?_)
    | (refine Then.id ?_; first
      | refine Then.rn ?_
      | refine Then.rr ?_
      | refine Then.rx ?_)
    | (refine InBlk.id ?_; first
      | refine InBlk.rn ?_
      | refine InBlk.rr ?_
      | refine InBlk.re ?_
      | refine InBlk.rx rfl ?_)
    | (refine WD.id ?_; first
      | refine WD.done rfl ?_
      | refine WD.t rfl ?_ rfl
      | refine WD.g rfl rfl rfl ?_
      | refine WD.u rfl rfl rfl ?_
      | (refine WD.gs _ rfl rfl rfl ?_ ?_ <;> intro hb <;> simp only [hb] <;> try simp at hb))
    | (refine OpD.id ?_; first
      | refine OpD.of (stpR_ok D rfl) ?_
      | refine OpD.of (OpOk.lenS D rfl rfl rfl rfl) ?_
      | refine OpD.of (OpOk.lenM D rfl rfl rfl rfl) ?_
      | refine OpD.of (OpOk.lenL D rfl rfl rfl rfl) ?_
      | refine OpD.of (OpOk.lenA D rfl rfl rfl rfl rfl rfl) ?_
      | refine OpD.of (OpOk.lenE D rfl rfl rfl rfl) ?_
      | refine OpD.of (OpOk.inc rfl rfl rfl (by omega)) ?_
      | refine OpD.of (OpOk.add rfl rfl rfl (by omega)) ?_
      | refine OpD.of (OpOk.sub rfl rfl rfl (by omega)) ?_
      | refine OpD.of (OpOk.ixM D rfl rfl rfl rfl rfl rfl (by first | assumption | omega) (fun _ => rfl)) ?_)
    | (refine WE.id ?_; first
      | refine WE.done (by with_unfolding_all rfl) ?_
      | refine WE.step (by with_unfolding_all rfl) ?_)
    | (refine WI.id ?_; first
      | refine WI.r D rfl ?_
      | refine WI.g rfl rfl rfl ?_
      | refine WI.g0 rfl ?_
      | (refine WI.gs _ rfl rfl rfl ?_ ?_ <;> intro hb <;> simp only [hb] <;> try simp at hb))
    | (refine WL.id ?_; first
      | refine WL.cons ?_ ?_
      | exact WL.nil
      | exact WL.on (by with_unfolding_all rfl)
      | refine WL.oc (by with_unfolding_all rfl) ?_ ?_))
  · refine ⟨.inr rfl, _, _, rfl, .cons (.c (.id rfl)) .nil, ?_⟩
    simp [resV, X.v, answersOk] at *; grind
  · refine W.loop (σ := Nat) (fun k => [(10, I k), (9, I l.length), (8, L Ans.e l)]) (fun _ => []) (fun k => k ≤ (l).length ∧ (l).all (ansOk) = ((l).drop k).all (ansOk)) (fun k => (l).length - k) 0 (fun _ _ => rfl) 0 ⟨by simp, by simp⟩ rfl (.cons rfl rfl (.cons rfl rfl (.cons rfl rfl (.nil)))) ?_
    rintro k ⟨hk1, hy⟩
    repeat' (first
    | (refine WO.id ?_; first
      | refine stp1_ok D rfl ?_
      | refine WO.nil ?_
      | refine WO.g rfl rfl rfl ?_
      | refine WO.g0 rfl ?_
      | (refine WO.gs _ rfl rfl rfl ?_ ?_ <;> intro hb <;> simp only [hb] <;> try simp at hb))
    | (refine OpK.id ?_; first
      | refine OpK.of (OpOk.call rfl (entOk_impl l[k].asked) rfl rfl rfl) ?_
      | refine OpK.of (OpOk.lenS D rfl rfl rfl rfl) ?_
      | refine OpK.of (OpOk.lenM D rfl rfl rfl rfl) ?_
      | refine OpK.of (OpOk.lenL D rfl rfl rfl rfl) ?_
      | refine OpK.of (OpOk.lenA D rfl rfl rfl rfl rfl rfl) ?_
      | refine OpK.of (OpOk.lenE D rfl rfl rfl rfl) ?_
      | refine OpK.of (OpOk.inc rfl rfl rfl (by omega)) ?_
      | refine OpK.of (OpOk.add rfl rfl rfl (by omega)) ?_
      | refine OpK.of (OpOk.sub rfl rfl rfl (by omega)) ?_
      | refine OpK.of (OpOk.ixM D rfl rfl rfl rfl rfl rfl (by first | assumption | omega) (fun _ => rfl)) ?_)
    | (refine W.id ?_; first
      | refine W.regs ?_
      | refine W.drs0 mixed (by kernel_rfl) ?_
      | refine W.drs1 mixed (by kernel_rfl) ?_
      | refine W.drs2 mixed (by kernel_rfl) ?_
      | refine W.ret ?_
      | refine W.seq ?_
      | refine W.skip ?_
      | refine W.region ?_
      | refine W.exit ?_
      | refine W.block ?_
      | (refine W.cond rfl ?_ ?_ <;> intro hb <;> try simp at hb)
      | refine W.drawn mixed ?_)
    | (refine Then.id ?_; first
      | refine Then.rn ?_
      | refine Then.rr ?_
      | refine Then.rx ?_)
    | (refine InBlk.id ?_; first
      | refine InBlk.rn ?_
      | refine InBlk.rr ?_
      | refine InBlk.re ?_
      | refine InBlk.rx rfl ?_)
    | (refine WD.id ?_; first
      | refine WD.done rfl ?_
      | refine WD.t rfl ?_ rfl
      | refine WD.g rfl rfl rfl ?_
      | refine WD.u rfl rfl rfl ?_
      | (refine WD.gs _ rfl rfl rfl ?_ ?_ <;> intro hb <;> simp only [hb] <;> try simp at hb))
    | (refine OpD.id ?_; first
      | refine OpD.of (stpR_ok D rfl) ?_
      | refine OpD.of (OpOk.call rfl (entOk_impl l[k].asked) rfl rfl rfl) ?_
      | refine OpD.of (OpOk.lenS D rfl rfl rfl rfl) ?_
      | refine OpD.of (OpOk.lenM D rfl rfl rfl rfl) ?_
      | refine OpD.of (OpOk.lenL D rfl rfl rfl rfl) ?_
      | refine OpD.of (OpOk.lenA D rfl rfl rfl rfl rfl rfl) ?_
      | refine OpD.of (OpOk.lenE D rfl rfl rfl rfl) ?_
      | refine OpD.of (OpOk.inc rfl rfl rfl (by omega)) ?_
      | refine OpD.of (OpOk.add rfl rfl rfl (by omega)) ?_
      | refine OpD.of (OpOk.sub rfl rfl rfl (by omega)) ?_
      | refine OpD.of (OpOk.ixM D rfl rfl rfl rfl rfl rfl (by first | assumption | omega) (fun _ => rfl)) ?_)
    | (refine WE.id ?_; first
      | refine WE.done (by with_unfolding_all rfl) ?_
      | refine WE.step (by with_unfolding_all rfl) ?_)
    | (refine WI.id ?_; first
      | refine WI.r D rfl ?_
      | refine WI.g rfl rfl rfl ?_
      | refine WI.g0 rfl ?_
      | (refine WI.gs _ rfl rfl rfl ?_ ?_ <;> intro hb <;> simp only [hb] <;> try simp at hb))
    | (refine WL.id ?_; first
      | refine WL.cons ?_ ?_
      | exact WL.nil
      | exact WL.on (by with_unfolding_all rfl)
      | refine WL.oc (by with_unfolding_all rfl) ?_ ?_))
    all_goals first
      | (have hlt : k < (l).length := by assumption
         rw [drop_cons hlt, List.all_cons] at hy
         first
         | (refine ⟨.inr rfl, _, _, rfl, .cons (.c (.id rfl)) .nil, ?_⟩; simp_all [resV, X.v, answersOk, ansOk, inR]; done)
         | (refine ⟨.inr rfl, _, _, rfl, .cons (.c (.id rfl)) .nil, ?_⟩; simp [resV, X.v, answersOk, ansOk, inR] at *; grind)
         | (refine ⟨k + 1, ⟨by omega, ?_⟩, by omega, (.cons rfl rfl (.cons rfl rfl (.cons rfl rfl (.nil)))), rfl, rfl⟩; simp_all [answersOk, ansOk, inR]; done)
         | (refine ⟨k + 1, ⟨by omega, ?_⟩, by omega, (.cons rfl rfl (.cons rfl rfl (.cons rfl rfl (.nil)))), rfl, rfl⟩; simp [answersOk, ansOk, inR] at *; grind))
      | (refine ⟨.inr rfl, _, _, rfl, .cons (.c (.id rfl)) .nil, ?_⟩; rw [drop_nil (by omega)] at hy; simp_all [resV, X.v, answersOk, ansOk, inR]; done)
      | (refine ⟨.inr rfl, _, _, rfl, .cons (.c (.id rfl)) .nil, ?_⟩; rw [drop_nil (by omega)] at hy; simp [resV, X.v, answersOk, ansOk, inR] at *; grind)

def nodeIn (c : Chn) (r : Rep) : Bool := repOk r && decide (r.conf.epoch ≤ c.conf.epoch)
def bagIn (c : Chn) (m : Msg) : Bool := decide (m.epoch ≤ c.conf.epoch)
def chOk (c : Chn) : Bool := stOk c.base && confOk c.conf && decide (c.nodes.length = 5) && decide (c.up.length = 5) && bagOk c.bag && c.nodes.all (nodeIn c) && c.bag.all (bagIn c) && answersOk c.answers
theorem chOk_impl (c : Chn) (hs : c.Sm) : Pu Tryz.prog 67 [A c.e] (B (chOk c)) := by
  refine Pu.of D Tryz.func67 rfl rfl rfl ?_
  repeat' (first
    | (refine WO.id ?_; first
      | refine stp1_ok D rfl ?_
      | refine WO.nil ?_
      | refine WO.g rfl rfl rfl ?_
      | refine WO.g0 rfl ?_
      | (refine WO.gs _ rfl rfl rfl ?_ ?_ <;> intro hb <;> simp only [hb] <;> try simp at hb))
    | (refine OpK.id ?_; first
      | refine OpK.of (OpOk.call rfl (stOk_impl c.base hs.base) rfl rfl rfl) ?_
      | refine OpK.of (OpOk.call rfl (confOk_impl c.conf hs.conf.memN) rfl rfl rfl) ?_
      | refine OpK.of (OpOk.call rfl (bagOk_impl c.bag hs.bag) rfl rfl rfl) ?_
      | refine OpK.of (OpOk.lenS D rfl rfl rfl rfl) ?_
      | refine OpK.of (OpOk.lenM D rfl rfl rfl rfl) ?_
      | refine OpK.of (OpOk.lenL D rfl rfl rfl rfl) ?_
      | refine OpK.of (OpOk.lenA D rfl rfl rfl rfl rfl rfl) ?_
      | refine OpK.of (OpOk.lenE D rfl rfl rfl rfl) ?_
      | refine OpK.of (OpOk.inc rfl rfl rfl (by omega)) ?_
      | refine OpK.of (OpOk.add rfl rfl rfl (by omega)) ?_
      | refine OpK.of (OpOk.sub rfl rfl rfl (by omega)) ?_
      | refine OpK.of (OpOk.ixM D rfl rfl rfl rfl rfl rfl (by first | assumption | omega) (fun _ => rfl)) ?_)
    | (refine W.id ?_; first
      | refine W.regs ?_
      | refine W.drs0 mixed (by kernel_rfl) ?_
      | refine W.drs1 mixed (by kernel_rfl) ?_
      | refine W.drs2 mixed (by kernel_rfl) ?_
      | refine W.ret ?_
      | refine W.seq ?_
      | refine W.skip ?_
      | refine W.region ?_
      | refine W.exit ?_
      | refine W.block ?_
      | (refine W.cond rfl ?_ ?_ <;> intro hb <;> try simp at hb)
      | refine W.drawn mixed ?_)
    | (refine Then.id ?_; first
      | refine Then.rn ?_
      | refine Then.rr ?_
      | refine Then.rx ?_)
    | (refine InBlk.id ?_; first
      | refine InBlk.rn ?_
      | refine InBlk.rr ?_
      | refine InBlk.re ?_
      | refine InBlk.rx rfl ?_)
    | (refine WD.id ?_; first
      | refine WD.done rfl ?_
      | refine WD.t rfl ?_ rfl
      | refine WD.g rfl rfl rfl ?_
      | refine WD.u rfl rfl rfl ?_
      | (refine WD.gs _ rfl rfl rfl ?_ ?_ <;> intro hb <;> simp only [hb] <;> try simp at hb))
    | (refine OpD.id ?_; first
      | refine OpD.of (stpR_ok D rfl) ?_
      | refine OpD.of (OpOk.call rfl (stOk_impl c.base hs.base) rfl rfl rfl) ?_
      | refine OpD.of (OpOk.call rfl (confOk_impl c.conf hs.conf.memN) rfl rfl rfl) ?_
      | refine OpD.of (OpOk.call rfl (bagOk_impl c.bag hs.bag) rfl rfl rfl) ?_
      | refine OpD.of (OpOk.lenS D rfl rfl rfl rfl) ?_
      | refine OpD.of (OpOk.lenM D rfl rfl rfl rfl) ?_
      | refine OpD.of (OpOk.lenL D rfl rfl rfl rfl) ?_
      | refine OpD.of (OpOk.lenA D rfl rfl rfl rfl rfl rfl) ?_
      | refine OpD.of (OpOk.lenE D rfl rfl rfl rfl) ?_
      | refine OpD.of (OpOk.inc rfl rfl rfl (by omega)) ?_
      | refine OpD.of (OpOk.add rfl rfl rfl (by omega)) ?_
      | refine OpD.of (OpOk.sub rfl rfl rfl (by omega)) ?_
      | refine OpD.of (OpOk.ixM D rfl rfl rfl rfl rfl rfl (by first | assumption | omega) (fun _ => rfl)) ?_)
    | (refine WE.id ?_; first
      | refine WE.done (by with_unfolding_all rfl) ?_
      | refine WE.step (by with_unfolding_all rfl) ?_)
    | (refine WI.id ?_; first
      | refine WI.r D rfl ?_
      | refine WI.g rfl rfl rfl ?_
      | refine WI.g0 rfl ?_
      | (refine WI.gs _ rfl rfl rfl ?_ ?_ <;> intro hb <;> simp only [hb] <;> try simp at hb))
    | (refine WL.id ?_; first
      | refine WL.cons ?_ ?_
      | exact WL.nil
      | exact WL.on (by with_unfolding_all rfl)
      | refine WL.oc (by with_unfolding_all rfl) ?_ ?_))
  all_goals first | (refine ⟨.inr rfl, _, _, rfl, .cons (.c (.id rfl)) .nil, ?_⟩; simp [resV, X.v, chOk] at *; grind) | skip
  have hl5 : c.nodes.length = 5 := by omega
  have hu5 : c.up.length = 5 := by omega
  have hbag : bagOk c.bag = true := by assumption
  have hbl : c.bag.length ≤ 10 := by simp only [bagOk, Bool.and_eq_true, decide_eq_true_eq] at hbag; exact hbag.1
  have hbase : stOk c.base = true := by assumption
  have hconf : confOk c.conf = true := by assumption
  refine W.loop (σ := Nat) (fun k => [(38, I k), (37, I c.nodes.length), (36, L Rep.e c.nodes), (1, .c (.ptr 0 0))]) (fun _ => [.box (tc c.e)]) (fun k => k ≤ (c.nodes).length ∧ (c.nodes).all (nodeIn c) = ((c.nodes).drop k).all (nodeIn c)) (fun k => (c.nodes).length - k) 1 (fun _ _ => rfl) 0 ⟨by simp, by simp⟩ rfl (.cons rfl rfl (.cons rfl rfl (.cons rfl rfl (.cons rfl rfl (.nil))))) ?_
  rintro k ⟨hk1, hy⟩
  repeat' (first
    | (refine WO.id ?_; first
      | refine stp1_ok D rfl ?_
      | refine WO.nil ?_
      | refine WO.g rfl rfl rfl ?_
      | refine WO.g0 rfl ?_
      | (refine WO.gs _ rfl rfl rfl ?_ ?_ <;> intro hb <;> simp only [hb] <;> try simp at hb))
    | (refine OpK.id ?_; first
      | refine OpK.of (OpOk.call rfl (repOk_impl c.nodes[k] (hs.nodes _ (List.getElem_mem _))) rfl rfl rfl) ?_
      | refine OpK.of (OpOk.lenS D rfl rfl rfl rfl) ?_
      | refine OpK.of (OpOk.lenM D rfl rfl rfl rfl) ?_
      | refine OpK.of (OpOk.lenL D rfl rfl rfl rfl) ?_
      | refine OpK.of (OpOk.lenA D rfl rfl rfl rfl rfl rfl) ?_
      | refine OpK.of (OpOk.lenE D rfl rfl rfl rfl) ?_
      | refine OpK.of (OpOk.inc rfl rfl rfl (by omega)) ?_
      | refine OpK.of (OpOk.add rfl rfl rfl (by omega)) ?_
      | refine OpK.of (OpOk.sub rfl rfl rfl (by omega)) ?_
      | refine OpK.of (OpOk.ixM D rfl rfl rfl rfl rfl rfl (by first | assumption | omega) (fun _ => rfl)) ?_)
    | (refine W.id ?_; first
      | refine W.regs ?_
      | refine W.drs0 mixed (by kernel_rfl) ?_
      | refine W.drs1 mixed (by kernel_rfl) ?_
      | refine W.drs2 mixed (by kernel_rfl) ?_
      | refine W.ret ?_
      | refine W.seq ?_
      | refine W.skip ?_
      | refine W.region ?_
      | refine W.exit ?_
      | refine W.block ?_
      | (refine W.cond rfl ?_ ?_ <;> intro hb <;> try simp at hb)
      | refine W.drawn mixed ?_)
    | (refine Then.id ?_; first
      | refine Then.rn ?_
      | refine Then.rr ?_
      | refine Then.rx ?_)
    | (refine InBlk.id ?_; first
      | refine InBlk.rn ?_
      | refine InBlk.rr ?_
      | refine InBlk.re ?_
      | refine InBlk.rx rfl ?_)
    | (refine WD.id ?_; first
      | refine WD.done rfl ?_
      | refine WD.t rfl ?_ rfl
      | refine WD.g rfl rfl rfl ?_
      | refine WD.u rfl rfl rfl ?_
      | (refine WD.gs _ rfl rfl rfl ?_ ?_ <;> intro hb <;> simp only [hb] <;> try simp at hb))
    | (refine OpD.id ?_; first
      | refine OpD.of (stpR_ok D rfl) ?_
      | refine OpD.of (OpOk.call rfl (repOk_impl c.nodes[k] (hs.nodes _ (List.getElem_mem _))) rfl rfl rfl) ?_
      | refine OpD.of (OpOk.lenS D rfl rfl rfl rfl) ?_
      | refine OpD.of (OpOk.lenM D rfl rfl rfl rfl) ?_
      | refine OpD.of (OpOk.lenL D rfl rfl rfl rfl) ?_
      | refine OpD.of (OpOk.lenA D rfl rfl rfl rfl rfl rfl) ?_
      | refine OpD.of (OpOk.lenE D rfl rfl rfl rfl) ?_
      | refine OpD.of (OpOk.inc rfl rfl rfl (by omega)) ?_
      | refine OpD.of (OpOk.add rfl rfl rfl (by omega)) ?_
      | refine OpD.of (OpOk.sub rfl rfl rfl (by omega)) ?_
      | refine OpD.of (OpOk.ixM D rfl rfl rfl rfl rfl rfl (by first | assumption | omega) (fun _ => rfl)) ?_)
    | (refine WE.id ?_; first
      | refine WE.done (by with_unfolding_all rfl) ?_
      | refine WE.step (by with_unfolding_all rfl) ?_)
    | (refine WI.id ?_; first
      | refine WI.r D rfl ?_
      | refine WI.g rfl rfl rfl ?_
      | refine WI.g0 rfl ?_
      | (refine WI.gs _ rfl rfl rfl ?_ ?_ <;> intro hb <;> simp only [hb] <;> try simp at hb))
    | (refine WL.id ?_; first
      | refine WL.cons ?_ ?_
      | exact WL.nil
      | exact WL.on (by with_unfolding_all rfl)
      | refine WL.oc (by with_unfolding_all rfl) ?_ ?_))
  all_goals first
    | (have hlt : k < (c.nodes).length := by omega
       rw [drop_cons hlt, List.all_cons] at hy
       first
       | (have hb2 : (nodeIn c) (c.nodes)[k] = true := by first | assumption | (clear hy; simp_all [nodeIn]; done) | (clear hy; simp [nodeIn] at *; grind)
          rw [hb2, Bool.true_and] at hy
          exact ⟨k + 1, ⟨by omega, hy⟩, by omega, (.cons rfl rfl (.cons rfl rfl (.cons rfl rfl (.cons rfl rfl (.nil))))), rfl, rfl⟩)
       | (have hb2 : (nodeIn c) (c.nodes)[k] = false := by first | assumption | (clear hy; simp_all [nodeIn]; done) | (clear hy; simp [nodeIn] at *; grind)
          rw [hb2, Bool.false_and] at hy
          refine ⟨.inr rfl, _, _, rfl, .cons (.c (.id rfl)) .nil, ?_⟩; simp [resV, X.v, chOk, hy]; done))
    | skip
  all_goals
    have hy1 : (c.nodes).all (nodeIn c) = true := by rw [hy, drop_nil (by omega)]; rfl
    clear hy
  clear hk1
  refine W.loop (σ := Nat) (fun k => [(58, I k), (57, I c.bag.length), (56, L Msg.e c.bag), (1, .c (.ptr 0 0))]) (fun _ => [.box (tc c.e)]) (fun k => k ≤ (c.bag).length ∧ (c.bag).all (bagIn c) = ((c.bag).drop k).all (bagIn c)) (fun k => (c.bag).length - k) 1 (fun _ _ => rfl) 0 ⟨by simp, by simp⟩ rfl (.cons rfl rfl (.cons rfl rfl (.cons rfl rfl (.cons rfl rfl (.nil))))) ?_
  rintro k ⟨hk1, hy⟩
  repeat' (first
    | (refine WO.id ?_; first
      | refine stp1_ok D rfl ?_
      | refine WO.nil ?_
      | refine WO.g rfl rfl rfl ?_
      | refine WO.g0 rfl ?_
      | (refine WO.gs _ rfl rfl rfl ?_ ?_ <;> intro hb <;> simp only [hb] <;> try simp at hb))
    | (refine OpK.id ?_; first
      | refine OpK.of (OpOk.call rfl (answersOk_impl c.answers) rfl rfl rfl) ?_
      | refine OpK.of (OpOk.lenS D rfl rfl rfl rfl) ?_
      | refine OpK.of (OpOk.lenM D rfl rfl rfl rfl) ?_
      | refine OpK.of (OpOk.lenL D rfl rfl rfl rfl) ?_
      | refine OpK.of (OpOk.lenA D rfl rfl rfl rfl rfl rfl) ?_
      | refine OpK.of (OpOk.lenE D rfl rfl rfl rfl) ?_
      | refine OpK.of (OpOk.inc rfl rfl rfl (by omega)) ?_
      | refine OpK.of (OpOk.add rfl rfl rfl (by omega)) ?_
      | refine OpK.of (OpOk.sub rfl rfl rfl (by omega)) ?_
      | refine OpK.of (OpOk.ixM D rfl rfl rfl rfl rfl rfl (by first | assumption | omega) (fun _ => rfl)) ?_)
    | (refine W.id ?_; first
      | refine W.regs ?_
      | refine W.drs0 mixed (by kernel_rfl) ?_
      | refine W.drs1 mixed (by kernel_rfl) ?_
      | refine W.drs2 mixed (by kernel_rfl) ?_
      | refine W.ret ?_
      | refine W.seq ?_
      | refine W.skip ?_
      | refine W.region ?_
      | refine W.exit ?_
      | refine W.block ?_
      | (refine W.cond rfl ?_ ?_ <;> intro hb <;> try simp at hb)
      | refine W.drawn mixed ?_)
    | (refine Then.id ?_; first
      | refine Then.rn ?_
      | refine Then.rr ?_
      | refine Then.rx ?_)
    | (refine InBlk.id ?_; first
      | refine InBlk.rn ?_
      | refine InBlk.rr ?_
      | refine InBlk.re ?_
      | refine InBlk.rx rfl ?_)
    | (refine WD.id ?_; first
      | refine WD.done rfl ?_
      | refine WD.t rfl ?_ rfl
      | refine WD.g rfl rfl rfl ?_
      | refine WD.u rfl rfl rfl ?_
      | (refine WD.gs _ rfl rfl rfl ?_ ?_ <;> intro hb <;> simp only [hb] <;> try simp at hb))
    | (refine OpD.id ?_; first
      | refine OpD.of (stpR_ok D rfl) ?_
      | refine OpD.of (OpOk.call rfl (answersOk_impl c.answers) rfl rfl rfl) ?_
      | refine OpD.of (OpOk.lenS D rfl rfl rfl rfl) ?_
      | refine OpD.of (OpOk.lenM D rfl rfl rfl rfl) ?_
      | refine OpD.of (OpOk.lenL D rfl rfl rfl rfl) ?_
      | refine OpD.of (OpOk.lenA D rfl rfl rfl rfl rfl rfl) ?_
      | refine OpD.of (OpOk.lenE D rfl rfl rfl rfl) ?_
      | refine OpD.of (OpOk.inc rfl rfl rfl (by omega)) ?_
      | refine OpD.of (OpOk.add rfl rfl rfl (by omega)) ?_
      | refine OpD.of (OpOk.sub rfl rfl rfl (by omega)) ?_
      | refine OpD.of (OpOk.ixM D rfl rfl rfl rfl rfl rfl (by first | assumption | omega) (fun _ => rfl)) ?_)
    | (refine WE.id ?_; first
      | refine WE.done (by with_unfolding_all rfl) ?_
      | refine WE.step (by with_unfolding_all rfl) ?_)
    | (refine WI.id ?_; first
      | refine WI.r D rfl ?_
      | refine WI.g rfl rfl rfl ?_
      | refine WI.g0 rfl ?_
      | (refine WI.gs _ rfl rfl rfl ?_ ?_ <;> intro hb <;> simp only [hb] <;> try simp at hb))
    | (refine WL.id ?_; first
      | refine WL.cons ?_ ?_
      | exact WL.nil
      | exact WL.on (by with_unfolding_all rfl)
      | refine WL.oc (by with_unfolding_all rfl) ?_ ?_))
  all_goals first
    | (have hlt : k < (c.bag).length := by omega
       rw [drop_cons hlt, List.all_cons] at hy
       first
       | (have hb2 : (bagIn c) (c.bag)[k] = true := by first | assumption | (clear hy; simp_all [bagIn]; done) | (clear hy; simp [bagIn] at *; grind)
          rw [hb2, Bool.true_and] at hy
          exact ⟨k + 1, ⟨by omega, hy⟩, by omega, (.cons rfl rfl (.cons rfl rfl (.cons rfl rfl (.cons rfl rfl (.nil))))), rfl, rfl⟩)
       | (have hb2 : (bagIn c) (c.bag)[k] = false := by first | assumption | (clear hy; simp_all [bagIn]; done) | (clear hy; simp [bagIn] at *; grind)
          rw [hb2, Bool.false_and] at hy
          refine ⟨.inr rfl, _, _, rfl, .cons (.c (.id rfl)) .nil, ?_⟩; simp [resV, X.v, chOk, hy]; done))
    | skip
  all_goals
    have hy1 : (c.bag).all (bagIn c) = true := by rw [hy, drop_nil (by omega)]; rfl
    clear hy
  refine ⟨.inr rfl, _, _, rfl, .cons (.c (.id rfl)) .nil, ?_⟩
  simp [resV, X.v, chOk, *]
end Go.YtakiodehjhpgkaaGreatMc

namespace Go.YtakiodehjhpgkaaGreatMc
open Go.Proofs
theorem cmdC (m : Nat) : EqC Tryz.prog 85 [.i .i64, .s, .i .i64, .i .i64] (m + 1) true :=
  .st' [(0, 3, [.i .i64]), (1, 9, [.s]), (2, 3, [.i .i64]), (3, 3, [.i .i64])] (by kernel_rfl) (by kernel_rfl) (by kernel_rfl) rfl rfl (.cons (.i m (by kernel_rfl)) (.cons (.s m (by kernel_rfl)) (.cons (.i m (by kernel_rfl)) (.cons (.i m (by kernel_rfl)) .nil))))
theorem entC (m : Nat) : EqC Tryz.prog 87 [.i .i64, .i .i64, .i .i64, .s, .i .i64, .i .i64] (m + 2) true :=
  .st' [(0, 3, [.i .i64]), (1, 3, [.i .i64]), (2, 85, [.i .i64, .s, .i .i64, .i .i64])] (by kernel_rfl) (by kernel_rfl) (by kernel_rfl) rfl rfl (.cons (.i _ (by kernel_rfl)) (.cons (.i _ (by kernel_rfl)) (.cons (cmdC m) .nil)))
theorem eqTs_ent (a b : Ent) : eqTs a.e b.e = decide (a = b) := by
  obtain ⟨a1, a2, a3, a4, a5, a6⟩ := a; obtain ⟨b1, b2, b3, b4, b5, b6⟩ := b
  simp [Ent.e, eqTs, T.eq]; grind
theorem chOk_spec (c : Chn) (hs : c.Sm) : Pu Tryz.prog 59 [A c.e] (B (chOk c)) := by
  refine Pu.of D Tryz.func59 rfl rfl rfl ?_
  repeat' (first
    | (refine WO.id ?_; first
      | refine stp1_ok D rfl ?_
      | refine WO.nil ?_
      | refine WO.g rfl rfl rfl ?_
      | refine WO.g0 rfl ?_
      | (refine WO.gs _ rfl rfl rfl ?_ ?_ <;> intro hb <;> simp only [hb] <;> try simp at hb))
    | (refine OpK.id ?_; first
      | refine OpK.of (OpOk.call rfl (stOk_spec c.base hs.base) rfl rfl rfl) ?_
      | refine OpK.of (OpOk.call rfl (confOk_spec c.conf hs.conf.memN) rfl rfl rfl) ?_
      | refine OpK.of (OpOk.call rfl (bagOk_spec c.bag hs.bag) rfl rfl rfl) ?_
      | refine OpK.of (OpOk.lenS D rfl rfl rfl rfl) ?_
      | refine OpK.of (OpOk.lenM D rfl rfl rfl rfl) ?_
      | refine OpK.of (OpOk.lenL D rfl rfl rfl rfl) ?_
      | refine OpK.of (OpOk.lenA D rfl rfl rfl rfl rfl rfl) ?_
      | refine OpK.of (OpOk.lenE D rfl rfl rfl rfl) ?_
      | refine OpK.of (OpOk.inc rfl rfl rfl (by omega)) ?_
      | refine OpK.of (OpOk.add rfl rfl rfl (by omega)) ?_
      | refine OpK.of (OpOk.sub rfl rfl rfl (by omega)) ?_
      | refine OpK.of (OpOk.ixM D rfl rfl rfl rfl rfl rfl (by first | assumption | omega) (fun _ => rfl)) ?_)
    | (refine W.id ?_; first
      | refine W.regs ?_
      | refine W.drs0 mixed (by kernel_rfl) ?_
      | refine W.drs1 mixed (by kernel_rfl) ?_
      | refine W.drs2 mixed (by kernel_rfl) ?_
      | refine W.ret ?_
      | refine W.seq ?_
      | refine W.skip ?_
      | refine W.region ?_
      | refine W.exit ?_
      | refine W.block ?_
      | (refine W.cond rfl ?_ ?_ <;> intro hb <;> try simp at hb)
      | refine W.drawn mixed ?_)
    | (refine Then.id ?_; first
      | refine Then.rn ?_
      | refine Then.rr ?_
      | refine Then.rx ?_)
    | (refine InBlk.id ?_; first
      | refine InBlk.rn ?_
      | refine InBlk.rr ?_
      | refine InBlk.re ?_
      | refine InBlk.rx rfl ?_)
    | (refine WD.id ?_; first
      | refine WD.done rfl ?_
      | refine WD.t rfl ?_ rfl
      | refine WD.g rfl rfl rfl ?_
      | refine WD.u rfl rfl rfl ?_
      | (refine WD.gs _ rfl rfl rfl ?_ ?_ <;> intro hb <;> simp only [hb] <;> try simp at hb))
    | (refine OpD.id ?_; first
      | refine OpD.of (stpR_ok D rfl) ?_
      | refine OpD.of (OpOk.call rfl (stOk_spec c.base hs.base) rfl rfl rfl) ?_
      | refine OpD.of (OpOk.call rfl (confOk_spec c.conf hs.conf.memN) rfl rfl rfl) ?_
      | refine OpD.of (OpOk.call rfl (bagOk_spec c.bag hs.bag) rfl rfl rfl) ?_
      | refine OpD.of (OpOk.lenS D rfl rfl rfl rfl) ?_
      | refine OpD.of (OpOk.lenM D rfl rfl rfl rfl) ?_
      | refine OpD.of (OpOk.lenL D rfl rfl rfl rfl) ?_
      | refine OpD.of (OpOk.lenA D rfl rfl rfl rfl rfl rfl) ?_
      | refine OpD.of (OpOk.lenE D rfl rfl rfl rfl) ?_
      | refine OpD.of (OpOk.inc rfl rfl rfl (by omega)) ?_
      | refine OpD.of (OpOk.add rfl rfl rfl (by omega)) ?_
      | refine OpD.of (OpOk.sub rfl rfl rfl (by omega)) ?_
      | refine OpD.of (OpOk.ixM D rfl rfl rfl rfl rfl rfl (by first | assumption | omega) (fun _ => rfl)) ?_)
    | (refine WE.id ?_; first
      | refine WE.done (by with_unfolding_all rfl) ?_
      | refine WE.step (by with_unfolding_all rfl) ?_)
    | (refine WI.id ?_; first
      | refine WI.r D rfl ?_
      | refine WI.g rfl rfl rfl ?_
      | refine WI.g0 rfl ?_
      | (refine WI.gs _ rfl rfl rfl ?_ ?_ <;> intro hb <;> simp only [hb] <;> try simp at hb))
    | (refine WL.id ?_; first
      | refine WL.cons ?_ ?_
      | exact WL.nil
      | exact WL.on (by with_unfolding_all rfl)
      | refine WL.oc (by with_unfolding_all rfl) ?_ ?_))
  all_goals first | (refine ⟨.inr rfl, _, _, rfl, .cons (.c (.id rfl)) .nil, ?_⟩; simp [resV, X.v, chOk, answersOk] at *; grind) | skip
  have hl5 : c.nodes.length = 5 := by omega
  have hu5 : c.up.length = 5 := by omega
  have ha24 : c.answers.length ≤ 24 := by omega
  have hbag : bagOk c.bag = true := by assumption
  have hbl : c.bag.length ≤ 10 := by simp only [bagOk, Bool.and_eq_true, decide_eq_true_eq] at hbag; exact hbag.1
  have hbase : stOk c.base = true := by assumption
  have hconf : confOk c.conf = true := by assumption
  refine W.loop (σ := Nat) (fun k => [(3, I k), (1, .c (.ptr 0 0))]) (fun _ => [.box (tc c.e)]) (fun k => k ≤ (c.nodes).length ∧ (c.nodes).all (nodeIn c) = ((c.nodes).drop k).all (nodeIn c)) (fun k => (c.nodes).length - k) 1 (fun _ _ => rfl) 0 ⟨by simp, by simp⟩ rfl (.cons rfl rfl (.cons rfl rfl (.nil))) ?_
  rintro k ⟨hk1, hy⟩
  repeat' (first
    | (refine WO.id ?_; first
      | refine stp1_ok D rfl ?_
      | refine WO.nil ?_
      | refine WO.g rfl rfl rfl ?_
      | refine WO.g0 rfl ?_
      | (refine WO.gs _ rfl rfl rfl ?_ ?_ <;> intro hb <;> simp only [hb] <;> try simp at hb))
    | (refine OpK.id ?_; first
      | refine OpK.of (OpOk.call rfl (repOk_spec c.nodes[k] (hs.nodes _ (List.getElem_mem _))) rfl rfl rfl) ?_
      | refine OpK.of (OpOk.lenS D rfl rfl rfl rfl) ?_
      | refine OpK.of (OpOk.lenM D rfl rfl rfl rfl) ?_
      | refine OpK.of (OpOk.lenL D rfl rfl rfl rfl) ?_
      | refine OpK.of (OpOk.lenA D rfl rfl rfl rfl rfl rfl) ?_
      | refine OpK.of (OpOk.lenE D rfl rfl rfl rfl) ?_
      | refine OpK.of (OpOk.inc rfl rfl rfl (by omega)) ?_
      | refine OpK.of (OpOk.add rfl rfl rfl (by omega)) ?_
      | refine OpK.of (OpOk.sub rfl rfl rfl (by omega)) ?_
      | refine OpK.of (OpOk.ixM D rfl rfl rfl rfl rfl rfl (by first | assumption | omega) (fun _ => rfl)) ?_)
    | (refine W.id ?_; first
      | refine W.regs ?_
      | refine W.drs0 mixed (by kernel_rfl) ?_
      | refine W.drs1 mixed (by kernel_rfl) ?_
      | refine W.drs2 mixed (by kernel_rfl) ?_
      | refine W.ret ?_
      | refine W.seq ?_
      | refine W.skip ?_
      | refine W.region ?_
      | refine W.exit ?_
      | refine W.block ?_
      | (refine W.cond rfl ?_ ?_ <;> intro hb <;> try simp at hb)
      | refine W.drawn mixed ?_)
    | (refine Then.id ?_; first
      | refine Then.rn ?_
      | refine Then.rr ?_
      | refine Then.rx ?_)
    | (refine InBlk.id ?_; first
      | refine InBlk.rn ?_
      | refine InBlk.rr ?_
      | refine InBlk.re ?_
      | refine InBlk.rx rfl ?_)
    | (refine WD.id ?_; first
      | refine WD.done rfl ?_
      | refine WD.t rfl ?_ rfl
      | refine WD.g rfl rfl rfl ?_
      | refine WD.u rfl rfl rfl ?_
      | (refine WD.gs _ rfl rfl rfl ?_ ?_ <;> intro hb <;> simp only [hb] <;> try simp at hb))
    | (refine OpD.id ?_; first
      | refine OpD.of (stpR_ok D rfl) ?_
      | refine OpD.of (OpOk.call rfl (repOk_spec c.nodes[k] (hs.nodes _ (List.getElem_mem _))) rfl rfl rfl) ?_
      | refine OpD.of (OpOk.lenS D rfl rfl rfl rfl) ?_
      | refine OpD.of (OpOk.lenM D rfl rfl rfl rfl) ?_
      | refine OpD.of (OpOk.lenL D rfl rfl rfl rfl) ?_
      | refine OpD.of (OpOk.lenA D rfl rfl rfl rfl rfl rfl) ?_
      | refine OpD.of (OpOk.lenE D rfl rfl rfl rfl) ?_
      | refine OpD.of (OpOk.inc rfl rfl rfl (by omega)) ?_
      | refine OpD.of (OpOk.add rfl rfl rfl (by omega)) ?_
      | refine OpD.of (OpOk.sub rfl rfl rfl (by omega)) ?_
      | refine OpD.of (OpOk.ixM D rfl rfl rfl rfl rfl rfl (by first | assumption | omega) (fun _ => rfl)) ?_)
    | (refine WE.id ?_; first
      | refine WE.done (by with_unfolding_all rfl) ?_
      | refine WE.step (by with_unfolding_all rfl) ?_)
    | (refine WI.id ?_; first
      | refine WI.r D rfl ?_
      | refine WI.g rfl rfl rfl ?_
      | refine WI.g0 rfl ?_
      | (refine WI.gs _ rfl rfl rfl ?_ ?_ <;> intro hb <;> simp only [hb] <;> try simp at hb))
    | (refine WL.id ?_; first
      | refine WL.cons ?_ ?_
      | exact WL.nil
      | exact WL.on (by with_unfolding_all rfl)
      | refine WL.oc (by with_unfolding_all rfl) ?_ ?_))
  all_goals first
    | (have hlt : k < (c.nodes).length := by omega
       rw [drop_cons hlt, List.all_cons] at hy
       first
       | (have hb2 : (nodeIn c) (c.nodes)[k] = true := by first | assumption | (clear hy; simp_all [nodeIn]; done) | (clear hy; simp [nodeIn] at *; grind)
          rw [hb2, Bool.true_and] at hy
          exact ⟨k + 1, ⟨by omega, hy⟩, by omega, (.cons rfl rfl (.cons rfl rfl (.nil))), rfl, rfl⟩)
       | (have hb2 : (nodeIn c) (c.nodes)[k] = false := by first | assumption | (clear hy; simp_all [nodeIn]; done) | (clear hy; simp [nodeIn] at *; grind)
          rw [hb2, Bool.false_and] at hy
          refine ⟨.inr rfl, _, _, rfl, .cons (.c (.id rfl)) .nil, ?_⟩; simp [resV, X.v, chOk, hy]; done))
    | skip
  all_goals
    have hy1 : (c.nodes).all (nodeIn c) = true := by rw [hy, drop_nil (by omega)]; rfl
    clear hy
  clear hk1
  refine W.loop (σ := Nat) (fun k => [(4, I k), (1, .c (.ptr 0 0))]) (fun _ => [.box (tc c.e)]) (fun k => k ≤ (c.bag).length ∧ (c.bag).all (bagIn c) = ((c.bag).drop k).all (bagIn c)) (fun k => (c.bag).length - k) 1 (fun _ _ => rfl) 0 ⟨by simp, by simp⟩ rfl (.cons rfl rfl (.cons rfl rfl (.nil))) ?_
  rintro k ⟨hk1, hy⟩
  repeat' (first
    | (refine WO.id ?_; first
      | refine stp1_ok D rfl ?_
      | refine WO.nil ?_
      | refine WO.g rfl rfl rfl ?_
      | refine WO.g0 rfl ?_
      | (refine WO.gs _ rfl rfl rfl ?_ ?_ <;> intro hb <;> simp only [hb] <;> try simp at hb))
    | (refine OpK.id ?_; first
      | refine OpK.of (OpOk.lenS D rfl rfl rfl rfl) ?_
      | refine OpK.of (OpOk.lenM D rfl rfl rfl rfl) ?_
      | refine OpK.of (OpOk.lenL D rfl rfl rfl rfl) ?_
      | refine OpK.of (OpOk.lenA D rfl rfl rfl rfl rfl rfl) ?_
      | refine OpK.of (OpOk.lenE D rfl rfl rfl rfl) ?_
      | refine OpK.of (OpOk.inc rfl rfl rfl (by omega)) ?_
      | refine OpK.of (OpOk.add rfl rfl rfl (by omega)) ?_
      | refine OpK.of (OpOk.sub rfl rfl rfl (by omega)) ?_
      | refine OpK.of (OpOk.ixM D rfl rfl rfl rfl rfl rfl (by first | assumption | omega) (fun _ => rfl)) ?_)
    | (refine W.id ?_; first
      | refine W.regs ?_
      | refine W.drs0 mixed (by kernel_rfl) ?_
      | refine W.drs1 mixed (by kernel_rfl) ?_
      | refine W.drs2 mixed (by kernel_rfl) ?_
      | refine W.ret ?_
      | refine W.seq ?_
      | refine W.skip ?_
      | refine W.region ?_
      | refine W.exit ?_
      | refine W.block ?_
      | (refine W.cond rfl ?_ ?_ <;> intro hb <;> try simp at hb)
      | refine W.drawn mixed ?_)
    | (refine Then.id ?_; first
      | refine Then.rn ?_
      | refine Then.rr ?_
      | refine Then.rx ?_)
    | (refine InBlk.id ?_; first
      | refine InBlk.rn ?_
      | refine InBlk.rr ?_
      | refine InBlk.re ?_
      | refine InBlk.rx rfl ?_)
    | (refine WD.id ?_; first
      | refine WD.done rfl ?_
      | refine WD.t rfl ?_ rfl
      | refine WD.g rfl rfl rfl ?_
      | refine WD.u rfl rfl rfl ?_
      | (refine WD.gs _ rfl rfl rfl ?_ ?_ <;> intro hb <;> simp only [hb] <;> try simp at hb))
    | (refine OpD.id ?_; first
      | refine OpD.of (stpR_ok D rfl) ?_
      | refine OpD.of (OpOk.lenS D rfl rfl rfl rfl) ?_
      | refine OpD.of (OpOk.lenM D rfl rfl rfl rfl) ?_
      | refine OpD.of (OpOk.lenL D rfl rfl rfl rfl) ?_
      | refine OpD.of (OpOk.lenA D rfl rfl rfl rfl rfl rfl) ?_
      | refine OpD.of (OpOk.lenE D rfl rfl rfl rfl) ?_
      | refine OpD.of (OpOk.inc rfl rfl rfl (by omega)) ?_
      | refine OpD.of (OpOk.add rfl rfl rfl (by omega)) ?_
      | refine OpD.of (OpOk.sub rfl rfl rfl (by omega)) ?_
      | refine OpD.of (OpOk.ixM D rfl rfl rfl rfl rfl rfl (by first | assumption | omega) (fun _ => rfl)) ?_)
    | (refine WE.id ?_; first
      | refine WE.done (by with_unfolding_all rfl) ?_
      | refine WE.step (by with_unfolding_all rfl) ?_)
    | (refine WI.id ?_; first
      | refine WI.r D rfl ?_
      | refine WI.g rfl rfl rfl ?_
      | refine WI.g0 rfl ?_
      | (refine WI.gs _ rfl rfl rfl ?_ ?_ <;> intro hb <;> simp only [hb] <;> try simp at hb))
    | (refine WL.id ?_; first
      | refine WL.cons ?_ ?_
      | exact WL.nil
      | exact WL.on (by with_unfolding_all rfl)
      | refine WL.oc (by with_unfolding_all rfl) ?_ ?_))
  all_goals first
    | (have hlt : k < (c.bag).length := by omega
       rw [drop_cons hlt, List.all_cons] at hy
       first
       | (have hb2 : (bagIn c) (c.bag)[k] = true := by first | assumption | (clear hy; simp_all [bagIn]; done) | (clear hy; simp [bagIn] at *; grind)
          rw [hb2, Bool.true_and] at hy
          exact ⟨k + 1, ⟨by omega, hy⟩, by omega, (.cons rfl rfl (.cons rfl rfl (.nil))), rfl, rfl⟩)
       | (have hb2 : (bagIn c) (c.bag)[k] = false := by first | assumption | (clear hy; simp_all [bagIn]; done) | (clear hy; simp [bagIn] at *; grind)
          rw [hb2, Bool.false_and] at hy
          refine ⟨.inr rfl, _, _, rfl, .cons (.c (.id rfl)) .nil, ?_⟩; simp [resV, X.v, chOk, hy]; done))
    | skip
  all_goals
    have hy1 : (c.bag).all (bagIn c) = true := by rw [hy, drop_nil (by omega)]; rfl
    clear hy
  clear hk1
  refine W.loop (σ := Nat) (fun k => [(5, I k), (1, .c (.ptr 0 0))]) (fun _ => [.box (tc c.e)]) (fun k => k ≤ (c.answers).length ∧ (c.answers).all (ansOk) = ((c.answers).drop k).all (ansOk)) (fun k => (c.answers).length - k) 1 (fun _ _ => rfl) 0 ⟨by simp, by simp⟩ rfl (.cons rfl rfl (.cons rfl rfl (.nil))) ?_
  rintro k ⟨hk1, hy⟩
  repeat' (first
    | (refine WO.id ?_; first
      | refine stp1_ok D rfl ?_
      | refine WO.nil ?_
      | refine WO.g rfl rfl rfl ?_
      | refine WO.g0 rfl ?_
      | (refine WO.gs _ rfl rfl rfl ?_ ?_ <;> intro hb <;> simp only [hb] <;> try simp at hb))
    | (refine OpK.id ?_; first
      | refine OpK.of (OpOk.call rfl (entOk_spec c.answers[k].asked) rfl rfl rfl) ?_
      | refine OpK.of (OpOk.call rfl (in_ok _ _ _) rfl rfl rfl) ?_
      | refine OpK.of (OpOk.lenS D rfl rfl rfl rfl) ?_
      | refine OpK.of (OpOk.lenM D rfl rfl rfl rfl) ?_
      | refine OpK.of (OpOk.lenL D rfl rfl rfl rfl) ?_
      | refine OpK.of (OpOk.lenA D rfl rfl rfl rfl rfl rfl) ?_
      | refine OpK.of (OpOk.lenE D rfl rfl rfl rfl) ?_
      | refine OpK.of (OpOk.inc rfl rfl rfl (by omega)) ?_
      | refine OpK.of (OpOk.add rfl rfl rfl (by omega)) ?_
      | refine OpK.of (OpOk.sub rfl rfl rfl (by omega)) ?_
      | refine OpK.of (OpOk.ixM D rfl rfl rfl rfl rfl rfl (by first | assumption | omega) (fun _ => rfl)) ?_)
    | (refine W.id ?_; first
      | refine W.regs ?_
      | refine W.drs0 mixed (by kernel_rfl) ?_
      | refine W.drs1 mixed (by kernel_rfl) ?_
      | refine W.drs2 mixed (by kernel_rfl) ?_
      | refine W.ret ?_
      | refine W.seq ?_
      | refine W.skip ?_
      | refine W.region ?_
      | refine W.exit ?_
      | refine W.block ?_
      | (refine W.cond rfl ?_ ?_ <;> intro hb <;> try simp at hb)
      | refine W.drawn mixed ?_)
    | (refine Then.id ?_; first
      | refine Then.rn ?_
      | refine Then.rr ?_
      | refine Then.rx ?_)
    | (refine InBlk.id ?_; first
      | refine InBlk.rn ?_
      | refine InBlk.rr ?_
      | refine InBlk.re ?_
      | refine InBlk.rx rfl ?_)
    | (refine WD.id ?_; first
      | refine WD.done rfl ?_
      | refine WD.t rfl ?_ rfl
      | refine WD.g rfl rfl rfl ?_
      | refine WD.u rfl rfl rfl ?_
      | (refine WD.gs _ rfl rfl rfl ?_ ?_ <;> intro hb <;> simp only [hb] <;> try simp at hb))
    | (refine OpD.id ?_; first
      | refine OpD.of (stpR_ok D rfl) ?_
      | refine OpD.of (OpOk.call rfl (entOk_spec c.answers[k].asked) rfl rfl rfl) ?_
      | refine OpD.of (OpOk.call rfl (in_ok _ _ _) rfl rfl rfl) ?_
      | refine OpD.of (OpOk.lenS D rfl rfl rfl rfl) ?_
      | refine OpD.of (OpOk.lenM D rfl rfl rfl rfl) ?_
      | refine OpD.of (OpOk.lenL D rfl rfl rfl rfl) ?_
      | refine OpD.of (OpOk.lenA D rfl rfl rfl rfl rfl rfl) ?_
      | refine OpD.of (OpOk.lenE D rfl rfl rfl rfl) ?_
      | refine OpD.of (OpOk.inc rfl rfl rfl (by omega)) ?_
      | refine OpD.of (OpOk.add rfl rfl rfl (by omega)) ?_
      | refine OpD.of (OpOk.sub rfl rfl rfl (by omega)) ?_
      | refine OpD.of (OpOk.ixM D rfl rfl rfl rfl rfl rfl (by first | assumption | omega) (fun _ => rfl)) ?_)
    | (refine WE.id ?_; first
      | refine WE.done (by with_unfolding_all rfl) ?_
      | refine WE.step (by with_unfolding_all rfl) ?_)
    | (refine WI.id ?_; first
      | refine WI.r D rfl ?_
      | refine WI.g rfl rfl rfl ?_
      | refine WI.g0 rfl ?_
      | (refine WI.gs _ rfl rfl rfl ?_ ?_ <;> intro hb <;> simp only [hb] <;> try simp at hb))
    | (refine WL.id ?_; first
      | refine WL.cons ?_ ?_
      | exact WL.nil
      | exact WL.on (by with_unfolding_all rfl)
      | refine WL.oc (by with_unfolding_all rfl) ?_ ?_))
  all_goals first
    | (have hlt : k < (c.answers).length := by omega
       rw [drop_cons hlt, List.all_cons] at hy
       first
       | (have hb2 : (ansOk) (c.answers)[k] = true := by first | assumption | (clear hy; simp_all [ansOk]; done) | (clear hy; simp [ansOk] at *; grind)
          rw [hb2, Bool.true_and] at hy
          exact ⟨k + 1, ⟨by omega, hy⟩, by omega, (.cons rfl rfl (.cons rfl rfl (.nil))), rfl, rfl⟩)
       | (have hb2 : (ansOk) (c.answers)[k] = false := by first | assumption | (clear hy; simp_all [ansOk]; done) | (clear hy; simp [ansOk] at *; grind)
          rw [hb2, Bool.false_and] at hy
          refine ⟨.inr rfl, _, _, rfl, .cons (.c (.id rfl)) .nil, ?_⟩; simp [resV, X.v, chOk, answersOk, hy]; done))
    | skip
  all_goals
    have hy1 : (c.answers).all (ansOk) = true := by rw [hy, drop_nil (by omega)]; rfl
    clear hy
  refine ⟨.inr rfl, _, _, rfl, .cons (.c (.id rfl)) .nil, ?_⟩
  simp [resV, X.v, chOk, answersOk, *]
end Go.YtakiodehjhpgkaaGreatMc

namespace Go.YtakiodehjhpgkaaGreatMc
open Go.Proofs
/-! ### Heads, logs -/
theorem memFrom_mem : ∀ {l p : List Int}, memFrom p l = true → ∀ a ∈ l, 0 ≤ a ∧ a ≤ 4
  | [], _, _, a, ha => by cases ha
  | b :: l, p, h, a, ha => by
    simp only [memFrom, Bool.and_eq_true] at h
    rcases List.mem_cons.1 ha with rfl | ha
    · have := h.1.1; simpa [inR] using this
    · exact memFrom_mem h.2 a ha
theorem confOk_mem {c : Cfg} (h : confOk c = true) : 1 ≤ c.mem.length ∧ c.mem.length ≤ 4 ∧ ∀ a ∈ c.mem, 0 ≤ a ∧ a ≤ 4 := by
  simp only [confOk, Bool.and_eq_true] at h
  have h1 := h.1.1.2
  simp [inR] at h1
  exact ⟨by omega, by omega, memFrom_mem h.2⟩
theorem confOk_at {c : Cfg} (h : confOk c = true) (k : Nat) (hk : k < c.mem.length) : 0 ≤ c.mem[k] ∧ c.mem[k].toNat < 5 := by
  have := (confOk_mem h).2.2 _ (List.getElem_mem hk); omega
structure ChD (c : Chn) : Prop where
  base : stOk c.base = true
  conf : confOk c.conf = true
  nodes : c.nodes.length = 5
  up : c.up.length = 5
  bag : bagOk c.bag = true
  nodeIn : ∀ r ∈ c.nodes, repOk r = true ∧ r.conf.epoch ≤ c.conf.epoch
  bagIn : ∀ m ∈ c.bag, m.epoch ≤ c.conf.epoch
  ans : answersOk c.answers = true
theorem chOk_d {c : Chn} (h : chOk c = true) : ChD c := by
  simp only [chOk, Bool.and_eq_true, decide_eq_true_eq, List.all_eq_true] at h
  obtain ⟨⟨⟨⟨⟨⟨⟨h1, h2⟩, h3⟩, h4⟩, h5⟩, h6⟩, h7⟩, h8⟩ := h
  exact ⟨h1, h2, h3, h4, h5, fun r hr => by have := h6 r hr; simpa [YtakiodehjhpgkaaGreatMc.nodeIn] using this, fun m hm => by have := h7 m hm; simpa [YtakiodehjhpgkaaGreatMc.bagIn] using this, h8⟩
theorem ChD.ans24 {c : Chn} (h : ChD c) : c.answers.length ≤ 24 := by
  have := h.ans; simp only [answersOk, Bool.and_eq_true, decide_eq_true_eq] at this; exact this.1
theorem repOk_log {r : Rep} (h : repOk r = true) : r.log.length ≤ 24 ∧ ∀ e ∈ r.log, entOk e = true := by
  unfold repOk at h
  split at h
  · simp only [Bool.and_eq_true, decide_eq_true_eq] at h
    have : r.log = [] := List.length_eq_zero_iff.1 h.2
    rw [this]; simp
  · simp only [Bool.and_eq_true, logOk, decide_eq_true_eq, List.all_eq_true] at h
    exact h.1.2
def nodeAt (c : Chn) (n : Int) : Rep := (c.nodes[n.toNat]?).getD ⟨⟨0, [], false⟩, false, []⟩
theorem nodeAt_eq {c : Chn} {n : Int} (h : n.toNat < c.nodes.length) : nodeAt c n = c.nodes[n.toNat] := by simp [nodeAt, h]
def headOf (c : Chn) : Int := c.conf.mem.headD 0
theorem headOf_eq {c : Chn} (h : 0 < c.conf.mem.length) : headOf c = c.conf.mem[0] := by
  unfold headOf
  generalize c.conf.mem = l at h ⊢
  cases l with
  | nil => simp at h
  | cons a l => rfl
def hLog (c : Chn) : List Ent := (nodeAt c (headOf c)).log
theorem hLog_eq {c : Chn} (h0 : 0 < c.conf.mem.length) (h : (c.conf.mem[0]).toNat < c.nodes.length) : hLog c = c.nodes[(c.conf.mem[0]).toNat].log := by
  unfold hLog; rw [headOf_eq h0, nodeAt_eq h]
theorem hLog_len {c : Chn} (h : chOk c = true) : (hLog c).length ≤ 24 := by
  have d := chOk_d h
  have hm := confOk_mem d.conf
  have h0 := confOk_at d.conf 0 (by omega)
  rw [hLog_eq (by omega) (by rw [d.nodes]; exact h0.2)]
  exact (repOk_log (d.nodeIn _ (List.getElem_mem _)).1).1
theorem head_ok (c : Chn) (hc : chOk c = true) : Pu Tryz.prog 68 [A c.e] (L Ent.e (hLog c)) := by
  have d := chOk_d hc
  have hl := d.nodes
  have hm : 0 < c.conf.mem.length := (confOk_mem d.conf).1
  have h0 : 0 ≤ c.conf.mem[(0 : Int).toNat]'(by exact hm) ∧ (c.conf.mem[(0 : Int).toNat]'(by exact hm)).toNat < 5 := confOk_at d.conf 0 (by omega)
  refine Pu.of D Tryz.func68 rfl rfl rfl ?_
  repeat' (first
    | (refine WO.id ?_; first
      | refine stp1_ok D rfl ?_
      | refine WO.nil ?_
      | refine WO.g rfl rfl rfl ?_
      | refine WO.g0 rfl ?_
      | (refine WO.gs _ rfl rfl rfl ?_ ?_ <;> intro hb <;> simp only [hb] <;> try simp at hb))
    | (refine OpK.id ?_; first
      | refine OpK.of (OpOk.ixI D rfl rfl rfl rfl rfl rfl (by omega) (by omega) (fun _ => rfl)) ?_
      | refine OpK.of (OpOk.lenS D rfl rfl rfl rfl) ?_
      | refine OpK.of (OpOk.lenM D rfl rfl rfl rfl) ?_
      | refine OpK.of (OpOk.lenL D rfl rfl rfl rfl) ?_
      | refine OpK.of (OpOk.lenA D rfl rfl rfl rfl rfl rfl) ?_
      | refine OpK.of (OpOk.lenE D rfl rfl rfl rfl) ?_
      | refine OpK.of (OpOk.inc rfl rfl rfl (by omega)) ?_
      | refine OpK.of (OpOk.add rfl rfl rfl (by omega)) ?_
      | refine OpK.of (OpOk.sub rfl rfl rfl (by omega)) ?_
      | refine OpK.of (OpOk.ixM D rfl rfl rfl rfl rfl rfl (by first | assumption | omega) (fun _ => rfl)) ?_)
    | (refine W.id ?_; first
      | refine W.regs ?_
      | refine W.drs0 mixed (by kernel_rfl) ?_
      | refine W.drs1 mixed (by kernel_rfl) ?_
      | refine W.drs2 mixed (by kernel_rfl) ?_
      | refine W.ret ?_
      | refine W.seq ?_
      | refine W.skip ?_
      | refine W.region ?_
      | refine W.exit ?_
      | refine W.block ?_
      | (refine W.cond rfl ?_ ?_ <;> intro hb <;> try simp at hb)
      | refine W.drawn mixed ?_)
    | (refine Then.id ?_; first
      | refine Then.rn ?_
      | refine Then.rr ?_
      | refine Then.rx ?_)
    | (refine InBlk.id ?_; first
      | refine InBlk.rn ?_
      | refine InBlk.rr ?_
      | refine InBlk.re ?_
      | refine InBlk.rx rfl ?_)
    | (refine WD.id ?_; first
      | refine WD.done rfl ?_
      | refine WD.t rfl ?_ rfl
      | refine WD.g rfl rfl rfl ?_
      | refine WD.u rfl rfl rfl ?_
      | (refine WD.gs _ rfl rfl rfl ?_ ?_ <;> intro hb <;> simp only [hb] <;> try simp at hb))
    | (refine OpD.id ?_; first
      | refine OpD.of (stpR_ok D rfl) ?_
      | refine OpD.of (OpOk.ixI D rfl rfl rfl rfl rfl rfl (by omega) (by omega) (fun _ => rfl)) ?_
      | refine OpD.of (OpOk.lenS D rfl rfl rfl rfl) ?_
      | refine OpD.of (OpOk.lenM D rfl rfl rfl rfl) ?_
      | refine OpD.of (OpOk.lenL D rfl rfl rfl rfl) ?_
      | refine OpD.of (OpOk.lenA D rfl rfl rfl rfl rfl rfl) ?_
      | refine OpD.of (OpOk.lenE D rfl rfl rfl rfl) ?_
      | refine OpD.of (OpOk.inc rfl rfl rfl (by omega)) ?_
      | refine OpD.of (OpOk.add rfl rfl rfl (by omega)) ?_
      | refine OpD.of (OpOk.sub rfl rfl rfl (by omega)) ?_
      | refine OpD.of (OpOk.ixM D rfl rfl rfl rfl rfl rfl (by first | assumption | omega) (fun _ => rfl)) ?_)
    | (refine WE.id ?_; first
      | refine WE.done (by with_unfolding_all rfl) ?_
      | refine WE.step (by with_unfolding_all rfl) ?_)
    | (refine WI.id ?_; first
      | refine WI.r D rfl ?_
      | refine WI.g rfl rfl rfl ?_
      | refine WI.g0 rfl ?_
      | (refine WI.gs _ rfl rfl rfl ?_ ?_ <;> intro hb <;> simp only [hb] <;> try simp at hb))
    | (refine WL.id ?_; first
      | refine WL.cons ?_ ?_
      | exact WL.nil
      | exact WL.on (by with_unfolding_all rfl)
      | refine WL.oc (by with_unfolding_all rfl) ?_ ?_))
  refine ⟨.inr rfl, _, _, rfl, .cons (.c (.id rfl)) .nil, ?_⟩
  rw [hLog_eq (by omega) (by rw [hl]; exact h0.2)]
  rfl
theorem off_spec (c : Chn) (hs : c.Sm) : Pu Tryz.prog 60 [A c.e] (L Ent.e (if chOk c then hLog c else [])) := by
  by_cases hc : chOk c = true
  · have d := chOk_d hc
    have hl := d.nodes
    have hm : 0 < c.conf.mem.length := (confOk_mem d.conf).1
    have h0 : 0 ≤ c.conf.mem[(0 : Int).toNat]'(by exact hm) ∧ (c.conf.mem[(0 : Int).toNat]'(by exact hm)).toNat < 5 := confOk_at d.conf 0 (by omega)
    have hh : (c.nodes[(c.conf.mem[(0 : Int).toNat]'(by exact hm)).toNat]'(by rw [hl]; exact h0.2)).log.length ≤ 1048576 := by
      have := (repOk_log (d.nodeIn _ (List.getElem_mem (by rw [hl]; exact h0.2 : (c.conf.mem[(0 : Int).toNat]'(by exact hm)).toNat < c.nodes.length))).1).1
      omega
    refine Pu.of D Tryz.func60 rfl rfl rfl ?_
    repeat' (first
    | (refine WO.id ?_; first
      | refine stp1_ok D rfl ?_
      | refine WO.nil ?_
      | refine WO.g rfl rfl rfl ?_
      | refine WO.g0 rfl ?_
      | (refine WO.gs _ rfl rfl rfl ?_ ?_ <;> intro hb <;> simp only [hb] <;> try simp at hb))
    | (refine OpK.id ?_; first
      | refine OpK.of (OpOk.call rfl (chOk_spec c hs) rfl rfl rfl) ?_
      | refine OpK.of (OpOk.bldE D rfl rfl rfl rfl) ?_
      | refine OpK.of (OpOk.ixI D rfl rfl rfl rfl rfl rfl (by omega) (by omega) (fun _ => rfl)) ?_
      | refine OpK.of (OpOk.cpM D rfl rfl rfl rfl rfl rfl rfl rfl (by decide) (fun _ => rfl) hh (by decide)) ?_
      | refine OpK.of (OpOk.lenS D rfl rfl rfl rfl) ?_
      | refine OpK.of (OpOk.lenM D rfl rfl rfl rfl) ?_
      | refine OpK.of (OpOk.lenL D rfl rfl rfl rfl) ?_
      | refine OpK.of (OpOk.lenA D rfl rfl rfl rfl rfl rfl) ?_
      | refine OpK.of (OpOk.lenE D rfl rfl rfl rfl) ?_
      | refine OpK.of (OpOk.inc rfl rfl rfl (by omega)) ?_
      | refine OpK.of (OpOk.add rfl rfl rfl (by omega)) ?_
      | refine OpK.of (OpOk.sub rfl rfl rfl (by omega)) ?_
      | refine OpK.of (OpOk.ixM D rfl rfl rfl rfl rfl rfl (by first | assumption | omega) (fun _ => rfl)) ?_)
    | (refine W.id ?_; first
      | refine W.regs ?_
      | refine W.drs0 mixed (by kernel_rfl) ?_
      | refine W.drs1 mixed (by kernel_rfl) ?_
      | refine W.drs2 mixed (by kernel_rfl) ?_
      | refine W.ret ?_
      | refine W.seq ?_
      | refine W.skip ?_
      | refine W.region ?_
      | refine W.exit ?_
      | refine W.block ?_
      | (refine W.cond rfl ?_ ?_ <;> intro hb <;> try simp at hb)
      | refine W.drawn mixed ?_)
    | (refine Then.id ?_; first
      | refine Then.rn ?_
      | refine Then.rr ?_
      | refine Then.rx ?_)
    | (refine InBlk.id ?_; first
      | refine InBlk.rn ?_
      | refine InBlk.rr ?_
      | refine InBlk.re ?_
      | refine InBlk.rx rfl ?_)
    | (refine WD.id ?_; first
      | refine WD.done rfl ?_
      | refine WD.t rfl ?_ rfl
      | refine WD.g rfl rfl rfl ?_
      | refine WD.u rfl rfl rfl ?_
      | (refine WD.gs _ rfl rfl rfl ?_ ?_ <;> intro hb <;> simp only [hb] <;> try simp at hb))
    | (refine OpD.id ?_; first
      | refine OpD.of (stpR_ok D rfl) ?_
      | refine OpD.of (OpOk.call rfl (chOk_spec c hs) rfl rfl rfl) ?_
      | refine OpD.of (OpOk.bldE D rfl rfl rfl rfl) ?_
      | refine OpD.of (OpOk.ixI D rfl rfl rfl rfl rfl rfl (by omega) (by omega) (fun _ => rfl)) ?_
      | refine OpD.of (OpOk.cpM D rfl rfl rfl rfl rfl rfl rfl rfl (by decide) (fun _ => rfl) hh (by decide)) ?_
      | refine OpD.of (OpOk.lenS D rfl rfl rfl rfl) ?_
      | refine OpD.of (OpOk.lenM D rfl rfl rfl rfl) ?_
      | refine OpD.of (OpOk.lenL D rfl rfl rfl rfl) ?_
      | refine OpD.of (OpOk.lenA D rfl rfl rfl rfl rfl rfl) ?_
      | refine OpD.of (OpOk.lenE D rfl rfl rfl rfl) ?_
      | refine OpD.of (OpOk.inc rfl rfl rfl (by omega)) ?_
      | refine OpD.of (OpOk.add rfl rfl rfl (by omega)) ?_
      | refine OpD.of (OpOk.sub rfl rfl rfl (by omega)) ?_
      | refine OpD.of (OpOk.ixM D rfl rfl rfl rfl rfl rfl (by first | assumption | omega) (fun _ => rfl)) ?_)
    | (refine WE.id ?_; first
      | refine WE.done (by with_unfolding_all rfl) ?_
      | refine WE.step (by with_unfolding_all rfl) ?_)
    | (refine WI.id ?_; first
      | refine WI.r D rfl ?_
      | refine WI.g rfl rfl rfl ?_
      | refine WI.g0 rfl ?_
      | (refine WI.gs _ rfl rfl rfl ?_ ?_ <;> intro hb <;> simp only [hb] <;> try simp at hb))
    | (refine WL.id ?_; first
      | refine WL.cons ?_ ?_
      | exact WL.nil
      | exact WL.on (by with_unfolding_all rfl)
      | refine WL.oc (by with_unfolding_all rfl) ?_ ?_))
    all_goals refine ⟨.inr rfl, _, _, rfl, .cons (.c (.id rfl)) .nil, ?_⟩
    all_goals first
      | (exfalso; simp_all; done)
      | (rw [if_pos hc, hLog_eq (by omega) (by rw [hl]; exact h0.2)]; rfl)
  · refine Pu.of D Tryz.func60 rfl rfl rfl ?_
    repeat' (first
    | (refine WO.id ?_; first
      | refine stp1_ok D rfl ?_
      | refine WO.nil ?_
      | refine WO.g rfl rfl rfl ?_
      | refine WO.g0 rfl ?_
      | (refine WO.gs _ rfl rfl rfl ?_ ?_ <;> intro hb <;> simp only [hb] <;> try simp at hb))
    | (refine OpK.id ?_; first
      | refine OpK.of (OpOk.call rfl (chOk_spec c hs) rfl rfl rfl) ?_
      | refine OpK.of (OpOk.bldE D rfl rfl rfl rfl) ?_
      | refine OpK.of (OpOk.lenS D rfl rfl rfl rfl) ?_
      | refine OpK.of (OpOk.lenM D rfl rfl rfl rfl) ?_
      | refine OpK.of (OpOk.lenL D rfl rfl rfl rfl) ?_
      | refine OpK.of (OpOk.lenA D rfl rfl rfl rfl rfl rfl) ?_
      | refine OpK.of (OpOk.lenE D rfl rfl rfl rfl) ?_
      | refine OpK.of (OpOk.inc rfl rfl rfl (by omega)) ?_
      | refine OpK.of (OpOk.add rfl rfl rfl (by omega)) ?_
      | refine OpK.of (OpOk.sub rfl rfl rfl (by omega)) ?_
      | refine OpK.of (OpOk.ixM D rfl rfl rfl rfl rfl rfl (by first | assumption | omega) (fun _ => rfl)) ?_)
    | (refine W.id ?_; first
      | refine W.regs ?_
      | refine W.drs0 mixed (by kernel_rfl) ?_
      | refine W.drs1 mixed (by kernel_rfl) ?_
      | refine W.drs2 mixed (by kernel_rfl) ?_
      | refine W.ret ?_
      | refine W.seq ?_
      | refine W.skip ?_
      | refine W.region ?_
      | refine W.exit ?_
      | refine W.block ?_
      | (refine W.cond rfl ?_ ?_ <;> intro hb <;> try simp at hb)
      | refine W.drawn mixed ?_)
    | (refine Then.id ?_; first
      | refine Then.rn ?_
      | refine Then.rr ?_
      | refine Then.rx ?_)
    | (refine InBlk.id ?_; first
      | refine InBlk.rn ?_
      | refine InBlk.rr ?_
      | refine InBlk.re ?_
      | refine InBlk.rx rfl ?_)
    | (refine WD.id ?_; first
      | refine WD.done rfl ?_
      | refine WD.t rfl ?_ rfl
      | refine WD.g rfl rfl rfl ?_
      | refine WD.u rfl rfl rfl ?_
      | (refine WD.gs _ rfl rfl rfl ?_ ?_ <;> intro hb <;> simp only [hb] <;> try simp at hb))
    | (refine OpD.id ?_; first
      | refine OpD.of (stpR_ok D rfl) ?_
      | refine OpD.of (OpOk.call rfl (chOk_spec c hs) rfl rfl rfl) ?_
      | refine OpD.of (OpOk.bldE D rfl rfl rfl rfl) ?_
      | refine OpD.of (OpOk.lenS D rfl rfl rfl rfl) ?_
      | refine OpD.of (OpOk.lenM D rfl rfl rfl rfl) ?_
      | refine OpD.of (OpOk.lenL D rfl rfl rfl rfl) ?_
      | refine OpD.of (OpOk.lenA D rfl rfl rfl rfl rfl rfl) ?_
      | refine OpD.of (OpOk.lenE D rfl rfl rfl rfl) ?_
      | refine OpD.of (OpOk.inc rfl rfl rfl (by omega)) ?_
      | refine OpD.of (OpOk.add rfl rfl rfl (by omega)) ?_
      | refine OpD.of (OpOk.sub rfl rfl rfl (by omega)) ?_
      | refine OpD.of (OpOk.ixM D rfl rfl rfl rfl rfl rfl (by first | assumption | omega) (fun _ => rfl)) ?_)
    | (refine WE.id ?_; first
      | refine WE.done (by with_unfolding_all rfl) ?_
      | refine WE.step (by with_unfolding_all rfl) ?_)
    | (refine WI.id ?_; first
      | refine WI.r D rfl ?_
      | refine WI.g rfl rfl rfl ?_
      | refine WI.g0 rfl ?_
      | (refine WI.gs _ rfl rfl rfl ?_ ?_ <;> intro hb <;> simp only [hb] <;> try simp at hb))
    | (refine WL.id ?_; first
      | refine WL.cons ?_ ?_
      | exact WL.nil
      | exact WL.on (by with_unfolding_all rfl)
      | refine WL.oc (by with_unfolding_all rfl) ?_ ?_))
    all_goals first
      | (exfalso; simp_all; done)
      | (refine ⟨.inr rfl, _, _, rfl, .cons (.c .emp) .nil, ?_⟩; rw [if_neg hc]; rfl)
/-! ### Unanswered -/
def unans (c : Chn) : Int := if chOk c then (if (hLog c).length < c.answers.length then 0 else ((hLog c).length : Int) - c.answers.length) else -1
theorem unans_impl (c : Chn) (hs : c.Sm) : Pu Tryz.prog 16 [A c.e] (I (unans c)) := by
  by_cases hc : chOk c = true
  · have h1 := hLog_len hc
    have h2 := (chOk_d hc).ans24
    refine Pu.of D Tryz.func16 rfl rfl rfl ?_
    repeat' (first
    | (refine WO.id ?_; first
      | refine stp1_ok D rfl ?_
      | refine WO.nil ?_
      | refine WO.g rfl rfl rfl ?_
      | refine WO.g0 rfl ?_
      | (refine WO.gs _ rfl rfl rfl ?_ ?_ <;> intro hb <;> simp only [hb] <;> try simp at hb))
    | (refine OpK.id ?_; first
      | refine OpK.of (OpOk.call rfl (chOk_impl c hs) rfl rfl rfl) ?_
      | refine OpK.of (OpOk.call rfl (head_ok c hc) rfl rfl rfl) ?_
      | refine OpK.of (OpOk.max rfl rfl rfl) ?_
      | refine OpK.of (OpOk.lenS D rfl rfl rfl rfl) ?_
      | refine OpK.of (OpOk.lenM D rfl rfl rfl rfl) ?_
      | refine OpK.of (OpOk.lenL D rfl rfl rfl rfl) ?_
      | refine OpK.of (OpOk.lenA D rfl rfl rfl rfl rfl rfl) ?_
      | refine OpK.of (OpOk.lenE D rfl rfl rfl rfl) ?_
      | refine OpK.of (OpOk.inc rfl rfl rfl (by omega)) ?_
      | refine OpK.of (OpOk.add rfl rfl rfl (by omega)) ?_
      | refine OpK.of (OpOk.sub rfl rfl rfl (by omega)) ?_
      | refine OpK.of (OpOk.ixM D rfl rfl rfl rfl rfl rfl (by first | assumption | omega) (fun _ => rfl)) ?_)
    | (refine W.id ?_; first
      | refine W.regs ?_
      | refine W.drs0 mixed (by kernel_rfl) ?_
      | refine W.drs1 mixed (by kernel_rfl) ?_
      | refine W.drs2 mixed (by kernel_rfl) ?_
      | refine W.ret ?_
      | refine W.seq ?_
      | refine W.skip ?_
      | refine W.region ?_
      | refine W.exit ?_
      | refine W.block ?_
      | (refine W.cond rfl ?_ ?_ <;> intro hb <;> try simp at hb)
      | refine W.drawn mixed ?_)
    | (refine Then.id ?_; first
      | refine Then.rn ?_
      | refine Then.rr ?_
      | refine Then.rx ?_)
    | (refine InBlk.id ?_; first
      | refine InBlk.rn ?_
      | refine InBlk.rr ?_
      | refine InBlk.re ?_
      | refine InBlk.rx rfl ?_)
    | (refine WD.id ?_; first
      | refine WD.done rfl ?_
      | refine WD.t rfl ?_ rfl
      | refine WD.g rfl rfl rfl ?_
      | refine WD.u rfl rfl rfl ?_
      | (refine WD.gs _ rfl rfl rfl ?_ ?_ <;> intro hb <;> simp only [hb] <;> try simp at hb))
    | (refine OpD.id ?_; first
      | refine OpD.of (stpR_ok D rfl) ?_
      | refine OpD.of (OpOk.call rfl (chOk_impl c hs) rfl rfl rfl) ?_
      | refine OpD.of (OpOk.call rfl (head_ok c hc) rfl rfl rfl) ?_
      | refine OpD.of (OpOk.max rfl rfl rfl) ?_
      | refine OpD.of (OpOk.lenS D rfl rfl rfl rfl) ?_
      | refine OpD.of (OpOk.lenM D rfl rfl rfl rfl) ?_
      | refine OpD.of (OpOk.lenL D rfl rfl rfl rfl) ?_
      | refine OpD.of (OpOk.lenA D rfl rfl rfl rfl rfl rfl) ?_
      | refine OpD.of (OpOk.lenE D rfl rfl rfl rfl) ?_
      | refine OpD.of (OpOk.inc rfl rfl rfl (by omega)) ?_
      | refine OpD.of (OpOk.add rfl rfl rfl (by omega)) ?_
      | refine OpD.of (OpOk.sub rfl rfl rfl (by omega)) ?_
      | refine OpD.of (OpOk.ixM D rfl rfl rfl rfl rfl rfl (by first | assumption | omega) (fun _ => rfl)) ?_)
    | (refine WE.id ?_; first
      | refine WE.done (by with_unfolding_all rfl) ?_
      | refine WE.step (by with_unfolding_all rfl) ?_)
    | (refine WI.id ?_; first
      | refine WI.r D rfl ?_
      | refine WI.g rfl rfl rfl ?_
      | refine WI.g0 rfl ?_
      | (refine WI.gs _ rfl rfl rfl ?_ ?_ <;> intro hb <;> simp only [hb] <;> try simp at hb))
    | (refine WL.id ?_; first
      | refine WL.cons ?_ ?_
      | exact WL.nil
      | exact WL.on (by with_unfolding_all rfl)
      | refine WL.oc (by with_unfolding_all rfl) ?_ ?_))
    all_goals first
      | (exfalso; simp_all; done)
      | (refine ⟨.inr rfl, _, _, rfl, .cons (.c (.id rfl)) .nil, ?_⟩; simp only [resV, X.v, unans, if_pos hc]; congr 3; split <;> split <;> omega)
  · refine Pu.of D Tryz.func16 rfl rfl rfl ?_
    repeat' (first
    | (refine WO.id ?_; first
      | refine stp1_ok D rfl ?_
      | refine WO.nil ?_
      | refine WO.g rfl rfl rfl ?_
      | refine WO.g0 rfl ?_
      | (refine WO.gs _ rfl rfl rfl ?_ ?_ <;> intro hb <;> simp only [hb] <;> try simp at hb))
    | (refine OpK.id ?_; first
      | refine OpK.of (OpOk.call rfl (chOk_impl c hs) rfl rfl rfl) ?_
      | refine OpK.of (OpOk.lenS D rfl rfl rfl rfl) ?_
      | refine OpK.of (OpOk.lenM D rfl rfl rfl rfl) ?_
      | refine OpK.of (OpOk.lenL D rfl rfl rfl rfl) ?_
      | refine OpK.of (OpOk.lenA D rfl rfl rfl rfl rfl rfl) ?_
      | refine OpK.of (OpOk.lenE D rfl rfl rfl rfl) ?_
      | refine OpK.of (OpOk.inc rfl rfl rfl (by omega)) ?_
      | refine OpK.of (OpOk.add rfl rfl rfl (by omega)) ?_
      | refine OpK.of (OpOk.sub rfl rfl rfl (by omega)) ?_
      | refine OpK.of (OpOk.ixM D rfl rfl rfl rfl rfl rfl (by first | assumption | omega) (fun _ => rfl)) ?_)
    | (refine W.id ?_; first
      | refine W.regs ?_
      | refine W.drs0 mixed (by kernel_rfl) ?_
      | refine W.drs1 mixed (by kernel_rfl) ?_
      | refine W.drs2 mixed (by kernel_rfl) ?_
      | refine W.ret ?_
      | refine W.seq ?_
      | refine W.skip ?_
      | refine W.region ?_
      | refine W.exit ?_
      | refine W.block ?_
      | (refine W.cond rfl ?_ ?_ <;> intro hb <;> try simp at hb)
      | refine W.drawn mixed ?_)
    | (refine Then.id ?_; first
      | refine Then.rn ?_
      | refine Then.rr ?_
      | refine Then.rx ?_)
    | (refine InBlk.id ?_; first
      | refine InBlk.rn ?_
      | refine InBlk.rr ?_
      | refine InBlk.re ?_
      | refine InBlk.rx rfl ?_)
    | (refine WD.id ?_; first
      | refine WD.done rfl ?_
      | refine WD.t rfl ?_ rfl
      | refine WD.g rfl rfl rfl ?_
      | refine WD.u rfl rfl rfl ?_
      | (refine WD.gs _ rfl rfl rfl ?_ ?_ <;> intro hb <;> simp only [hb] <;> try simp at hb))
    | (refine OpD.id ?_; first
      | refine OpD.of (stpR_ok D rfl) ?_
      | refine OpD.of (OpOk.call rfl (chOk_impl c hs) rfl rfl rfl) ?_
      | refine OpD.of (OpOk.lenS D rfl rfl rfl rfl) ?_
      | refine OpD.of (OpOk.lenM D rfl rfl rfl rfl) ?_
      | refine OpD.of (OpOk.lenL D rfl rfl rfl rfl) ?_
      | refine OpD.of (OpOk.lenA D rfl rfl rfl rfl rfl rfl) ?_
      | refine OpD.of (OpOk.lenE D rfl rfl rfl rfl) ?_
      | refine OpD.of (OpOk.inc rfl rfl rfl (by omega)) ?_
      | refine OpD.of (OpOk.add rfl rfl rfl (by omega)) ?_
      | refine OpD.of (OpOk.sub rfl rfl rfl (by omega)) ?_
      | refine OpD.of (OpOk.ixM D rfl rfl rfl rfl rfl rfl (by first | assumption | omega) (fun _ => rfl)) ?_)
    | (refine WE.id ?_; first
      | refine WE.done (by with_unfolding_all rfl) ?_
      | refine WE.step (by with_unfolding_all rfl) ?_)
    | (refine WI.id ?_; first
      | refine WI.r D rfl ?_
      | refine WI.g rfl rfl rfl ?_
      | refine WI.g0 rfl ?_
      | (refine WI.gs _ rfl rfl rfl ?_ ?_ <;> intro hb <;> simp only [hb] <;> try simp at hb))
    | (refine WL.id ?_; first
      | refine WL.cons ?_ ?_
      | exact WL.nil
      | exact WL.on (by with_unfolding_all rfl)
      | refine WL.oc (by with_unfolding_all rfl) ?_ ?_))
    all_goals first
      | (exfalso; simp_all; done)
      | (refine ⟨.inr rfl, _, _, rfl, .cons (.c (.id rfl)) .nil, ?_⟩; simp [resV, X.v, unans, hc])
theorem unans_spec (c : Chn) (hs : c.Sm) : Pu Tryz.prog 14 [A c.e] (I (unans c)) := by
  by_cases hc : chOk c = true
  · have h1 := hLog_len hc
    have h2 := (chOk_d hc).ans24
    have ho := off_spec c hs
    rw [if_pos hc] at ho
    refine Pu.of D Tryz.func14 rfl rfl rfl ?_
    repeat' (first
    | (refine WO.id ?_; first
      | refine stp1_ok D rfl ?_
      | refine WO.nil ?_
      | refine WO.g rfl rfl rfl ?_
      | refine WO.g0 rfl ?_
      | (refine WO.gs _ rfl rfl rfl ?_ ?_ <;> intro hb <;> simp only [hb] <;> try simp at hb))
    | (refine OpK.id ?_; first
      | refine OpK.of (OpOk.call rfl (chOk_spec c hs) rfl rfl rfl) ?_
      | refine OpK.of (OpOk.call rfl (ho) rfl rfl rfl) ?_
      | refine OpK.of (OpOk.max rfl rfl rfl) ?_
      | refine OpK.of (OpOk.lenS D rfl rfl rfl rfl) ?_
      | refine OpK.of (OpOk.lenM D rfl rfl rfl rfl) ?_
      | refine OpK.of (OpOk.lenL D rfl rfl rfl rfl) ?_
      | refine OpK.of (OpOk.lenA D rfl rfl rfl rfl rfl rfl) ?_
      | refine OpK.of (OpOk.lenE D rfl rfl rfl rfl) ?_
      | refine OpK.of (OpOk.inc rfl rfl rfl (by omega)) ?_
      | refine OpK.of (OpOk.add rfl rfl rfl (by omega)) ?_
      | refine OpK.of (OpOk.sub rfl rfl rfl (by omega)) ?_
      | refine OpK.of (OpOk.ixM D rfl rfl rfl rfl rfl rfl (by first | assumption | omega) (fun _ => rfl)) ?_)
    | (refine W.id ?_; first
      | refine W.regs ?_
      | refine W.drs0 mixed (by kernel_rfl) ?_
      | refine W.drs1 mixed (by kernel_rfl) ?_
      | refine W.drs2 mixed (by kernel_rfl) ?_
      | refine W.ret ?_
      | refine W.seq ?_
      | refine W.skip ?_
      | refine W.region ?_
      | refine W.exit ?_
      | refine W.block ?_
      | (refine W.cond rfl ?_ ?_ <;> intro hb <;> try simp at hb)
      | refine W.drawn mixed ?_)
    | (refine Then.id ?_; first
      | refine Then.rn ?_
      | refine Then.rr ?_
      | refine Then.rx ?_)
    | (refine InBlk.id ?_; first
      | refine InBlk.rn ?_
      | refine InBlk.rr ?_
      | refine InBlk.re ?_
      | refine InBlk.rx rfl ?_)
    | (refine WD.id ?_; first
      | refine WD.done rfl ?_
      | refine WD.t rfl ?_ rfl
      | refine WD.g rfl rfl rfl ?_
      | refine WD.u rfl rfl rfl ?_
      | (refine WD.gs _ rfl rfl rfl ?_ ?_ <;> intro hb <;> simp only [hb] <;> try simp at hb))
    | (refine OpD.id ?_; first
      | refine OpD.of (stpR_ok D rfl) ?_
      | refine OpD.of (OpOk.call rfl (chOk_spec c hs) rfl rfl rfl) ?_
      | refine OpD.of (OpOk.call rfl (ho) rfl rfl rfl) ?_
      | refine OpD.of (OpOk.max rfl rfl rfl) ?_
      | refine OpD.of (OpOk.lenS D rfl rfl rfl rfl) ?_
      | refine OpD.of (OpOk.lenM D rfl rfl rfl rfl) ?_
      | refine OpD.of (OpOk.lenL D rfl rfl rfl rfl) ?_
      | refine OpD.of (OpOk.lenA D rfl rfl rfl rfl rfl rfl) ?_
      | refine OpD.of (OpOk.lenE D rfl rfl rfl rfl) ?_
      | refine OpD.of (OpOk.inc rfl rfl rfl (by omega)) ?_
      | refine OpD.of (OpOk.add rfl rfl rfl (by omega)) ?_
      | refine OpD.of (OpOk.sub rfl rfl rfl (by omega)) ?_
      | refine OpD.of (OpOk.ixM D rfl rfl rfl rfl rfl rfl (by first | assumption | omega) (fun _ => rfl)) ?_)
    | (refine WE.id ?_; first
      | refine WE.done (by with_unfolding_all rfl) ?_
      | refine WE.step (by with_unfolding_all rfl) ?_)
    | (refine WI.id ?_; first
      | refine WI.r D rfl ?_
      | refine WI.g rfl rfl rfl ?_
      | refine WI.g0 rfl ?_
      | (refine WI.gs _ rfl rfl rfl ?_ ?_ <;> intro hb <;> simp only [hb] <;> try simp at hb))
    | (refine WL.id ?_; first
      | refine WL.cons ?_ ?_
      | exact WL.nil
      | exact WL.on (by with_unfolding_all rfl)
      | refine WL.oc (by with_unfolding_all rfl) ?_ ?_))
    all_goals first
      | (exfalso; simp_all; done)
      | (refine ⟨.inr rfl, _, _, rfl, .cons (.c (.id rfl)) .nil, ?_⟩; simp only [resV, X.v, unans, if_pos hc]; congr 3; split <;> split <;> omega)
  · refine Pu.of D Tryz.func14 rfl rfl rfl ?_
    repeat' (first
    | (refine WO.id ?_; first
      | refine stp1_ok D rfl ?_
      | refine WO.nil ?_
      | refine WO.g rfl rfl rfl ?_
      | refine WO.g0 rfl ?_
      | (refine WO.gs _ rfl rfl rfl ?_ ?_ <;> intro hb <;> simp only [hb] <;> try simp at hb))
    | (refine OpK.id ?_; first
      | refine OpK.of (OpOk.call rfl (chOk_spec c hs) rfl rfl rfl) ?_
      | refine OpK.of (OpOk.lenS D rfl rfl rfl rfl) ?_
      | refine OpK.of (OpOk.lenM D rfl rfl rfl rfl) ?_
      | refine OpK.of (OpOk.lenL D rfl rfl rfl rfl) ?_
      | refine OpK.of (OpOk.lenA D rfl rfl rfl rfl rfl rfl) ?_
      | refine OpK.of (OpOk.lenE D rfl rfl rfl rfl) ?_
      | refine OpK.of (OpOk.inc rfl rfl rfl (by omega)) ?_
      | refine OpK.of (OpOk.add rfl rfl rfl (by omega)) ?_
      | refine OpK.of (OpOk.sub rfl rfl rfl (by omega)) ?_
      | refine OpK.of (OpOk.ixM D rfl rfl rfl rfl rfl rfl (by first | assumption | omega) (fun _ => rfl)) ?_)
    | (refine W.id ?_; first
      | refine W.regs ?_
      | refine W.drs0 mixed (by kernel_rfl) ?_
      | refine W.drs1 mixed (by kernel_rfl) ?_
      | refine W.drs2 mixed (by kernel_rfl) ?_
      | refine W.ret ?_
      | refine W.seq ?_
      | refine W.skip ?_
      | refine W.region ?_
      | refine W.exit ?_
      | refine W.block ?_
      | (refine W.cond rfl ?_ ?_ <;> intro hb <;> try simp at hb)
      | refine W.drawn mixed ?_)
    | (refine Then.id ?_; first
      | refine Then.rn ?_
      | refine Then.rr ?_
      | refine Then.rx ?_)
    | (refine InBlk.id ?_; first
      | refine InBlk.rn ?_
      | refine InBlk.rr ?_
      | refine InBlk.re ?_
      | refine InBlk.rx rfl ?_)
    | (refine WD.id ?_; first
      | refine WD.done rfl ?_
      | refine WD.t rfl ?_ rfl
      | refine WD.g rfl rfl rfl ?_
      | refine WD.u rfl rfl rfl ?_
      | (refine WD.gs _ rfl rfl rfl ?_ ?_ <;> intro hb <;> simp only [hb] <;> try simp at hb))
    | (refine OpD.id ?_; first
      | refine OpD.of (stpR_ok D rfl) ?_
      | refine OpD.of (OpOk.call rfl (chOk_spec c hs) rfl rfl rfl) ?_
      | refine OpD.of (OpOk.lenS D rfl rfl rfl rfl) ?_
      | refine OpD.of (OpOk.lenM D rfl rfl rfl rfl) ?_
      | refine OpD.of (OpOk.lenL D rfl rfl rfl rfl) ?_
      | refine OpD.of (OpOk.lenA D rfl rfl rfl rfl rfl rfl) ?_
      | refine OpD.of (OpOk.lenE D rfl rfl rfl rfl) ?_
      | refine OpD.of (OpOk.inc rfl rfl rfl (by omega)) ?_
      | refine OpD.of (OpOk.add rfl rfl rfl (by omega)) ?_
      | refine OpD.of (OpOk.sub rfl rfl rfl (by omega)) ?_
      | refine OpD.of (OpOk.ixM D rfl rfl rfl rfl rfl rfl (by first | assumption | omega) (fun _ => rfl)) ?_)
    | (refine WE.id ?_; first
      | refine WE.done (by with_unfolding_all rfl) ?_
      | refine WE.step (by with_unfolding_all rfl) ?_)
    | (refine WI.id ?_; first
      | refine WI.r D rfl ?_
      | refine WI.g rfl rfl rfl ?_
      | refine WI.g0 rfl ?_
      | (refine WI.gs _ rfl rfl rfl ?_ ?_ <;> intro hb <;> simp only [hb] <;> try simp at hb))
    | (refine WL.id ?_; first
      | refine WL.cons ?_ ?_
      | exact WL.nil
      | exact WL.on (by with_unfolding_all rfl)
      | refine WL.oc (by with_unfolding_all rfl) ?_ ?_))
    all_goals first
      | (exfalso; simp_all; done)
      | (refine ⟨.inr rfl, _, _, rfl, .cons (.c (.id rfl)) .nil, ?_⟩; simp [resV, X.v, unans, hc])
theorem law_unans (c : Chn) (fc : c.Fit) : Pu Tryz.prog 3 [A c.e] (B true) := by
  refine Pu.of D Tryz.func3 rfl rfl rfl ?_
  repeat' (first
    | (refine WO.id ?_; first
      | refine stp1_ok D rfl ?_
      | refine WO.nil ?_
      | refine WO.g rfl rfl rfl ?_
      | refine WO.g0 rfl ?_
      | (refine WO.gs _ rfl rfl rfl ?_ ?_ <;> intro hb <;> simp only [hb] <;> try simp at hb))
    | (refine OpK.id ?_; first
      | refine OpK.of (OpOk.call rfl (Chn.sz_ok c fc 1048576 (by omega) (by omega)) rfl rfl rfl) ?_
      | refine OpK.of (OpOk.lenS D rfl rfl rfl rfl) ?_
      | refine OpK.of (OpOk.lenM D rfl rfl rfl rfl) ?_
      | refine OpK.of (OpOk.lenL D rfl rfl rfl rfl) ?_
      | refine OpK.of (OpOk.lenA D rfl rfl rfl rfl rfl rfl) ?_
      | refine OpK.of (OpOk.lenE D rfl rfl rfl rfl) ?_
      | refine OpK.of (OpOk.inc rfl rfl rfl (by omega)) ?_
      | refine OpK.of (OpOk.add rfl rfl rfl (by omega)) ?_
      | refine OpK.of (OpOk.sub rfl rfl rfl (by omega)) ?_
      | refine OpK.of (OpOk.ixM D rfl rfl rfl rfl rfl rfl (by first | assumption | omega) (fun _ => rfl)) ?_)
    | (refine W.id ?_; first
      | refine W.regs ?_
      | refine W.drs0 mixed (by kernel_rfl) ?_
      | refine W.drs1 mixed (by kernel_rfl) ?_
      | refine W.drs2 mixed (by kernel_rfl) ?_
      | refine W.ret ?_
      | refine W.seq ?_
      | refine W.skip ?_
      | refine W.region ?_
      | refine W.exit ?_
      | refine W.block ?_
      | (refine W.cond rfl ?_ ?_ <;> intro hb <;> try simp at hb)
      | refine W.drawn mixed ?_)
    | (refine Then.id ?_; first
      | refine Then.rn ?_
      | refine Then.rr ?_
      | refine Then.rx ?_)
    | (refine InBlk.id ?_; first
      | refine InBlk.rn ?_
      | refine InBlk.rr ?_
      | refine InBlk.re ?_
      | refine InBlk.rx rfl ?_)
    | (refine WD.id ?_; first
      | refine WD.done rfl ?_
      | refine WD.t rfl ?_ rfl
      | refine WD.g rfl rfl rfl ?_
      | refine WD.u rfl rfl rfl ?_
      | (refine WD.gs _ rfl rfl rfl ?_ ?_ <;> intro hb <;> simp only [hb] <;> try simp at hb))
    | (refine OpD.id ?_; first
      | refine OpD.of (stpR_ok D rfl) ?_
      | refine OpD.of (OpOk.call rfl (Chn.sz_ok c fc 1048576 (by omega) (by omega)) rfl rfl rfl) ?_
      | refine OpD.of (OpOk.lenS D rfl rfl rfl rfl) ?_
      | refine OpD.of (OpOk.lenM D rfl rfl rfl rfl) ?_
      | refine OpD.of (OpOk.lenL D rfl rfl rfl rfl) ?_
      | refine OpD.of (OpOk.lenA D rfl rfl rfl rfl rfl rfl) ?_
      | refine OpD.of (OpOk.lenE D rfl rfl rfl rfl) ?_
      | refine OpD.of (OpOk.inc rfl rfl rfl (by omega)) ?_
      | refine OpD.of (OpOk.add rfl rfl rfl (by omega)) ?_
      | refine OpD.of (OpOk.sub rfl rfl rfl (by omega)) ?_
      | refine OpD.of (OpOk.ixM D rfl rfl rfl rfl rfl rfl (by first | assumption | omega) (fun _ => rfl)) ?_)
    | (refine WE.id ?_; first
      | refine WE.done (by with_unfolding_all rfl) ?_
      | refine WE.step (by with_unfolding_all rfl) ?_)
    | (refine WI.id ?_; first
      | refine WI.r D rfl ?_
      | refine WI.g rfl rfl rfl ?_
      | refine WI.g0 rfl ?_
      | (refine WI.gs _ rfl rfl rfl ?_ ?_ <;> intro hb <;> simp only [hb] <;> try simp at hb))
    | (refine WL.id ?_; first
      | refine WL.cons ?_ ?_
      | exact WL.nil
      | exact WL.on (by with_unfolding_all rfl)
      | refine WL.oc (by with_unfolding_all rfl) ?_ ?_))
  all_goals first | (refine ⟨.inr rfl, _, _, rfl, .cons (.c (.id rfl)) .nil, ?_⟩; rfl) | skip
  have s1 := Chn.sz_sm c (x := 1048576) (by omega) (by omega) hb
  repeat' (first
    | (refine WO.id ?_; first
      | refine stp1_ok D rfl ?_
      | refine WO.nil ?_
      | refine WO.g rfl rfl rfl ?_
      | refine WO.g0 rfl ?_
      | (refine WO.gs _ rfl rfl rfl ?_ ?_ <;> intro hb <;> simp only [hb] <;> try simp at hb))
    | (refine OpK.id ?_; first
      | refine OpK.of (OpOk.call rfl (Chn.to_ok c s1) rfl rfl rfl) ?_
      | refine OpK.of (OpOk.call rfl (unans_spec c s1) rfl rfl rfl) ?_
      | refine OpK.of (OpOk.call rfl (unans_impl c s1) rfl rfl rfl) ?_
      | refine OpK.of (OpOk.call rfl (Chn.eq_ok c c s1) rfl rfl rfl) ?_
      | refine OpK.of (OpOk.lenS D rfl rfl rfl rfl) ?_
      | refine OpK.of (OpOk.lenM D rfl rfl rfl rfl) ?_
      | refine OpK.of (OpOk.lenL D rfl rfl rfl rfl) ?_
      | refine OpK.of (OpOk.lenA D rfl rfl rfl rfl rfl rfl) ?_
      | refine OpK.of (OpOk.lenE D rfl rfl rfl rfl) ?_
      | refine OpK.of (OpOk.inc rfl rfl rfl (by omega)) ?_
      | refine OpK.of (OpOk.add rfl rfl rfl (by omega)) ?_
      | refine OpK.of (OpOk.sub rfl rfl rfl (by omega)) ?_
      | refine OpK.of (OpOk.ixM D rfl rfl rfl rfl rfl rfl (by first | assumption | omega) (fun _ => rfl)) ?_)
    | (refine W.id ?_; first
      | refine W.regs ?_
      | refine W.drs0 mixed (by kernel_rfl) ?_
      | refine W.drs1 mixed (by kernel_rfl) ?_
      | refine W.drs2 mixed (by kernel_rfl) ?_
      | refine W.ret ?_
      | refine W.seq ?_
      | refine W.skip ?_
      | refine W.region ?_
      | refine W.exit ?_
      | refine W.block ?_
      | (refine W.cond rfl ?_ ?_ <;> intro hb <;> try simp at hb)
      | refine W.drawn mixed ?_)
    | (refine Then.id ?_; first
      | refine Then.rn ?_
      | refine Then.rr ?_
      | refine Then.rx ?_)
    | (refine InBlk.id ?_; first
      | refine InBlk.rn ?_
      | refine InBlk.rr ?_
      | refine InBlk.re ?_
      | refine InBlk.rx rfl ?_)
    | (refine WD.id ?_; first
      | refine WD.done rfl ?_
      | refine WD.t rfl ?_ rfl
      | refine WD.g rfl rfl rfl ?_
      | refine WD.u rfl rfl rfl ?_
      | (refine WD.gs _ rfl rfl rfl ?_ ?_ <;> intro hb <;> simp only [hb] <;> try simp at hb))
    | (refine OpD.id ?_; first
      | refine OpD.of (stpR_ok D rfl) ?_
      | refine OpD.of (OpOk.call rfl (Chn.to_ok c s1) rfl rfl rfl) ?_
      | refine OpD.of (OpOk.call rfl (unans_spec c s1) rfl rfl rfl) ?_
      | refine OpD.of (OpOk.call rfl (unans_impl c s1) rfl rfl rfl) ?_
      | refine OpD.of (OpOk.call rfl (Chn.eq_ok c c s1) rfl rfl rfl) ?_
      | refine OpD.of (OpOk.lenS D rfl rfl rfl rfl) ?_
      | refine OpD.of (OpOk.lenM D rfl rfl rfl rfl) ?_
      | refine OpD.of (OpOk.lenL D rfl rfl rfl rfl) ?_
      | refine OpD.of (OpOk.lenA D rfl rfl rfl rfl rfl rfl) ?_
      | refine OpD.of (OpOk.lenE D rfl rfl rfl rfl) ?_
      | refine OpD.of (OpOk.inc rfl rfl rfl (by omega)) ?_
      | refine OpD.of (OpOk.add rfl rfl rfl (by omega)) ?_
      | refine OpD.of (OpOk.sub rfl rfl rfl (by omega)) ?_
      | refine OpD.of (OpOk.ixM D rfl rfl rfl rfl rfl rfl (by first | assumption | omega) (fun _ => rfl)) ?_)
    | (refine WE.id ?_; first
      | refine WE.done (by with_unfolding_all rfl) ?_
      | refine WE.step (by with_unfolding_all rfl) ?_)
    | (refine WI.id ?_; first
      | refine WI.r D rfl ?_
      | refine WI.g rfl rfl rfl ?_
      | refine WI.g0 rfl ?_
      | (refine WI.gs _ rfl rfl rfl ?_ ?_ <;> intro hb <;> simp only [hb] <;> try simp at hb))
    | (refine WL.id ?_; first
      | refine WL.cons ?_ ?_
      | exact WL.nil
      | exact WL.on (by with_unfolding_all rfl)
      | refine WL.oc (by with_unfolding_all rfl) ?_ ?_))
  all_goals (refine ⟨.inr rfl, _, _, rfl, .cons (.c (.id rfl)) .nil, ?_⟩; rfl)
end Go.YtakiodehjhpgkaaGreatMc
