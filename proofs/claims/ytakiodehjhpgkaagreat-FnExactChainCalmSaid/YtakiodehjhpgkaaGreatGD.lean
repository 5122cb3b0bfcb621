/- Lemmas of this claim: walks through code, values and memory, and the contracts of functions; under no condition beyond those that each states. -/
import Derived.Test.YtakiodehjhpgkaaGreatGC
import Derived.Test.YtakiodehjhpgkaaGreatMD
set_option maxRecDepth 100000
set_option linter.unusedVariables false
set_option linter.unusedSimpArgs false
namespace Go.YtakiodehjhpgkaaGreatMc
open Go.Proofs
/-! ### At rest -/
theorem idxB_ok (l : List Bool) (b : Bool) (hl : l.length ≤ 1048576) : Pu Tryz.prog 77 [L eB l, B b] (B (decide (b ∈ l))) := by
  have h1 : Pu Tryz.prog 181 [L eB l, B b] (I (if b ∈ l then (l.idxOf b : Int) else -1)) := by
    refine Pu.of D Tryz.func181 rfl rfl rfl ?_
    repeat' (first
    | (refine WO.id ?_; first
      | refine stp1_ok D rfl ?_
      | refine WO.nil ?_
      | refine WO.g rfl rfl rfl ?_
      | refine WO.g0 rfl ?_
      | (refine WO.gs _ rfl rfl rfl ?_ ?_ <;> intro hb <;> simp only [hb] <;> try simp at hb))
    | (refine OpK.id ?_; first
      | refine OpK.of (OpOk.lenS D rfl rfl rfl rfl) ?_
      | refine OpK.of (OpOk.lenM D rfl rfl rfl rfl) ?_
      | refine OpK.of (OpOk.lenL D rfl rfl rfl rfl) ?_
      | refine OpK.of (OpOk.lenA D rfl rfl rfl rfl rfl rfl) ?_
      | refine OpK.of (OpOk.lenE D rfl rfl rfl rfl) ?_
      | refine OpK.of (OpOk.inc rfl rfl rfl (by omega)) ?_
      | refine OpK.of (OpOk.add rfl rfl rfl (by omega)) ?_
      | refine OpK.of (OpOk.sub rfl rfl rfl (by omega)) ?_
      | refine OpK.of (OpOk.ixM D rfl rfl rfl rfl rfl rfl (by first | assumption | omega) (fun _ => rfl)) ?_)
    | (refine W.id ?_; first
      | refine W.regs ?_
      | refine W.dv0 mixed rfl (by decide +kernel) ?_
      | refine W.dv1 mixed rfl (by decide +kernel) ?_
      | refine W.dv2 mixed rfl (by decide +kernel) ?_
      | refine W.dm0 mixed rfl (by decide +kernel) (by repeat' (first | exact .nil | refine .box rfl ?_ | refine .arr (rs_low _ _ _) ?_ | refine .dead ?_ | fail)) ?_
      | refine W.dm1 mixed rfl (by decide +kernel) (by repeat' (first | exact .nil | refine .box rfl ?_ | refine .arr (rs_low _ _ _) ?_ | refine .dead ?_ | fail)) ?_
      | refine W.dm2 mixed rfl (by decide +kernel) (by repeat' (first | exact .nil | refine .box rfl ?_ | refine .arr (rs_low _ _ _) ?_ | refine .dead ?_ | fail)) ?_
      | refine W.drws mixed ?_
      | refine W.ret ?_
      | refine W.seq ?_
      | refine W.skip ?_
      | refine W.region ?_
      | refine W.exit ?_
      | refine W.block ?_
      | (refine W.cond rfl ?_ ?_ <;> intro hb <;> try simp at hb)
      | refine W.drawn mixed ?_)
    | (refine Then.id ?_; first
      | refine Then.rn ?_
      | refine Then.rr ?_
      | refine Then.rx ?_)
    | (refine InBlk.id ?_; first
      | refine InBlk.rn ?_
      | refine InBlk.rr ?_
      | refine InBlk.re ?_
      | refine InBlk.rx rfl ?_)
    | (refine WD.id ?_; first
      | refine WD.done rfl ?_
      | refine WD.t rfl ?_ rfl
      | refine WD.g rfl rfl rfl ?_
      | refine WD.u rfl rfl rfl ?_
      | (refine WD.gs _ rfl rfl rfl ?_ ?_ <;> intro hb <;> simp only [hb] <;> try simp at hb))
    | (refine OpD.id ?_; first
      | refine OpD.of (stpR_ok D rfl) ?_
      | refine OpD.of (OpOk.lenS D rfl rfl rfl rfl) ?_
      | refine OpD.of (OpOk.lenM D rfl rfl rfl rfl) ?_
      | refine OpD.of (OpOk.lenL D rfl rfl rfl rfl) ?_
      | refine OpD.of (OpOk.lenA D rfl rfl rfl rfl rfl rfl) ?_
      | refine OpD.of (OpOk.lenE D rfl rfl rfl rfl) ?_
      | refine OpD.of (OpOk.inc rfl rfl rfl (by omega)) ?_
      | refine OpD.of (OpOk.add rfl rfl rfl (by omega)) ?_
      | refine OpD.of (OpOk.sub rfl rfl rfl (by omega)) ?_
      | refine OpD.of (OpOk.ixM D rfl rfl rfl rfl rfl rfl (by first | assumption | omega) (fun _ => rfl)) ?_)
    | (refine WE.id ?_; first
      | refine WE.done (by with_unfolding_all rfl) ?_
      | refine WE.step (by with_unfolding_all rfl) ?_)
    | (refine WI.id ?_; first
      | refine WI.r D rfl ?_
      | refine WI.g rfl rfl rfl ?_
      | refine WI.g0 rfl ?_
      | (refine WI.gs _ rfl rfl rfl ?_ ?_ <;> intro hb <;> simp only [hb] <;> try simp at hb))
    | (refine WL.id ?_; first
      | refine WL.cons ?_ ?_
      | exact WL.nil
      | exact WL.on (by with_unfolding_all rfl)
      | refine WL.oc (by with_unfolding_all rfl) ?_ ?_)
    | (refine WM.id ?_; first
      | refine .done rfl ?_
      | refine .t rfl ?_ rfl
      | refine WM.g rfl rfl rfl rfl ?_
      | refine .u rfl rfl rfl ?_
      | (refine WM.gs _ rfl rfl rfl ?_ ?_ <;> intro hb <;> simp only [hb] <;> try simp at hb))
    | (refine OpM.id ?_; first
      | refine OpM.v (stpR_ok D rfl) rfl ?_
      | refine OpM.b (stpR_ok D rfl) rfl (by repeat' (first | exact .nil | refine .box rfl ?_ | refine .arr (rs_low _ _ _) ?_ | refine .dead ?_ | fail)) ?_
      | refine OpM.v (OpOk.lenS D rfl rfl rfl rfl) rfl ?_
      | refine OpM.b (OpOk.lenS D rfl rfl rfl rfl) rfl (by repeat' (first | exact .nil | refine .box rfl ?_ | refine .arr (rs_low _ _ _) ?_ | refine .dead ?_ | fail)) ?_
      | refine OpM.v (OpOk.lenM D rfl rfl rfl rfl) rfl ?_
      | refine OpM.b (OpOk.lenM D rfl rfl rfl rfl) rfl (by repeat' (first | exact .nil | refine .box rfl ?_ | refine .arr (rs_low _ _ _) ?_ | refine .dead ?_ | fail)) ?_
      | refine OpM.v (OpOk.lenL D rfl rfl rfl rfl) rfl ?_
      | refine OpM.b (OpOk.lenL D rfl rfl rfl rfl) rfl (by repeat' (first | exact .nil | refine .box rfl ?_ | refine .arr (rs_low _ _ _) ?_ | refine .dead ?_ | fail)) ?_
      | refine OpM.v (OpOk.lenA D rfl rfl rfl rfl rfl rfl) rfl ?_
      | refine OpM.b (OpOk.lenA D rfl rfl rfl rfl rfl rfl) rfl (by repeat' (first | exact .nil | refine .box rfl ?_ | refine .arr (rs_low _ _ _) ?_ | refine .dead ?_ | fail)) ?_
      | refine OpM.v (OpOk.lenE D rfl rfl rfl rfl) rfl ?_
      | refine OpM.b (OpOk.lenE D rfl rfl rfl rfl) rfl (by repeat' (first | exact .nil | refine .box rfl ?_ | refine .arr (rs_low _ _ _) ?_ | refine .dead ?_ | fail)) ?_
      | refine OpM.v (OpOk.inc rfl rfl rfl (by omega)) rfl ?_
      | refine OpM.b (OpOk.inc rfl rfl rfl (by omega)) rfl (by repeat' (first | exact .nil | refine .box rfl ?_ | refine .arr (rs_low _ _ _) ?_ | refine .dead ?_ | fail)) ?_
      | refine OpM.v (OpOk.add rfl rfl rfl (by omega)) rfl ?_
      | refine OpM.b (OpOk.add rfl rfl rfl (by omega)) rfl (by repeat' (first | exact .nil | refine .box rfl ?_ | refine .arr (rs_low _ _ _) ?_ | refine .dead ?_ | fail)) ?_
      | refine OpM.v (OpOk.sub rfl rfl rfl (by omega)) rfl ?_
      | refine OpM.b (OpOk.sub rfl rfl rfl (by omega)) rfl (by repeat' (first | exact .nil | refine .box rfl ?_ | refine .arr (rs_low _ _ _) ?_ | refine .dead ?_ | fail)) ?_
      | refine OpM.v (OpOk.ixM D rfl rfl rfl rfl rfl rfl (by first | assumption | omega) (fun _ => rfl)) rfl ?_
      | refine OpM.b (OpOk.ixM D rfl rfl rfl rfl rfl rfl (by first | assumption | omega) (fun _ => rfl)) rfl (by repeat' (first | exact .nil | refine .box rfl ?_ | refine .arr (rs_low _ _ _) ?_ | refine .dead ?_ | fail)) ?_))
    refine W.loop (σ := Nat) (fun k => [(8, I k), (7, I l.length), (1, B b), (0, L eB l)]) (fun _ => []) (fun k => k ≤ l.length ∧ ¬ b ∈ l.take k) (fun k => l.length - k) 0 (fun _ _ => rfl) 0 ⟨by simp, by simp⟩ rfl (.cons rfl rfl (.cons rfl rfl (.cons rfl rfl (.cons rfl rfl (.nil))))) ?_
    rintro k ⟨hk1, hy⟩
    repeat' (first
    | (refine WO.id ?_; first
      | refine stp1_ok D rfl ?_
      | refine WO.nil ?_
      | refine WO.g rfl rfl rfl ?_
      | refine WO.g0 rfl ?_
      | (refine WO.gs _ rfl rfl rfl ?_ ?_ <;> intro hb <;> simp only [hb] <;> try simp at hb))
    | (refine OpK.id ?_; first
      | refine OpK.of (OpOk.lenS D rfl rfl rfl rfl) ?_
      | refine OpK.of (OpOk.lenM D rfl rfl rfl rfl) ?_
      | refine OpK.of (OpOk.lenL D rfl rfl rfl rfl) ?_
      | refine OpK.of (OpOk.lenA D rfl rfl rfl rfl rfl rfl) ?_
      | refine OpK.of (OpOk.lenE D rfl rfl rfl rfl) ?_
      | refine OpK.of (OpOk.inc rfl rfl rfl (by omega)) ?_
      | refine OpK.of (OpOk.add rfl rfl rfl (by omega)) ?_
      | refine OpK.of (OpOk.sub rfl rfl rfl (by omega)) ?_
      | refine OpK.of (OpOk.ixM D rfl rfl rfl rfl rfl rfl (by first | assumption | omega) (fun _ => rfl)) ?_)
    | (refine W.id ?_; first
      | refine W.regs ?_
      | refine W.dv0 mixed rfl (by decide +kernel) ?_
      | refine W.dv1 mixed rfl (by decide +kernel) ?_
      | refine W.dv2 mixed rfl (by decide +kernel) ?_
      | refine W.dm0 mixed rfl (by decide +kernel) (by repeat' (first | exact .nil | refine .box rfl ?_ | refine .arr (rs_low _ _ _) ?_ | refine .dead ?_ | fail)) ?_
      | refine W.dm1 mixed rfl (by decide +kernel) (by repeat' (first | exact .nil | refine .box rfl ?_ | refine .arr (rs_low _ _ _) ?_ | refine .dead ?_ | fail)) ?_
      | refine W.dm2 mixed rfl (by decide +kernel) (by repeat' (first | exact .nil | refine .box rfl ?_ | refine .arr (rs_low _ _ _) ?_ | refine .dead ?_ | fail)) ?_
      | refine W.drws mixed ?_
      | refine W.ret ?_
      | refine W.seq ?_
      | refine W.skip ?_
      | refine W.region ?_
      | refine W.exit ?_
      | refine W.block ?_
      | (refine W.cond rfl ?_ ?_ <;> intro hb <;> try simp at hb)
      | refine W.drawn mixed ?_)
    | (refine Then.id ?_; first
      | refine Then.rn ?_
      | refine Then.rr ?_
      | refine Then.rx ?_)
    | (refine InBlk.id ?_; first
      | refine InBlk.rn ?_
      | refine InBlk.rr ?_
      | refine InBlk.re ?_
      | refine InBlk.rx rfl ?_)
    | (refine WD.id ?_; first
      | refine WD.done rfl ?_
      | refine WD.t rfl ?_ rfl
      | refine WD.g rfl rfl rfl ?_
      | refine WD.u rfl rfl rfl ?_
      | (refine WD.gs _ rfl rfl rfl ?_ ?_ <;> intro hb <;> simp only [hb] <;> try simp at hb))
    | (refine OpD.id ?_; first
      | refine OpD.of (stpR_ok D rfl) ?_
      | refine OpD.of (OpOk.lenS D rfl rfl rfl rfl) ?_
      | refine OpD.of (OpOk.lenM D rfl rfl rfl rfl) ?_
      | refine OpD.of (OpOk.lenL D rfl rfl rfl rfl) ?_
      | refine OpD.of (OpOk.lenA D rfl rfl rfl rfl rfl rfl) ?_
      | refine OpD.of (OpOk.lenE D rfl rfl rfl rfl) ?_
      | refine OpD.of (OpOk.inc rfl rfl rfl (by omega)) ?_
      | refine OpD.of (OpOk.add rfl rfl rfl (by omega)) ?_
      | refine OpD.of (OpOk.sub rfl rfl rfl (by omega)) ?_
      | refine OpD.of (OpOk.ixM D rfl rfl rfl rfl rfl rfl (by first | assumption | omega) (fun _ => rfl)) ?_)
    | (refine WE.id ?_; first
      | refine WE.done (by with_unfolding_all rfl) ?_
      | refine WE.step (by with_unfolding_all rfl) ?_)
    | (refine WI.id ?_; first
      | refine WI.r D rfl ?_
      | refine WI.g rfl rfl rfl ?_
      | refine WI.g0 rfl ?_
      | (refine WI.gs _ rfl rfl rfl ?_ ?_ <;> intro hb <;> simp only [hb] <;> try simp at hb))
    | (refine WL.id ?_; first
      | refine WL.cons ?_ ?_
      | exact WL.nil
      | exact WL.on (by with_unfolding_all rfl)
      | refine WL.oc (by with_unfolding_all rfl) ?_ ?_)
    | (refine WM.id ?_; first
      | refine .done rfl ?_
      | refine .t rfl ?_ rfl
      | refine WM.g rfl rfl rfl rfl ?_
      | refine .u rfl rfl rfl ?_
      | (refine WM.gs _ rfl rfl rfl ?_ ?_ <;> intro hb <;> simp only [hb] <;> try simp at hb))
    | (refine OpM.id ?_; first
      | refine OpM.v (stpR_ok D rfl) rfl ?_
      | refine OpM.b (stpR_ok D rfl) rfl (by repeat' (first | exact .nil | refine .box rfl ?_ | refine .arr (rs_low _ _ _) ?_ | refine .dead ?_ | fail)) ?_
      | refine OpM.v (OpOk.lenS D rfl rfl rfl rfl) rfl ?_
      | refine OpM.b (OpOk.lenS D rfl rfl rfl rfl) rfl (by repeat' (first | exact .nil | refine .box rfl ?_ | refine .arr (rs_low _ _ _) ?_ | refine .dead ?_ | fail)) ?_
      | refine OpM.v (OpOk.lenM D rfl rfl rfl rfl) rfl ?_
      | refine OpM.b (OpOk.lenM D rfl rfl rfl rfl) rfl (by repeat' (first | exact .nil | refine .box rfl ?_ | refine .arr (rs_low _ _ _) ?_ | refine .dead ?_ | fail)) ?_
      | refine OpM.v (OpOk.lenL D rfl rfl rfl rfl) rfl ?_
      | refine OpM.b (OpOk.lenL D rfl rfl rfl rfl) rfl (by repeat' (first | exact .nil | refine .box rfl ?_ | refine .arr (rs_low _ _ _) ?_ | refine .dead ?_ | fail)) ?_
      | refine OpM.v (OpOk.lenA D rfl rfl rfl rfl rfl rfl) rfl ?_
      | refine OpM.b (OpOk.lenA D rfl rfl rfl rfl rfl rfl) rfl (by repeat' (first | exact .nil | refine .box rfl ?_ | refine .arr (rs_low _ _ _) ?_ | refine .dead ?_ | fail)) ?_
      | refine OpM.v (OpOk.lenE D rfl rfl rfl rfl) rfl ?_
      | refine OpM.b (OpOk.lenE D rfl rfl rfl rfl) rfl (by repeat' (first | exact .nil | refine .box rfl ?_ | refine .arr (rs_low _ _ _) ?_ | refine .dead ?_ | fail)) ?_
      | refine OpM.v (OpOk.inc rfl rfl rfl (by omega)) rfl ?_
      | refine OpM.b (OpOk.inc rfl rfl rfl (by omega)) rfl (by repeat' (first | exact .nil | refine .box rfl ?_ | refine .arr (rs_low _ _ _) ?_ | refine .dead ?_ | fail)) ?_
      | refine OpM.v (OpOk.add rfl rfl rfl (by omega)) rfl ?_
      | refine OpM.b (OpOk.add rfl rfl rfl (by omega)) rfl (by repeat' (first | exact .nil | refine .box rfl ?_ | refine .arr (rs_low _ _ _) ?_ | refine .dead ?_ | fail)) ?_
      | refine OpM.v (OpOk.sub rfl rfl rfl (by omega)) rfl ?_
      | refine OpM.b (OpOk.sub rfl rfl rfl (by omega)) rfl (by repeat' (first | exact .nil | refine .box rfl ?_ | refine .arr (rs_low _ _ _) ?_ | refine .dead ?_ | fail)) ?_
      | refine OpM.v (OpOk.ixM D rfl rfl rfl rfl rfl rfl (by first | assumption | omega) (fun _ => rfl)) rfl ?_
      | refine OpM.b (OpOk.ixM D rfl rfl rfl rfl rfl rfl (by first | assumption | omega) (fun _ => rfl)) rfl (by repeat' (first | exact .nil | refine .box rfl ?_ | refine .arr (rs_low _ _ _) ?_ | refine .dead ?_ | fail)) ?_))
    · have hlt : k < l.length := by assumption
      have hm : b ∈ l := by rw [hb]; exact List.getElem_mem hlt
      refine ⟨.inr rfl, _, _, rfl, .cons (.c (.id rfl)) .nil, ?_⟩
      have e : l.idxOf b = k := by
        have h2 : l[k] = b := hb.symm
        have : l = l.take k ++ b :: l.drop (k + 1) := by rw [← h2, ← drop_cons hlt, List.take_append_drop]
        rw [this, List.idxOf_append, if_neg hy]
        simp; omega
      simp [resV, X.v, hm, e]
    · have hlt : k < l.length := by assumption
      refine ⟨k + 1, ⟨by omega, ?_⟩, by omega, (.cons rfl rfl (.cons rfl rfl (.cons rfl rfl (.cons rfl rfl (.nil))))), rfl, rfl⟩
      rw [List.take_succ_eq_append_getElem hlt]
      simp only [List.mem_append, List.mem_singleton, not_or]
      exact ⟨hy, by first | exact hb | simpa using hb⟩
    · rw [List.take_of_length_le (by omega)] at hy
      refine ⟨.inr rfl, _, _, rfl, .cons (.c (.id rfl)) .nil, ?_⟩
      simp [resV, X.v, hy]
  refine Pu.of D Tryz.func77 rfl rfl rfl ?_
  repeat' (first
    | (refine WO.id ?_; first
      | refine stp1_ok D rfl ?_
      | refine WO.nil ?_
      | refine WO.g rfl rfl rfl ?_
      | refine WO.g0 rfl ?_
      | (refine WO.gs _ rfl rfl rfl ?_ ?_ <;> intro hb <;> simp only [hb] <;> try simp at hb))
    | (refine OpK.id ?_; first
      | refine OpK.of (OpOk.call rfl (h1) rfl rfl rfl) ?_
      | refine OpK.of (OpOk.lenS D rfl rfl rfl rfl) ?_
      | refine OpK.of (OpOk.lenM D rfl rfl rfl rfl) ?_
      | refine OpK.of (OpOk.lenL D rfl rfl rfl rfl) ?_
      | refine OpK.of (OpOk.lenA D rfl rfl rfl rfl rfl rfl) ?_
      | refine OpK.of (OpOk.lenE D rfl rfl rfl rfl) ?_
      | refine OpK.of (OpOk.inc rfl rfl rfl (by omega)) ?_
      | refine OpK.of (OpOk.add rfl rfl rfl (by omega)) ?_
      | refine OpK.of (OpOk.sub rfl rfl rfl (by omega)) ?_
      | refine OpK.of (OpOk.ixM D rfl rfl rfl rfl rfl rfl (by first | assumption | omega) (fun _ => rfl)) ?_)
    | (refine W.id ?_; first
      | refine W.regs ?_
      | refine W.dv0 mixed rfl (by decide +kernel) ?_
      | refine W.dv1 mixed rfl (by decide +kernel) ?_
      | refine W.dv2 mixed rfl (by decide +kernel) ?_
      | refine W.dm0 mixed rfl (by decide +kernel) (by repeat' (first | exact .nil | refine .box rfl ?_ | refine .arr (rs_low _ _ _) ?_ | refine .dead ?_ | fail)) ?_
      | refine W.dm1 mixed rfl (by decide +kernel) (by repeat' (first | exact .nil | refine .box rfl ?_ | refine .arr (rs_low _ _ _) ?_ | refine .dead ?_ | fail)) ?_
      | refine W.dm2 mixed rfl (by decide +kernel) (by repeat' (first | exact .nil | refine .box rfl ?_ | refine .arr (rs_low _ _ _) ?_ | refine .dead ?_ | fail)) ?_
      | refine W.drws mixed ?_
      | refine W.ret ?_
      | refine W.seq ?_
      | refine W.skip ?_
      | refine W.region ?_
      | refine W.exit ?_
      | refine W.block ?_
      | (refine W.cond rfl ?_ ?_ <;> intro hb <;> try simp at hb)
      | refine W.drawn mixed ?_)
    | (refine Then.id ?_; first
      | refine Then.rn ?_
      | refine Then.rr ?_
      | refine Then.rx ?_)
    | (refine InBlk.id ?_; first
      | refine InBlk.rn ?_
      | refine InBlk.rr ?_
      | refine InBlk.re ?_
      | refine InBlk.rx rfl ?_)
    | (refine WD.id ?_; first
      | refine WD.done rfl ?_
      | refine WD.t rfl ?_ rfl
      | refine WD.g rfl rfl rfl ?_
      | refine WD.u rfl rfl rfl ?_
      | (refine WD.gs _ rfl rfl rfl ?_ ?_ <;> intro hb <;> simp only [hb] <;> try simp at hb))
    | (refine OpD.id ?_; first
      | refine OpD.of (stpR_ok D rfl) ?_
      | refine OpD.of (OpOk.call rfl (h1) rfl rfl rfl) ?_
      | refine OpD.of (OpOk.lenS D rfl rfl rfl rfl) ?_
      | refine OpD.of (OpOk.lenM D rfl rfl rfl rfl) ?_
      | refine OpD.of (OpOk.lenL D rfl rfl rfl rfl) ?_
      | refine OpD.of (OpOk.lenA D rfl rfl rfl rfl rfl rfl) ?_
      | refine OpD.of (OpOk.lenE D rfl rfl rfl rfl) ?_
      | refine OpD.of (OpOk.inc rfl rfl rfl (by omega)) ?_
      | refine OpD.of (OpOk.add rfl rfl rfl (by omega)) ?_
      | refine OpD.of (OpOk.sub rfl rfl rfl (by omega)) ?_
      | refine OpD.of (OpOk.ixM D rfl rfl rfl rfl rfl rfl (by first | assumption | omega) (fun _ => rfl)) ?_)
    | (refine WE.id ?_; first
      | refine WE.done (by with_unfolding_all rfl) ?_
      | refine WE.step (by with_unfolding_all rfl) ?_)
    | (refine WI.id ?_; first
      | refine WI.r D rfl ?_
      | refine WI.g rfl rfl rfl ?_
      | refine WI.g0 rfl ?_
      | (refine WI.gs _ rfl rfl rfl ?_ ?_ <;> intro hb <;> simp only [hb] <;> try simp at hb))
    | (refine WL.id ?_; first
      | refine WL.cons ?_ ?_
      | exact WL.nil
      | exact WL.on (by with_unfolding_all rfl)
      | refine WL.oc (by with_unfolding_all rfl) ?_ ?_)
    | (refine WM.id ?_; first
      | refine .done rfl ?_
      | refine .t rfl ?_ rfl
      | refine WM.g rfl rfl rfl rfl ?_
      | refine .u rfl rfl rfl ?_
      | (refine WM.gs _ rfl rfl rfl ?_ ?_ <;> intro hb <;> simp only [hb] <;> try simp at hb))
    | (refine OpM.id ?_; first
      | refine OpM.v (stpR_ok D rfl) rfl ?_
      | refine OpM.b (stpR_ok D rfl) rfl (by repeat' (first | exact .nil | refine .box rfl ?_ | refine .arr (rs_low _ _ _) ?_ | refine .dead ?_ | fail)) ?_
      | refine OpM.v (OpOk.call rfl (h1) rfl rfl rfl) rfl ?_
      | refine OpM.b (OpOk.call rfl (h1) rfl rfl rfl) rfl (by repeat' (first | exact .nil | refine .box rfl ?_ | refine .arr (rs_low _ _ _) ?_ | refine .dead ?_ | fail)) ?_
      | refine OpM.v (OpOk.lenS D rfl rfl rfl rfl) rfl ?_
      | refine OpM.b (OpOk.lenS D rfl rfl rfl rfl) rfl (by repeat' (first | exact .nil | refine .box rfl ?_ | refine .arr (rs_low _ _ _) ?_ | refine .dead ?_ | fail)) ?_
      | refine OpM.v (OpOk.lenM D rfl rfl rfl rfl) rfl ?_
      | refine OpM.b (OpOk.lenM D rfl rfl rfl rfl) rfl (by repeat' (first | exact .nil | refine .box rfl ?_ | refine .arr (rs_low _ _ _) ?_ | refine .dead ?_ | fail)) ?_
      | refine OpM.v (OpOk.lenL D rfl rfl rfl rfl) rfl ?_
      | refine OpM.b (OpOk.lenL D rfl rfl rfl rfl) rfl (by repeat' (first | exact .nil | refine .box rfl ?_ | refine .arr (rs_low _ _ _) ?_ | refine .dead ?_ | fail)) ?_
      | refine OpM.v (OpOk.lenA D rfl rfl rfl rfl rfl rfl) rfl ?_
      | refine OpM.b (OpOk.lenA D rfl rfl rfl rfl rfl rfl) rfl (by repeat' (first | exact .nil | refine .box rfl ?_ | refine .arr (rs_low _ _ _) ?_ | refine .dead ?_ | fail)) ?_
      | refine OpM.v (OpOk.lenE D rfl rfl rfl rfl) rfl ?_
      | refine OpM.b (OpOk.lenE D rfl rfl rfl rfl) rfl (by repeat' (first | exact .nil | refine .box rfl ?_ | refine .arr (rs_low _ _ _) ?_ | refine .dead ?_ | fail)) ?_
      | refine OpM.v (OpOk.inc rfl rfl rfl (by omega)) rfl ?_
      | refine OpM.b (OpOk.inc rfl rfl rfl (by omega)) rfl (by repeat' (first | exact .nil | refine .box rfl ?_ | refine .arr (rs_low _ _ _) ?_ | refine .dead ?_ | fail)) ?_
      | refine OpM.v (OpOk.add rfl rfl rfl (by omega)) rfl ?_
      | refine OpM.b (OpOk.add rfl rfl rfl (by omega)) rfl (by repeat' (first | exact .nil | refine .box rfl ?_ | refine .arr (rs_low _ _ _) ?_ | refine .dead ?_ | fail)) ?_
      | refine OpM.v (OpOk.sub rfl rfl rfl (by omega)) rfl ?_
      | refine OpM.b (OpOk.sub rfl rfl rfl (by omega)) rfl (by repeat' (first | exact .nil | refine .box rfl ?_ | refine .arr (rs_low _ _ _) ?_ | refine .dead ?_ | fail)) ?_
      | refine OpM.v (OpOk.ixM D rfl rfl rfl rfl rfl rfl (by first | assumption | omega) (fun _ => rfl)) rfl ?_
      | refine OpM.b (OpOk.ixM D rfl rfl rfl rfl rfl rfl (by first | assumption | omega) (fun _ => rfl)) rfl (by repeat' (first | exact .nil | refine .box rfl ?_ | refine .arr (rs_low _ _ _) ?_ | refine .dead ?_ | fail)) ?_))
  all_goals refine ⟨.inr rfl, _, _, rfl, .cons (.c (.id rfl)) .nil, ?_⟩
  all_goals (simp only [resV, X.v]; congr 3; split <;> simp_all <;> omega)
theorem eqIl_ok (a b : List Int) (ha : a.length ≤ 1048576) : Pu Tryz.prog 78 [L eI a, L eI b] (B (decide (a = b))) := by
  refine Pu.of D Tryz.func78 rfl rfl rfl ?_
  repeat' (first
    | (refine WO.id ?_; first
      | refine stp1_ok D rfl ?_
      | refine WO.nil ?_
      | refine WO.g rfl rfl rfl ?_
      | refine WO.g0 rfl ?_
      | (refine WO.gs _ rfl rfl rfl ?_ ?_ <;> intro hb <;> simp only [hb] <;> try simp at hb))
    | (refine OpK.id ?_; first
      | refine OpK.of (OpOk.lenS D rfl rfl rfl rfl) ?_
      | refine OpK.of (OpOk.lenM D rfl rfl rfl rfl) ?_
      | refine OpK.of (OpOk.lenL D rfl rfl rfl rfl) ?_
      | refine OpK.of (OpOk.lenA D rfl rfl rfl rfl rfl rfl) ?_
      | refine OpK.of (OpOk.lenE D rfl rfl rfl rfl) ?_
      | refine OpK.of (OpOk.inc rfl rfl rfl (by omega)) ?_
      | refine OpK.of (OpOk.add rfl rfl rfl (by omega)) ?_
      | refine OpK.of (OpOk.sub rfl rfl rfl (by omega)) ?_
      | refine OpK.of (OpOk.ixM D rfl rfl rfl rfl rfl rfl (by first | assumption | omega) (fun _ => rfl)) ?_)
    | (refine W.id ?_; first
      | refine W.regs ?_
      | refine W.dv0 mixed rfl (by decide +kernel) ?_
      | refine W.dv1 mixed rfl (by decide +kernel) ?_
      | refine W.dv2 mixed rfl (by decide +kernel) ?_
      | refine W.dm0 mixed rfl (by decide +kernel) (by repeat' (first | exact .nil | refine .box rfl ?_ | refine .arr (rs_low _ _ _) ?_ | refine .dead ?_ | fail)) ?_
      | refine W.dm1 mixed rfl (by decide +kernel) (by repeat' (first | exact .nil | refine .box rfl ?_ | refine .arr (rs_low _ _ _) ?_ | refine .dead ?_ | fail)) ?_
      | refine W.dm2 mixed rfl (by decide +kernel) (by repeat' (first | exact .nil | refine .box rfl ?_ | refine .arr (rs_low _ _ _) ?_ | refine .dead ?_ | fail)) ?_
      | refine W.drws mixed ?_
      | refine W.ret ?_
      | refine W.seq ?_
      | refine W.skip ?_
      | refine W.region ?_
      | refine W.exit ?_
      | refine W.block ?_
      | (refine W.cond rfl ?_ ?_ <;> intro hb <;> try simp at hb)
      | refine W.drawn mixed ?_)
    | (refine Then.id ?_; first
      | refine Then.rn ?_
      | refine Then.rr ?_
      | refine Then.rx ?_)
    | (refine InBlk.id ?_; first
      | refine InBlk.rn ?_
      | refine InBlk.rr ?_
      | refine InBlk.re ?_
      | refine InBlk.rx rfl ?_)
    | (refine WD.id ?_; first
      | refine WD.done rfl ?_
      | refine WD.t rfl ?_ rfl
      | refine WD.g rfl rfl rfl ?_
      | refine WD.u rfl rfl rfl ?_
      | (refine WD.gs _ rfl rfl rfl ?_ ?_ <;> intro hb <;> simp only [hb] <;> try simp at hb))
    | (refine OpD.id ?_; first
      | refine OpD.of (stpR_ok D rfl) ?_
      | refine OpD.of (OpOk.lenS D rfl rfl rfl rfl) ?_
      | refine OpD.of (OpOk.lenM D rfl rfl rfl rfl) ?_
      | refine OpD.of (OpOk.lenL D rfl rfl rfl rfl) ?_
      | refine OpD.of (OpOk.lenA D rfl rfl rfl rfl rfl rfl) ?_
      | refine OpD.of (OpOk.lenE D rfl rfl rfl rfl) ?_
      | refine OpD.of (OpOk.inc rfl rfl rfl (by omega)) ?_
      | refine OpD.of (OpOk.add rfl rfl rfl (by omega)) ?_
      | refine OpD.of (OpOk.sub rfl rfl rfl (by omega)) ?_
      | refine OpD.of (OpOk.ixM D rfl rfl rfl rfl rfl rfl (by first | assumption | omega) (fun _ => rfl)) ?_)
    | (refine WE.id ?_; first
      | refine WE.done (by with_unfolding_all rfl) ?_
      | refine WE.step (by with_unfolding_all rfl) ?_)
    | (refine WI.id ?_; first
      | refine WI.r D rfl ?_
      | refine WI.g rfl rfl rfl ?_
      | refine WI.g0 rfl ?_
      | (refine WI.gs _ rfl rfl rfl ?_ ?_ <;> intro hb <;> simp only [hb] <;> try simp at hb))
    | (refine WL.id ?_; first
      | refine WL.cons ?_ ?_
      | exact WL.nil
      | exact WL.on (by with_unfolding_all rfl)
      | refine WL.oc (by with_unfolding_all rfl) ?_ ?_)
    | (refine WM.id ?_; first
      | refine .done rfl ?_
      | refine .t rfl ?_ rfl
      | refine WM.g rfl rfl rfl rfl ?_
      | refine .u rfl rfl rfl ?_
      | (refine WM.gs _ rfl rfl rfl ?_ ?_ <;> intro hb <;> simp only [hb] <;> try simp at hb))
    | (refine OpM.id ?_; first
      | refine OpM.v (stpR_ok D rfl) rfl ?_
      | refine OpM.b (stpR_ok D rfl) rfl (by repeat' (first | exact .nil | refine .box rfl ?_ | refine .arr (rs_low _ _ _) ?_ | refine .dead ?_ | fail)) ?_
      | refine OpM.v (OpOk.lenS D rfl rfl rfl rfl) rfl ?_
      | refine OpM.b (OpOk.lenS D rfl rfl rfl rfl) rfl (by repeat' (first | exact .nil | refine .box rfl ?_ | refine .arr (rs_low _ _ _) ?_ | refine .dead ?_ | fail)) ?_
      | refine OpM.v (OpOk.lenM D rfl rfl rfl rfl) rfl ?_
      | refine OpM.b (OpOk.lenM D rfl rfl rfl rfl) rfl (by repeat' (first | exact .nil | refine .box rfl ?_ | refine .arr (rs_low _ _ _) ?_ | refine .dead ?_ | fail)) ?_
      | refine OpM.v (OpOk.lenL D rfl rfl rfl rfl) rfl ?_
      | refine OpM.b (OpOk.lenL D rfl rfl rfl rfl) rfl (by repeat' (first | exact .nil | refine .box rfl ?_ | refine .arr (rs_low _ _ _) ?_ | refine .dead ?_ | fail)) ?_
      | refine OpM.v (OpOk.lenA D rfl rfl rfl rfl rfl rfl) rfl ?_
      | refine OpM.b (OpOk.lenA D rfl rfl rfl rfl rfl rfl) rfl (by repeat' (first | exact .nil | refine .box rfl ?_ | refine .arr (rs_low _ _ _) ?_ | refine .dead ?_ | fail)) ?_
      | refine OpM.v (OpOk.lenE D rfl rfl rfl rfl) rfl ?_
      | refine OpM.b (OpOk.lenE D rfl rfl rfl rfl) rfl (by repeat' (first | exact .nil | refine .box rfl ?_ | refine .arr (rs_low _ _ _) ?_ | refine .dead ?_ | fail)) ?_
      | refine OpM.v (OpOk.inc rfl rfl rfl (by omega)) rfl ?_
      | refine OpM.b (OpOk.inc rfl rfl rfl (by omega)) rfl (by repeat' (first | exact .nil | refine .box rfl ?_ | refine .arr (rs_low _ _ _) ?_ | refine .dead ?_ | fail)) ?_
      | refine OpM.v (OpOk.add rfl rfl rfl (by omega)) rfl ?_
      | refine OpM.b (OpOk.add rfl rfl rfl (by omega)) rfl (by repeat' (first | exact .nil | refine .box rfl ?_ | refine .arr (rs_low _ _ _) ?_ | refine .dead ?_ | fail)) ?_
      | refine OpM.v (OpOk.sub rfl rfl rfl (by omega)) rfl ?_
      | refine OpM.b (OpOk.sub rfl rfl rfl (by omega)) rfl (by repeat' (first | exact .nil | refine .box rfl ?_ | refine .arr (rs_low _ _ _) ?_ | refine .dead ?_ | fail)) ?_
      | refine OpM.v (OpOk.ixM D rfl rfl rfl rfl rfl rfl (by first | assumption | omega) (fun _ => rfl)) rfl ?_
      | refine OpM.b (OpOk.ixM D rfl rfl rfl rfl rfl rfl (by first | assumption | omega) (fun _ => rfl)) rfl (by repeat' (first | exact .nil | refine .box rfl ?_ | refine .arr (rs_low _ _ _) ?_ | refine .dead ?_ | fail)) ?_))
  · refine ⟨.inr rfl, _, _, rfl, .cons (.c (.id rfl)) .nil, ?_⟩
    have : ¬ a = b := by rintro rfl; simp at hb
    simp [resV, X.v, this]
  · have hlr : a.length = b.length := by omega
    refine W.loop (σ := Nat) (fun k => [(13, I k), (12, I a.length), (1, L eI b), (0, L eI a)]) (fun _ => []) (fun k => k ≤ a.length ∧ (a = b ↔ a.drop k = b.drop k)) (fun k => a.length - k) 0 (fun _ _ => rfl) 0 ⟨by simp, by simp⟩ rfl (.cons rfl rfl (.cons rfl rfl (.cons rfl rfl (.cons rfl rfl (.nil))))) ?_
    rintro k ⟨hk1, hy⟩
    repeat' (first
    | (refine WO.id ?_; first
      | refine stp1_ok D rfl ?_
      | refine WO.nil ?_
      | refine WO.g rfl rfl rfl ?_
      | refine WO.g0 rfl ?_
      | (refine WO.gs _ rfl rfl rfl ?_ ?_ <;> intro hb <;> simp only [hb] <;> try simp at hb))
    | (refine OpK.id ?_; first
      | refine OpK.of (OpOk.lenS D rfl rfl rfl rfl) ?_
      | refine OpK.of (OpOk.lenM D rfl rfl rfl rfl) ?_
      | refine OpK.of (OpOk.lenL D rfl rfl rfl rfl) ?_
      | refine OpK.of (OpOk.lenA D rfl rfl rfl rfl rfl rfl) ?_
      | refine OpK.of (OpOk.lenE D rfl rfl rfl rfl) ?_
      | refine OpK.of (OpOk.inc rfl rfl rfl (by omega)) ?_
      | refine OpK.of (OpOk.add rfl rfl rfl (by omega)) ?_
      | refine OpK.of (OpOk.sub rfl rfl rfl (by omega)) ?_
      | refine OpK.of (OpOk.ixM D rfl rfl rfl rfl rfl rfl (by first | assumption | omega) (fun _ => rfl)) ?_)
    | (refine W.id ?_; first
      | refine W.regs ?_
      | refine W.dv0 mixed rfl (by decide +kernel) ?_
      | refine W.dv1 mixed rfl (by decide +kernel) ?_
      | refine W.dv2 mixed rfl (by decide +kernel) ?_
      | refine W.dm0 mixed rfl (by decide +kernel) (by repeat' (first | exact .nil | refine .box rfl ?_ | refine .arr (rs_low _ _ _) ?_ | refine .dead ?_ | fail)) ?_
      | refine W.dm1 mixed rfl (by decide +kernel) (by repeat' (first | exact .nil | refine .box rfl ?_ | refine .arr (rs_low _ _ _) ?_ | refine .dead ?_ | fail)) ?_
      | refine W.dm2 mixed rfl (by decide +kernel) (by repeat' (first | exact .nil | refine .box rfl ?_ | refine .arr (rs_low _ _ _) ?_ | refine .dead ?_ | fail)) ?_
      | refine W.drws mixed ?_
      | refine W.ret ?_
      | refine W.seq ?_
      | refine W.skip ?_
      | refine W.region ?_
      | refine W.exit ?_
      | refine W.block ?_
      | (refine W.cond rfl ?_ ?_ <;> intro hb <;> try simp at hb)
      | refine W.drawn mixed ?_)
    | (refine Then.id ?_; first
      | refine Then.rn ?_
      | refine Then.rr ?_
      | refine Then.rx ?_)
    | (refine InBlk.id ?_; first
      | refine InBlk.rn ?_
      | refine InBlk.rr ?_
      | refine InBlk.re ?_
      | refine InBlk.rx rfl ?_)
    | (refine WD.id ?_; first
      | refine WD.done rfl ?_
      | refine WD.t rfl ?_ rfl
      | refine WD.g rfl rfl rfl ?_
      | refine WD.u rfl rfl rfl ?_
      | (refine WD.gs _ rfl rfl rfl ?_ ?_ <;> intro hb <;> simp only [hb] <;> try simp at hb))
    | (refine OpD.id ?_; first
      | refine OpD.of (stpR_ok D rfl) ?_
      | refine OpD.of (OpOk.lenS D rfl rfl rfl rfl) ?_
      | refine OpD.of (OpOk.lenM D rfl rfl rfl rfl) ?_
      | refine OpD.of (OpOk.lenL D rfl rfl rfl rfl) ?_
      | refine OpD.of (OpOk.lenA D rfl rfl rfl rfl rfl rfl) ?_
      | refine OpD.of (OpOk.lenE D rfl rfl rfl rfl) ?_
      | refine OpD.of (OpOk.inc rfl rfl rfl (by omega)) ?_
      | refine OpD.of (OpOk.add rfl rfl rfl (by omega)) ?_
      | refine OpD.of (OpOk.sub rfl rfl rfl (by omega)) ?_
      | refine OpD.of (OpOk.ixM D rfl rfl rfl rfl rfl rfl (by first | assumption | omega) (fun _ => rfl)) ?_)
    | (refine WE.id ?_; first
      | refine WE.done (by with_unfolding_all rfl) ?_
      | refine WE.step (by with_unfolding_all rfl) ?_)
    | (refine WI.id ?_; first
      | refine WI.r D rfl ?_
      | refine WI.g rfl rfl rfl ?_
      | refine WI.g0 rfl ?_
      | (refine WI.gs _ rfl rfl rfl ?_ ?_ <;> intro hb <;> simp only [hb] <;> try simp at hb))
    | (refine WL.id ?_; first
      | refine WL.cons ?_ ?_
      | exact WL.nil
      | exact WL.on (by with_unfolding_all rfl)
      | refine WL.oc (by with_unfolding_all rfl) ?_ ?_)
    | (refine WM.id ?_; first
      | refine .done rfl ?_
      | refine .t rfl ?_ rfl
      | refine WM.g rfl rfl rfl rfl ?_
      | refine .u rfl rfl rfl ?_
      | (refine WM.gs _ rfl rfl rfl ?_ ?_ <;> intro hb <;> simp only [hb] <;> try simp at hb))
    | (refine OpM.id ?_; first
      | refine OpM.v (stpR_ok D rfl) rfl ?_
      | refine OpM.b (stpR_ok D rfl) rfl (by repeat' (first | exact .nil | refine .box rfl ?_ | refine .arr (rs_low _ _ _) ?_ | refine .dead ?_ | fail)) ?_
      | refine OpM.v (OpOk.lenS D rfl rfl rfl rfl) rfl ?_
      | refine OpM.b (OpOk.lenS D rfl rfl rfl rfl) rfl (by repeat' (first | exact .nil | refine .box rfl ?_ | refine .arr (rs_low _ _ _) ?_ | refine .dead ?_ | fail)) ?_
      | refine OpM.v (OpOk.lenM D rfl rfl rfl rfl) rfl ?_
      | refine OpM.b (OpOk.lenM D rfl rfl rfl rfl) rfl (by repeat' (first | exact .nil | refine .box rfl ?_ | refine .arr (rs_low _ _ _) ?_ | refine .dead ?_ | fail)) ?_
      | refine OpM.v (OpOk.lenL D rfl rfl rfl rfl) rfl ?_
      | refine OpM.b (OpOk.lenL D rfl rfl rfl rfl) rfl (by repeat' (first | exact .nil | refine .box rfl ?_ | refine .arr (rs_low _ _ _) ?_ | refine .dead ?_ | fail)) ?_
      | refine OpM.v (OpOk.lenA D rfl rfl rfl rfl rfl rfl) rfl ?_
      | refine OpM.b (OpOk.lenA D rfl rfl rfl rfl rfl rfl) rfl (by repeat' (first | exact .nil | refine .box rfl ?_ | refine .arr (rs_low _ _ _) ?_ | refine .dead ?_ | fail)) ?_
      | refine OpM.v (OpOk.lenE D rfl rfl rfl rfl) rfl ?_
      | refine OpM.b (OpOk.lenE D rfl rfl rfl rfl) rfl (by repeat' (first | exact .nil | refine .box rfl ?_ | refine .arr (rs_low _ _ _) ?_ | refine .dead ?_ | fail)) ?_
      | refine OpM.v (OpOk.inc rfl rfl rfl (by omega)) rfl ?_
      | refine OpM.b (OpOk.inc rfl rfl rfl (by omega)) rfl (by repeat' (first | exact .nil | refine .box rfl ?_ | refine .arr (rs_low _ _ _) ?_ | refine .dead ?_ | fail)) ?_
      | refine OpM.v (OpOk.add rfl rfl rfl (by omega)) rfl ?_
      | refine OpM.b (OpOk.add rfl rfl rfl (by omega)) rfl (by repeat' (first | exact .nil | refine .box rfl ?_ | refine .arr (rs_low _ _ _) ?_ | refine .dead ?_ | fail)) ?_
      | refine OpM.v (OpOk.sub rfl rfl rfl (by omega)) rfl ?_
      | refine OpM.b (OpOk.sub rfl rfl rfl (by omega)) rfl (by repeat' (first | exact .nil | refine .box rfl ?_ | refine .arr (rs_low _ _ _) ?_ | refine .dead ?_ | fail)) ?_
      | refine OpM.v (OpOk.ixM D rfl rfl rfl rfl rfl rfl (by first | assumption | omega) (fun _ => rfl)) rfl ?_
      | refine OpM.b (OpOk.ixM D rfl rfl rfl rfl rfl rfl (by first | assumption | omega) (fun _ => rfl)) rfl (by repeat' (first | exact .nil | refine .box rfl ?_ | refine .arr (rs_low _ _ _) ?_ | refine .dead ?_ | fail)) ?_))
    · rw [drop_eq (by omega) (by omega)] at hy
      refine ⟨.inr rfl, _, _, rfl, .cons (.c (.id rfl)) .nil, ?_⟩
      simp [resV, X.v, hy, hb]
    · rw [drop_eq (by omega) (by omega)] at hy
      exact ⟨k + 1, ⟨by omega, by simpa [hb] using hy⟩, by omega, (.cons rfl rfl (.cons rfl rfl (.cons rfl rfl (.cons rfl rfl (.nil))))), rfl, rfl⟩
    · rw [drop_nil (by omega), drop_nil (by omega)] at hy
      refine ⟨.inr rfl, _, _, rfl, .cons (.c (.id rfl)) .nil, ?_⟩
      have hy := hy.2 rfl
      simp [resV, X.v, hy]
theorem same_ok (a b : List Int) (ha : a.length ≤ 1048576) : Pu Tryz.prog 75 [L eI a, L eI b] (B (decide (a = b))) := by
  refine Pu.of D Tryz.func75 rfl rfl rfl ?_
  repeat' (first
    | (refine WO.id ?_; first
      | refine stp1_ok D rfl ?_
      | refine WO.nil ?_
      | refine WO.g rfl rfl rfl ?_
      | refine WO.g0 rfl ?_
      | (refine WO.gs _ rfl rfl rfl ?_ ?_ <;> intro hb <;> simp only [hb] <;> try simp at hb))
    | (refine OpK.id ?_; first
      | refine OpK.of (OpOk.lenS D rfl rfl rfl rfl) ?_
      | refine OpK.of (OpOk.lenM D rfl rfl rfl rfl) ?_
      | refine OpK.of (OpOk.lenL D rfl rfl rfl rfl) ?_
      | refine OpK.of (OpOk.lenA D rfl rfl rfl rfl rfl rfl) ?_
      | refine OpK.of (OpOk.lenE D rfl rfl rfl rfl) ?_
      | refine OpK.of (OpOk.inc rfl rfl rfl (by omega)) ?_
      | refine OpK.of (OpOk.add rfl rfl rfl (by omega)) ?_
      | refine OpK.of (OpOk.sub rfl rfl rfl (by omega)) ?_
      | refine OpK.of (OpOk.ixM D rfl rfl rfl rfl rfl rfl (by first | assumption | omega) (fun _ => rfl)) ?_)
    | (refine W.id ?_; first
      | refine W.regs ?_
      | refine W.dv0 mixed rfl (by decide +kernel) ?_
      | refine W.dv1 mixed rfl (by decide +kernel) ?_
      | refine W.dv2 mixed rfl (by decide +kernel) ?_
      | refine W.dm0 mixed rfl (by decide +kernel) (by repeat' (first | exact .nil | refine .box rfl ?_ | refine .arr (rs_low _ _ _) ?_ | refine .dead ?_ | fail)) ?_
      | refine W.dm1 mixed rfl (by decide +kernel) (by repeat' (first | exact .nil | refine .box rfl ?_ | refine .arr (rs_low _ _ _) ?_ | refine .dead ?_ | fail)) ?_
      | refine W.dm2 mixed rfl (by decide +kernel) (by repeat' (first | exact .nil | refine .box rfl ?_ | refine .arr (rs_low _ _ _) ?_ | refine .dead ?_ | fail)) ?_
      | refine W.drws mixed ?_
      | refine W.ret ?_
      | refine W.seq ?_
      | refine W.skip ?_
      | refine W.region ?_
      | refine W.exit ?_
      | refine W.block ?_
      | (refine W.cond rfl ?_ ?_ <;> intro hb <;> try simp at hb)
      | refine W.drawn mixed ?_)
    | (refine Then.id ?_; first
      | refine Then.rn ?_
      | refine Then.rr ?_
      | refine Then.rx ?_)
    | (refine InBlk.id ?_; first
      | refine InBlk.rn ?_
      | refine InBlk.rr ?_
      | refine InBlk.re ?_
      | refine InBlk.rx rfl ?_)
    | (refine WD.id ?_; first
      | refine WD.done rfl ?_
      | refine WD.t rfl ?_ rfl
      | refine WD.g rfl rfl rfl ?_
      | refine WD.u rfl rfl rfl ?_
      | (refine WD.gs _ rfl rfl rfl ?_ ?_ <;> intro hb <;> simp only [hb] <;> try simp at hb))
    | (refine OpD.id ?_; first
      | refine OpD.of (stpR_ok D rfl) ?_
      | refine OpD.of (OpOk.lenS D rfl rfl rfl rfl) ?_
      | refine OpD.of (OpOk.lenM D rfl rfl rfl rfl) ?_
      | refine OpD.of (OpOk.lenL D rfl rfl rfl rfl) ?_
      | refine OpD.of (OpOk.lenA D rfl rfl rfl rfl rfl rfl) ?_
      | refine OpD.of (OpOk.lenE D rfl rfl rfl rfl) ?_
      | refine OpD.of (OpOk.inc rfl rfl rfl (by omega)) ?_
      | refine OpD.of (OpOk.add rfl rfl rfl (by omega)) ?_
      | refine OpD.of (OpOk.sub rfl rfl rfl (by omega)) ?_
      | refine OpD.of (OpOk.ixM D rfl rfl rfl rfl rfl rfl (by first | assumption | omega) (fun _ => rfl)) ?_)
    | (refine WE.id ?_; first
      | refine WE.done (by with_unfolding_all rfl) ?_
      | refine WE.step (by with_unfolding_all rfl) ?_)
    | (refine WI.id ?_; first
      | refine WI.r D rfl ?_
      | refine WI.g rfl rfl rfl ?_
      | refine WI.g0 rfl ?_
      | (refine WI.gs _ rfl rfl rfl ?_ ?_ <;> intro hb <;> simp only [hb] <;> try simp at hb))
    | (refine WL.id ?_; first
      | refine WL.cons ?_ ?_
      | exact WL.nil
      | exact WL.on (by with_unfolding_all rfl)
      | refine WL.oc (by with_unfolding_all rfl) ?_ ?_)
    | (refine WM.id ?_; first
      | refine .done rfl ?_
      | refine .t rfl ?_ rfl
      | refine WM.g rfl rfl rfl rfl ?_
      | refine .u rfl rfl rfl ?_
      | (refine WM.gs _ rfl rfl rfl ?_ ?_ <;> intro hb <;> simp only [hb] <;> try simp at hb))
    | (refine OpM.id ?_; first
      | refine OpM.v (stpR_ok D rfl) rfl ?_
      | refine OpM.b (stpR_ok D rfl) rfl (by repeat' (first | exact .nil | refine .box rfl ?_ | refine .arr (rs_low _ _ _) ?_ | refine .dead ?_ | fail)) ?_
      | refine OpM.v (OpOk.lenS D rfl rfl rfl rfl) rfl ?_
      | refine OpM.b (OpOk.lenS D rfl rfl rfl rfl) rfl (by repeat' (first | exact .nil | refine .box rfl ?_ | refine .arr (rs_low _ _ _) ?_ | refine .dead ?_ | fail)) ?_
      | refine OpM.v (OpOk.lenM D rfl rfl rfl rfl) rfl ?_
      | refine OpM.b (OpOk.lenM D rfl rfl rfl rfl) rfl (by repeat' (first | exact .nil | refine .box rfl ?_ | refine .arr (rs_low _ _ _) ?_ | refine .dead ?_ | fail)) ?_
      | refine OpM.v (OpOk.lenL D rfl rfl rfl rfl) rfl ?_
      | refine OpM.b (OpOk.lenL D rfl rfl rfl rfl) rfl (by repeat' (first | exact .nil | refine .box rfl ?_ | refine .arr (rs_low _ _ _) ?_ | refine .dead ?_ | fail)) ?_
      | refine OpM.v (OpOk.lenA D rfl rfl rfl rfl rfl rfl) rfl ?_
      | refine OpM.b (OpOk.lenA D rfl rfl rfl rfl rfl rfl) rfl (by repeat' (first | exact .nil | refine .box rfl ?_ | refine .arr (rs_low _ _ _) ?_ | refine .dead ?_ | fail)) ?_
      | refine OpM.v (OpOk.lenE D rfl rfl rfl rfl) rfl ?_
      | refine OpM.b (OpOk.lenE D rfl rfl rfl rfl) rfl (by repeat' (first | exact .nil | refine .box rfl ?_ | refine .arr (rs_low _ _ _) ?_ | refine .dead ?_ | fail)) ?_
      | refine OpM.v (OpOk.inc rfl rfl rfl (by omega)) rfl ?_
      | refine OpM.b (OpOk.inc rfl rfl rfl (by omega)) rfl (by repeat' (first | exact .nil | refine .box rfl ?_ | refine .arr (rs_low _ _ _) ?_ | refine .dead ?_ | fail)) ?_
      | refine OpM.v (OpOk.add rfl rfl rfl (by omega)) rfl ?_
      | refine OpM.b (OpOk.add rfl rfl rfl (by omega)) rfl (by repeat' (first | exact .nil | refine .box rfl ?_ | refine .arr (rs_low _ _ _) ?_ | refine .dead ?_ | fail)) ?_
      | refine OpM.v (OpOk.sub rfl rfl rfl (by omega)) rfl ?_
      | refine OpM.b (OpOk.sub rfl rfl rfl (by omega)) rfl (by repeat' (first | exact .nil | refine .box rfl ?_ | refine .arr (rs_low _ _ _) ?_ | refine .dead ?_ | fail)) ?_
      | refine OpM.v (OpOk.ixM D rfl rfl rfl rfl rfl rfl (by first | assumption | omega) (fun _ => rfl)) rfl ?_
      | refine OpM.b (OpOk.ixM D rfl rfl rfl rfl rfl rfl (by first | assumption | omega) (fun _ => rfl)) rfl (by repeat' (first | exact .nil | refine .box rfl ?_ | refine .arr (rs_low _ _ _) ?_ | refine .dead ?_ | fail)) ?_))
  · refine ⟨.inr rfl, _, _, rfl, .cons (.c (.id rfl)) .nil, ?_⟩
    have : ¬ a = b := by rintro rfl; simp at hb
    simp [resV, X.v, this]
  · have hlr : a.length = b.length := by omega
    refine W.loop (σ := Nat) (fun k => [(5, I k), (1, L eI b), (0, L eI a)]) (fun _ => []) (fun k => k ≤ a.length ∧ (a = b ↔ a.drop k = b.drop k)) (fun k => a.length - k) 0 (fun _ _ => rfl) 0 ⟨by simp, by simp⟩ rfl (.cons rfl rfl (.cons rfl rfl (.cons rfl rfl (.nil)))) ?_
    rintro k ⟨hk1, hy⟩
    repeat' (first
    | (refine WO.id ?_; first
      | refine stp1_ok D rfl ?_
      | refine WO.nil ?_
      | refine WO.g rfl rfl rfl ?_
      | refine WO.g0 rfl ?_
      | (refine WO.gs _ rfl rfl rfl ?_ ?_ <;> intro hb <;> simp only [hb] <;> try simp at hb))
    | (refine OpK.id ?_; first
      | refine OpK.of (OpOk.lenS D rfl rfl rfl rfl) ?_
      | refine OpK.of (OpOk.lenM D rfl rfl rfl rfl) ?_
      | refine OpK.of (OpOk.lenL D rfl rfl rfl rfl) ?_
      | refine OpK.of (OpOk.lenA D rfl rfl rfl rfl rfl rfl) ?_
      | refine OpK.of (OpOk.lenE D rfl rfl rfl rfl) ?_
      | refine OpK.of (OpOk.inc rfl rfl rfl (by omega)) ?_
      | refine OpK.of (OpOk.add rfl rfl rfl (by omega)) ?_
      | refine OpK.of (OpOk.sub rfl rfl rfl (by omega)) ?_
      | refine OpK.of (OpOk.ixM D rfl rfl rfl rfl rfl rfl (by first | assumption | omega) (fun _ => rfl)) ?_)
    | (refine W.id ?_; first
      | refine W.regs ?_
      | refine W.dv0 mixed rfl (by decide +kernel) ?_
      | refine W.dv1 mixed rfl (by decide +kernel) ?_
      | refine W.dv2 mixed rfl (by decide +kernel) ?_
      | refine W.dm0 mixed rfl (by decide +kernel) (by repeat' (first | exact .nil | refine .box rfl ?_ | refine .arr (rs_low _ _ _) ?_ | refine .dead ?_ | fail)) ?_
      | refine W.dm1 mixed rfl (by decide +kernel) (by repeat' (first | exact .nil | refine .box rfl ?_ | refine .arr (rs_low _ _ _) ?_ | refine .dead ?_ | fail)) ?_
      | refine W.dm2 mixed rfl (by decide +kernel) (by repeat' (first | exact .nil | refine .box rfl ?_ | refine .arr (rs_low _ _ _) ?_ | refine .dead ?_ | fail)) ?_
      | refine W.drws mixed ?_
      | refine W.ret ?_
      | refine W.seq ?_
      | refine W.skip ?_
      | refine W.region ?_
      | refine W.exit ?_
      | refine W.block ?_
      | (refine W.cond rfl ?_ ?_ <;> intro hb <;> try simp at hb)
      | refine W.drawn mixed ?_)
    | (refine Then.id ?_; first
      | refine Then.rn ?_
      | refine Then.rr ?_
      | refine Then.rx ?_)
    | (refine InBlk.id ?_; first
      | refine InBlk.rn ?_
      | refine InBlk.rr ?_
      | refine InBlk.re ?_
      | refine InBlk.rx rfl ?_)
    | (refine WD.id ?_; first
      | refine WD.done rfl ?_
      | refine WD.t rfl ?_ rfl
      | refine WD.g rfl rfl rfl ?_
      | refine WD.u rfl rfl rfl ?_
      | (refine WD.gs _ rfl rfl rfl ?_ ?_ <;> intro hb <;> simp only [hb] <;> try simp at hb))
    | (refine OpD.id ?_; first
      | refine OpD.of (stpR_ok D rfl) ?_
      | refine OpD.of (OpOk.lenS D rfl rfl rfl rfl) ?_
      | refine OpD.of (OpOk.lenM D rfl rfl rfl rfl) ?_
      | refine OpD.of (OpOk.lenL D rfl rfl rfl rfl) ?_
      | refine OpD.of (OpOk.lenA D rfl rfl rfl rfl rfl rfl) ?_
      | refine OpD.of (OpOk.lenE D rfl rfl rfl rfl) ?_
      | refine OpD.of (OpOk.inc rfl rfl rfl (by omega)) ?_
      | refine OpD.of (OpOk.add rfl rfl rfl (by omega)) ?_
      | refine OpD.of (OpOk.sub rfl rfl rfl (by omega)) ?_
      | refine OpD.of (OpOk.ixM D rfl rfl rfl rfl rfl rfl (by first | assumption | omega) (fun _ => rfl)) ?_)
    | (refine WE.id ?_; first
      | refine WE.done (by with_unfolding_all rfl) ?_
      | refine WE.step (by with_unfolding_all rfl) ?_)
    | (refine WI.id ?_; first
      | refine WI.r D rfl ?_
      | refine WI.g rfl rfl rfl ?_
      | refine WI.g0 rfl ?_
      | (refine WI.gs _ rfl rfl rfl ?_ ?_ <;> intro hb <;> simp only [hb] <;> try simp at hb))
    | (refine WL.id ?_; first
      | refine WL.cons ?_ ?_
      | exact WL.nil
      | exact WL.on (by with_unfolding_all rfl)
      | refine WL.oc (by with_unfolding_all rfl) ?_ ?_)
    | (refine WM.id ?_; first
      | refine .done rfl ?_
      | refine .t rfl ?_ rfl
      | refine WM.g rfl rfl rfl rfl ?_
      | refine .u rfl rfl rfl ?_
      | (refine WM.gs _ rfl rfl rfl ?_ ?_ <;> intro hb <;> simp only [hb] <;> try simp at hb))
    | (refine OpM.id ?_; first
      | refine OpM.v (stpR_ok D rfl) rfl ?_
      | refine OpM.b (stpR_ok D rfl) rfl (by repeat' (first | exact .nil | refine .box rfl ?_ | refine .arr (rs_low _ _ _) ?_ | refine .dead ?_ | fail)) ?_
      | refine OpM.v (OpOk.lenS D rfl rfl rfl rfl) rfl ?_
      | refine OpM.b (OpOk.lenS D rfl rfl rfl rfl) rfl (by repeat' (first | exact .nil | refine .box rfl ?_ | refine .arr (rs_low _ _ _) ?_ | refine .dead ?_ | fail)) ?_
      | refine OpM.v (OpOk.lenM D rfl rfl rfl rfl) rfl ?_
      | refine OpM.b (OpOk.lenM D rfl rfl rfl rfl) rfl (by repeat' (first | exact .nil | refine .box rfl ?_ | refine .arr (rs_low _ _ _) ?_ | refine .dead ?_ | fail)) ?_
      | refine OpM.v (OpOk.lenL D rfl rfl rfl rfl) rfl ?_
      | refine OpM.b (OpOk.lenL D rfl rfl rfl rfl) rfl (by repeat' (first | exact .nil | refine .box rfl ?_ | refine .arr (rs_low _ _ _) ?_ | refine .dead ?_ | fail)) ?_
      | refine OpM.v (OpOk.lenA D rfl rfl rfl rfl rfl rfl) rfl ?_
      | refine OpM.b (OpOk.lenA D rfl rfl rfl rfl rfl rfl) rfl (by repeat' (first | exact .nil | refine .box rfl ?_ | refine .arr (rs_low _ _ _) ?_ | refine .dead ?_ | fail)) ?_
      | refine OpM.v (OpOk.lenE D rfl rfl rfl rfl) rfl ?_
      | refine OpM.b (OpOk.lenE D rfl rfl rfl rfl) rfl (by repeat' (first | exact .nil | refine .box rfl ?_ | refine .arr (rs_low _ _ _) ?_ | refine .dead ?_ | fail)) ?_
      | refine OpM.v (OpOk.inc rfl rfl rfl (by omega)) rfl ?_
      | refine OpM.b (OpOk.inc rfl rfl rfl (by omega)) rfl (by repeat' (first | exact .nil | refine .box rfl ?_ | refine .arr (rs_low _ _ _) ?_ | refine .dead ?_ | fail)) ?_
      | refine OpM.v (OpOk.add rfl rfl rfl (by omega)) rfl ?_
      | refine OpM.b (OpOk.add rfl rfl rfl (by omega)) rfl (by repeat' (first | exact .nil | refine .box rfl ?_ | refine .arr (rs_low _ _ _) ?_ | refine .dead ?_ | fail)) ?_
      | refine OpM.v (OpOk.sub rfl rfl rfl (by omega)) rfl ?_
      | refine OpM.b (OpOk.sub rfl rfl rfl (by omega)) rfl (by repeat' (first | exact .nil | refine .box rfl ?_ | refine .arr (rs_low _ _ _) ?_ | refine .dead ?_ | fail)) ?_
      | refine OpM.v (OpOk.ixM D rfl rfl rfl rfl rfl rfl (by first | assumption | omega) (fun _ => rfl)) rfl ?_
      | refine OpM.b (OpOk.ixM D rfl rfl rfl rfl rfl rfl (by first | assumption | omega) (fun _ => rfl)) rfl (by repeat' (first | exact .nil | refine .box rfl ?_ | refine .arr (rs_low _ _ _) ?_ | refine .dead ?_ | fail)) ?_))
    · rw [drop_eq (by omega) (by omega)] at hy
      refine ⟨.inr rfl, _, _, rfl, .cons (.c (.id rfl)) .nil, ?_⟩
      simp [resV, X.v, hy, hb]
    · rw [drop_eq (by omega) (by omega)] at hy
      exact ⟨k + 1, ⟨by omega, by simpa [hb] using hy⟩, by omega, (.cons rfl rfl (.cons rfl rfl (.cons rfl rfl (.nil)))), rfl, rfl⟩
    · rw [drop_nil (by omega), drop_nil (by omega)] at hy
      refine ⟨.inr rfl, _, _, rfl, .cons (.c (.id rfl)) .nil, ?_⟩
      have hy := hy.2 rfl
      simp [resV, X.v, hy]
def pre (a b : List Ent) : Bool := decide (b.length ≤ a.length) && decide (a.take b.length = b)
theorem pre_spec (a b : List Ent) (ha : a.length ≤ 1048576) (hb : b.length ≤ 1048576) : Pu Tryz.prog 76 [L Ent.e a, L Ent.e b] (B (pre a b)) := by
  refine Pu.of D Tryz.func76 rfl rfl rfl ?_
  repeat' (first
    | (refine WO.id ?_; first
      | refine stp1_ok D rfl ?_
      | refine WO.nil ?_
      | refine WO.g rfl rfl rfl ?_
      | refine WO.g0 rfl ?_
      | (refine WO.gs _ rfl rfl rfl ?_ ?_ <;> intro hb <;> simp only [hb] <;> try simp at hb))
    | (refine OpK.id ?_; first
      | refine OpK.of (OpOk.lenS D rfl rfl rfl rfl) ?_
      | refine OpK.of (OpOk.lenM D rfl rfl rfl rfl) ?_
      | refine OpK.of (OpOk.lenL D rfl rfl rfl rfl) ?_
      | refine OpK.of (OpOk.lenA D rfl rfl rfl rfl rfl rfl) ?_
      | refine OpK.of (OpOk.lenE D rfl rfl rfl rfl) ?_
      | refine OpK.of (OpOk.inc rfl rfl rfl (by omega)) ?_
      | refine OpK.of (OpOk.add rfl rfl rfl (by omega)) ?_
      | refine OpK.of (OpOk.sub rfl rfl rfl (by omega)) ?_
      | refine OpK.of (OpOk.ixM D rfl rfl rfl rfl rfl rfl (by first | assumption | omega) (fun _ => rfl)) ?_)
    | (refine W.id ?_; first
      | refine W.regs ?_
      | refine W.dv0 mixed rfl (by decide +kernel) ?_
      | refine W.dv1 mixed rfl (by decide +kernel) ?_
      | refine W.dv2 mixed rfl (by decide +kernel) ?_
      | refine W.dm0 mixed rfl (by decide +kernel) (by repeat' (first | exact .nil | refine .box rfl ?_ | refine .arr (rs_low _ _ _) ?_ | refine .dead ?_ | fail)) ?_
      | refine W.dm1 mixed rfl (by decide +kernel) (by repeat' (first | exact .nil | refine .box rfl ?_ | refine .arr (rs_low _ _ _) ?_ | refine .dead ?_ | fail)) ?_
      | refine W.dm2 mixed rfl (by decide +kernel) (by repeat' (first | exact .nil | refine .box rfl ?_ | refine .arr (rs_low _ _ _) ?_ | refine .dead ?_ | fail)) ?_
      | refine W.drws mixed ?_
      | refine W.ret ?_
      | refine W.seq ?_
      | refine W.skip ?_
      | refine W.region ?_
      | refine W.exit ?_
      | refine W.block ?_
      | (refine W.cond rfl ?_ ?_ <;> intro hb <;> try simp at hb)
      | refine W.drawn mixed ?_)
    | (refine Then.id ?_; first
      | refine Then.rn ?_
      | refine Then.rr ?_
      | refine Then.rx ?_)
    | (refine InBlk.id ?_; first
      | refine InBlk.rn ?_
      | refine InBlk.rr ?_
      | refine InBlk.re ?_
      | refine InBlk.rx rfl ?_)
    | (refine WD.id ?_; first
      | refine WD.done rfl ?_
      | refine WD.t rfl ?_ rfl
      | refine WD.g rfl rfl rfl ?_
      | refine WD.u rfl rfl rfl ?_
      | (refine WD.gs _ rfl rfl rfl ?_ ?_ <;> intro hb <;> simp only [hb] <;> try simp at hb))
    | (refine OpD.id ?_; first
      | refine OpD.of (stpR_ok D rfl) ?_
      | refine OpD.of (OpOk.lenS D rfl rfl rfl rfl) ?_
      | refine OpD.of (OpOk.lenM D rfl rfl rfl rfl) ?_
      | refine OpD.of (OpOk.lenL D rfl rfl rfl rfl) ?_
      | refine OpD.of (OpOk.lenA D rfl rfl rfl rfl rfl rfl) ?_
      | refine OpD.of (OpOk.lenE D rfl rfl rfl rfl) ?_
      | refine OpD.of (OpOk.inc rfl rfl rfl (by omega)) ?_
      | refine OpD.of (OpOk.add rfl rfl rfl (by omega)) ?_
      | refine OpD.of (OpOk.sub rfl rfl rfl (by omega)) ?_
      | refine OpD.of (OpOk.ixM D rfl rfl rfl rfl rfl rfl (by first | assumption | omega) (fun _ => rfl)) ?_)
    | (refine WE.id ?_; first
      | refine WE.done (by with_unfolding_all rfl) ?_
      | refine WE.step (by with_unfolding_all rfl) ?_)
    | (refine WI.id ?_; first
      | refine WI.r D rfl ?_
      | refine WI.g rfl rfl rfl ?_
      | refine WI.g0 rfl ?_
      | (refine WI.gs _ rfl rfl rfl ?_ ?_ <;> intro hb <;> simp only [hb] <;> try simp at hb))
    | (refine WL.id ?_; first
      | refine WL.cons ?_ ?_
      | exact WL.nil
      | exact WL.on (by with_unfolding_all rfl)
      | refine WL.oc (by with_unfolding_all rfl) ?_ ?_)
    | (refine WM.id ?_; first
      | refine .done rfl ?_
      | refine .t rfl ?_ rfl
      | refine WM.g rfl rfl rfl rfl ?_
      | refine .u rfl rfl rfl ?_
      | (refine WM.gs _ rfl rfl rfl ?_ ?_ <;> intro hb <;> simp only [hb] <;> try simp at hb))
    | (refine OpM.id ?_; first
      | refine OpM.v (stpR_ok D rfl) rfl ?_
      | refine OpM.b (stpR_ok D rfl) rfl (by repeat' (first | exact .nil | refine .box rfl ?_ | refine .arr (rs_low _ _ _) ?_ | refine .dead ?_ | fail)) ?_
      | refine OpM.v (OpOk.lenS D rfl rfl rfl rfl) rfl ?_
      | refine OpM.b (OpOk.lenS D rfl rfl rfl rfl) rfl (by repeat' (first | exact .nil | refine .box rfl ?_ | refine .arr (rs_low _ _ _) ?_ | refine .dead ?_ | fail)) ?_
      | refine OpM.v (OpOk.lenM D rfl rfl rfl rfl) rfl ?_
      | refine OpM.b (OpOk.lenM D rfl rfl rfl rfl) rfl (by repeat' (first | exact .nil | refine .box rfl ?_ | refine .arr (rs_low _ _ _) ?_ | refine .dead ?_ | fail)) ?_
      | refine OpM.v (OpOk.lenL D rfl rfl rfl rfl) rfl ?_
      | refine OpM.b (OpOk.lenL D rfl rfl rfl rfl) rfl (by repeat' (first | exact .nil | refine .box rfl ?_ | refine .arr (rs_low _ _ _) ?_ | refine .dead ?_ | fail)) ?_
      | refine OpM.v (OpOk.lenA D rfl rfl rfl rfl rfl rfl) rfl ?_
      | refine OpM.b (OpOk.lenA D rfl rfl rfl rfl rfl rfl) rfl (by repeat' (first | exact .nil | refine .box rfl ?_ | refine .arr (rs_low _ _ _) ?_ | refine .dead ?_ | fail)) ?_
      | refine OpM.v (OpOk.lenE D rfl rfl rfl rfl) rfl ?_
      | refine OpM.b (OpOk.lenE D rfl rfl rfl rfl) rfl (by repeat' (first | exact .nil | refine .box rfl ?_ | refine .arr (rs_low _ _ _) ?_ | refine .dead ?_ | fail)) ?_
      | refine OpM.v (OpOk.inc rfl rfl rfl (by omega)) rfl ?_
      | refine OpM.b (OpOk.inc rfl rfl rfl (by omega)) rfl (by repeat' (first | exact .nil | refine .box rfl ?_ | refine .arr (rs_low _ _ _) ?_ | refine .dead ?_ | fail)) ?_
      | refine OpM.v (OpOk.add rfl rfl rfl (by omega)) rfl ?_
      | refine OpM.b (OpOk.add rfl rfl rfl (by omega)) rfl (by repeat' (first | exact .nil | refine .box rfl ?_ | refine .arr (rs_low _ _ _) ?_ | refine .dead ?_ | fail)) ?_
      | refine OpM.v (OpOk.sub rfl rfl rfl (by omega)) rfl ?_
      | refine OpM.b (OpOk.sub rfl rfl rfl (by omega)) rfl (by repeat' (first | exact .nil | refine .box rfl ?_ | refine .arr (rs_low _ _ _) ?_ | refine .dead ?_ | fail)) ?_
      | refine OpM.v (OpOk.ixM D rfl rfl rfl rfl rfl rfl (by first | assumption | omega) (fun _ => rfl)) rfl ?_
      | refine OpM.b (OpOk.ixM D rfl rfl rfl rfl rfl rfl (by first | assumption | omega) (fun _ => rfl)) rfl (by repeat' (first | exact .nil | refine .box rfl ?_ | refine .arr (rs_low _ _ _) ?_ | refine .dead ?_ | fail)) ?_))
  · refine ⟨.inr rfl, _, _, rfl, .cons (.c (.id rfl)) .nil, ?_⟩
    have : ¬ b.length ≤ a.length := by omega
    simp [resV, X.v, pre, this]
  · have hba : b.length ≤ a.length := by omega
    refine W.loop (σ := Nat) (fun k => [(5, I k), (1, L Ent.e b), (0, L Ent.e a)]) (fun _ => []) (fun k => k ≤ b.length ∧ (a.take b.length = b ↔ (a.take b.length).drop k = b.drop k)) (fun k => b.length - k) 0 (fun _ _ => rfl) 0 ⟨by simp, by simp⟩ rfl (.cons rfl rfl (.cons rfl rfl (.cons rfl rfl (.nil)))) ?_
    rintro k ⟨hk1, hy⟩
    repeat' (first
    | (refine WO.id ?_; first
      | refine stp1_ok D rfl ?_
      | refine WO.nil ?_
      | refine WO.g rfl rfl rfl ?_
      | refine WO.g0 rfl ?_
      | (refine WO.gs _ rfl rfl rfl ?_ ?_ <;> intro hb <;> simp only [hb] <;> try simp at hb))
    | (refine OpK.id ?_; first
      | refine OpK.of (OpOk.eqN a[k].e b[k].e rfl (entC 0) (by decide) (by kernel_rfl) rfl rfl rfl rfl) ?_
      | refine OpK.of (OpOk.lenS D rfl rfl rfl rfl) ?_
      | refine OpK.of (OpOk.lenM D rfl rfl rfl rfl) ?_
      | refine OpK.of (OpOk.lenL D rfl rfl rfl rfl) ?_
      | refine OpK.of (OpOk.lenA D rfl rfl rfl rfl rfl rfl) ?_
      | refine OpK.of (OpOk.lenE D rfl rfl rfl rfl) ?_
      | refine OpK.of (OpOk.inc rfl rfl rfl (by omega)) ?_
      | refine OpK.of (OpOk.add rfl rfl rfl (by omega)) ?_
      | refine OpK.of (OpOk.sub rfl rfl rfl (by omega)) ?_
      | refine OpK.of (OpOk.ixM D rfl rfl rfl rfl rfl rfl (by first | assumption | omega) (fun _ => rfl)) ?_)
    | (refine W.id ?_; first
      | refine W.regs ?_
      | refine W.dv0 mixed rfl (by decide +kernel) ?_
      | refine W.dv1 mixed rfl (by decide +kernel) ?_
      | refine W.dv2 mixed rfl (by decide +kernel) ?_
      | refine W.dm0 mixed rfl (by decide +kernel) (by repeat' (first | exact .nil | refine .box rfl ?_ | refine .arr (rs_low _ _ _) ?_ | refine .dead ?_ | fail)) ?_
      | refine W.dm1 mixed rfl (by decide +kernel) (by repeat' (first | exact .nil | refine .box rfl ?_ | refine .arr (rs_low _ _ _) ?_ | refine .dead ?_ | fail)) ?_
      | refine W.dm2 mixed rfl (by decide +kernel) (by repeat' (first | exact .nil | refine .box rfl ?_ | refine .arr (rs_low _ _ _) ?_ | refine .dead ?_ | fail)) ?_
      | refine W.drws mixed ?_
      | refine W.ret ?_
      | refine W.seq ?_
      | refine W.skip ?_
      | refine W.region ?_
      | refine W.exit ?_
      | refine W.block ?_
      | (refine W.cond rfl ?_ ?_ <;> intro hb <;> try simp at hb)
      | refine W.drawn mixed ?_)
    | (refine Then.id ?_; first
      | refine Then.rn ?_
      | refine Then.rr ?_
      | refine Then.rx ?_)
    | (refine InBlk.id ?_; first
      | refine InBlk.rn ?_
      | refine InBlk.rr ?_
      | refine InBlk.re ?_
      | refine InBlk.rx rfl ?_)
    | (refine WD.id ?_; first
      | refine WD.done rfl ?_
      | refine WD.t rfl ?_ rfl
      | refine WD.g rfl rfl rfl ?_
      | refine WD.u rfl rfl rfl ?_
      | (refine WD.gs _ rfl rfl rfl ?_ ?_ <;> intro hb <;> simp only [hb] <;> try simp at hb))
    | (refine OpD.id ?_; first
      | refine OpD.of (stpR_ok D rfl) ?_
      | refine OpD.of (OpOk.eqN a[k].e b[k].e rfl (entC 0) (by decide) (by kernel_rfl) rfl rfl rfl rfl) ?_
      | refine OpD.of (OpOk.lenS D rfl rfl rfl rfl) ?_
      | refine OpD.of (OpOk.lenM D rfl rfl rfl rfl) ?_
      | refine OpD.of (OpOk.lenL D rfl rfl rfl rfl) ?_
      | refine OpD.of (OpOk.lenA D rfl rfl rfl rfl rfl rfl) ?_
      | refine OpD.of (OpOk.lenE D rfl rfl rfl rfl) ?_
      | refine OpD.of (OpOk.inc rfl rfl rfl (by omega)) ?_
      | refine OpD.of (OpOk.add rfl rfl rfl (by omega)) ?_
      | refine OpD.of (OpOk.sub rfl rfl rfl (by omega)) ?_
      | refine OpD.of (OpOk.ixM D rfl rfl rfl rfl rfl rfl (by first | assumption | omega) (fun _ => rfl)) ?_)
    | (refine WE.id ?_; first
      | refine WE.done (by with_unfolding_all rfl) ?_
      | refine WE.step (by with_unfolding_all rfl) ?_)
    | (refine WI.id ?_; first
      | refine WI.r D rfl ?_
      | refine WI.g rfl rfl rfl ?_
      | refine WI.g0 rfl ?_
      | (refine WI.gs _ rfl rfl rfl ?_ ?_ <;> intro hb <;> simp only [hb] <;> try simp at hb))
    | (refine WL.id ?_; first
      | refine WL.cons ?_ ?_
      | exact WL.nil
      | exact WL.on (by with_unfolding_all rfl)
      | refine WL.oc (by with_unfolding_all rfl) ?_ ?_)
    | (refine WM.id ?_; first
      | refine .done rfl ?_
      | refine .t rfl ?_ rfl
      | refine WM.g rfl rfl rfl rfl ?_
      | refine .u rfl rfl rfl ?_
      | (refine WM.gs _ rfl rfl rfl ?_ ?_ <;> intro hb <;> simp only [hb] <;> try simp at hb))
    | (refine OpM.id ?_; first
      | refine OpM.v (stpR_ok D rfl) rfl ?_
      | refine OpM.b (stpR_ok D rfl) rfl (by repeat' (first | exact .nil | refine .box rfl ?_ | refine .arr (rs_low _ _ _) ?_ | refine .dead ?_ | fail)) ?_
      | refine OpM.v (OpOk.eqN a[k].e b[k].e rfl (entC 0) (by decide) (by kernel_rfl) rfl rfl rfl rfl) rfl ?_
      | refine OpM.b (OpOk.eqN a[k].e b[k].e rfl (entC 0) (by decide) (by kernel_rfl) rfl rfl rfl rfl) rfl (by repeat' (first | exact .nil | refine .box rfl ?_ | refine .arr (rs_low _ _ _) ?_ | refine .dead ?_ | fail)) ?_
      | refine OpM.v (OpOk.lenS D rfl rfl rfl rfl) rfl ?_
      | refine OpM.b (OpOk.lenS D rfl rfl rfl rfl) rfl (by repeat' (first | exact .nil | refine .box rfl ?_ | refine .arr (rs_low _ _ _) ?_ | refine .dead ?_ | fail)) ?_
      | refine OpM.v (OpOk.lenM D rfl rfl rfl rfl) rfl ?_
      | refine OpM.b (OpOk.lenM D rfl rfl rfl rfl) rfl (by repeat' (first | exact .nil | refine .box rfl ?_ | refine .arr (rs_low _ _ _) ?_ | refine .dead ?_ | fail)) ?_
      | refine OpM.v (OpOk.lenL D rfl rfl rfl rfl) rfl ?_
      | refine OpM.b (OpOk.lenL D rfl rfl rfl rfl) rfl (by repeat' (first | exact .nil | refine .box rfl ?_ | refine .arr (rs_low _ _ _) ?_ | refine .dead ?_ | fail)) ?_
      | refine OpM.v (OpOk.lenA D rfl rfl rfl rfl rfl rfl) rfl ?_
      | refine OpM.b (OpOk.lenA D rfl rfl rfl rfl rfl rfl) rfl (by repeat' (first | exact .nil | refine .box rfl ?_ | refine .arr (rs_low _ _ _) ?_ | refine .dead ?_ | fail)) ?_
      | refine OpM.v (OpOk.lenE D rfl rfl rfl rfl) rfl ?_
      | refine OpM.b (OpOk.lenE D rfl rfl rfl rfl) rfl (by repeat' (first | exact .nil | refine .box rfl ?_ | refine .arr (rs_low _ _ _) ?_ | refine .dead ?_ | fail)) ?_
      | refine OpM.v (OpOk.inc rfl rfl rfl (by omega)) rfl ?_
      | refine OpM.b (OpOk.inc rfl rfl rfl (by omega)) rfl (by repeat' (first | exact .nil | refine .box rfl ?_ | refine .arr (rs_low _ _ _) ?_ | refine .dead ?_ | fail)) ?_
      | refine OpM.v (OpOk.add rfl rfl rfl (by omega)) rfl ?_
      | refine OpM.b (OpOk.add rfl rfl rfl (by omega)) rfl (by repeat' (first | exact .nil | refine .box rfl ?_ | refine .arr (rs_low _ _ _) ?_ | refine .dead ?_ | fail)) ?_
      | refine OpM.v (OpOk.sub rfl rfl rfl (by omega)) rfl ?_
      | refine OpM.b (OpOk.sub rfl rfl rfl (by omega)) rfl (by repeat' (first | exact .nil | refine .box rfl ?_ | refine .arr (rs_low _ _ _) ?_ | refine .dead ?_ | fail)) ?_
      | refine OpM.v (OpOk.ixM D rfl rfl rfl rfl rfl rfl (by first | assumption | omega) (fun _ => rfl)) rfl ?_
      | refine OpM.b (OpOk.ixM D rfl rfl rfl rfl rfl rfl (by first | assumption | omega) (fun _ => rfl)) rfl (by repeat' (first | exact .nil | refine .box rfl ?_ | refine .arr (rs_low _ _ _) ?_ | refine .dead ?_ | fail)) ?_))
    · rw [drop_eq (by simp; omega) (by omega)] at hy
      simp only [List.getElem_take] at hy
      refine ⟨.inr rfl, _, _, rfl, .cons (.c (.id rfl)) .nil, ?_⟩
      have hne : ¬ a[k] = b[k] := by simpa [eqTs_ent] using hb
      simp [resV, X.v, pre, hy, hne]
    · rw [drop_eq (by simp; omega) (by omega)] at hy
      simp only [List.getElem_take] at hy
      have hne : a[k] = b[k] := by simpa [eqTs_ent] using hb
      exact ⟨k + 1, ⟨by omega, by simpa [hne] using hy⟩, by omega, (.cons rfl rfl (.cons rfl rfl (.cons rfl rfl (.nil)))), rfl, rfl⟩
    · rw [drop_nil (by simp; omega), drop_nil (by omega)] at hy
      refine ⟨.inr rfl, _, _, rfl, .cons (.c (.id rfl)) .nil, ?_⟩
      have hy := hy.2 rfl
      simp [resV, X.v, pre, hy, hba]
theorem equal_ok (a b : List Ent) (ha : a.length ≤ 1048576) : Pu Tryz.prog 79 [L Ent.e a, L Ent.e b] (B (decide (a = b))) := by
  refine Pu.of D Tryz.func79 rfl rfl rfl ?_
  repeat' (first
    | (refine WO.id ?_; first
      | refine stp1_ok D rfl ?_
      | refine WO.nil ?_
      | refine WO.g rfl rfl rfl ?_
      | refine WO.g0 rfl ?_
      | (refine WO.gs _ rfl rfl rfl ?_ ?_ <;> intro hb <;> simp only [hb] <;> try simp at hb))
    | (refine OpK.id ?_; first
      | refine OpK.of (OpOk.lenS D rfl rfl rfl rfl) ?_
      | refine OpK.of (OpOk.lenM D rfl rfl rfl rfl) ?_
      | refine OpK.of (OpOk.lenL D rfl rfl rfl rfl) ?_
      | refine OpK.of (OpOk.lenA D rfl rfl rfl rfl rfl rfl) ?_
      | refine OpK.of (OpOk.lenE D rfl rfl rfl rfl) ?_
      | refine OpK.of (OpOk.inc rfl rfl rfl (by omega)) ?_
      | refine OpK.of (OpOk.add rfl rfl rfl (by omega)) ?_
      | refine OpK.of (OpOk.sub rfl rfl rfl (by omega)) ?_
      | refine OpK.of (OpOk.ixM D rfl rfl rfl rfl rfl rfl (by first | assumption | omega) (fun _ => rfl)) ?_)
    | (refine W.id ?_; first
      | refine W.regs ?_
      | refine W.dv0 mixed rfl (by decide +kernel) ?_
      | refine W.dv1 mixed rfl (by decide +kernel) ?_
      | refine W.dv2 mixed rfl (by decide +kernel) ?_
      | refine W.dm0 mixed rfl (by decide +kernel) (by repeat' (first | exact .nil | refine .box rfl ?_ | refine .arr (rs_low _ _ _) ?_ | refine .dead ?_ | fail)) ?_
      | refine W.dm1 mixed rfl (by decide +kernel) (by repeat' (first | exact .nil | refine .box rfl ?_ | refine .arr (rs_low _ _ _) ?_ | refine .dead ?_ | fail)) ?_
      | refine W.dm2 mixed rfl (by decide +kernel) (by repeat' (first | exact .nil | refine .box rfl ?_ | refine .arr (rs_low _ _ _) ?_ | refine .dead ?_ | fail)) ?_
      | refine W.drws mixed ?_
      | refine W.ret ?_
      | refine W.seq ?_
      | refine W.skip ?_
      | refine W.region ?_
      | refine W.exit ?_
      | refine W.block ?_
      | (refine W.cond rfl ?_ ?_ <;> intro hb <;> try simp at hb)
      | refine W.drawn mixed ?_)
    | (refine Then.id ?_; first
      | refine Then.rn ?_
      | refine Then.rr ?_
      | refine Then.rx ?_)
    | (refine InBlk.id ?_; first
      | refine InBlk.rn ?_
      | refine InBlk.rr ?_
      | refine InBlk.re ?_
      | refine InBlk.rx rfl ?_)
    | (refine WD.id ?_; first
      | refine WD.done rfl ?_
      | refine WD.t rfl ?_ rfl
      | refine WD.g rfl rfl rfl ?_
      | refine WD.u rfl rfl rfl ?_
      | (refine WD.gs _ rfl rfl rfl ?_ ?_ <;> intro hb <;> simp only [hb] <;> try simp at hb))
    | (refine OpD.id ?_; first
      | refine OpD.of (stpR_ok D rfl) ?_
      | refine OpD.of (OpOk.lenS D rfl rfl rfl rfl) ?_
      | refine OpD.of (OpOk.lenM D rfl rfl rfl rfl) ?_
      | refine OpD.of (OpOk.lenL D rfl rfl rfl rfl) ?_
      | refine OpD.of (OpOk.lenA D rfl rfl rfl rfl rfl rfl) ?_
      | refine OpD.of (OpOk.lenE D rfl rfl rfl rfl) ?_
      | refine OpD.of (OpOk.inc rfl rfl rfl (by omega)) ?_
      | refine OpD.of (OpOk.add rfl rfl rfl (by omega)) ?_
      | refine OpD.of (OpOk.sub rfl rfl rfl (by omega)) ?_
      | refine OpD.of (OpOk.ixM D rfl rfl rfl rfl rfl rfl (by first | assumption | omega) (fun _ => rfl)) ?_)
    | (refine WE.id ?_; first
      | refine WE.done (by with_unfolding_all rfl) ?_
      | refine WE.step (by with_unfolding_all rfl) ?_)
    | (refine WI.id ?_; first
      | refine WI.r D rfl ?_
      | refine WI.g rfl rfl rfl ?_
      | refine WI.g0 rfl ?_
      | (refine WI.gs _ rfl rfl rfl ?_ ?_ <;> intro hb <;> simp only [hb] <;> try simp at hb))
    | (refine WL.id ?_; first
      | refine WL.cons ?_ ?_
      | exact WL.nil
      | exact WL.on (by with_unfolding_all rfl)
      | refine WL.oc (by with_unfolding_all rfl) ?_ ?_)
    | (refine WM.id ?_; first
      | refine .done rfl ?_
      | refine .t rfl ?_ rfl
      | refine WM.g rfl rfl rfl rfl ?_
      | refine .u rfl rfl rfl ?_
      | (refine WM.gs _ rfl rfl rfl ?_ ?_ <;> intro hb <;> simp only [hb] <;> try simp at hb))
    | (refine OpM.id ?_; first
      | refine OpM.v (stpR_ok D rfl) rfl ?_
      | refine OpM.b (stpR_ok D rfl) rfl (by repeat' (first | exact .nil | refine .box rfl ?_ | refine .arr (rs_low _ _ _) ?_ | refine .dead ?_ | fail)) ?_
      | refine OpM.v (OpOk.lenS D rfl rfl rfl rfl) rfl ?_
      | refine OpM.b (OpOk.lenS D rfl rfl rfl rfl) rfl (by repeat' (first | exact .nil | refine .box rfl ?_ | refine .arr (rs_low _ _ _) ?_ | refine .dead ?_ | fail)) ?_
      | refine OpM.v (OpOk.lenM D rfl rfl rfl rfl) rfl ?_
      | refine OpM.b (OpOk.lenM D rfl rfl rfl rfl) rfl (by repeat' (first | exact .nil | refine .box rfl ?_ | refine .arr (rs_low _ _ _) ?_ | refine .dead ?_ | fail)) ?_
      | refine OpM.v (OpOk.lenL D rfl rfl rfl rfl) rfl ?_
      | refine OpM.b (OpOk.lenL D rfl rfl rfl rfl) rfl (by repeat' (first | exact .nil | refine .box rfl ?_ | refine .arr (rs_low _ _ _) ?_ | refine .dead ?_ | fail)) ?_
      | refine OpM.v (OpOk.lenA D rfl rfl rfl rfl rfl rfl) rfl ?_
      | refine OpM.b (OpOk.lenA D rfl rfl rfl rfl rfl rfl) rfl (by repeat' (first | exact .nil | refine .box rfl ?_ | refine .arr (rs_low _ _ _) ?_ | refine .dead ?_ | fail)) ?_
      | refine OpM.v (OpOk.lenE D rfl rfl rfl rfl) rfl ?_
      | refine OpM.b (OpOk.lenE D rfl rfl rfl rfl) rfl (by repeat' (first | exact .nil | refine .box rfl ?_ | refine .arr (rs_low _ _ _) ?_ | refine .dead ?_ | fail)) ?_
      | refine OpM.v (OpOk.inc rfl rfl rfl (by omega)) rfl ?_
      | refine OpM.b (OpOk.inc rfl rfl rfl (by omega)) rfl (by repeat' (first | exact .nil | refine .box rfl ?_ | refine .arr (rs_low _ _ _) ?_ | refine .dead ?_ | fail)) ?_
      | refine OpM.v (OpOk.add rfl rfl rfl (by omega)) rfl ?_
      | refine OpM.b (OpOk.add rfl rfl rfl (by omega)) rfl (by repeat' (first | exact .nil | refine .box rfl ?_ | refine .arr (rs_low _ _ _) ?_ | refine .dead ?_ | fail)) ?_
      | refine OpM.v (OpOk.sub rfl rfl rfl (by omega)) rfl ?_
      | refine OpM.b (OpOk.sub rfl rfl rfl (by omega)) rfl (by repeat' (first | exact .nil | refine .box rfl ?_ | refine .arr (rs_low _ _ _) ?_ | refine .dead ?_ | fail)) ?_
      | refine OpM.v (OpOk.ixM D rfl rfl rfl rfl rfl rfl (by first | assumption | omega) (fun _ => rfl)) rfl ?_
      | refine OpM.b (OpOk.ixM D rfl rfl rfl rfl rfl rfl (by first | assumption | omega) (fun _ => rfl)) rfl (by repeat' (first | exact .nil | refine .box rfl ?_ | refine .arr (rs_low _ _ _) ?_ | refine .dead ?_ | fail)) ?_))
  · refine ⟨.inr rfl, _, _, rfl, .cons (.c (.id rfl)) .nil, ?_⟩
    have : ¬ a = b := by rintro rfl; simp at hb
    simp [resV, X.v, this]
  · have hlr : a.length = b.length := by omega
    refine W.loop (σ := Nat) (fun k => [(13, I k), (12, I a.length), (1, L Ent.e b), (0, L Ent.e a)]) (fun _ => []) (fun k => k ≤ a.length ∧ (a = b ↔ a.drop k = b.drop k)) (fun k => a.length - k) 0 (fun _ _ => rfl) 0 ⟨by simp, by simp⟩ rfl (.cons rfl rfl (.cons rfl rfl (.cons rfl rfl (.cons rfl rfl (.nil))))) ?_
    rintro k ⟨hk1, hy⟩
    repeat' (first
    | (refine WO.id ?_; first
      | refine stp1_ok D rfl ?_
      | refine WO.nil ?_
      | refine WO.g rfl rfl rfl ?_
      | refine WO.g0 rfl ?_
      | (refine WO.gs _ rfl rfl rfl ?_ ?_ <;> intro hb <;> simp only [hb] <;> try simp at hb))
    | (refine OpK.id ?_; first
      | refine OpK.of (OpOk.eqN a[k].e b[k].e rfl (entC 0) (by decide) (by kernel_rfl) rfl rfl rfl rfl) ?_
      | refine OpK.of (OpOk.lenS D rfl rfl rfl rfl) ?_
      | refine OpK.of (OpOk.lenM D rfl rfl rfl rfl) ?_
      | refine OpK.of (OpOk.lenL D rfl rfl rfl rfl) ?_
      | refine OpK.of (OpOk.lenA D rfl rfl rfl rfl rfl rfl) ?_
      | refine OpK.of (OpOk.lenE D rfl rfl rfl rfl) ?_
      | refine OpK.of (OpOk.inc rfl rfl rfl (by omega)) ?_
      | refine OpK.of (OpOk.add rfl rfl rfl (by omega)) ?_
      | refine OpK.of (OpOk.sub rfl rfl rfl (by omega)) ?_
      | refine OpK.of (OpOk.ixM D rfl rfl rfl rfl rfl rfl (by first | assumption | omega) (fun _ => rfl)) ?_)
    | (refine W.id ?_; first
      | refine W.regs ?_
      | refine W.dv0 mixed rfl (by decide +kernel) ?_
      | refine W.dv1 mixed rfl (by decide +kernel) ?_
      | refine W.dv2 mixed rfl (by decide +kernel) ?_
      | refine W.dm0 mixed rfl (by decide +kernel) (by repeat' (first | exact .nil | refine .box rfl ?_ | refine .arr (rs_low _ _ _) ?_ | refine .dead ?_ | fail)) ?_
      | refine W.dm1 mixed rfl (by decide +kernel) (by repeat' (first | exact .nil | refine .box rfl ?_ | refine .arr (rs_low _ _ _) ?_ | refine .dead ?_ | fail)) ?_
      | refine W.dm2 mixed rfl (by decide +kernel) (by repeat' (first | exact .nil | refine .box rfl ?_ | refine .arr (rs_low _ _ _) ?_ | refine .dead ?_ | fail)) ?_
      | refine W.drws mixed ?_
      | refine W.ret ?_
      | refine W.seq ?_
      | refine W.skip ?_
      | refine W.region ?_
      | refine W.exit ?_
      | refine W.block ?_
      | (refine W.cond rfl ?_ ?_ <;> intro hb <;> try simp at hb)
      | refine W.drawn mixed ?_)
    | (refine Then.id ?_; first
      | refine Then.rn ?_
      | refine Then.rr ?_
      | refine Then.rx ?_)
    | (refine InBlk.id ?_; first
      | refine InBlk.rn ?_
      | refine InBlk.rr ?_
      | refine InBlk.re ?_
      | refine InBlk.rx rfl ?_)
    | (refine WD.id ?_; first
      | refine WD.done rfl ?_
      | refine WD.t rfl ?_ rfl
      | refine WD.g rfl rfl rfl ?_
      | refine WD.u rfl rfl rfl ?_
      | (refine WD.gs _ rfl rfl rfl ?_ ?_ <;> intro hb <;> simp only [hb] <;> try simp at hb))
    | (refine OpD.id ?_; first
      | refine OpD.of (stpR_ok D rfl) ?_
      | refine OpD.of (OpOk.eqN a[k].e b[k].e rfl (entC 0) (by decide) (by kernel_rfl) rfl rfl rfl rfl) ?_
      | refine OpD.of (OpOk.lenS D rfl rfl rfl rfl) ?_
      | refine OpD.of (OpOk.lenM D rfl rfl rfl rfl) ?_
      | refine OpD.of (OpOk.lenL D rfl rfl rfl rfl) ?_
      | refine OpD.of (OpOk.lenA D rfl rfl rfl rfl rfl rfl) ?_
      | refine OpD.of (OpOk.lenE D rfl rfl rfl rfl) ?_
      | refine OpD.of (OpOk.inc rfl rfl rfl (by omega)) ?_
      | refine OpD.of (OpOk.add rfl rfl rfl (by omega)) ?_
      | refine OpD.of (OpOk.sub rfl rfl rfl (by omega)) ?_
      | refine OpD.of (OpOk.ixM D rfl rfl rfl rfl rfl rfl (by first | assumption | omega) (fun _ => rfl)) ?_)
    | (refine WE.id ?_; first
      | refine WE.done (by with_unfolding_all rfl) ?_
      | refine WE.step (by with_unfolding_all rfl) ?_)
    | (refine WI.id ?_; first
      | refine WI.r D rfl ?_
      | refine WI.g rfl rfl rfl ?_
      | refine WI.g0 rfl ?_
      | (refine WI.gs _ rfl rfl rfl ?_ ?_ <;> intro hb <;> simp only [hb] <;> try simp at hb))
    | (refine WL.id ?_; first
      | refine WL.cons ?_ ?_
      | exact WL.nil
      | exact WL.on (by with_unfolding_all rfl)
      | refine WL.oc (by with_unfolding_all rfl) ?_ ?_)
    | (refine WM.id ?_; first
      | refine .done rfl ?_
      | refine .t rfl ?_ rfl
      | refine WM.g rfl rfl rfl rfl ?_
      | refine .u rfl rfl rfl ?_
      | (refine WM.gs _ rfl rfl rfl ?_ ?_ <;> intro hb <;> simp only [hb] <;> try simp at hb))
    | (refine OpM.id ?_; first
      | refine OpM.v (stpR_ok D rfl) rfl ?_
      | refine OpM.b (stpR_ok D rfl) rfl (by repeat' (first | exact .nil | refine .box rfl ?_ | refine .arr (rs_low _ _ _) ?_ | refine .dead ?_ | fail)) ?_
      | refine OpM.v (OpOk.eqN a[k].e b[k].e rfl (entC 0) (by decide) (by kernel_rfl) rfl rfl rfl rfl) rfl ?_
      | refine OpM.b (OpOk.eqN a[k].e b[k].e rfl (entC 0) (by decide) (by kernel_rfl) rfl rfl rfl rfl) rfl (by repeat' (first | exact .nil | refine .box rfl ?_ | refine .arr (rs_low _ _ _) ?_ | refine .dead ?_ | fail)) ?_
      | refine OpM.v (OpOk.lenS D rfl rfl rfl rfl) rfl ?_
      | refine OpM.b (OpOk.lenS D rfl rfl rfl rfl) rfl (by repeat' (first | exact .nil | refine .box rfl ?_ | refine .arr (rs_low _ _ _) ?_ | refine .dead ?_ | fail)) ?_
      | refine OpM.v (OpOk.lenM D rfl rfl rfl rfl) rfl ?_
      | refine OpM.b (OpOk.lenM D rfl rfl rfl rfl) rfl (by repeat' (first | exact .nil | refine .box rfl ?_ | refine .arr (rs_low _ _ _) ?_ | refine .dead ?_ | fail)) ?_
      | refine OpM.v (OpOk.lenL D rfl rfl rfl rfl) rfl ?_
      | refine OpM.b (OpOk.lenL D rfl rfl rfl rfl) rfl (by repeat' (first | exact .nil | refine .box rfl ?_ | refine .arr (rs_low _ _ _) ?_ | refine .dead ?_ | fail)) ?_
      | refine OpM.v (OpOk.lenA D rfl rfl rfl rfl rfl rfl) rfl ?_
      | refine OpM.b (OpOk.lenA D rfl rfl rfl rfl rfl rfl) rfl (by repeat' (first | exact .nil | refine .box rfl ?_ | refine .arr (rs_low _ _ _) ?_ | refine .dead ?_ | fail)) ?_
      | refine OpM.v (OpOk.lenE D rfl rfl rfl rfl) rfl ?_
      | refine OpM.b (OpOk.lenE D rfl rfl rfl rfl) rfl (by repeat' (first | exact .nil | refine .box rfl ?_ | refine .arr (rs_low _ _ _) ?_ | refine .dead ?_ | fail)) ?_
      | refine OpM.v (OpOk.inc rfl rfl rfl (by omega)) rfl ?_
      | refine OpM.b (OpOk.inc rfl rfl rfl (by omega)) rfl (by repeat' (first | exact .nil | refine .box rfl ?_ | refine .arr (rs_low _ _ _) ?_ | refine .dead ?_ | fail)) ?_
      | refine OpM.v (OpOk.add rfl rfl rfl (by omega)) rfl ?_
      | refine OpM.b (OpOk.add rfl rfl rfl (by omega)) rfl (by repeat' (first | exact .nil | refine .box rfl ?_ | refine .arr (rs_low _ _ _) ?_ | refine .dead ?_ | fail)) ?_
      | refine OpM.v (OpOk.sub rfl rfl rfl (by omega)) rfl ?_
      | refine OpM.b (OpOk.sub rfl rfl rfl (by omega)) rfl (by repeat' (first | exact .nil | refine .box rfl ?_ | refine .arr (rs_low _ _ _) ?_ | refine .dead ?_ | fail)) ?_
      | refine OpM.v (OpOk.ixM D rfl rfl rfl rfl rfl rfl (by first | assumption | omega) (fun _ => rfl)) rfl ?_
      | refine OpM.b (OpOk.ixM D rfl rfl rfl rfl rfl rfl (by first | assumption | omega) (fun _ => rfl)) rfl (by repeat' (first | exact .nil | refine .box rfl ?_ | refine .arr (rs_low _ _ _) ?_ | refine .dead ?_ | fail)) ?_))
    · rw [drop_eq (by omega) (by omega)] at hy
      refine ⟨.inr rfl, _, _, rfl, .cons (.c (.id rfl)) .nil, ?_⟩
      have hne : ¬ a[k] = b[k] := by simpa [eqTs_ent] using hb
      simp [resV, X.v, hy, hne]
    · rw [drop_eq (by omega) (by omega)] at hy
      have hne : a[k] = b[k] := by simpa [eqTs_ent] using hb
      exact ⟨k + 1, ⟨by omega, by simpa [hne] using hy⟩, by omega, (.cons rfl rfl (.cons rfl rfl (.cons rfl rfl (.cons rfl rfl (.nil))))), rfl, rfl⟩
    · rw [drop_nil (by omega), drop_nil (by omega)] at hy
      refine ⟨.inr rfl, _, _, rfl, .cons (.c (.id rfl)) .nil, ?_⟩
      have hy := hy.2 rfl
      simp [resV, X.v, hy]
theorem pre_impl (a b : List Ent) (ha : a.length ≤ 1048576) (hb : b.length ≤ 1048576) : Pu Tryz.prog 91 [L Ent.e a, L Ent.e b] (B (pre a b)) := by
  refine Pu.of D Tryz.func91 rfl rfl rfl ?_
  repeat' (first
    | (refine WO.id ?_; first
      | refine stp1_ok D rfl ?_
      | refine WO.nil ?_
      | refine WO.g rfl rfl rfl ?_
      | refine WO.g0 rfl ?_
      | (refine WO.gs _ rfl rfl rfl ?_ ?_ <;> intro hb <;> simp only [hb] <;> try simp at hb))
    | (refine OpK.id ?_; first
      | refine OpK.of (OpOk.call rfl (equal_ok (a.take b.length) b (by simp; omega)) rfl rfl rfl) ?_
      | refine OpK.of (OpOk.slMt D rfl rfl rfl rfl rfl (fun _ => rfl) rfl (by omega)) ?_
      | refine OpK.of (OpOk.lenS D rfl rfl rfl rfl) ?_
      | refine OpK.of (OpOk.lenM D rfl rfl rfl rfl) ?_
      | refine OpK.of (OpOk.lenL D rfl rfl rfl rfl) ?_
      | refine OpK.of (OpOk.lenA D rfl rfl rfl rfl rfl rfl) ?_
      | refine OpK.of (OpOk.lenE D rfl rfl rfl rfl) ?_
      | refine OpK.of (OpOk.inc rfl rfl rfl (by omega)) ?_
      | refine OpK.of (OpOk.add rfl rfl rfl (by omega)) ?_
      | refine OpK.of (OpOk.sub rfl rfl rfl (by omega)) ?_
      | refine OpK.of (OpOk.ixM D rfl rfl rfl rfl rfl rfl (by first | assumption | omega) (fun _ => rfl)) ?_)
    | (refine W.id ?_; first
      | refine W.regs ?_
      | refine W.dv0 mixed rfl (by decide +kernel) ?_
      | refine W.dv1 mixed rfl (by decide +kernel) ?_
      | refine W.dv2 mixed rfl (by decide +kernel) ?_
      | refine W.dm0 mixed rfl (by decide +kernel) (by repeat' (first | exact .nil | refine .box rfl ?_ | refine .arr (rs_low _ _ _) ?_ | refine .dead ?_ | fail)) ?_
      | refine W.dm1 mixed rfl (by decide +kernel) (by repeat' (first | exact .nil | refine .box rfl ?_ | refine .arr (rs_low _ _ _) ?_ | refine .dead ?_ | fail)) ?_
      | refine W.dm2 mixed rfl (by decide +kernel) (by repeat' (first | exact .nil | refine .box rfl ?_ | refine .arr (rs_low _ _ _) ?_ | refine .dead ?_ | fail)) ?_
      | refine W.drws mixed ?_
      | refine W.ret ?_
      | refine W.seq ?_
      | refine W.skip ?_
      | refine W.region ?_
      | refine W.exit ?_
      | refine W.block ?_
      | (refine W.cond rfl ?_ ?_ <;> intro hb <;> try simp at hb)
      | refine W.drawn mixed ?_)
    | (refine Then.id ?_; first
      | refine Then.rn ?_
      | refine Then.rr ?_
      | refine Then.rx ?_)
    | (refine InBlk.id ?_; first
      | refine InBlk.rn ?_
      | refine InBlk.rr ?_
      | refine InBlk.re ?_
      | refine InBlk.rx rfl ?_)
    | (refine WD.id ?_; first
      | refine WD.done rfl ?_
      | refine WD.t rfl ?_ rfl
      | refine WD.g rfl rfl rfl ?_
      | refine WD.u rfl rfl rfl ?_
      | (refine WD.gs _ rfl rfl rfl ?_ ?_ <;> intro hb <;> simp only [hb] <;> try simp at hb))
    | (refine OpD.id ?_; first
      | refine OpD.of (stpR_ok D rfl) ?_
      | refine OpD.of (OpOk.call rfl (equal_ok (a.take b.length) b (by simp; omega)) rfl rfl rfl) ?_
      | refine OpD.of (OpOk.slMt D rfl rfl rfl rfl rfl (fun _ => rfl) rfl (by omega)) ?_
      | refine OpD.of (OpOk.lenS D rfl rfl rfl rfl) ?_
      | refine OpD.of (OpOk.lenM D rfl rfl rfl rfl) ?_
      | refine OpD.of (OpOk.lenL D rfl rfl rfl rfl) ?_
      | refine OpD.of (OpOk.lenA D rfl rfl rfl rfl rfl rfl) ?_
      | refine OpD.of (OpOk.lenE D rfl rfl rfl rfl) ?_
      | refine OpD.of (OpOk.inc rfl rfl rfl (by omega)) ?_
      | refine OpD.of (OpOk.add rfl rfl rfl (by omega)) ?_
      | refine OpD.of (OpOk.sub rfl rfl rfl (by omega)) ?_
      | refine OpD.of (OpOk.ixM D rfl rfl rfl rfl rfl rfl (by first | assumption | omega) (fun _ => rfl)) ?_)
    | (refine WE.id ?_; first
      | refine WE.done (by with_unfolding_all rfl) ?_
      | refine WE.step (by with_unfolding_all rfl) ?_)
    | (refine WI.id ?_; first
      | refine WI.r D rfl ?_
      | refine WI.g rfl rfl rfl ?_
      | refine WI.g0 rfl ?_
      | (refine WI.gs _ rfl rfl rfl ?_ ?_ <;> intro hb <;> simp only [hb] <;> try simp at hb))
    | (refine WL.id ?_; first
      | refine WL.cons ?_ ?_
      | exact WL.nil
      | exact WL.on (by with_unfolding_all rfl)
      | refine WL.oc (by with_unfolding_all rfl) ?_ ?_)
    | (refine WM.id ?_; first
      | refine .done rfl ?_
      | refine .t rfl ?_ rfl
      | refine WM.g rfl rfl rfl rfl ?_
      | refine .u rfl rfl rfl ?_
      | (refine WM.gs _ rfl rfl rfl ?_ ?_ <;> intro hb <;> simp only [hb] <;> try simp at hb))
    | (refine OpM.id ?_; first
      | refine OpM.v (stpR_ok D rfl) rfl ?_
      | refine OpM.b (stpR_ok D rfl) rfl (by repeat' (first | exact .nil | refine .box rfl ?_ | refine .arr (rs_low _ _ _) ?_ | refine .dead ?_ | fail)) ?_
      | refine OpM.v (OpOk.call rfl (equal_ok (a.take b.length) b (by simp; omega)) rfl rfl rfl) rfl ?_
      | refine OpM.b (OpOk.call rfl (equal_ok (a.take b.length) b (by simp; omega)) rfl rfl rfl) rfl (by repeat' (first | exact .nil | refine .box rfl ?_ | refine .arr (rs_low _ _ _) ?_ | refine .dead ?_ | fail)) ?_
      | refine OpM.v (OpOk.slMt D rfl rfl rfl rfl rfl (fun _ => rfl) rfl (by omega)) rfl ?_
      | refine OpM.b (OpOk.slMt D rfl rfl rfl rfl rfl (fun _ => rfl) rfl (by omega)) rfl (by repeat' (first | exact .nil | refine .box rfl ?_ | refine .arr (rs_low _ _ _) ?_ | refine .dead ?_ | fail)) ?_
      | refine OpM.v (OpOk.lenS D rfl rfl rfl rfl) rfl ?_
      | refine OpM.b (OpOk.lenS D rfl rfl rfl rfl) rfl (by repeat' (first | exact .nil | refine .box rfl ?_ | refine .arr (rs_low _ _ _) ?_ | refine .dead ?_ | fail)) ?_
      | refine OpM.v (OpOk.lenM D rfl rfl rfl rfl) rfl ?_
      | refine OpM.b (OpOk.lenM D rfl rfl rfl rfl) rfl (by repeat' (first | exact .nil | refine .box rfl ?_ | refine .arr (rs_low _ _ _) ?_ | refine .dead ?_ | fail)) ?_
      | refine OpM.v (OpOk.lenL D rfl rfl rfl rfl) rfl ?_
      | refine OpM.b (OpOk.lenL D rfl rfl rfl rfl) rfl (by repeat' (first | exact .nil | refine .box rfl ?_ | refine .arr (rs_low _ _ _) ?_ | refine .dead ?_ | fail)) ?_
      | refine OpM.v (OpOk.lenA D rfl rfl rfl rfl rfl rfl) rfl ?_
      | refine OpM.b (OpOk.lenA D rfl rfl rfl rfl rfl rfl) rfl (by repeat' (first | exact .nil | refine .box rfl ?_ | refine .arr (rs_low _ _ _) ?_ | refine .dead ?_ | fail)) ?_
      | refine OpM.v (OpOk.lenE D rfl rfl rfl rfl) rfl ?_
      | refine OpM.b (OpOk.lenE D rfl rfl rfl rfl) rfl (by repeat' (first | exact .nil | refine .box rfl ?_ | refine .arr (rs_low _ _ _) ?_ | refine .dead ?_ | fail)) ?_
      | refine OpM.v (OpOk.inc rfl rfl rfl (by omega)) rfl ?_
      | refine OpM.b (OpOk.inc rfl rfl rfl (by omega)) rfl (by repeat' (first | exact .nil | refine .box rfl ?_ | refine .arr (rs_low _ _ _) ?_ | refine .dead ?_ | fail)) ?_
      | refine OpM.v (OpOk.add rfl rfl rfl (by omega)) rfl ?_
      | refine OpM.b (OpOk.add rfl rfl rfl (by omega)) rfl (by repeat' (first | exact .nil | refine .box rfl ?_ | refine .arr (rs_low _ _ _) ?_ | refine .dead ?_ | fail)) ?_
      | refine OpM.v (OpOk.sub rfl rfl rfl (by omega)) rfl ?_
      | refine OpM.b (OpOk.sub rfl rfl rfl (by omega)) rfl (by repeat' (first | exact .nil | refine .box rfl ?_ | refine .arr (rs_low _ _ _) ?_ | refine .dead ?_ | fail)) ?_
      | refine OpM.v (OpOk.ixM D rfl rfl rfl rfl rfl rfl (by first | assumption | omega) (fun _ => rfl)) rfl ?_
      | refine OpM.b (OpOk.ixM D rfl rfl rfl rfl rfl rfl (by first | assumption | omega) (fun _ => rfl)) rfl (by repeat' (first | exact .nil | refine .box rfl ?_ | refine .arr (rs_low _ _ _) ?_ | refine .dead ?_ | fail)) ?_))
  all_goals refine ⟨.inr rfl, _, _, rfl, .cons (.c (.id rfl)) .nil, ?_⟩
  · simp [resV, X.v, pre, hb]
  · have : ¬ b.length ≤ a.length := by omega
    simp [resV, X.v, pre, this]
theorem pre_eq (a b : List Ent) : (decide (a.length = b.length) && pre a b) = decide (a = b) := by
  unfold pre
  by_cases h : a = b
  · subst h; simp
  · by_cases hl : a.length = b.length
    · have : a.take b.length = a := List.take_of_length_le (by omega)
      simp [this, h]
    · simp [hl, h]
end Go.YtakiodehjhpgkaaGreatMc

namespace Go.YtakiodehjhpgkaaGreatMc
open Go.Proofs
def calmAt (c : Chn) (n : Int) : Bool := (nodeAt c n).ready && decide ((nodeAt c n).conf.epoch = c.conf.epoch) && decide ((nodeAt c n).conf.mem = c.conf.mem) && decide ((nodeAt c n).log = hLog c)
def calm (c : Chn) : Bool := chOk c && !decide (false ∈ c.up) && decide (c.bag = []) && !c.conf.fresh && c.conf.mem.all (calmAt c) && decide (c.answers.length = (hLog c).length)
theorem calm_impl (c : Chn) (hs : c.Sm) : Pu Tryz.prog 19 [A c.e] (B (calm c)) := by
  have h1 := chOk_impl c hs
  by_cases hc : chOk c = true
  · rw [hc] at h1
    have d := chOk_d hc
    have hl := d.nodes
    have hul := d.up
    have hml := confOk_mem d.conf
    have h24 := d.ans24
    have hh := hLog_len hc
    refine Pu.of D Tryz.func19 rfl rfl rfl ?_
    repeat' (first
    | (refine WO.id ?_; first
      | refine stp1_ok D rfl ?_
      | refine WO.nil ?_
      | refine WO.g rfl rfl rfl ?_
      | refine WO.g0 rfl ?_
      | (refine WO.gs _ rfl rfl rfl ?_ ?_ <;> intro hb <;> simp only [hb] <;> try simp at hb))
    | (refine OpK.id ?_; first
      | refine OpK.of (OpOk.call rfl (h1) rfl rfl rfl) ?_
      | refine OpK.of (OpOk.call rfl (idxB_ok c.up false (by omega)) rfl rfl rfl) ?_
      | refine OpK.of (OpOk.call rfl (head_ok c hc) rfl rfl rfl) ?_
      | refine OpK.of (OpOk.lenS D rfl rfl rfl rfl) ?_
      | refine OpK.of (OpOk.lenM D rfl rfl rfl rfl) ?_
      | refine OpK.of (OpOk.lenL D rfl rfl rfl rfl) ?_
      | refine OpK.of (OpOk.lenA D rfl rfl rfl rfl rfl rfl) ?_
      | refine OpK.of (OpOk.lenE D rfl rfl rfl rfl) ?_
      | refine OpK.of (OpOk.inc rfl rfl rfl (by omega)) ?_
      | refine OpK.of (OpOk.add rfl rfl rfl (by omega)) ?_
      | refine OpK.of (OpOk.sub rfl rfl rfl (by omega)) ?_
      | refine OpK.of (OpOk.ixM D rfl rfl rfl rfl rfl rfl (by first | assumption | omega) (fun _ => rfl)) ?_)
    | (refine W.id ?_; first
      | refine W.regs ?_
      | refine W.dv0 mixed rfl (by decide +kernel) ?_
      | refine W.dv1 mixed rfl (by decide +kernel) ?_
      | refine W.dv2 mixed rfl (by decide +kernel) ?_
      | refine W.dm0 mixed rfl (by decide +kernel) (by repeat' (first | exact .nil | refine .box rfl ?_ | refine .arr (rs_low _ _ _) ?_ | refine .dead ?_ | fail)) ?_
      | refine W.dm1 mixed rfl (by decide +kernel) (by repeat' (first | exact .nil | refine .box rfl ?_ | refine .arr (rs_low _ _ _) ?_ | refine .dead ?_ | fail)) ?_
      | refine W.dm2 mixed rfl (by decide +kernel) (by repeat' (first | exact .nil | refine .box rfl ?_ | refine .arr (rs_low _ _ _) ?_ | refine .dead ?_ | fail)) ?_
      | refine W.drws mixed ?_
      | refine W.ret ?_
      | refine W.seq ?_
      | refine W.skip ?_
      | refine W.region ?_
      | refine W.exit ?_
      | refine W.block ?_
      | (refine W.cond rfl ?_ ?_ <;> intro hb <;> try simp at hb)
      | refine W.drawn mixed ?_)
    | (refine Then.id ?_; first
      | refine Then.rn ?_
      | refine Then.rr ?_
      | refine Then.rx ?_)
    | (refine InBlk.id ?_; first
      | refine InBlk.rn ?_
      | refine InBlk.rr ?_
      | refine InBlk.re ?_
      | refine InBlk.rx rfl ?_)
    | (refine WD.id ?_; first
      | refine WD.done rfl ?_
      | refine WD.t rfl ?_ rfl
      | refine WD.g rfl rfl rfl ?_
      | refine WD.u rfl rfl rfl ?_
      | (refine WD.gs _ rfl rfl rfl ?_ ?_ <;> intro hb <;> simp only [hb] <;> try simp at hb))
    | (refine OpD.id ?_; first
      | refine OpD.of (stpR_ok D rfl) ?_
      | refine OpD.of (OpOk.call rfl (h1) rfl rfl rfl) ?_
      | refine OpD.of (OpOk.call rfl (idxB_ok c.up false (by omega)) rfl rfl rfl) ?_
      | refine OpD.of (OpOk.call rfl (head_ok c hc) rfl rfl rfl) ?_
      | refine OpD.of (OpOk.lenS D rfl rfl rfl rfl) ?_
      | refine OpD.of (OpOk.lenM D rfl rfl rfl rfl) ?_
      | refine OpD.of (OpOk.lenL D rfl rfl rfl rfl) ?_
      | refine OpD.of (OpOk.lenA D rfl rfl rfl rfl rfl rfl) ?_
      | refine OpD.of (OpOk.lenE D rfl rfl rfl rfl) ?_
      | refine OpD.of (OpOk.inc rfl rfl rfl (by omega)) ?_
      | refine OpD.of (OpOk.add rfl rfl rfl (by omega)) ?_
      | refine OpD.of (OpOk.sub rfl rfl rfl (by omega)) ?_
      | refine OpD.of (OpOk.ixM D rfl rfl rfl rfl rfl rfl (by first | assumption | omega) (fun _ => rfl)) ?_)
    | (refine WE.id ?_; first
      | refine WE.done (by with_unfolding_all rfl) ?_
      | refine WE.step (by with_unfolding_all rfl) ?_)
    | (refine WI.id ?_; first
      | refine WI.r D rfl ?_
      | refine WI.g rfl rfl rfl ?_
      | refine WI.g0 rfl ?_
      | (refine WI.gs _ rfl rfl rfl ?_ ?_ <;> intro hb <;> simp only [hb] <;> try simp at hb))
    | (refine WL.id ?_; first
      | refine WL.cons ?_ ?_
      | exact WL.nil
      | exact WL.on (by with_unfolding_all rfl)
      | refine WL.oc (by with_unfolding_all rfl) ?_ ?_)
    | (refine WM.id ?_; first
      | refine .done rfl ?_
      | refine .t rfl ?_ rfl
      | refine WM.g rfl rfl rfl rfl ?_
      | refine .u rfl rfl rfl ?_
      | (refine WM.gs _ rfl rfl rfl ?_ ?_ <;> intro hb <;> simp only [hb] <;> try simp at hb))
    | (refine OpM.id ?_; first
      | refine OpM.v (stpR_ok D rfl) rfl ?_
      | refine OpM.b (stpR_ok D rfl) rfl (by repeat' (first | exact .nil | refine .box rfl ?_ | refine .arr (rs_low _ _ _) ?_ | refine .dead ?_ | fail)) ?_
      | refine OpM.v (OpOk.call rfl (h1) rfl rfl rfl) rfl ?_
      | refine OpM.b (OpOk.call rfl (h1) rfl rfl rfl) rfl (by repeat' (first | exact .nil | refine .box rfl ?_ | refine .arr (rs_low _ _ _) ?_ | refine .dead ?_ | fail)) ?_
      | refine OpM.v (OpOk.call rfl (idxB_ok c.up false (by omega)) rfl rfl rfl) rfl ?_
      | refine OpM.b (OpOk.call rfl (idxB_ok c.up false (by omega)) rfl rfl rfl) rfl (by repeat' (first | exact .nil | refine .box rfl ?_ | refine .arr (rs_low _ _ _) ?_ | refine .dead ?_ | fail)) ?_
      | refine OpM.v (OpOk.call rfl (head_ok c hc) rfl rfl rfl) rfl ?_
      | refine OpM.b (OpOk.call rfl (head_ok c hc) rfl rfl rfl) rfl (by repeat' (first | exact .nil | refine .box rfl ?_ | refine .arr (rs_low _ _ _) ?_ | refine .dead ?_ | fail)) ?_
      | refine OpM.v (OpOk.lenS D rfl rfl rfl rfl) rfl ?_
      | refine OpM.b (OpOk.lenS D rfl rfl rfl rfl) rfl (by repeat' (first | exact .nil | refine .box rfl ?_ | refine .arr (rs_low _ _ _) ?_ | refine .dead ?_ | fail)) ?_
      | refine OpM.v (OpOk.lenM D rfl rfl rfl rfl) rfl ?_
      | refine OpM.b (OpOk.lenM D rfl rfl rfl rfl) rfl (by repeat' (first | exact .nil | refine .box rfl ?_ | refine .arr (rs_low _ _ _) ?_ | refine .dead ?_ | fail)) ?_
      | refine OpM.v (OpOk.lenL D rfl rfl rfl rfl) rfl ?_
      | refine OpM.b (OpOk.lenL D rfl rfl rfl rfl) rfl (by repeat' (first | exact .nil | refine .box rfl ?_ | refine .arr (rs_low _ _ _) ?_ | refine .dead ?_ | fail)) ?_
      | refine OpM.v (OpOk.lenA D rfl rfl rfl rfl rfl rfl) rfl ?_
      | refine OpM.b (OpOk.lenA D rfl rfl rfl rfl rfl rfl) rfl (by repeat' (first | exact .nil | refine .box rfl ?_ | refine .arr (rs_low _ _ _) ?_ | refine .dead ?_ | fail)) ?_
      | refine OpM.v (OpOk.lenE D rfl rfl rfl rfl) rfl ?_
      | refine OpM.b (OpOk.lenE D rfl rfl rfl rfl) rfl (by repeat' (first | exact .nil | refine .box rfl ?_ | refine .arr (rs_low _ _ _) ?_ | refine .dead ?_ | fail)) ?_
      | refine OpM.v (OpOk.inc rfl rfl rfl (by omega)) rfl ?_
      | refine OpM.b (OpOk.inc rfl rfl rfl (by omega)) rfl (by repeat' (first | exact .nil | refine .box rfl ?_ | refine .arr (rs_low _ _ _) ?_ | refine .dead ?_ | fail)) ?_
      | refine OpM.v (OpOk.add rfl rfl rfl (by omega)) rfl ?_
      | refine OpM.b (OpOk.add rfl rfl rfl (by omega)) rfl (by repeat' (first | exact .nil | refine .box rfl ?_ | refine .arr (rs_low _ _ _) ?_ | refine .dead ?_ | fail)) ?_
      | refine OpM.v (OpOk.sub rfl rfl rfl (by omega)) rfl ?_
      | refine OpM.b (OpOk.sub rfl rfl rfl (by omega)) rfl (by repeat' (first | exact .nil | refine .box rfl ?_ | refine .arr (rs_low _ _ _) ?_ | refine .dead ?_ | fail)) ?_
      | refine OpM.v (OpOk.ixM D rfl rfl rfl rfl rfl rfl (by first | assumption | omega) (fun _ => rfl)) rfl ?_
      | refine OpM.b (OpOk.ixM D rfl rfl rfl rfl rfl rfl (by first | assumption | omega) (fun _ => rfl)) rfl (by repeat' (first | exact .nil | refine .box rfl ?_ | refine .arr (rs_low _ _ _) ?_ | refine .dead ?_ | fail)) ?_))
    all_goals first
      | (exfalso; simp_all; done)
      | (refine ⟨.inr rfl, _, _, rfl, .cons (.c (.id rfl)) .nil, ?_⟩; simp [resV, X.v, calm, hc, hb]; done)
      | (refine ⟨.inr rfl, _, _, rfl, .cons (.c (.id rfl)) .nil, ?_⟩; have hbg : ¬ c.bag = [] := by (intro e; simp [e] at hb)
         simp [resV, X.v, calm, hbg]; done)
      | (refine ⟨.inr rfl, _, _, rfl, .cons (.c (.id rfl)) .nil, ?_⟩; simp_all [resV, X.v, calm]; done)
      | (refine ⟨.inr rfl, _, _, rfl, .cons (.c (.id rfl)) .nil, ?_⟩; simp_all [resV, X.v, calm, List.length_pos_iff]; done)
      | skip
    have hup : false ∉ c.up := by simp_all
    have hbag : c.bag = [] := by first | (simp_all; done) | (simp_all [List.length_pos_iff]; done) | (apply List.length_eq_zero_iff.1; omega)
    have hfr : c.conf.fresh = false := by simp_all
    refine W.loop (σ := Nat) (fun k => [(32, I k), (31, I c.conf.mem.length), (30, L eI c.conf.mem), (3, L Ent.e (hLog c)), (1, .c (.ptr 0 0))]) (fun _ => [.box (tc c.e)]) (fun k => k ≤ c.conf.mem.length ∧ c.conf.mem.all (calmAt c) = (c.conf.mem.drop k).all (calmAt c)) (fun k => c.conf.mem.length - k) 1 (fun _ _ => rfl) 0 ⟨by simp, by simp⟩ rfl (.cons rfl rfl (.cons rfl rfl (.cons rfl rfl (.cons rfl rfl (.cons rfl rfl (.nil)))))) ?_
    rintro k ⟨hk1, hy⟩
    by_cases hlt : k < c.conf.mem.length
    · have hk0 := confOk_at d.conf k hlt
      have hn5 : (c.conf.mem[k]).toNat < c.nodes.length := by rw [hl]; exact hk0.2
      have hn := nodeAt_eq hn5
      have hsm := hs.nodes _ (List.getElem_mem hn5)
      rw [drop_cons hlt, List.all_cons] at hy
      repeat' (first
    | (refine WO.id ?_; first
      | refine stp1_ok D rfl ?_
      | refine WO.nil ?_
      | refine WO.g rfl rfl rfl ?_
      | refine WO.g0 rfl ?_
      | (refine WO.gs _ rfl rfl rfl ?_ ?_ <;> intro hb <;> simp only [hb] <;> try simp at hb))
    | (refine OpK.id ?_; first
      | refine OpK.of (OpOk.ixI D rfl rfl rfl rfl rfl rfl hk0.1 hn5 (fun _ => rfl)) ?_
      | refine OpK.of (OpOk.call rfl (eqIl_ok (c.nodes[(c.conf.mem[k]).toNat]'hn5).conf.mem c.conf.mem hsm.conf.memN) rfl rfl rfl) ?_
      | refine OpK.of (OpOk.call rfl (equal_ok (c.nodes[(c.conf.mem[k]).toNat]'hn5).log (hLog c) hsm.logN) rfl rfl rfl) ?_
      | refine OpK.of (OpOk.lenS D rfl rfl rfl rfl) ?_
      | refine OpK.of (OpOk.lenM D rfl rfl rfl rfl) ?_
      | refine OpK.of (OpOk.lenL D rfl rfl rfl rfl) ?_
      | refine OpK.of (OpOk.lenA D rfl rfl rfl rfl rfl rfl) ?_
      | refine OpK.of (OpOk.lenE D rfl rfl rfl rfl) ?_
      | refine OpK.of (OpOk.inc rfl rfl rfl (by omega)) ?_
      | refine OpK.of (OpOk.add rfl rfl rfl (by omega)) ?_
      | refine OpK.of (OpOk.sub rfl rfl rfl (by omega)) ?_
      | refine OpK.of (OpOk.ixM D rfl rfl rfl rfl rfl rfl (by first | assumption | omega) (fun _ => rfl)) ?_)
    | (refine W.id ?_; first
      | refine W.regs ?_
      | refine W.dv0 mixed rfl (by decide +kernel) ?_
      | refine W.dv1 mixed rfl (by decide +kernel) ?_
      | refine W.dv2 mixed rfl (by decide +kernel) ?_
      | refine W.dm0 mixed rfl (by decide +kernel) (by repeat' (first | exact .nil | refine .box rfl ?_ | refine .arr (rs_low _ _ _) ?_ | refine .dead ?_ | fail)) ?_
      | refine W.dm1 mixed rfl (by decide +kernel) (by repeat' (first | exact .nil | refine .box rfl ?_ | refine .arr (rs_low _ _ _) ?_ | refine .dead ?_ | fail)) ?_
      | refine W.dm2 mixed rfl (by decide +kernel) (by repeat' (first | exact .nil | refine .box rfl ?_ | refine .arr (rs_low _ _ _) ?_ | refine .dead ?_ | fail)) ?_
      | refine W.drws mixed ?_
      | refine W.ret ?_
      | refine W.seq ?_
      | refine W.skip ?_
      | refine W.region ?_
      | refine W.exit ?_
      | refine W.block ?_
      | (refine W.cond rfl ?_ ?_ <;> intro hb <;> try simp at hb)
      | refine W.drawn mixed ?_)
    | (refine Then.id ?_; first
      | refine Then.rn ?_
      | refine Then.rr ?_
      | refine Then.rx ?_)
    | (refine InBlk.id ?_; first
      | refine InBlk.rn ?_
      | refine InBlk.rr ?_
      | refine InBlk.re ?_
      | refine InBlk.rx rfl ?_)
    | (refine WD.id ?_; first
      | refine WD.done rfl ?_
      | refine WD.t rfl ?_ rfl
      | refine WD.g rfl rfl rfl ?_
      | refine WD.u rfl rfl rfl ?_
      | (refine WD.gs _ rfl rfl rfl ?_ ?_ <;> intro hb <;> simp only [hb] <;> try simp at hb))
    | (refine OpD.id ?_; first
      | refine OpD.of (stpR_ok D rfl) ?_
      | refine OpD.of (OpOk.ixI D rfl rfl rfl rfl rfl rfl hk0.1 hn5 (fun _ => rfl)) ?_
      | refine OpD.of (OpOk.call rfl (eqIl_ok (c.nodes[(c.conf.mem[k]).toNat]'hn5).conf.mem c.conf.mem hsm.conf.memN) rfl rfl rfl) ?_
      | refine OpD.of (OpOk.call rfl (equal_ok (c.nodes[(c.conf.mem[k]).toNat]'hn5).log (hLog c) hsm.logN) rfl rfl rfl) ?_
      | refine OpD.of (OpOk.lenS D rfl rfl rfl rfl) ?_
      | refine OpD.of (OpOk.lenM D rfl rfl rfl rfl) ?_
      | refine OpD.of (OpOk.lenL D rfl rfl rfl rfl) ?_
      | refine OpD.of (OpOk.lenA D rfl rfl rfl rfl rfl rfl) ?_
      | refine OpD.of (OpOk.lenE D rfl rfl rfl rfl) ?_
      | refine OpD.of (OpOk.inc rfl rfl rfl (by omega)) ?_
      | refine OpD.of (OpOk.add rfl rfl rfl (by omega)) ?_
      | refine OpD.of (OpOk.sub rfl rfl rfl (by omega)) ?_
      | refine OpD.of (OpOk.ixM D rfl rfl rfl rfl rfl rfl (by first | assumption | omega) (fun _ => rfl)) ?_)
    | (refine WE.id ?_; first
      | refine WE.done (by with_unfolding_all rfl) ?_
      | refine WE.step (by with_unfolding_all rfl) ?_)
    | (refine WI.id ?_; first
      | refine WI.r D rfl ?_
      | refine WI.g rfl rfl rfl ?_
      | refine WI.g0 rfl ?_
      | (refine WI.gs _ rfl rfl rfl ?_ ?_ <;> intro hb <;> simp only [hb] <;> try simp at hb))
    | (refine WL.id ?_; first
      | refine WL.cons ?_ ?_
      | exact WL.nil
      | exact WL.on (by with_unfolding_all rfl)
      | refine WL.oc (by with_unfolding_all rfl) ?_ ?_)
    | (refine WM.id ?_; first
      | refine .done rfl ?_
      | refine .t rfl ?_ rfl
      | refine WM.g rfl rfl rfl rfl ?_
      | refine .u rfl rfl rfl ?_
      | (refine WM.gs _ rfl rfl rfl ?_ ?_ <;> intro hb <;> simp only [hb] <;> try simp at hb))
    | (refine OpM.id ?_; first
      | refine OpM.v (stpR_ok D rfl) rfl ?_
      | refine OpM.b (stpR_ok D rfl) rfl (by repeat' (first | exact .nil | refine .box rfl ?_ | refine .arr (rs_low _ _ _) ?_ | refine .dead ?_ | fail)) ?_
      | refine OpM.v (OpOk.ixI D rfl rfl rfl rfl rfl rfl hk0.1 hn5 (fun _ => rfl)) rfl ?_
      | refine OpM.b (OpOk.ixI D rfl rfl rfl rfl rfl rfl hk0.1 hn5 (fun _ => rfl)) rfl (by repeat' (first | exact .nil | refine .box rfl ?_ | refine .arr (rs_low _ _ _) ?_ | refine .dead ?_ | fail)) ?_
      | refine OpM.v (OpOk.call rfl (eqIl_ok (c.nodes[(c.conf.mem[k]).toNat]'hn5).conf.mem c.conf.mem hsm.conf.memN) rfl rfl rfl) rfl ?_
      | refine OpM.b (OpOk.call rfl (eqIl_ok (c.nodes[(c.conf.mem[k]).toNat]'hn5).conf.mem c.conf.mem hsm.conf.memN) rfl rfl rfl) rfl (by repeat' (first | exact .nil | refine .box rfl ?_ | refine .arr (rs_low _ _ _) ?_ | refine .dead ?_ | fail)) ?_
      | refine OpM.v (OpOk.call rfl (equal_ok (c.nodes[(c.conf.mem[k]).toNat]'hn5).log (hLog c) hsm.logN) rfl rfl rfl) rfl ?_
      | refine OpM.b (OpOk.call rfl (equal_ok (c.nodes[(c.conf.mem[k]).toNat]'hn5).log (hLog c) hsm.logN) rfl rfl rfl) rfl (by repeat' (first | exact .nil | refine .box rfl ?_ | refine .arr (rs_low _ _ _) ?_ | refine .dead ?_ | fail)) ?_
      | refine OpM.v (OpOk.lenS D rfl rfl rfl rfl) rfl ?_
      | refine OpM.b (OpOk.lenS D rfl rfl rfl rfl) rfl (by repeat' (first | exact .nil | refine .box rfl ?_ | refine .arr (rs_low _ _ _) ?_ | refine .dead ?_ | fail)) ?_
      | refine OpM.v (OpOk.lenM D rfl rfl rfl rfl) rfl ?_
      | refine OpM.b (OpOk.lenM D rfl rfl rfl rfl) rfl (by repeat' (first | exact .nil | refine .box rfl ?_ | refine .arr (rs_low _ _ _) ?_ | refine .dead ?_ | fail)) ?_
      | refine OpM.v (OpOk.lenL D rfl rfl rfl rfl) rfl ?_
      | refine OpM.b (OpOk.lenL D rfl rfl rfl rfl) rfl (by repeat' (first | exact .nil | refine .box rfl ?_ | refine .arr (rs_low _ _ _) ?_ | refine .dead ?_ | fail)) ?_
      | refine OpM.v (OpOk.lenA D rfl rfl rfl rfl rfl rfl) rfl ?_
      | refine OpM.b (OpOk.lenA D rfl rfl rfl rfl rfl rfl) rfl (by repeat' (first | exact .nil | refine .box rfl ?_ | refine .arr (rs_low _ _ _) ?_ | refine .dead ?_ | fail)) ?_
      | refine OpM.v (OpOk.lenE D rfl rfl rfl rfl) rfl ?_
      | refine OpM.b (OpOk.lenE D rfl rfl rfl rfl) rfl (by repeat' (first | exact .nil | refine .box rfl ?_ | refine .arr (rs_low _ _ _) ?_ | refine .dead ?_ | fail)) ?_
      | refine OpM.v (OpOk.inc rfl rfl rfl (by omega)) rfl ?_
      | refine OpM.b (OpOk.inc rfl rfl rfl (by omega)) rfl (by repeat' (first | exact .nil | refine .box rfl ?_ | refine .arr (rs_low _ _ _) ?_ | refine .dead ?_ | fail)) ?_
      | refine OpM.v (OpOk.add rfl rfl rfl (by omega)) rfl ?_
      | refine OpM.b (OpOk.add rfl rfl rfl (by omega)) rfl (by repeat' (first | exact .nil | refine .box rfl ?_ | refine .arr (rs_low _ _ _) ?_ | refine .dead ?_ | fail)) ?_
      | refine OpM.v (OpOk.sub rfl rfl rfl (by omega)) rfl ?_
      | refine OpM.b (OpOk.sub rfl rfl rfl (by omega)) rfl (by repeat' (first | exact .nil | refine .box rfl ?_ | refine .arr (rs_low _ _ _) ?_ | refine .dead ?_ | fail)) ?_
      | refine OpM.v (OpOk.ixM D rfl rfl rfl rfl rfl rfl (by first | assumption | omega) (fun _ => rfl)) rfl ?_
      | refine OpM.b (OpOk.ixM D rfl rfl rfl rfl rfl rfl (by first | assumption | omega) (fun _ => rfl)) rfl (by repeat' (first | exact .nil | refine .box rfl ?_ | refine .arr (rs_low _ _ _) ?_ | refine .dead ?_ | fail)) ?_))
      all_goals first
        | (exfalso; omega)
        | (have hb2 : calmAt c c.conf.mem[k] = false := by unfold calmAt; rw [hn]; first | (simp_all; done) | (simp at *; grind)
           rw [hb2, Bool.false_and] at hy
           refine ⟨.inr rfl, _, _, rfl, .cons (.c (.id rfl)) .nil, ?_⟩; simp [resV, X.v, calm, hy]; done)
        | (have hb2 : calmAt c c.conf.mem[k] = true := by unfold calmAt; rw [hn]; first | (simp_all; done) | (simp at *; grind)
           rw [hb2, Bool.true_and] at hy
           exact ⟨k + 1, ⟨by omega, hy⟩, by omega, (.cons rfl rfl (.cons rfl rfl (.cons rfl rfl (.cons rfl rfl (.cons rfl rfl (.nil)))))), rfl, rfl⟩)
    · repeat' (first
    | (refine WO.id ?_; first
      | refine stp1_ok D rfl ?_
      | refine WO.nil ?_
      | refine WO.g rfl rfl rfl ?_
      | refine WO.g0 rfl ?_
      | (refine WO.gs _ rfl rfl rfl ?_ ?_ <;> intro hb <;> simp only [hb] <;> try simp at hb))
    | (refine OpK.id ?_; first
      | refine OpK.of (OpOk.lenS D rfl rfl rfl rfl) ?_
      | refine OpK.of (OpOk.lenM D rfl rfl rfl rfl) ?_
      | refine OpK.of (OpOk.lenL D rfl rfl rfl rfl) ?_
      | refine OpK.of (OpOk.lenA D rfl rfl rfl rfl rfl rfl) ?_
      | refine OpK.of (OpOk.lenE D rfl rfl rfl rfl) ?_
      | refine OpK.of (OpOk.inc rfl rfl rfl (by omega)) ?_
      | refine OpK.of (OpOk.add rfl rfl rfl (by omega)) ?_
      | refine OpK.of (OpOk.sub rfl rfl rfl (by omega)) ?_
      | refine OpK.of (OpOk.ixM D rfl rfl rfl rfl rfl rfl (by first | assumption | omega) (fun _ => rfl)) ?_)
    | (refine W.id ?_; first
      | refine W.regs ?_
      | refine W.dv0 mixed rfl (by decide +kernel) ?_
      | refine W.dv1 mixed rfl (by decide +kernel) ?_
      | refine W.dv2 mixed rfl (by decide +kernel) ?_
      | refine W.dm0 mixed rfl (by decide +kernel) (by repeat' (first | exact .nil | refine .box rfl ?_ | refine .arr (rs_low _ _ _) ?_ | refine .dead ?_ | fail)) ?_
      | refine W.dm1 mixed rfl (by decide +kernel) (by repeat' (first | exact .nil | refine .box rfl ?_ | refine .arr (rs_low _ _ _) ?_ | refine .dead ?_ | fail)) ?_
      | refine W.dm2 mixed rfl (by decide +kernel) (by repeat' (first | exact .nil | refine .box rfl ?_ | refine .arr (rs_low _ _ _) ?_ | refine .dead ?_ | fail)) ?_
      | refine W.drws mixed ?_
      | refine W.ret ?_
      | refine W.seq ?_
      | refine W.skip ?_
      | refine W.region ?_
      | refine W.exit ?_
      | refine W.block ?_
      | (refine W.cond rfl ?_ ?_ <;> intro hb <;> try simp at hb)
      | refine W.drawn mixed ?_)
    | (refine Then.id ?_; first
      | refine Then.rn ?_
      | refine Then.rr ?_
      | refine Then.rx ?_)
    | (refine InBlk.id ?_; first
      | refine InBlk.rn ?_
      | refine InBlk.rr ?_
      | refine InBlk.re ?_
      | refine InBlk.rx rfl ?_)
    | (refine WD.id ?_; first
      | refine WD.done rfl ?_
      | refine WD.t rfl ?_ rfl
      | refine WD.g rfl rfl rfl ?_
      | refine WD.u rfl rfl rfl ?_
      | (refine WD.gs _ rfl rfl rfl ?_ ?_ <;> intro hb <;> simp only [hb] <;> try simp at hb))
    | (refine OpD.id ?_; first
      | refine OpD.of (stpR_ok D rfl) ?_
      | refine OpD.of (OpOk.lenS D rfl rfl rfl rfl) ?_
      | refine OpD.of (OpOk.lenM D rfl rfl rfl rfl) ?_
      | refine OpD.of (OpOk.lenL D rfl rfl rfl rfl) ?_
      | refine OpD.of (OpOk.lenA D rfl rfl rfl rfl rfl rfl) ?_
      | refine OpD.of (OpOk.lenE D rfl rfl rfl rfl) ?_
      | refine OpD.of (OpOk.inc rfl rfl rfl (by omega)) ?_
      | refine OpD.of (OpOk.add rfl rfl rfl (by omega)) ?_
      | refine OpD.of (OpOk.sub rfl rfl rfl (by omega)) ?_
      | refine OpD.of (OpOk.ixM D rfl rfl rfl rfl rfl rfl (by first | assumption | omega) (fun _ => rfl)) ?_)
    | (refine WE.id ?_; first
      | refine WE.done (by with_unfolding_all rfl) ?_
      | refine WE.step (by with_unfolding_all rfl) ?_)
    | (refine WI.id ?_; first
      | refine WI.r D rfl ?_
      | refine WI.g rfl rfl rfl ?_
      | refine WI.g0 rfl ?_
      | (refine WI.gs _ rfl rfl rfl ?_ ?_ <;> intro hb <;> simp only [hb] <;> try simp at hb))
    | (refine WL.id ?_; first
      | refine WL.cons ?_ ?_
      | exact WL.nil
      | exact WL.on (by with_unfolding_all rfl)
      | refine WL.oc (by with_unfolding_all rfl) ?_ ?_)
    | (refine WM.id ?_; first
      | refine .done rfl ?_
      | refine .t rfl ?_ rfl
      | refine WM.g rfl rfl rfl rfl ?_
      | refine .u rfl rfl rfl ?_
      | (refine WM.gs _ rfl rfl rfl ?_ ?_ <;> intro hb <;> simp only [hb] <;> try simp at hb))
    | (refine OpM.id ?_; first
      | refine OpM.v (stpR_ok D rfl) rfl ?_
      | refine OpM.b (stpR_ok D rfl) rfl (by repeat' (first | exact .nil | refine .box rfl ?_ | refine .arr (rs_low _ _ _) ?_ | refine .dead ?_ | fail)) ?_
      | refine OpM.v (OpOk.lenS D rfl rfl rfl rfl) rfl ?_
      | refine OpM.b (OpOk.lenS D rfl rfl rfl rfl) rfl (by repeat' (first | exact .nil | refine .box rfl ?_ | refine .arr (rs_low _ _ _) ?_ | refine .dead ?_ | fail)) ?_
      | refine OpM.v (OpOk.lenM D rfl rfl rfl rfl) rfl ?_
      | refine OpM.b (OpOk.lenM D rfl rfl rfl rfl) rfl (by repeat' (first | exact .nil | refine .box rfl ?_ | refine .arr (rs_low _ _ _) ?_ | refine .dead ?_ | fail)) ?_
      | refine OpM.v (OpOk.lenL D rfl rfl rfl rfl) rfl ?_
      | refine OpM.b (OpOk.lenL D rfl rfl rfl rfl) rfl (by repeat' (first | exact .nil | refine .box rfl ?_ | refine .arr (rs_low _ _ _) ?_ | refine .dead ?_ | fail)) ?_
      | refine OpM.v (OpOk.lenA D rfl rfl rfl rfl rfl rfl) rfl ?_
      | refine OpM.b (OpOk.lenA D rfl rfl rfl rfl rfl rfl) rfl (by repeat' (first | exact .nil | refine .box rfl ?_ | refine .arr (rs_low _ _ _) ?_ | refine .dead ?_ | fail)) ?_
      | refine OpM.v (OpOk.lenE D rfl rfl rfl rfl) rfl ?_
      | refine OpM.b (OpOk.lenE D rfl rfl rfl rfl) rfl (by repeat' (first | exact .nil | refine .box rfl ?_ | refine .arr (rs_low _ _ _) ?_ | refine .dead ?_ | fail)) ?_
      | refine OpM.v (OpOk.inc rfl rfl rfl (by omega)) rfl ?_
      | refine OpM.b (OpOk.inc rfl rfl rfl (by omega)) rfl (by repeat' (first | exact .nil | refine .box rfl ?_ | refine .arr (rs_low _ _ _) ?_ | refine .dead ?_ | fail)) ?_
      | refine OpM.v (OpOk.add rfl rfl rfl (by omega)) rfl ?_
      | refine OpM.b (OpOk.add rfl rfl rfl (by omega)) rfl (by repeat' (first | exact .nil | refine .box rfl ?_ | refine .arr (rs_low _ _ _) ?_ | refine .dead ?_ | fail)) ?_
      | refine OpM.v (OpOk.sub rfl rfl rfl (by omega)) rfl ?_
      | refine OpM.b (OpOk.sub rfl rfl rfl (by omega)) rfl (by repeat' (first | exact .nil | refine .box rfl ?_ | refine .arr (rs_low _ _ _) ?_ | refine .dead ?_ | fail)) ?_
      | refine OpM.v (OpOk.ixM D rfl rfl rfl rfl rfl rfl (by first | assumption | omega) (fun _ => rfl)) rfl ?_
      | refine OpM.b (OpOk.ixM D rfl rfl rfl rfl rfl rfl (by first | assumption | omega) (fun _ => rfl)) rfl (by repeat' (first | exact .nil | refine .box rfl ?_ | refine .arr (rs_low _ _ _) ?_ | refine .dead ?_ | fail)) ?_))
      all_goals first
        | (exfalso; omega)
        | (refine ⟨.inr rfl, _, _, rfl, .cons (.c (.id rfl)) .nil, ?_⟩; rw [drop_nil (by omega)] at hy
           simp only [resV, X.v, calm, hc, hup, hbag, hfr, hy]; simp; first | done | (rw [Bool.eq_iff_iff]; simp; omega))
  · refine Pu.of D Tryz.func19 rfl rfl rfl ?_
    repeat' (first
    | (refine WO.id ?_; first
      | refine stp1_ok D rfl ?_
      | refine WO.nil ?_
      | refine WO.g rfl rfl rfl ?_
      | refine WO.g0 rfl ?_
      | (refine WO.gs _ rfl rfl rfl ?_ ?_ <;> intro hb <;> simp only [hb] <;> try simp at hb))
    | (refine OpK.id ?_; first
      | refine OpK.of (OpOk.call rfl (h1) rfl rfl rfl) ?_
      | refine OpK.of (OpOk.lenS D rfl rfl rfl rfl) ?_
      | refine OpK.of (OpOk.lenM D rfl rfl rfl rfl) ?_
      | refine OpK.of (OpOk.lenL D rfl rfl rfl rfl) ?_
      | refine OpK.of (OpOk.lenA D rfl rfl rfl rfl rfl rfl) ?_
      | refine OpK.of (OpOk.lenE D rfl rfl rfl rfl) ?_
      | refine OpK.of (OpOk.inc rfl rfl rfl (by omega)) ?_
      | refine OpK.of (OpOk.add rfl rfl rfl (by omega)) ?_
      | refine OpK.of (OpOk.sub rfl rfl rfl (by omega)) ?_
      | refine OpK.of (OpOk.ixM D rfl rfl rfl rfl rfl rfl (by first | assumption | omega) (fun _ => rfl)) ?_)
    | (refine W.id ?_; first
      | refine W.regs ?_
      | refine W.dv0 mixed rfl (by decide +kernel) ?_
      | refine W.dv1 mixed rfl (by decide +kernel) ?_
      | refine W.dv2 mixed rfl (by decide +kernel) ?_
      | refine W.dm0 mixed rfl (by decide +kernel) (by repeat' (first | exact .nil | refine .box rfl ?_ | refine .arr (rs_low _ _ _) ?_ | refine .dead ?_ | fail)) ?_
      | refine W.dm1 mixed rfl (by decide +kernel) (by repeat' (first | exact .nil | refine .box rfl ?_ | refine .arr (rs_low _ _ _) ?_ | refine .dead ?_ | fail)) ?_
      | refine W.dm2 mixed rfl (by decide +kernel) (by repeat' (first | exact .nil | refine .box rfl ?_ | refine .arr (rs_low _ _ _) ?_ | refine .dead ?_ | fail)) ?_
      | refine W.drws mixed ?_
      | refine W.ret ?_
      | refine W.seq ?_
      | refine W.skip ?_
      | refine W.region ?_
      | refine W.exit ?_
      | refine W.block ?_
      | (refine W.cond rfl ?_ ?_ <;> intro hb <;> try simp at hb)
      | refine W.drawn mixed ?_)
    | (refine Then.id ?_; first
      | refine Then.rn ?_
      | refine Then.rr ?_
      | refine Then.rx ?_)
    | (refine InBlk.id ?_; first
      | refine InBlk.rn ?_
      | refine InBlk.rr ?_
      | refine InBlk.re ?_
      | refine InBlk.rx rfl ?_)
    | (refine WD.id ?_; first
      | refine WD.done rfl ?_
      | refine WD.t rfl ?_ rfl
      | refine WD.g rfl rfl rfl ?_
      | refine WD.u rfl rfl rfl ?_
      | (refine WD.gs _ rfl rfl rfl ?_ ?_ <;> intro hb <;> simp only [hb] <;> try simp at hb))
    | (refine OpD.id ?_; first
      | refine OpD.of (stpR_ok D rfl) ?_
      | refine OpD.of (OpOk.call rfl (h1) rfl rfl rfl) ?_
      | refine OpD.of (OpOk.lenS D rfl rfl rfl rfl) ?_
      | refine OpD.of (OpOk.lenM D rfl rfl rfl rfl) ?_
      | refine OpD.of (OpOk.lenL D rfl rfl rfl rfl) ?_
      | refine OpD.of (OpOk.lenA D rfl rfl rfl rfl rfl rfl) ?_
      | refine OpD.of (OpOk.lenE D rfl rfl rfl rfl) ?_
      | refine OpD.of (OpOk.inc rfl rfl rfl (by omega)) ?_
      | refine OpD.of (OpOk.add rfl rfl rfl (by omega)) ?_
      | refine OpD.of (OpOk.sub rfl rfl rfl (by omega)) ?_
      | refine OpD.of (OpOk.ixM D rfl rfl rfl rfl rfl rfl (by first | assumption | omega) (fun _ => rfl)) ?_)
    | (refine WE.id ?_; first
      | refine WE.done (by with_unfolding_all rfl) ?_
      | refine WE.step (by with_unfolding_all rfl) ?_)
    | (refine WI.id ?_; first
      | refine WI.r D rfl ?_
      | refine WI.g rfl rfl rfl ?_
      | refine WI.g0 rfl ?_
      | (refine WI.gs _ rfl rfl rfl ?_ ?_ <;> intro hb <;> simp only [hb] <;> try simp at hb))
    | (refine WL.id ?_; first
      | refine WL.cons ?_ ?_
      | exact WL.nil
      | exact WL.on (by with_unfolding_all rfl)
      | refine WL.oc (by with_unfolding_all rfl) ?_ ?_)
    | (refine WM.id ?_; first
      | refine .done rfl ?_
      | refine .t rfl ?_ rfl
      | refine WM.g rfl rfl rfl rfl ?_
      | refine .u rfl rfl rfl ?_
      | (refine WM.gs _ rfl rfl rfl ?_ ?_ <;> intro hb <;> simp only [hb] <;> try simp at hb))
    | (refine OpM.id ?_; first
      | refine OpM.v (stpR_ok D rfl) rfl ?_
      | refine OpM.b (stpR_ok D rfl) rfl (by repeat' (first | exact .nil | refine .box rfl ?_ | refine .arr (rs_low _ _ _) ?_ | refine .dead ?_ | fail)) ?_
      | refine OpM.v (OpOk.call rfl (h1) rfl rfl rfl) rfl ?_
      | refine OpM.b (OpOk.call rfl (h1) rfl rfl rfl) rfl (by repeat' (first | exact .nil | refine .box rfl ?_ | refine .arr (rs_low _ _ _) ?_ | refine .dead ?_ | fail)) ?_
      | refine OpM.v (OpOk.lenS D rfl rfl rfl rfl) rfl ?_
      | refine OpM.b (OpOk.lenS D rfl rfl rfl rfl) rfl (by repeat' (first | exact .nil | refine .box rfl ?_ | refine .arr (rs_low _ _ _) ?_ | refine .dead ?_ | fail)) ?_
      | refine OpM.v (OpOk.lenM D rfl rfl rfl rfl) rfl ?_
      | refine OpM.b (OpOk.lenM D rfl rfl rfl rfl) rfl (by repeat' (first | exact .nil | refine .box rfl ?_ | refine .arr (rs_low _ _ _) ?_ | refine .dead ?_ | fail)) ?_
      | refine OpM.v (OpOk.lenL D rfl rfl rfl rfl) rfl ?_
      | refine OpM.b (OpOk.lenL D rfl rfl rfl rfl) rfl (by repeat' (first | exact .nil | refine .box rfl ?_ | refine .arr (rs_low _ _ _) ?_ | refine .dead ?_ | fail)) ?_
      | refine OpM.v (OpOk.lenA D rfl rfl rfl rfl rfl rfl) rfl ?_
      | refine OpM.b (OpOk.lenA D rfl rfl rfl rfl rfl rfl) rfl (by repeat' (first | exact .nil | refine .box rfl ?_ | refine .arr (rs_low _ _ _) ?_ | refine .dead ?_ | fail)) ?_
      | refine OpM.v (OpOk.lenE D rfl rfl rfl rfl) rfl ?_
      | refine OpM.b (OpOk.lenE D rfl rfl rfl rfl) rfl (by repeat' (first | exact .nil | refine .box rfl ?_ | refine .arr (rs_low _ _ _) ?_ | refine .dead ?_ | fail)) ?_
      | refine OpM.v (OpOk.inc rfl rfl rfl (by omega)) rfl ?_
      | refine OpM.b (OpOk.inc rfl rfl rfl (by omega)) rfl (by repeat' (first | exact .nil | refine .box rfl ?_ | refine .arr (rs_low _ _ _) ?_ | refine .dead ?_ | fail)) ?_
      | refine OpM.v (OpOk.add rfl rfl rfl (by omega)) rfl ?_
      | refine OpM.b (OpOk.add rfl rfl rfl (by omega)) rfl (by repeat' (first | exact .nil | refine .box rfl ?_ | refine .arr (rs_low _ _ _) ?_ | refine .dead ?_ | fail)) ?_
      | refine OpM.v (OpOk.sub rfl rfl rfl (by omega)) rfl ?_
      | refine OpM.b (OpOk.sub rfl rfl rfl (by omega)) rfl (by repeat' (first | exact .nil | refine .box rfl ?_ | refine .arr (rs_low _ _ _) ?_ | refine .dead ?_ | fail)) ?_
      | refine OpM.v (OpOk.ixM D rfl rfl rfl rfl rfl rfl (by first | assumption | omega) (fun _ => rfl)) rfl ?_
      | refine OpM.b (OpOk.ixM D rfl rfl rfl rfl rfl rfl (by first | assumption | omega) (fun _ => rfl)) rfl (by repeat' (first | exact .nil | refine .box rfl ?_ | refine .arr (rs_low _ _ _) ?_ | refine .dead ?_ | fail)) ?_))
    all_goals first
      | (exfalso; simp_all; done)
      | (refine ⟨.inr rfl, _, _, rfl, .cons (.c (.id rfl)) .nil, ?_⟩; simp [resV, X.v, calm, hc]; done)
theorem calm_spec (c : Chn) (hs : c.Sm) : Pu Tryz.prog 18 [A c.e] (B (calm c)) := by
  have h1 := chOk_spec c hs
  by_cases hc : chOk c = true
  · rw [hc] at h1
    have d := chOk_d hc
    have hl := d.nodes
    have hul := d.up
    have hml := confOk_mem d.conf
    have h24 := d.ans24
    have hh := hLog_len hc
    have ho := off_spec c hs
    rw [if_pos hc] at ho
    refine Pu.of D Tryz.func18 rfl rfl rfl ?_
    repeat' (first
    | (refine WO.id ?_; first
      | refine stp1_ok D rfl ?_
      | refine WO.nil ?_
      | refine WO.g rfl rfl rfl ?_
      | refine WO.g0 rfl ?_
      | (refine WO.gs _ rfl rfl rfl ?_ ?_ <;> intro hb <;> simp only [hb] <;> try simp at hb))
    | (refine OpK.id ?_; first
      | refine OpK.of (OpOk.call rfl (h1) rfl rfl rfl) ?_
      | refine OpK.of (OpOk.lenS D rfl rfl rfl rfl) ?_
      | refine OpK.of (OpOk.lenM D rfl rfl rfl rfl) ?_
      | refine OpK.of (OpOk.lenL D rfl rfl rfl rfl) ?_
      | refine OpK.of (OpOk.lenA D rfl rfl rfl rfl rfl rfl) ?_
      | refine OpK.of (OpOk.lenE D rfl rfl rfl rfl) ?_
      | refine OpK.of (OpOk.inc rfl rfl rfl (by omega)) ?_
      | refine OpK.of (OpOk.add rfl rfl rfl (by omega)) ?_
      | refine OpK.of (OpOk.sub rfl rfl rfl (by omega)) ?_
      | refine OpK.of (OpOk.ixM D rfl rfl rfl rfl rfl rfl (by first | assumption | omega) (fun _ => rfl)) ?_)
    | (refine W.id ?_; first
      | refine W.regs ?_
      | refine W.dv0 mixed rfl (by decide +kernel) ?_
      | refine W.dv1 mixed rfl (by decide +kernel) ?_
      | refine W.dv2 mixed rfl (by decide +kernel) ?_
      | refine W.dm0 mixed rfl (by decide +kernel) (by repeat' (first | exact .nil | refine .box rfl ?_ | refine .arr (rs_low _ _ _) ?_ | refine .dead ?_ | fail)) ?_
      | refine W.dm1 mixed rfl (by decide +kernel) (by repeat' (first | exact .nil | refine .box rfl ?_ | refine .arr (rs_low _ _ _) ?_ | refine .dead ?_ | fail)) ?_
      | refine W.dm2 mixed rfl (by decide +kernel) (by repeat' (first | exact .nil | refine .box rfl ?_ | refine .arr (rs_low _ _ _) ?_ | refine .dead ?_ | fail)) ?_
      | refine W.drws mixed ?_
      | refine W.ret ?_
      | refine W.seq ?_
      | refine W.skip ?_
      | refine W.region ?_
      | refine W.exit ?_
      | refine W.block ?_
      | (refine W.cond rfl ?_ ?_ <;> intro hb <;> try simp at hb)
      | refine W.drawn mixed ?_)
    | (refine Then.id ?_; first
      | refine Then.rn ?_
      | refine Then.rr ?_
      | refine Then.rx ?_)
    | (refine InBlk.id ?_; first
      | refine InBlk.rn ?_
      | refine InBlk.rr ?_
      | refine InBlk.re ?_
      | refine InBlk.rx rfl ?_)
    | (refine WD.id ?_; first
      | refine WD.done rfl ?_
      | refine WD.t rfl ?_ rfl
      | refine WD.g rfl rfl rfl ?_
      | refine WD.u rfl rfl rfl ?_
      | (refine WD.gs _ rfl rfl rfl ?_ ?_ <;> intro hb <;> simp only [hb] <;> try simp at hb))
    | (refine OpD.id ?_; first
      | refine OpD.of (stpR_ok D rfl) ?_
      | refine OpD.of (OpOk.call rfl (h1) rfl rfl rfl) ?_
      | refine OpD.of (OpOk.lenS D rfl rfl rfl rfl) ?_
      | refine OpD.of (OpOk.lenM D rfl rfl rfl rfl) ?_
      | refine OpD.of (OpOk.lenL D rfl rfl rfl rfl) ?_
      | refine OpD.of (OpOk.lenA D rfl rfl rfl rfl rfl rfl) ?_
      | refine OpD.of (OpOk.lenE D rfl rfl rfl rfl) ?_
      | refine OpD.of (OpOk.inc rfl rfl rfl (by omega)) ?_
      | refine OpD.of (OpOk.add rfl rfl rfl (by omega)) ?_
      | refine OpD.of (OpOk.sub rfl rfl rfl (by omega)) ?_
      | refine OpD.of (OpOk.ixM D rfl rfl rfl rfl rfl rfl (by first | assumption | omega) (fun _ => rfl)) ?_)
    | (refine WE.id ?_; first
      | refine WE.done (by with_unfolding_all rfl) ?_
      | refine WE.step (by with_unfolding_all rfl) ?_)
    | (refine WI.id ?_; first
      | refine WI.r D rfl ?_
      | refine WI.g rfl rfl rfl ?_
      | refine WI.g0 rfl ?_
      | (refine WI.gs _ rfl rfl rfl ?_ ?_ <;> intro hb <;> simp only [hb] <;> try simp at hb))
    | (refine WL.id ?_; first
      | refine WL.cons ?_ ?_
      | exact WL.nil
      | exact WL.on (by with_unfolding_all rfl)
      | refine WL.oc (by with_unfolding_all rfl) ?_ ?_)
    | (refine WM.id ?_; first
      | refine .done rfl ?_
      | refine .t rfl ?_ rfl
      | refine WM.g rfl rfl rfl rfl ?_
      | refine .u rfl rfl rfl ?_
      | (refine WM.gs _ rfl rfl rfl ?_ ?_ <;> intro hb <;> simp only [hb] <;> try simp at hb))
    | (refine OpM.id ?_; first
      | refine OpM.v (stpR_ok D rfl) rfl ?_
      | refine OpM.b (stpR_ok D rfl) rfl (by repeat' (first | exact .nil | refine .box rfl ?_ | refine .arr (rs_low _ _ _) ?_ | refine .dead ?_ | fail)) ?_
      | refine OpM.v (OpOk.call rfl (h1) rfl rfl rfl) rfl ?_
      | refine OpM.b (OpOk.call rfl (h1) rfl rfl rfl) rfl (by repeat' (first | exact .nil | refine .box rfl ?_ | refine .arr (rs_low _ _ _) ?_ | refine .dead ?_ | fail)) ?_
      | refine OpM.v (OpOk.lenS D rfl rfl rfl rfl) rfl ?_
      | refine OpM.b (OpOk.lenS D rfl rfl rfl rfl) rfl (by repeat' (first | exact .nil | refine .box rfl ?_ | refine .arr (rs_low _ _ _) ?_ | refine .dead ?_ | fail)) ?_
      | refine OpM.v (OpOk.lenM D rfl rfl rfl rfl) rfl ?_
      | refine OpM.b (OpOk.lenM D rfl rfl rfl rfl) rfl (by repeat' (first | exact .nil | refine .box rfl ?_ | refine .arr (rs_low _ _ _) ?_ | refine .dead ?_ | fail)) ?_
      | refine OpM.v (OpOk.lenL D rfl rfl rfl rfl) rfl ?_
      | refine OpM.b (OpOk.lenL D rfl rfl rfl rfl) rfl (by repeat' (first | exact .nil | refine .box rfl ?_ | refine .arr (rs_low _ _ _) ?_ | refine .dead ?_ | fail)) ?_
      | refine OpM.v (OpOk.lenA D rfl rfl rfl rfl rfl rfl) rfl ?_
      | refine OpM.b (OpOk.lenA D rfl rfl rfl rfl rfl rfl) rfl (by repeat' (first | exact .nil | refine .box rfl ?_ | refine .arr (rs_low _ _ _) ?_ | refine .dead ?_ | fail)) ?_
      | refine OpM.v (OpOk.lenE D rfl rfl rfl rfl) rfl ?_
      | refine OpM.b (OpOk.lenE D rfl rfl rfl rfl) rfl (by repeat' (first | exact .nil | refine .box rfl ?_ | refine .arr (rs_low _ _ _) ?_ | refine .dead ?_ | fail)) ?_
      | refine OpM.v (OpOk.inc rfl rfl rfl (by omega)) rfl ?_
      | refine OpM.b (OpOk.inc rfl rfl rfl (by omega)) rfl (by repeat' (first | exact .nil | refine .box rfl ?_ | refine .arr (rs_low _ _ _) ?_ | refine .dead ?_ | fail)) ?_
      | refine OpM.v (OpOk.add rfl rfl rfl (by omega)) rfl ?_
      | refine OpM.b (OpOk.add rfl rfl rfl (by omega)) rfl (by repeat' (first | exact .nil | refine .box rfl ?_ | refine .arr (rs_low _ _ _) ?_ | refine .dead ?_ | fail)) ?_
      | refine OpM.v (OpOk.sub rfl rfl rfl (by omega)) rfl ?_
      | refine OpM.b (OpOk.sub rfl rfl rfl (by omega)) rfl (by repeat' (first | exact .nil | refine .box rfl ?_ | refine .arr (rs_low _ _ _) ?_ | refine .dead ?_ | fail)) ?_
      | refine OpM.v (OpOk.ixM D rfl rfl rfl rfl rfl rfl (by first | assumption | omega) (fun _ => rfl)) rfl ?_
      | refine OpM.b (OpOk.ixM D rfl rfl rfl rfl rfl rfl (by first | assumption | omega) (fun _ => rfl)) rfl (by repeat' (first | exact .nil | refine .box rfl ?_ | refine .arr (rs_low _ _ _) ?_ | refine .dead ?_ | fail)) ?_))
    all_goals first
      | (exfalso; simp_all; done)
      | (refine ⟨.inr rfl, _, _, rfl, .cons (.c (.id rfl)) .nil, ?_⟩; simp [resV, X.v, calm, hc, hb]; done)
      | (refine ⟨.inr rfl, _, _, rfl, .cons (.c (.id rfl)) .nil, ?_⟩; have hbg : ¬ c.bag = [] := by (intro e; simp [e] at hb)
         simp [resV, X.v, calm, hbg]; done)
      | (refine ⟨.inr rfl, _, _, rfl, .cons (.c (.id rfl)) .nil, ?_⟩; simp_all [resV, X.v, calm]; done)
      | (refine ⟨.inr rfl, _, _, rfl, .cons (.c (.id rfl)) .nil, ?_⟩; simp_all [resV, X.v, calm, List.length_pos_iff]; done)
      | skip
    have hbag : c.bag = [] := by first | (simp_all; done) | (simp_all [List.length_pos_iff]; done) | (apply List.length_eq_zero_iff.1; omega)
    have hfr : c.conf.fresh = false := by simp_all
    refine W.loop (σ := Nat) (fun k => [(3, I k), (1, .c (.ptr 0 0))]) (fun _ => [.box (tc c.e)]) (fun k => k ≤ 5 ∧ ¬ false ∈ c.up.take k) (fun k => 5 - k) 1 (fun _ _ => rfl) 0 ⟨by simp, by simp⟩ rfl (.cons rfl rfl (.cons rfl rfl (.nil))) ?_
    rintro k ⟨hk1, hup⟩
    repeat' (first
    | (refine WO.id ?_; first
      | refine stp1_ok D rfl ?_
      | refine WO.nil ?_
      | refine WO.g rfl rfl rfl ?_
      | refine WO.g0 rfl ?_
      | (refine WO.gs _ rfl rfl rfl ?_ ?_ <;> intro hb <;> simp only [hb] <;> try simp at hb))
    | (refine OpK.id ?_; first
      | refine OpK.of (OpOk.ixM D rfl rfl rfl rfl rfl rfl (by omega) (fun _ => rfl)) ?_
      | refine OpK.of (OpOk.lenS D rfl rfl rfl rfl) ?_
      | refine OpK.of (OpOk.lenM D rfl rfl rfl rfl) ?_
      | refine OpK.of (OpOk.lenL D rfl rfl rfl rfl) ?_
      | refine OpK.of (OpOk.lenA D rfl rfl rfl rfl rfl rfl) ?_
      | refine OpK.of (OpOk.lenE D rfl rfl rfl rfl) ?_
      | refine OpK.of (OpOk.inc rfl rfl rfl (by omega)) ?_
      | refine OpK.of (OpOk.add rfl rfl rfl (by omega)) ?_
      | refine OpK.of (OpOk.sub rfl rfl rfl (by omega)) ?_
      | refine OpK.of (OpOk.ixM D rfl rfl rfl rfl rfl rfl (by first | assumption | omega) (fun _ => rfl)) ?_)
    | (refine W.id ?_; first
      | refine W.regs ?_
      | refine W.dv0 mixed rfl (by decide +kernel) ?_
      | refine W.dv1 mixed rfl (by decide +kernel) ?_
      | refine W.dv2 mixed rfl (by decide +kernel) ?_
      | refine W.dm0 mixed rfl (by decide +kernel) (by repeat' (first | exact .nil | refine .box rfl ?_ | refine .arr (rs_low _ _ _) ?_ | refine .dead ?_ | fail)) ?_
      | refine W.dm1 mixed rfl (by decide +kernel) (by repeat' (first | exact .nil | refine .box rfl ?_ | refine .arr (rs_low _ _ _) ?_ | refine .dead ?_ | fail)) ?_
      | refine W.dm2 mixed rfl (by decide +kernel) (by repeat' (first | exact .nil | refine .box rfl ?_ | refine .arr (rs_low _ _ _) ?_ | refine .dead ?_ | fail)) ?_
      | refine W.drws mixed ?_
      | refine W.ret ?_
      | refine W.seq ?_
      | refine W.skip ?_
      | refine W.region ?_
      | refine W.exit ?_
      | refine W.block ?_
      | (refine W.cond rfl ?_ ?_ <;> intro hb <;> try simp at hb)
      | refine W.drawn mixed ?_)
    | (refine Then.id ?_; first
      | refine Then.rn ?_
      | refine Then.rr ?_
      | refine Then.rx ?_)
    | (refine InBlk.id ?_; first
      | refine InBlk.rn ?_
      | refine InBlk.rr ?_
      | refine InBlk.re ?_
      | refine InBlk.rx rfl ?_)
    | (refine WD.id ?_; first
      | refine WD.done rfl ?_
      | refine WD.t rfl ?_ rfl
      | refine WD.g rfl rfl rfl ?_
      | refine WD.u rfl rfl rfl ?_
      | (refine WD.gs _ rfl rfl rfl ?_ ?_ <;> intro hb <;> simp only [hb] <;> try simp at hb))
    | (refine OpD.id ?_; first
      | refine OpD.of (stpR_ok D rfl) ?_
      | refine OpD.of (OpOk.ixM D rfl rfl rfl rfl rfl rfl (by omega) (fun _ => rfl)) ?_
      | refine OpD.of (OpOk.lenS D rfl rfl rfl rfl) ?_
      | refine OpD.of (OpOk.lenM D rfl rfl rfl rfl) ?_
      | refine OpD.of (OpOk.lenL D rfl rfl rfl rfl) ?_
      | refine OpD.of (OpOk.lenA D rfl rfl rfl rfl rfl rfl) ?_
      | refine OpD.of (OpOk.lenE D rfl rfl rfl rfl) ?_
      | refine OpD.of (OpOk.inc rfl rfl rfl (by omega)) ?_
      | refine OpD.of (OpOk.add rfl rfl rfl (by omega)) ?_
      | refine OpD.of (OpOk.sub rfl rfl rfl (by omega)) ?_
      | refine OpD.of (OpOk.ixM D rfl rfl rfl rfl rfl rfl (by first | assumption | omega) (fun _ => rfl)) ?_)
    | (refine WE.id ?_; first
      | refine WE.done (by with_unfolding_all rfl) ?_
      | refine WE.step (by with_unfolding_all rfl) ?_)
    | (refine WI.id ?_; first
      | refine WI.r D rfl ?_
      | refine WI.g rfl rfl rfl ?_
      | refine WI.g0 rfl ?_
      | (refine WI.gs _ rfl rfl rfl ?_ ?_ <;> intro hb <;> simp only [hb] <;> try simp at hb))
    | (refine WL.id ?_; first
      | refine WL.cons ?_ ?_
      | exact WL.nil
      | exact WL.on (by with_unfolding_all rfl)
      | refine WL.oc (by with_unfolding_all rfl) ?_ ?_)
    | (refine WM.id ?_; first
      | refine .done rfl ?_
      | refine .t rfl ?_ rfl
      | refine WM.g rfl rfl rfl rfl ?_
      | refine .u rfl rfl rfl ?_
      | (refine WM.gs _ rfl rfl rfl ?_ ?_ <;> intro hb <;> simp only [hb] <;> try simp at hb))
    | (refine OpM.id ?_; first
      | refine OpM.v (stpR_ok D rfl) rfl ?_
      | refine OpM.b (stpR_ok D rfl) rfl (by repeat' (first | exact .nil | refine .box rfl ?_ | refine .arr (rs_low _ _ _) ?_ | refine .dead ?_ | fail)) ?_
      | refine OpM.v (OpOk.ixM D rfl rfl rfl rfl rfl rfl (by omega) (fun _ => rfl)) rfl ?_
      | refine OpM.b (OpOk.ixM D rfl rfl rfl rfl rfl rfl (by omega) (fun _ => rfl)) rfl (by repeat' (first | exact .nil | refine .box rfl ?_ | refine .arr (rs_low _ _ _) ?_ | refine .dead ?_ | fail)) ?_
      | refine OpM.v (OpOk.lenS D rfl rfl rfl rfl) rfl ?_
      | refine OpM.b (OpOk.lenS D rfl rfl rfl rfl) rfl (by repeat' (first | exact .nil | refine .box rfl ?_ | refine .arr (rs_low _ _ _) ?_ | refine .dead ?_ | fail)) ?_
      | refine OpM.v (OpOk.lenM D rfl rfl rfl rfl) rfl ?_
      | refine OpM.b (OpOk.lenM D rfl rfl rfl rfl) rfl (by repeat' (first | exact .nil | refine .box rfl ?_ | refine .arr (rs_low _ _ _) ?_ | refine .dead ?_ | fail)) ?_
      | refine OpM.v (OpOk.lenL D rfl rfl rfl rfl) rfl ?_
      | refine OpM.b (OpOk.lenL D rfl rfl rfl rfl) rfl (by repeat' (first | exact .nil | refine .box rfl ?_ | refine .arr (rs_low _ _ _) ?_ | refine .dead ?_ | fail)) ?_
      | refine OpM.v (OpOk.lenA D rfl rfl rfl rfl rfl rfl) rfl ?_
      | refine OpM.b (OpOk.lenA D rfl rfl rfl rfl rfl rfl) rfl (by repeat' (first | exact .nil | refine .box rfl ?_ | refine .arr (rs_low _ _ _) ?_ | refine .dead ?_ | fail)) ?_
      | refine OpM.v (OpOk.lenE D rfl rfl rfl rfl) rfl ?_
      | refine OpM.b (OpOk.lenE D rfl rfl rfl rfl) rfl (by repeat' (first | exact .nil | refine .box rfl ?_ | refine .arr (rs_low _ _ _) ?_ | refine .dead ?_ | fail)) ?_
      | refine OpM.v (OpOk.inc rfl rfl rfl (by omega)) rfl ?_
      | refine OpM.b (OpOk.inc rfl rfl rfl (by omega)) rfl (by repeat' (first | exact .nil | refine .box rfl ?_ | refine .arr (rs_low _ _ _) ?_ | refine .dead ?_ | fail)) ?_
      | refine OpM.v (OpOk.add rfl rfl rfl (by omega)) rfl ?_
      | refine OpM.b (OpOk.add rfl rfl rfl (by omega)) rfl (by repeat' (first | exact .nil | refine .box rfl ?_ | refine .arr (rs_low _ _ _) ?_ | refine .dead ?_ | fail)) ?_
      | refine OpM.v (OpOk.sub rfl rfl rfl (by omega)) rfl ?_
      | refine OpM.b (OpOk.sub rfl rfl rfl (by omega)) rfl (by repeat' (first | exact .nil | refine .box rfl ?_ | refine .arr (rs_low _ _ _) ?_ | refine .dead ?_ | fail)) ?_
      | refine OpM.v (OpOk.ixM D rfl rfl rfl rfl rfl rfl (by first | assumption | omega) (fun _ => rfl)) rfl ?_
      | refine OpM.b (OpOk.ixM D rfl rfl rfl rfl rfl rfl (by first | assumption | omega) (fun _ => rfl)) rfl (by repeat' (first | exact .nil | refine .box rfl ?_ | refine .arr (rs_low _ _ _) ?_ | refine .dead ?_ | fail)) ?_))
    · have hk5 : k < c.up.length := by omega
      have hm : false ∈ c.up := by have h2 : c.up[k] = false := by simpa using hb
                                   rw [← h2]; exact List.getElem_mem hk5
      refine ⟨.inr rfl, _, _, rfl, .cons (.c (.id rfl)) .nil, ?_⟩; simp [resV, X.v, calm, hm]; done
    · have hk5 : k < c.up.length := by omega
      refine ⟨k + 1, ⟨by omega, ?_⟩, by omega, (.cons rfl rfl (.cons rfl rfl (.nil))), rfl, rfl⟩
      rw [List.take_succ_eq_append_getElem hk5]
      simp only [List.mem_append, List.mem_singleton, not_or]
      exact ⟨hup, by simpa using hb⟩
    rw [List.take_of_length_le (by omega)] at hup
    repeat' (first
    | (refine WO.id ?_; first
      | refine stp1_ok D rfl ?_
      | refine WO.nil ?_
      | refine WO.g rfl rfl rfl ?_
      | refine WO.g0 rfl ?_
      | (refine WO.gs _ rfl rfl rfl ?_ ?_ <;> intro hb <;> simp only [hb] <;> try simp at hb))
    | (refine OpK.id ?_; first
      | refine OpK.of (OpOk.call rfl (ho) rfl rfl rfl) ?_
      | refine OpK.of (OpOk.lenS D rfl rfl rfl rfl) ?_
      | refine OpK.of (OpOk.lenM D rfl rfl rfl rfl) ?_
      | refine OpK.of (OpOk.lenL D rfl rfl rfl rfl) ?_
      | refine OpK.of (OpOk.lenA D rfl rfl rfl rfl rfl rfl) ?_
      | refine OpK.of (OpOk.lenE D rfl rfl rfl rfl) ?_
      | refine OpK.of (OpOk.inc rfl rfl rfl (by omega)) ?_
      | refine OpK.of (OpOk.add rfl rfl rfl (by omega)) ?_
      | refine OpK.of (OpOk.sub rfl rfl rfl (by omega)) ?_
      | refine OpK.of (OpOk.ixM D rfl rfl rfl rfl rfl rfl (by first | assumption | omega) (fun _ => rfl)) ?_)
    | (refine W.id ?_; first
      | refine W.regs ?_
      | refine W.dv0 mixed rfl (by decide +kernel) ?_
      | refine W.dv1 mixed rfl (by decide +kernel) ?_
      | refine W.dv2 mixed rfl (by decide +kernel) ?_
      | refine W.dm0 mixed rfl (by decide +kernel) (by repeat' (first | exact .nil | refine .box rfl ?_ | refine .arr (rs_low _ _ _) ?_ | refine .dead ?_ | fail)) ?_
      | refine W.dm1 mixed rfl (by decide +kernel) (by repeat' (first | exact .nil | refine .box rfl ?_ | refine .arr (rs_low _ _ _) ?_ | refine .dead ?_ | fail)) ?_
      | refine W.dm2 mixed rfl (by decide +kernel) (by repeat' (first | exact .nil | refine .box rfl ?_ | refine .arr (rs_low _ _ _) ?_ | refine .dead ?_ | fail)) ?_
      | refine W.drws mixed ?_
      | refine W.ret ?_
      | refine W.seq ?_
      | refine W.skip ?_
      | refine W.region ?_
      | refine W.exit ?_
      | refine W.block ?_
      | (refine W.cond rfl ?_ ?_ <;> intro hb <;> try simp at hb)
      | refine W.drawn mixed ?_)
    | (refine Then.id ?_; first
      | refine Then.rn ?_
      | refine Then.rr ?_
      | refine Then.rx ?_)
    | (refine InBlk.id ?_; first
      | refine InBlk.rn ?_
      | refine InBlk.rr ?_
      | refine InBlk.re ?_
      | refine InBlk.rx rfl ?_)
    | (refine WD.id ?_; first
      | refine WD.done rfl ?_
      | refine WD.t rfl ?_ rfl
      | refine WD.g rfl rfl rfl ?_
      | refine WD.u rfl rfl rfl ?_
      | (refine WD.gs _ rfl rfl rfl ?_ ?_ <;> intro hb <;> simp only [hb] <;> try simp at hb))
    | (refine OpD.id ?_; first
      | refine OpD.of (stpR_ok D rfl) ?_
      | refine OpD.of (OpOk.call rfl (ho) rfl rfl rfl) ?_
      | refine OpD.of (OpOk.lenS D rfl rfl rfl rfl) ?_
      | refine OpD.of (OpOk.lenM D rfl rfl rfl rfl) ?_
      | refine OpD.of (OpOk.lenL D rfl rfl rfl rfl) ?_
      | refine OpD.of (OpOk.lenA D rfl rfl rfl rfl rfl rfl) ?_
      | refine OpD.of (OpOk.lenE D rfl rfl rfl rfl) ?_
      | refine OpD.of (OpOk.inc rfl rfl rfl (by omega)) ?_
      | refine OpD.of (OpOk.add rfl rfl rfl (by omega)) ?_
      | refine OpD.of (OpOk.sub rfl rfl rfl (by omega)) ?_
      | refine OpD.of (OpOk.ixM D rfl rfl rfl rfl rfl rfl (by first | assumption | omega) (fun _ => rfl)) ?_)
    | (refine WE.id ?_; first
      | refine WE.done (by with_unfolding_all rfl) ?_
      | refine WE.step (by with_unfolding_all rfl) ?_)
    | (refine WI.id ?_; first
      | refine WI.r D rfl ?_
      | refine WI.g rfl rfl rfl ?_
      | refine WI.g0 rfl ?_
      | (refine WI.gs _ rfl rfl rfl ?_ ?_ <;> intro hb <;> simp only [hb] <;> try simp at hb))
    | (refine WL.id ?_; first
      | refine WL.cons ?_ ?_
      | exact WL.nil
      | exact WL.on (by with_unfolding_all rfl)
      | refine WL.oc (by with_unfolding_all rfl) ?_ ?_)
    | (refine WM.id ?_; first
      | refine .done rfl ?_
      | refine .t rfl ?_ rfl
      | refine WM.g rfl rfl rfl rfl ?_
      | refine .u rfl rfl rfl ?_
      | (refine WM.gs _ rfl rfl rfl ?_ ?_ <;> intro hb <;> simp only [hb] <;> try simp at hb))
    | (refine OpM.id ?_; first
      | refine OpM.v (stpR_ok D rfl) rfl ?_
      | refine OpM.b (stpR_ok D rfl) rfl (by repeat' (first | exact .nil | refine .box rfl ?_ | refine .arr (rs_low _ _ _) ?_ | refine .dead ?_ | fail)) ?_
      | refine OpM.v (OpOk.call rfl (ho) rfl rfl rfl) rfl ?_
      | refine OpM.b (OpOk.call rfl (ho) rfl rfl rfl) rfl (by repeat' (first | exact .nil | refine .box rfl ?_ | refine .arr (rs_low _ _ _) ?_ | refine .dead ?_ | fail)) ?_
      | refine OpM.v (OpOk.lenS D rfl rfl rfl rfl) rfl ?_
      | refine OpM.b (OpOk.lenS D rfl rfl rfl rfl) rfl (by repeat' (first | exact .nil | refine .box rfl ?_ | refine .arr (rs_low _ _ _) ?_ | refine .dead ?_ | fail)) ?_
      | refine OpM.v (OpOk.lenM D rfl rfl rfl rfl) rfl ?_
      | refine OpM.b (OpOk.lenM D rfl rfl rfl rfl) rfl (by repeat' (first | exact .nil | refine .box rfl ?_ | refine .arr (rs_low _ _ _) ?_ | refine .dead ?_ | fail)) ?_
      | refine OpM.v (OpOk.lenL D rfl rfl rfl rfl) rfl ?_
      | refine OpM.b (OpOk.lenL D rfl rfl rfl rfl) rfl (by repeat' (first | exact .nil | refine .box rfl ?_ | refine .arr (rs_low _ _ _) ?_ | refine .dead ?_ | fail)) ?_
      | refine OpM.v (OpOk.lenA D rfl rfl rfl rfl rfl rfl) rfl ?_
      | refine OpM.b (OpOk.lenA D rfl rfl rfl rfl rfl rfl) rfl (by repeat' (first | exact .nil | refine .box rfl ?_ | refine .arr (rs_low _ _ _) ?_ | refine .dead ?_ | fail)) ?_
      | refine OpM.v (OpOk.lenE D rfl rfl rfl rfl) rfl ?_
      | refine OpM.b (OpOk.lenE D rfl rfl rfl rfl) rfl (by repeat' (first | exact .nil | refine .box rfl ?_ | refine .arr (rs_low _ _ _) ?_ | refine .dead ?_ | fail)) ?_
      | refine OpM.v (OpOk.inc rfl rfl rfl (by omega)) rfl ?_
      | refine OpM.b (OpOk.inc rfl rfl rfl (by omega)) rfl (by repeat' (first | exact .nil | refine .box rfl ?_ | refine .arr (rs_low _ _ _) ?_ | refine .dead ?_ | fail)) ?_
      | refine OpM.v (OpOk.add rfl rfl rfl (by omega)) rfl ?_
      | refine OpM.b (OpOk.add rfl rfl rfl (by omega)) rfl (by repeat' (first | exact .nil | refine .box rfl ?_ | refine .arr (rs_low _ _ _) ?_ | refine .dead ?_ | fail)) ?_
      | refine OpM.v (OpOk.sub rfl rfl rfl (by omega)) rfl ?_
      | refine OpM.b (OpOk.sub rfl rfl rfl (by omega)) rfl (by repeat' (first | exact .nil | refine .box rfl ?_ | refine .arr (rs_low _ _ _) ?_ | refine .dead ?_ | fail)) ?_
      | refine OpM.v (OpOk.ixM D rfl rfl rfl rfl rfl rfl (by first | assumption | omega) (fun _ => rfl)) rfl ?_
      | refine OpM.b (OpOk.ixM D rfl rfl rfl rfl rfl rfl (by first | assumption | omega) (fun _ => rfl)) rfl (by repeat' (first | exact .nil | refine .box rfl ?_ | refine .arr (rs_low _ _ _) ?_ | refine .dead ?_ | fail)) ?_))
    refine W.loop (σ := Nat) (fun k => [(5, I k), (4, L Ent.e (hLog c)), (1, .c (.ptr 0 0))]) (fun _ => [.box (tc c.e)]) (fun k => k ≤ c.conf.mem.length ∧ c.conf.mem.all (calmAt c) = (c.conf.mem.drop k).all (calmAt c)) (fun k => c.conf.mem.length - k) 1 (fun _ _ => rfl) 0 ⟨by simp, by simp⟩ rfl (.cons rfl rfl (.cons rfl rfl (.cons rfl rfl (.nil)))) ?_
    rintro k ⟨hk1, hy⟩
    by_cases hlt : k < c.conf.mem.length
    · have hk0 := confOk_at d.conf k hlt
      have hn5 : (c.conf.mem[k]).toNat < c.nodes.length := by rw [hl]; exact hk0.2
      have hn := nodeAt_eq hn5
      have hsm := hs.nodes _ (List.getElem_mem hn5)
      have hpe := pre_eq (c.nodes[(c.conf.mem[k]).toNat]'hn5).log (hLog c)
      have hln := hsm.logN
      rw [drop_cons hlt, List.all_cons] at hy
      repeat' (first
    | (refine WO.id ?_; first
      | refine stp1_ok D rfl ?_
      | refine WO.nil ?_
      | refine WO.g rfl rfl rfl ?_
      | refine WO.g0 rfl ?_
      | (refine WO.gs _ rfl rfl rfl ?_ ?_ <;> intro hb <;> simp only [hb] <;> try simp at hb))
    | (refine OpK.id ?_; first
      | refine OpK.of (OpOk.ixI D rfl rfl rfl rfl rfl rfl hk0.1 hn5 (fun _ => rfl)) ?_
      | refine OpK.of (OpOk.call rfl (same_ok (c.nodes[(c.conf.mem[k]).toNat]'hn5).conf.mem c.conf.mem hsm.conf.memN) rfl rfl rfl) ?_
      | refine OpK.of (OpOk.call rfl (pre_spec (c.nodes[(c.conf.mem[k]).toNat]'hn5).log (hLog c) hsm.logN (by omega)) rfl rfl rfl) ?_
      | refine OpK.of (OpOk.lenS D rfl rfl rfl rfl) ?_
      | refine OpK.of (OpOk.lenM D rfl rfl rfl rfl) ?_
      | refine OpK.of (OpOk.lenL D rfl rfl rfl rfl) ?_
      | refine OpK.of (OpOk.lenA D rfl rfl rfl rfl rfl rfl) ?_
      | refine OpK.of (OpOk.lenE D rfl rfl rfl rfl) ?_
      | refine OpK.of (OpOk.inc rfl rfl rfl (by omega)) ?_
      | refine OpK.of (OpOk.add rfl rfl rfl (by omega)) ?_
      | refine OpK.of (OpOk.sub rfl rfl rfl (by omega)) ?_
      | refine OpK.of (OpOk.ixM D rfl rfl rfl rfl rfl rfl (by first | assumption | omega) (fun _ => rfl)) ?_)
    | (refine W.id ?_; first
      | refine W.regs ?_
      | refine W.dv0 mixed rfl (by decide +kernel) ?_
      | refine W.dv1 mixed rfl (by decide +kernel) ?_
      | refine W.dv2 mixed rfl (by decide +kernel) ?_
      | refine W.dm0 mixed rfl (by decide +kernel) (by repeat' (first | exact .nil | refine .box rfl ?_ | refine .arr (rs_low _ _ _) ?_ | refine .dead ?_ | fail)) ?_
      | refine W.dm1 mixed rfl (by decide +kernel) (by repeat' (first | exact .nil | refine .box rfl ?_ | refine .arr (rs_low _ _ _) ?_ | refine .dead ?_ | fail)) ?_
      | refine W.dm2 mixed rfl (by decide +kernel) (by repeat' (first | exact .nil | refine .box rfl ?_ | refine .arr (rs_low _ _ _) ?_ | refine .dead ?_ | fail)) ?_
      | refine W.drws mixed ?_
      | refine W.ret ?_
      | refine W.seq ?_
      | refine W.skip ?_
      | refine W.region ?_
      | refine W.exit ?_
      | refine W.block ?_
      | (refine W.cond rfl ?_ ?_ <;> intro hb <;> try simp at hb)
      | refine W.drawn mixed ?_)
    | (refine Then.id ?_; first
      | refine Then.rn ?_
      | refine Then.rr ?_
      | refine Then.rx ?_)
    | (refine InBlk.id ?_; first
      | refine InBlk.rn ?_
      | refine InBlk.rr ?_
      | refine InBlk.re ?_
      | refine InBlk.rx rfl ?_)
    | (refine WD.id ?_; first
      | refine WD.done rfl ?_
      | refine WD.t rfl ?_ rfl
      | refine WD.g rfl rfl rfl ?_
      | refine WD.u rfl rfl rfl ?_
      | (refine WD.gs _ rfl rfl rfl ?_ ?_ <;> intro hb <;> simp only [hb] <;> try simp at hb))
    | (refine OpD.id ?_; first
      | refine OpD.of (stpR_ok D rfl) ?_
      | refine OpD.of (OpOk.ixI D rfl rfl rfl rfl rfl rfl hk0.1 hn5 (fun _ => rfl)) ?_
      | refine OpD.of (OpOk.call rfl (same_ok (c.nodes[(c.conf.mem[k]).toNat]'hn5).conf.mem c.conf.mem hsm.conf.memN) rfl rfl rfl) ?_
      | refine OpD.of (OpOk.call rfl (pre_spec (c.nodes[(c.conf.mem[k]).toNat]'hn5).log (hLog c) hsm.logN (by omega)) rfl rfl rfl) ?_
      | refine OpD.of (OpOk.lenS D rfl rfl rfl rfl) ?_
      | refine OpD.of (OpOk.lenM D rfl rfl rfl rfl) ?_
      | refine OpD.of (OpOk.lenL D rfl rfl rfl rfl) ?_
      | refine OpD.of (OpOk.lenA D rfl rfl rfl rfl rfl rfl) ?_
      | refine OpD.of (OpOk.lenE D rfl rfl rfl rfl) ?_
      | refine OpD.of (OpOk.inc rfl rfl rfl (by omega)) ?_
      | refine OpD.of (OpOk.add rfl rfl rfl (by omega)) ?_
      | refine OpD.of (OpOk.sub rfl rfl rfl (by omega)) ?_
      | refine OpD.of (OpOk.ixM D rfl rfl rfl rfl rfl rfl (by first | assumption | omega) (fun _ => rfl)) ?_)
    | (refine WE.id ?_; first
      | refine WE.done (by with_unfolding_all rfl) ?_
      | refine WE.step (by with_unfolding_all rfl) ?_)
    | (refine WI.id ?_; first
      | refine WI.r D rfl ?_
      | refine WI.g rfl rfl rfl ?_
      | refine WI.g0 rfl ?_
      | (refine WI.gs _ rfl rfl rfl ?_ ?_ <;> intro hb <;> simp only [hb] <;> try simp at hb))
    | (refine WL.id ?_; first
      | refine WL.cons ?_ ?_
      | exact WL.nil
      | exact WL.on (by with_unfolding_all rfl)
      | refine WL.oc (by with_unfolding_all rfl) ?_ ?_)
    | (refine WM.id ?_; first
      | refine .done rfl ?_
      | refine .t rfl ?_ rfl
      | refine WM.g rfl rfl rfl rfl ?_
      | refine .u rfl rfl rfl ?_
      | (refine WM.gs _ rfl rfl rfl ?_ ?_ <;> intro hb <;> simp only [hb] <;> try simp at hb))
    | (refine OpM.id ?_; first
      | refine OpM.v (stpR_ok D rfl) rfl ?_
      | refine OpM.b (stpR_ok D rfl) rfl (by repeat' (first | exact .nil | refine .box rfl ?_ | refine .arr (rs_low _ _ _) ?_ | refine .dead ?_ | fail)) ?_
      | refine OpM.v (OpOk.ixI D rfl rfl rfl rfl rfl rfl hk0.1 hn5 (fun _ => rfl)) rfl ?_
      | refine OpM.b (OpOk.ixI D rfl rfl rfl rfl rfl rfl hk0.1 hn5 (fun _ => rfl)) rfl (by repeat' (first | exact .nil | refine .box rfl ?_ | refine .arr (rs_low _ _ _) ?_ | refine .dead ?_ | fail)) ?_
      | refine OpM.v (OpOk.call rfl (same_ok (c.nodes[(c.conf.mem[k]).toNat]'hn5).conf.mem c.conf.mem hsm.conf.memN) rfl rfl rfl) rfl ?_
      | refine OpM.b (OpOk.call rfl (same_ok (c.nodes[(c.conf.mem[k]).toNat]'hn5).conf.mem c.conf.mem hsm.conf.memN) rfl rfl rfl) rfl (by repeat' (first | exact .nil | refine .box rfl ?_ | refine .arr (rs_low _ _ _) ?_ | refine .dead ?_ | fail)) ?_
      | refine OpM.v (OpOk.call rfl (pre_spec (c.nodes[(c.conf.mem[k]).toNat]'hn5).log (hLog c) hsm.logN (by omega)) rfl rfl rfl) rfl ?_
      | refine OpM.b (OpOk.call rfl (pre_spec (c.nodes[(c.conf.mem[k]).toNat]'hn5).log (hLog c) hsm.logN (by omega)) rfl rfl rfl) rfl (by repeat' (first | exact .nil | refine .box rfl ?_ | refine .arr (rs_low _ _ _) ?_ | refine .dead ?_ | fail)) ?_
      | refine OpM.v (OpOk.lenS D rfl rfl rfl rfl) rfl ?_
      | refine OpM.b (OpOk.lenS D rfl rfl rfl rfl) rfl (by repeat' (first | exact .nil | refine .box rfl ?_ | refine .arr (rs_low _ _ _) ?_ | refine .dead ?_ | fail)) ?_
      | refine OpM.v (OpOk.lenM D rfl rfl rfl rfl) rfl ?_
      | refine OpM.b (OpOk.lenM D rfl rfl rfl rfl) rfl (by repeat' (first | exact .nil | refine .box rfl ?_ | refine .arr (rs_low _ _ _) ?_ | refine .dead ?_ | fail)) ?_
      | refine OpM.v (OpOk.lenL D rfl rfl rfl rfl) rfl ?_
      | refine OpM.b (OpOk.lenL D rfl rfl rfl rfl) rfl (by repeat' (first | exact .nil | refine .box rfl ?_ | refine .arr (rs_low _ _ _) ?_ | refine .dead ?_ | fail)) ?_
      | refine OpM.v (OpOk.lenA D rfl rfl rfl rfl rfl rfl) rfl ?_
      | refine OpM.b (OpOk.lenA D rfl rfl rfl rfl rfl rfl) rfl (by repeat' (first | exact .nil | refine .box rfl ?_ | refine .arr (rs_low _ _ _) ?_ | refine .dead ?_ | fail)) ?_
      | refine OpM.v (OpOk.lenE D rfl rfl rfl rfl) rfl ?_
      | refine OpM.b (OpOk.lenE D rfl rfl rfl rfl) rfl (by repeat' (first | exact .nil | refine .box rfl ?_ | refine .arr (rs_low _ _ _) ?_ | refine .dead ?_ | fail)) ?_
      | refine OpM.v (OpOk.inc rfl rfl rfl (by omega)) rfl ?_
      | refine OpM.b (OpOk.inc rfl rfl rfl (by omega)) rfl (by repeat' (first | exact .nil | refine .box rfl ?_ | refine .arr (rs_low _ _ _) ?_ | refine .dead ?_ | fail)) ?_
      | refine OpM.v (OpOk.add rfl rfl rfl (by omega)) rfl ?_
      | refine OpM.b (OpOk.add rfl rfl rfl (by omega)) rfl (by repeat' (first | exact .nil | refine .box rfl ?_ | refine .arr (rs_low _ _ _) ?_ | refine .dead ?_ | fail)) ?_
      | refine OpM.v (OpOk.sub rfl rfl rfl (by omega)) rfl ?_
      | refine OpM.b (OpOk.sub rfl rfl rfl (by omega)) rfl (by repeat' (first | exact .nil | refine .box rfl ?_ | refine .arr (rs_low _ _ _) ?_ | refine .dead ?_ | fail)) ?_
      | refine OpM.v (OpOk.ixM D rfl rfl rfl rfl rfl rfl (by first | assumption | omega) (fun _ => rfl)) rfl ?_
      | refine OpM.b (OpOk.ixM D rfl rfl rfl rfl rfl rfl (by first | assumption | omega) (fun _ => rfl)) rfl (by repeat' (first | exact .nil | refine .box rfl ?_ | refine .arr (rs_low _ _ _) ?_ | refine .dead ?_ | fail)) ?_))
      all_goals first
        | (exfalso; omega)
        | (have hb2 : calmAt c c.conf.mem[k] = false := by unfold calmAt; rw [hn, ← hpe]; first | (simp_all; done) | (simp at *; grind)
           rw [hb2, Bool.false_and] at hy
           refine ⟨.inr rfl, _, _, rfl, .cons (.c (.id rfl)) .nil, ?_⟩; simp [resV, X.v, calm, hy]; done)
        | (have hb2 : calmAt c c.conf.mem[k] = true := by unfold calmAt; rw [hn, ← hpe]; first | (simp_all; done) | (simp at *; grind)
           rw [hb2, Bool.true_and] at hy
           exact ⟨k + 1, ⟨by omega, hy⟩, by omega, (.cons rfl rfl (.cons rfl rfl (.cons rfl rfl (.nil)))), rfl, rfl⟩)
    · repeat' (first
    | (refine WO.id ?_; first
      | refine stp1_ok D rfl ?_
      | refine WO.nil ?_
      | refine WO.g rfl rfl rfl ?_
      | refine WO.g0 rfl ?_
      | (refine WO.gs _ rfl rfl rfl ?_ ?_ <;> intro hb <;> simp only [hb] <;> try simp at hb))
    | (refine OpK.id ?_; first
      | refine OpK.of (OpOk.lenS D rfl rfl rfl rfl) ?_
      | refine OpK.of (OpOk.lenM D rfl rfl rfl rfl) ?_
      | refine OpK.of (OpOk.lenL D rfl rfl rfl rfl) ?_
      | refine OpK.of (OpOk.lenA D rfl rfl rfl rfl rfl rfl) ?_
      | refine OpK.of (OpOk.lenE D rfl rfl rfl rfl) ?_
      | refine OpK.of (OpOk.inc rfl rfl rfl (by omega)) ?_
      | refine OpK.of (OpOk.add rfl rfl rfl (by omega)) ?_
      | refine OpK.of (OpOk.sub rfl rfl rfl (by omega)) ?_
      | refine OpK.of (OpOk.ixM D rfl rfl rfl rfl rfl rfl (by first | assumption | omega) (fun _ => rfl)) ?_)
    | (refine W.id ?_; first
      | refine W.regs ?_
      | refine W.dv0 mixed rfl (by decide +kernel) ?_
      | refine W.dv1 mixed rfl (by decide +kernel) ?_
      | refine W.dv2 mixed rfl (by decide +kernel) ?_
      | refine W.dm0 mixed rfl (by decide +kernel) (by repeat' (first | exact .nil | refine .box rfl ?_ | refine .arr (rs_low _ _ _) ?_ | refine .dead ?_ | fail)) ?_
      | refine W.dm1 mixed rfl (by decide +kernel) (by repeat' (first | exact .nil | refine .box rfl ?_ | refine .arr (rs_low _ _ _) ?_ | refine .dead ?_ | fail)) ?_
      | refine W.dm2 mixed rfl (by decide +kernel) (by repeat' (first | exact .nil | refine .box rfl ?_ | refine .arr (rs_low _ _ _) ?_ | refine .dead ?_ | fail)) ?_
      | refine W.drws mixed ?_
      | refine W.ret ?_
      | refine W.seq ?_
      | refine W.skip ?_
      | refine W.region ?_
      | refine W.exit ?_
      | refine W.block ?_
      | (refine W.cond rfl ?_ ?_ <;> intro hb <;> try simp at hb)
      | refine W.drawn mixed ?_)
    | (refine Then.id ?_; first
      | refine Then.rn ?_
      | refine Then.rr ?_
      | refine Then.rx ?_)
    | (refine InBlk.id ?_; first
      | refine InBlk.rn ?_
      | refine InBlk.rr ?_
      | refine InBlk.re ?_
      | refine InBlk.rx rfl ?_)
    | (refine WD.id ?_; first
      | refine WD.done rfl ?_
      | refine WD.t rfl ?_ rfl
      | refine WD.g rfl rfl rfl ?_
      | refine WD.u rfl rfl rfl ?_
      | (refine WD.gs _ rfl rfl rfl ?_ ?_ <;> intro hb <;> simp only [hb] <;> try simp at hb))
    | (refine OpD.id ?_; first
      | refine OpD.of (stpR_ok D rfl) ?_
      | refine OpD.of (OpOk.lenS D rfl rfl rfl rfl) ?_
      | refine OpD.of (OpOk.lenM D rfl rfl rfl rfl) ?_
      | refine OpD.of (OpOk.lenL D rfl rfl rfl rfl) ?_
      | refine OpD.of (OpOk.lenA D rfl rfl rfl rfl rfl rfl) ?_
      | refine OpD.of (OpOk.lenE D rfl rfl rfl rfl) ?_
      | refine OpD.of (OpOk.inc rfl rfl rfl (by omega)) ?_
      | refine OpD.of (OpOk.add rfl rfl rfl (by omega)) ?_
      | refine OpD.of (OpOk.sub rfl rfl rfl (by omega)) ?_
      | refine OpD.of (OpOk.ixM D rfl rfl rfl rfl rfl rfl (by first | assumption | omega) (fun _ => rfl)) ?_)
    | (refine WE.id ?_; first
      | refine WE.done (by with_unfolding_all rfl) ?_
      | refine WE.step (by with_unfolding_all rfl) ?_)
    | (refine WI.id ?_; first
      | refine WI.r D rfl ?_
      | refine WI.g rfl rfl rfl ?_
      | refine WI.g0 rfl ?_
      | (refine WI.gs _ rfl rfl rfl ?_ ?_ <;> intro hb <;> simp only [hb] <;> try simp at hb))
    | (refine WL.id ?_; first
      | refine WL.cons ?_ ?_
      | exact WL.nil
      | exact WL.on (by with_unfolding_all rfl)
      | refine WL.oc (by with_unfolding_all rfl) ?_ ?_)
    | (refine WM.id ?_; first
      | refine .done rfl ?_
      | refine .t rfl ?_ rfl
      | refine WM.g rfl rfl rfl rfl ?_
      | refine .u rfl rfl rfl ?_
      | (refine WM.gs _ rfl rfl rfl ?_ ?_ <;> intro hb <;> simp only [hb] <;> try simp at hb))
    | (refine OpM.id ?_; first
      | refine OpM.v (stpR_ok D rfl) rfl ?_
      | refine OpM.b (stpR_ok D rfl) rfl (by repeat' (first | exact .nil | refine .box rfl ?_ | refine .arr (rs_low _ _ _) ?_ | refine .dead ?_ | fail)) ?_
      | refine OpM.v (OpOk.lenS D rfl rfl rfl rfl) rfl ?_
      | refine OpM.b (OpOk.lenS D rfl rfl rfl rfl) rfl (by repeat' (first | exact .nil | refine .box rfl ?_ | refine .arr (rs_low _ _ _) ?_ | refine .dead ?_ | fail)) ?_
      | refine OpM.v (OpOk.lenM D rfl rfl rfl rfl) rfl ?_
      | refine OpM.b (OpOk.lenM D rfl rfl rfl rfl) rfl (by repeat' (first | exact .nil | refine .box rfl ?_ | refine .arr (rs_low _ _ _) ?_ | refine .dead ?_ | fail)) ?_
      | refine OpM.v (OpOk.lenL D rfl rfl rfl rfl) rfl ?_
      | refine OpM.b (OpOk.lenL D rfl rfl rfl rfl) rfl (by repeat' (first | exact .nil | refine .box rfl ?_ | refine .arr (rs_low _ _ _) ?_ | refine .dead ?_ | fail)) ?_
      | refine OpM.v (OpOk.lenA D rfl rfl rfl rfl rfl rfl) rfl ?_
      | refine OpM.b (OpOk.lenA D rfl rfl rfl rfl rfl rfl) rfl (by repeat' (first | exact .nil | refine .box rfl ?_ | refine .arr (rs_low _ _ _) ?_ | refine .dead ?_ | fail)) ?_
      | refine OpM.v (OpOk.lenE D rfl rfl rfl rfl) rfl ?_
      | refine OpM.b (OpOk.lenE D rfl rfl rfl rfl) rfl (by repeat' (first | exact .nil | refine .box rfl ?_ | refine .arr (rs_low _ _ _) ?_ | refine .dead ?_ | fail)) ?_
      | refine OpM.v (OpOk.inc rfl rfl rfl (by omega)) rfl ?_
      | refine OpM.b (OpOk.inc rfl rfl rfl (by omega)) rfl (by repeat' (first | exact .nil | refine .box rfl ?_ | refine .arr (rs_low _ _ _) ?_ | refine .dead ?_ | fail)) ?_
      | refine OpM.v (OpOk.add rfl rfl rfl (by omega)) rfl ?_
      | refine OpM.b (OpOk.add rfl rfl rfl (by omega)) rfl (by repeat' (first | exact .nil | refine .box rfl ?_ | refine .arr (rs_low _ _ _) ?_ | refine .dead ?_ | fail)) ?_
      | refine OpM.v (OpOk.sub rfl rfl rfl (by omega)) rfl ?_
      | refine OpM.b (OpOk.sub rfl rfl rfl (by omega)) rfl (by repeat' (first | exact .nil | refine .box rfl ?_ | refine .arr (rs_low _ _ _) ?_ | refine .dead ?_ | fail)) ?_
      | refine OpM.v (OpOk.ixM D rfl rfl rfl rfl rfl rfl (by first | assumption | omega) (fun _ => rfl)) rfl ?_
      | refine OpM.b (OpOk.ixM D rfl rfl rfl rfl rfl rfl (by first | assumption | omega) (fun _ => rfl)) rfl (by repeat' (first | exact .nil | refine .box rfl ?_ | refine .arr (rs_low _ _ _) ?_ | refine .dead ?_ | fail)) ?_))
      all_goals first
        | (exfalso; omega)
        | (refine ⟨.inr rfl, _, _, rfl, .cons (.c (.id rfl)) .nil, ?_⟩; rw [drop_nil (by omega)] at hy
           simp only [resV, X.v, calm, hc, hup, hbag, hfr, hy]; simp; first | done | (rw [Bool.eq_iff_iff]; simp; omega))
  · refine Pu.of D Tryz.func18 rfl rfl rfl ?_
    repeat' (first
    | (refine WO.id ?_; first
      | refine stp1_ok D rfl ?_
      | refine WO.nil ?_
      | refine WO.g rfl rfl rfl ?_
      | refine WO.g0 rfl ?_
      | (refine WO.gs _ rfl rfl rfl ?_ ?_ <;> intro hb <;> simp only [hb] <;> try simp at hb))
    | (refine OpK.id ?_; first
      | refine OpK.of (OpOk.call rfl (h1) rfl rfl rfl) ?_
      | refine OpK.of (OpOk.lenS D rfl rfl rfl rfl) ?_
      | refine OpK.of (OpOk.lenM D rfl rfl rfl rfl) ?_
      | refine OpK.of (OpOk.lenL D rfl rfl rfl rfl) ?_
      | refine OpK.of (OpOk.lenA D rfl rfl rfl rfl rfl rfl) ?_
      | refine OpK.of (OpOk.lenE D rfl rfl rfl rfl) ?_
      | refine OpK.of (OpOk.inc rfl rfl rfl (by omega)) ?_
      | refine OpK.of (OpOk.add rfl rfl rfl (by omega)) ?_
      | refine OpK.of (OpOk.sub rfl rfl rfl (by omega)) ?_
      | refine OpK.of (OpOk.ixM D rfl rfl rfl rfl rfl rfl (by first | assumption | omega) (fun _ => rfl)) ?_)
    | (refine W.id ?_; first
      | refine W.regs ?_
      | refine W.dv0 mixed rfl (by decide +kernel) ?_
      | refine W.dv1 mixed rfl (by decide +kernel) ?_
      | refine W.dv2 mixed rfl (by decide +kernel) ?_
      | refine W.dm0 mixed rfl (by decide +kernel) (by repeat' (first | exact .nil | refine .box rfl ?_ | refine .arr (rs_low _ _ _) ?_ | refine .dead ?_ | fail)) ?_
      | refine W.dm1 mixed rfl (by decide +kernel) (by repeat' (first | exact .nil | refine .box rfl ?_ | refine .arr (rs_low _ _ _) ?_ | refine .dead ?_ | fail)) ?_
      | refine W.dm2 mixed rfl (by decide +kernel) (by repeat' (first | exact .nil | refine .box rfl ?_ | refine .arr (rs_low _ _ _) ?_ | refine .dead ?_ | fail)) ?_
      | refine W.drws mixed ?_
      | refine W.ret ?_
      | refine W.seq ?_
      | refine W.skip ?_
      | refine W.region ?_
      | refine W.exit ?_
      | refine W.block ?_
      | (refine W.cond rfl ?_ ?_ <;> intro hb <;> try simp at hb)
      | refine W.drawn mixed ?_)
    | (refine Then.id ?_; first
      | refine Then.rn ?_
      | refine Then.rr ?_
      | refine Then.rx ?_)
    | (refine InBlk.id ?_; first
      | refine InBlk.rn ?_
      | refine InBlk.rr ?_
      | refine InBlk.re ?_
      | refine InBlk.rx rfl ?_)
    | (refine WD.id ?_; first
      | refine WD.done rfl ?_
      | refine WD.t rfl ?_ rfl
      | refine WD.g rfl rfl rfl ?_
      | refine WD.u rfl rfl rfl ?_
      | (refine WD.gs _ rfl rfl rfl ?_ ?_ <;> intro hb <;> simp only [hb] <;> try simp at hb))
    | (refine OpD.id ?_; first
      | refine OpD.of (stpR_ok D rfl) ?_
      | refine OpD.of (OpOk.call rfl (h1) rfl rfl rfl) ?_
      | refine OpD.of (OpOk.lenS D rfl rfl rfl rfl) ?_
      | refine OpD.of (OpOk.lenM D rfl rfl rfl rfl) ?_
      | refine OpD.of (OpOk.lenL D rfl rfl rfl rfl) ?_
      | refine OpD.of (OpOk.lenA D rfl rfl rfl rfl rfl rfl) ?_
      | refine OpD.of (OpOk.lenE D rfl rfl rfl rfl) ?_
      | refine OpD.of (OpOk.inc rfl rfl rfl (by omega)) ?_
      | refine OpD.of (OpOk.add rfl rfl rfl (by omega)) ?_
      | refine OpD.of (OpOk.sub rfl rfl rfl (by omega)) ?_
      | refine OpD.of (OpOk.ixM D rfl rfl rfl rfl rfl rfl (by first | assumption | omega) (fun _ => rfl)) ?_)
    | (refine WE.id ?_; first
      | refine WE.done (by with_unfolding_all rfl) ?_
      | refine WE.step (by with_unfolding_all rfl) ?_)
    | (refine WI.id ?_; first
      | refine WI.r D rfl ?_
      | refine WI.g rfl rfl rfl ?_
      | refine WI.g0 rfl ?_
      | (refine WI.gs _ rfl rfl rfl ?_ ?_ <;> intro hb <;> simp only [hb] <;> try simp at hb))
    | (refine WL.id ?_; first
      | refine WL.cons ?_ ?_
      | exact WL.nil
      | exact WL.on (by with_unfolding_all rfl)
      | refine WL.oc (by with_unfolding_all rfl) ?_ ?_)
    | (refine WM.id ?_; first
      | refine .done rfl ?_
      | refine .t rfl ?_ rfl
      | refine WM.g rfl rfl rfl rfl ?_
      | refine .u rfl rfl rfl ?_
      | (refine WM.gs _ rfl rfl rfl ?_ ?_ <;> intro hb <;> simp only [hb] <;> try simp at hb))
    | (refine OpM.id ?_; first
      | refine OpM.v (stpR_ok D rfl) rfl ?_
      | refine OpM.b (stpR_ok D rfl) rfl (by repeat' (first | exact .nil | refine .box rfl ?_ | refine .arr (rs_low _ _ _) ?_ | refine .dead ?_ | fail)) ?_
      | refine OpM.v (OpOk.call rfl (h1) rfl rfl rfl) rfl ?_
      | refine OpM.b (OpOk.call rfl (h1) rfl rfl rfl) rfl (by repeat' (first | exact .nil | refine .box rfl ?_ | refine .arr (rs_low _ _ _) ?_ | refine .dead ?_ | fail)) ?_
      | refine OpM.v (OpOk.lenS D rfl rfl rfl rfl) rfl ?_
      | refine OpM.b (OpOk.lenS D rfl rfl rfl rfl) rfl (by repeat' (first | exact .nil | refine .box rfl ?_ | refine .arr (rs_low _ _ _) ?_ | refine .dead ?_ | fail)) ?_
      | refine OpM.v (OpOk.lenM D rfl rfl rfl rfl) rfl ?_
      | refine OpM.b (OpOk.lenM D rfl rfl rfl rfl) rfl (by repeat' (first | exact .nil | refine .box rfl ?_ | refine .arr (rs_low _ _ _) ?_ | refine .dead ?_ | fail)) ?_
      | refine OpM.v (OpOk.lenL D rfl rfl rfl rfl) rfl ?_
      | refine OpM.b (OpOk.lenL D rfl rfl rfl rfl) rfl (by repeat' (first | exact .nil | refine .box rfl ?_ | refine .arr (rs_low _ _ _) ?_ | refine .dead ?_ | fail)) ?_
      | refine OpM.v (OpOk.lenA D rfl rfl rfl rfl rfl rfl) rfl ?_
      | refine OpM.b (OpOk.lenA D rfl rfl rfl rfl rfl rfl) rfl (by repeat' (first | exact .nil | refine .box rfl ?_ | refine .arr (rs_low _ _ _) ?_ | refine .dead ?_ | fail)) ?_
      | refine OpM.v (OpOk.lenE D rfl rfl rfl rfl) rfl ?_
      | refine OpM.b (OpOk.lenE D rfl rfl rfl rfl) rfl (by repeat' (first | exact .nil | refine .box rfl ?_ | refine .arr (rs_low _ _ _) ?_ | refine .dead ?_ | fail)) ?_
      | refine OpM.v (OpOk.inc rfl rfl rfl (by omega)) rfl ?_
      | refine OpM.b (OpOk.inc rfl rfl rfl (by omega)) rfl (by repeat' (first | exact .nil | refine .box rfl ?_ | refine .arr (rs_low _ _ _) ?_ | refine .dead ?_ | fail)) ?_
      | refine OpM.v (OpOk.add rfl rfl rfl (by omega)) rfl ?_
      | refine OpM.b (OpOk.add rfl rfl rfl (by omega)) rfl (by repeat' (first | exact .nil | refine .box rfl ?_ | refine .arr (rs_low _ _ _) ?_ | refine .dead ?_ | fail)) ?_
      | refine OpM.v (OpOk.sub rfl rfl rfl (by omega)) rfl ?_
      | refine OpM.b (OpOk.sub rfl rfl rfl (by omega)) rfl (by repeat' (first | exact .nil | refine .box rfl ?_ | refine .arr (rs_low _ _ _) ?_ | refine .dead ?_ | fail)) ?_
      | refine OpM.v (OpOk.ixM D rfl rfl rfl rfl rfl rfl (by first | assumption | omega) (fun _ => rfl)) rfl ?_
      | refine OpM.b (OpOk.ixM D rfl rfl rfl rfl rfl rfl (by first | assumption | omega) (fun _ => rfl)) rfl (by repeat' (first | exact .nil | refine .box rfl ?_ | refine .arr (rs_low _ _ _) ?_ | refine .dead ?_ | fail)) ?_))
    all_goals first
      | (exfalso; simp_all; done)
      | (refine ⟨.inr rfl, _, _, rfl, .cons (.c (.id rfl)) .nil, ?_⟩; simp [resV, X.v, calm, hc]; done)
theorem law_calm (c : Chn) (fc : c.Fit) : Pu Tryz.prog 4 [A c.e] (B true) := by
  refine Pu.of D Tryz.func4 rfl rfl rfl ?_
  repeat' (first
    | (refine WO.id ?_; first
      | refine stp1_ok D rfl ?_
      | refine WO.nil ?_
      | refine WO.g rfl rfl rfl ?_
      | refine WO.g0 rfl ?_
      | (refine WO.gs _ rfl rfl rfl ?_ ?_ <;> intro hb <;> simp only [hb] <;> try simp at hb))
    | (refine OpK.id ?_; first
      | refine OpK.of (OpOk.call rfl (Chn.sz_ok c fc 1048576 (by omega) (by omega)) rfl rfl rfl) ?_
      | refine OpK.of (OpOk.lenS D rfl rfl rfl rfl) ?_
      | refine OpK.of (OpOk.lenM D rfl rfl rfl rfl) ?_
      | refine OpK.of (OpOk.lenL D rfl rfl rfl rfl) ?_
      | refine OpK.of (OpOk.lenA D rfl rfl rfl rfl rfl rfl) ?_
      | refine OpK.of (OpOk.lenE D rfl rfl rfl rfl) ?_
      | refine OpK.of (OpOk.inc rfl rfl rfl (by omega)) ?_
      | refine OpK.of (OpOk.add rfl rfl rfl (by omega)) ?_
      | refine OpK.of (OpOk.sub rfl rfl rfl (by omega)) ?_
      | refine OpK.of (OpOk.ixM D rfl rfl rfl rfl rfl rfl (by first | assumption | omega) (fun _ => rfl)) ?_)
    | (refine W.id ?_; first
      | refine W.regs ?_
      | refine W.dv0 mixed rfl (by decide +kernel) ?_
      | refine W.dv1 mixed rfl (by decide +kernel) ?_
      | refine W.dv2 mixed rfl (by decide +kernel) ?_
      | refine W.dm0 mixed rfl (by decide +kernel) (by repeat' (first | exact .nil | refine .box rfl ?_ | refine .arr (rs_low _ _ _) ?_ | refine .dead ?_ | fail)) ?_
      | refine W.dm1 mixed rfl (by decide +kernel) (by repeat' (first | exact .nil | refine .box rfl ?_ | refine .arr (rs_low _ _ _) ?_ | refine .dead ?_ | fail)) ?_
      | refine W.dm2 mixed rfl (by decide +kernel) (by repeat' (first | exact .nil | refine .box rfl ?_ | refine .arr (rs_low _ _ _) ?_ | refine .dead ?_ | fail)) ?_
      | refine W.drws mixed ?_
      | refine W.ret ?_
      | refine W.seq ?_
      | refine W.skip ?_
      | refine W.region ?_
      | refine W.exit ?_
      | refine W.block ?_
      | (refine W.cond rfl ?_ ?_ <;> intro hb <;> try simp at hb)
      | refine W.drawn mixed ?_)
    | (refine Then.id ?_; first
      | refine Then.rn ?_
      | refine Then.rr ?_
      | refine Then.rx ?_)
    | (refine InBlk.id ?_; first
      | refine InBlk.rn ?_
      | refine InBlk.rr ?_
      | refine InBlk.re ?_
      | refine InBlk.rx rfl ?_)
    | (refine WD.id ?_; first
      | refine WD.done rfl ?_
      | refine WD.t rfl ?_ rfl
      | refine WD.g rfl rfl rfl ?_
      | refine WD.u rfl rfl rfl ?_
      | (refine WD.gs _ rfl rfl rfl ?_ ?_ <;> intro hb <;> simp only [hb] <;> try simp at hb))
    | (refine OpD.id ?_; first
      | refine OpD.of (stpR_ok D rfl) ?_
      | refine OpD.of (OpOk.call rfl (Chn.sz_ok c fc 1048576 (by omega) (by omega)) rfl rfl rfl) ?_
      | refine OpD.of (OpOk.lenS D rfl rfl rfl rfl) ?_
      | refine OpD.of (OpOk.lenM D rfl rfl rfl rfl) ?_
      | refine OpD.of (OpOk.lenL D rfl rfl rfl rfl) ?_
      | refine OpD.of (OpOk.lenA D rfl rfl rfl rfl rfl rfl) ?_
      | refine OpD.of (OpOk.lenE D rfl rfl rfl rfl) ?_
      | refine OpD.of (OpOk.inc rfl rfl rfl (by omega)) ?_
      | refine OpD.of (OpOk.add rfl rfl rfl (by omega)) ?_
      | refine OpD.of (OpOk.sub rfl rfl rfl (by omega)) ?_
      | refine OpD.of (OpOk.ixM D rfl rfl rfl rfl rfl rfl (by first | assumption | omega) (fun _ => rfl)) ?_)
    | (refine WE.id ?_; first
      | refine WE.done (by with_unfolding_all rfl) ?_
      | refine WE.step (by with_unfolding_all rfl) ?_)
    | (refine WI.id ?_; first
      | refine WI.r D rfl ?_
      | refine WI.g rfl rfl rfl ?_
      | refine WI.g0 rfl ?_
      | (refine WI.gs _ rfl rfl rfl ?_ ?_ <;> intro hb <;> simp only [hb] <;> try simp at hb))
    | (refine WL.id ?_; first
      | refine WL.cons ?_ ?_
      | exact WL.nil
      | exact WL.on (by with_unfolding_all rfl)
      | refine WL.oc (by with_unfolding_all rfl) ?_ ?_)
    | (refine WM.id ?_; first
      | refine .done rfl ?_
      | refine .t rfl ?_ rfl
      | refine WM.g rfl rfl rfl rfl ?_
      | refine .u rfl rfl rfl ?_
      | (refine WM.gs _ rfl rfl rfl ?_ ?_ <;> intro hb <;> simp only [hb] <;> try simp at hb))
    | (refine OpM.id ?_; first
      | refine OpM.v (stpR_ok D rfl) rfl ?_
      | refine OpM.b (stpR_ok D rfl) rfl (by repeat' (first | exact .nil | refine .box rfl ?_ | refine .arr (rs_low _ _ _) ?_ | refine .dead ?_ | fail)) ?_
      | refine OpM.v (OpOk.call rfl (Chn.sz_ok c fc 1048576 (by omega) (by omega)) rfl rfl rfl) rfl ?_
      | refine OpM.b (OpOk.call rfl (Chn.sz_ok c fc 1048576 (by omega) (by omega)) rfl rfl rfl) rfl (by repeat' (first | exact .nil | refine .box rfl ?_ | refine .arr (rs_low _ _ _) ?_ | refine .dead ?_ | fail)) ?_
      | refine OpM.v (OpOk.lenS D rfl rfl rfl rfl) rfl ?_
      | refine OpM.b (OpOk.lenS D rfl rfl rfl rfl) rfl (by repeat' (first | exact .nil | refine .box rfl ?_ | refine .arr (rs_low _ _ _) ?_ | refine .dead ?_ | fail)) ?_
      | refine OpM.v (OpOk.lenM D rfl rfl rfl rfl) rfl ?_
      | refine OpM.b (OpOk.lenM D rfl rfl rfl rfl) rfl (by repeat' (first | exact .nil | refine .box rfl ?_ | refine .arr (rs_low _ _ _) ?_ | refine .dead ?_ | fail)) ?_
      | refine OpM.v (OpOk.lenL D rfl rfl rfl rfl) rfl ?_
      | refine OpM.b (OpOk.lenL D rfl rfl rfl rfl) rfl (by repeat' (first | exact .nil | refine .box rfl ?_ | refine .arr (rs_low _ _ _) ?_ | refine .dead ?_ | fail)) ?_
      | refine OpM.v (OpOk.lenA D rfl rfl rfl rfl rfl rfl) rfl ?_
      | refine OpM.b (OpOk.lenA D rfl rfl rfl rfl rfl rfl) rfl (by repeat' (first | exact .nil | refine .box rfl ?_ | refine .arr (rs_low _ _ _) ?_ | refine .dead ?_ | fail)) ?_
      | refine OpM.v (OpOk.lenE D rfl rfl rfl rfl) rfl ?_
      | refine OpM.b (OpOk.lenE D rfl rfl rfl rfl) rfl (by repeat' (first | exact .nil | refine .box rfl ?_ | refine .arr (rs_low _ _ _) ?_ | refine .dead ?_ | fail)) ?_
      | refine OpM.v (OpOk.inc rfl rfl rfl (by omega)) rfl ?_
      | refine OpM.b (OpOk.inc rfl rfl rfl (by omega)) rfl (by repeat' (first | exact .nil | refine .box rfl ?_ | refine .arr (rs_low _ _ _) ?_ | refine .dead ?_ | fail)) ?_
      | refine OpM.v (OpOk.add rfl rfl rfl (by omega)) rfl ?_
      | refine OpM.b (OpOk.add rfl rfl rfl (by omega)) rfl (by repeat' (first | exact .nil | refine .box rfl ?_ | refine .arr (rs_low _ _ _) ?_ | refine .dead ?_ | fail)) ?_
      | refine OpM.v (OpOk.sub rfl rfl rfl (by omega)) rfl ?_
      | refine OpM.b (OpOk.sub rfl rfl rfl (by omega)) rfl (by repeat' (first | exact .nil | refine .box rfl ?_ | refine .arr (rs_low _ _ _) ?_ | refine .dead ?_ | fail)) ?_
      | refine OpM.v (OpOk.ixM D rfl rfl rfl rfl rfl rfl (by first | assumption | omega) (fun _ => rfl)) rfl ?_
      | refine OpM.b (OpOk.ixM D rfl rfl rfl rfl rfl rfl (by first | assumption | omega) (fun _ => rfl)) rfl (by repeat' (first | exact .nil | refine .box rfl ?_ | refine .arr (rs_low _ _ _) ?_ | refine .dead ?_ | fail)) ?_))
  all_goals first | (refine ⟨.inr rfl, _, _, rfl, .cons (.c (.id rfl)) .nil, ?_⟩; rfl) | skip
  have s1 := Chn.sz_sm c (x := 1048576) (by omega) (by omega) hb
  repeat' (first
    | (refine WO.id ?_; first
      | refine stp1_ok D rfl ?_
      | refine WO.nil ?_
      | refine WO.g rfl rfl rfl ?_
      | refine WO.g0 rfl ?_
      | (refine WO.gs _ rfl rfl rfl ?_ ?_ <;> intro hb <;> simp only [hb] <;> try simp at hb))
    | (refine OpK.id ?_; first
      | refine OpK.of (OpOk.call rfl (Chn.to_ok c s1) rfl rfl rfl) ?_
      | refine OpK.of (OpOk.call rfl (calm_spec c s1) rfl rfl rfl) ?_
      | refine OpK.of (OpOk.call rfl (calm_impl c s1) rfl rfl rfl) ?_
      | refine OpK.of (OpOk.call rfl (Chn.eq_ok c c s1) rfl rfl rfl) ?_
      | refine OpK.of (OpOk.lenS D rfl rfl rfl rfl) ?_
      | refine OpK.of (OpOk.lenM D rfl rfl rfl rfl) ?_
      | refine OpK.of (OpOk.lenL D rfl rfl rfl rfl) ?_
      | refine OpK.of (OpOk.lenA D rfl rfl rfl rfl rfl rfl) ?_
      | refine OpK.of (OpOk.lenE D rfl rfl rfl rfl) ?_
      | refine OpK.of (OpOk.inc rfl rfl rfl (by omega)) ?_
      | refine OpK.of (OpOk.add rfl rfl rfl (by omega)) ?_
      | refine OpK.of (OpOk.sub rfl rfl rfl (by omega)) ?_
      | refine OpK.of (OpOk.ixM D rfl rfl rfl rfl rfl rfl (by first | assumption | omega) (fun _ => rfl)) ?_)
    | (refine W.id ?_; first
      | refine W.regs ?_
      | refine W.dv0 mixed rfl (by decide +kernel) ?_
      | refine W.dv1 mixed rfl (by decide +kernel) ?_
      | refine W.dv2 mixed rfl (by decide +kernel) ?_
      | refine W.dm0 mixed rfl (by decide +kernel) (by repeat' (first | exact .nil | refine .box rfl ?_ | refine .arr (rs_low _ _ _) ?_ | refine .dead ?_ | fail)) ?_
      | refine W.dm1 mixed rfl (by decide +kernel) (by repeat' (first | exact .nil | refine .box rfl ?_ | refine .arr (rs_low _ _ _) ?_ | refine .dead ?_ | fail)) ?_
      | refine W.dm2 mixed rfl (by decide +kernel) (by repeat' (first | exact .nil | refine .box rfl ?_ | refine .arr (rs_low _ _ _) ?_ | refine .dead ?_ | fail)) ?_
      | refine W.drws mixed ?_
      | refine W.ret ?_
      | refine W.seq ?_
      | refine W.skip ?_
      | refine W.region ?_
      | refine W.exit ?_
      | refine W.block ?_
      | (refine W.cond rfl ?_ ?_ <;> intro hb <;> try simp at hb)
      | refine W.drawn mixed ?_)
    | (refine Then.id ?_; first
      | refine Then.rn ?_
      | refine Then.rr ?_
      | refine Then.rx ?_)
    | (refine InBlk.id ?_; first
      | refine InBlk.rn ?_
      | refine InBlk.rr ?_
      | refine InBlk.re ?_
      | refine InBlk.rx rfl ?_)
    | (refine WD.id ?_; first
      | refine WD.done rfl ?_
      | refine WD.t rfl ?_ rfl
      | refine WD.g rfl rfl rfl ?_
      | refine WD.u rfl rfl rfl ?_
      | (refine WD.gs _ rfl rfl rfl ?_ ?_ <;> intro hb <;> simp only [hb] <;> try simp at hb))
    | (refine OpD.id ?_; first
      | refine OpD.of (stpR_ok D rfl) ?_
      | refine OpD.of (OpOk.call rfl (Chn.to_ok c s1) rfl rfl rfl) ?_
      | refine OpD.of (OpOk.call rfl (calm_spec c s1) rfl rfl rfl) ?_
      | refine OpD.of (OpOk.call rfl (calm_impl c s1) rfl rfl rfl) ?_
      | refine OpD.of (OpOk.call rfl (Chn.eq_ok c c s1) rfl rfl rfl) ?_
      | refine OpD.of (OpOk.lenS D rfl rfl rfl rfl) ?_
      | refine OpD.of (OpOk.lenM D rfl rfl rfl rfl) ?_
      | refine OpD.of (OpOk.lenL D rfl rfl rfl rfl) ?_
      | refine OpD.of (OpOk.lenA D rfl rfl rfl rfl rfl rfl) ?_
      | refine OpD.of (OpOk.lenE D rfl rfl rfl rfl) ?_
      | refine OpD.of (OpOk.inc rfl rfl rfl (by omega)) ?_
      | refine OpD.of (OpOk.add rfl rfl rfl (by omega)) ?_
      | refine OpD.of (OpOk.sub rfl rfl rfl (by omega)) ?_
      | refine OpD.of (OpOk.ixM D rfl rfl rfl rfl rfl rfl (by first | assumption | omega) (fun _ => rfl)) ?_)
    | (refine WE.id ?_; first
      | refine WE.done (by with_unfolding_all rfl) ?_
      | refine WE.step (by with_unfolding_all rfl) ?_)
    | (refine WI.id ?_; first
      | refine WI.r D rfl ?_
      | refine WI.g rfl rfl rfl ?_
      | refine WI.g0 rfl ?_
      | (refine WI.gs _ rfl rfl rfl ?_ ?_ <;> intro hb <;> simp only [hb] <;> try simp at hb))
    | (refine WL.id ?_; first
      | refine WL.cons ?_ ?_
      | exact WL.nil
      | exact WL.on (by with_unfolding_all rfl)
      | refine WL.oc (by with_unfolding_all rfl) ?_ ?_)
    | (refine WM.id ?_; first
      | refine .done rfl ?_
      | refine .t rfl ?_ rfl
      | refine WM.g rfl rfl rfl rfl ?_
      | refine .u rfl rfl rfl ?_
      | (refine WM.gs _ rfl rfl rfl ?_ ?_ <;> intro hb <;> simp only [hb] <;> try simp at hb))
    | (refine OpM.id ?_; first
      | refine OpM.v (stpR_ok D rfl) rfl ?_
      | refine OpM.b (stpR_ok D rfl) rfl (by repeat' (first | exact .nil | refine .box rfl ?_ | refine .arr (rs_low _ _ _) ?_ | refine .dead ?_ | fail)) ?_
      | refine OpM.v (OpOk.call rfl (Chn.to_ok c s1) rfl rfl rfl) rfl ?_
      | refine OpM.b (OpOk.call rfl (Chn.to_ok c s1) rfl rfl rfl) rfl (by repeat' (first | exact .nil | refine .box rfl ?_ | refine .arr (rs_low _ _ _) ?_ | refine .dead ?_ | fail)) ?_
      | refine OpM.v (OpOk.call rfl (calm_spec c s1) rfl rfl rfl) rfl ?_
      | refine OpM.b (OpOk.call rfl (calm_spec c s1) rfl rfl rfl) rfl (by repeat' (first | exact .nil | refine .box rfl ?_ | refine .arr (rs_low _ _ _) ?_ | refine .dead ?_ | fail)) ?_
      | refine OpM.v (OpOk.call rfl (calm_impl c s1) rfl rfl rfl) rfl ?_
      | refine OpM.b (OpOk.call rfl (calm_impl c s1) rfl rfl rfl) rfl (by repeat' (first | exact .nil | refine .box rfl ?_ | refine .arr (rs_low _ _ _) ?_ | refine .dead ?_ | fail)) ?_
      | refine OpM.v (OpOk.call rfl (Chn.eq_ok c c s1) rfl rfl rfl) rfl ?_
      | refine OpM.b (OpOk.call rfl (Chn.eq_ok c c s1) rfl rfl rfl) rfl (by repeat' (first | exact .nil | refine .box rfl ?_ | refine .arr (rs_low _ _ _) ?_ | refine .dead ?_ | fail)) ?_
      | refine OpM.v (OpOk.lenS D rfl rfl rfl rfl) rfl ?_
      | refine OpM.b (OpOk.lenS D rfl rfl rfl rfl) rfl (by repeat' (first | exact .nil | refine .box rfl ?_ | refine .arr (rs_low _ _ _) ?_ | refine .dead ?_ | fail)) ?_
      | refine OpM.v (OpOk.lenM D rfl rfl rfl rfl) rfl ?_
      | refine OpM.b (OpOk.lenM D rfl rfl rfl rfl) rfl (by repeat' (first | exact .nil | refine .box rfl ?_ | refine .arr (rs_low _ _ _) ?_ | refine .dead ?_ | fail)) ?_
      | refine OpM.v (OpOk.lenL D rfl rfl rfl rfl) rfl ?_
      | refine OpM.b (OpOk.lenL D rfl rfl rfl rfl) rfl (by repeat' (first | exact .nil | refine .box rfl ?_ | refine .arr (rs_low _ _ _) ?_ | refine .dead ?_ | fail)) ?_
      | refine OpM.v (OpOk.lenA D rfl rfl rfl rfl rfl rfl) rfl ?_
      | refine OpM.b (OpOk.lenA D rfl rfl rfl rfl rfl rfl) rfl (by repeat' (first | exact .nil | refine .box rfl ?_ | refine .arr (rs_low _ _ _) ?_ | refine .dead ?_ | fail)) ?_
      | refine OpM.v (OpOk.lenE D rfl rfl rfl rfl) rfl ?_
      | refine OpM.b (OpOk.lenE D rfl rfl rfl rfl) rfl (by repeat' (first | exact .nil | refine .box rfl ?_ | refine .arr (rs_low _ _ _) ?_ | refine .dead ?_ | fail)) ?_
      | refine OpM.v (OpOk.inc rfl rfl rfl (by omega)) rfl ?_
      | refine OpM.b (OpOk.inc rfl rfl rfl (by omega)) rfl (by repeat' (first | exact .nil | refine .box rfl ?_ | refine .arr (rs_low _ _ _) ?_ | refine .dead ?_ | fail)) ?_
      | refine OpM.v (OpOk.add rfl rfl rfl (by omega)) rfl ?_
      | refine OpM.b (OpOk.add rfl rfl rfl (by omega)) rfl (by repeat' (first | exact .nil | refine .box rfl ?_ | refine .arr (rs_low _ _ _) ?_ | refine .dead ?_ | fail)) ?_
      | refine OpM.v (OpOk.sub rfl rfl rfl (by omega)) rfl ?_
      | refine OpM.b (OpOk.sub rfl rfl rfl (by omega)) rfl (by repeat' (first | exact .nil | refine .box rfl ?_ | refine .arr (rs_low _ _ _) ?_ | refine .dead ?_ | fail)) ?_
      | refine OpM.v (OpOk.ixM D rfl rfl rfl rfl rfl rfl (by first | assumption | omega) (fun _ => rfl)) rfl ?_
      | refine OpM.b (OpOk.ixM D rfl rfl rfl rfl rfl rfl (by first | assumption | omega) (fun _ => rfl)) rfl (by repeat' (first | exact .nil | refine .box rfl ?_ | refine .arr (rs_low _ _ _) ?_ | refine .dead ?_ | fail)) ?_))
  all_goals (refine ⟨.inr rfl, _, _, rfl, .cons (.c (.id rfl)) .nil, ?_⟩; rfl)
end Go.YtakiodehjhpgkaaGreatMc
