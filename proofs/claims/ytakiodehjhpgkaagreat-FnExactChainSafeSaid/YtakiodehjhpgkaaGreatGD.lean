/- Lemmas of this claim: walks through code, values and memory, and the contracts of functions; under no condition beyond those that each states. -/
import Derived.Test.YtakiodehjhpgkaaGreatGC
set_option maxRecDepth 100000
set_option linter.unusedVariables false
set_option linter.unusedSimpArgs false
namespace Go.YtakiodehjhpgkaaGreatMc
open Go.Proofs
/-! ### Comparing -/
def fat {α : Type} (g : α → Bool) : Option α → Bool
  | some a => g a
  | none => false
def cmpII (x y : Int) : Int := if x < y then -1 else if y < x then 1 else 0
def cmpSS (x y : List UInt8) : Int := if lt x y then -1 else if lt y x then 1 else 0
theorem nanI_ok (x : Int) : Pu Tryz.prog 337 [I x] (B false) := by
  refine Pu.of D Tryz.func337 rfl rfl rfl ?_
  repeat' (first
    | (refine W.cond rfl ?_ ?_ <;> intro hb <;> try simp at hb)
    | refine goO ?_
    | refine goS ?_
    | (refine WO.gs _ rfl rfl rfl ?_ ?_ <;> intro hb <;> simp only [hb] <;> try simp at hb))
  all_goals first | (exfalso; simp_all; done) | (refine ⟨.inr rfl, _, _, rfl, .cons (.c (.id rfl)) .nil, ?_⟩; simp [resV, X.v])
theorem nanS_ok (x : List UInt8) : Pu Tryz.prog 293 [Sx x] (B false) := by
  refine Pu.of D Tryz.func293 rfl rfl rfl ?_
  repeat' (first
    | (refine W.cond rfl ?_ ?_ <;> intro hb <;> try simp at hb)
    | refine goO ?_
    | refine goS ?_
    | (refine WO.gs _ rfl rfl rfl ?_ ?_ <;> intro hb <;> simp only [hb] <;> try simp at hb))
  all_goals first | (exfalso; simp_all; done) | (refine ⟨.inr rfl, _, _, rfl, .cons (.c (.id rfl)) .nil, ?_⟩; simp [resV, X.v])
theorem cmpII_ok (x y : Int) : Pu Tryz.prog 318 [I x, I y] (I (cmpII x y)) := by
  refine Pu.of D Tryz.func318 rfl rfl rfl ?_
  repeat' (first
    | (refine W.cond rfl ?_ ?_ <;> intro hb <;> try simp at hb)
    | refine cl (nanI_ok x) ?_
    | refine cl (nanI_ok y) ?_
    | refine goO ?_
    | refine goS ?_
    | (refine WO.gs _ rfl rfl rfl ?_ ?_ <;> intro hb <;> simp only [hb] <;> try simp at hb))
  all_goals first | (exfalso; simp_all; done) | skip
  all_goals refine ⟨.inr rfl, _, _, rfl, .cons (.c (.id rfl)) .nil, ?_⟩
  all_goals (simp [resV, X.v, cmpII, *]; try omega)
theorem cmpSS_ok (x y : List UInt8) : Pu Tryz.prog 214 [Sx x, Sx y] (I (cmpSS x y)) := by
  refine Pu.of D Tryz.func214 rfl rfl rfl ?_
  repeat' (first
    | (refine W.cond rfl ?_ ?_ <;> intro hb <;> try simp at hb)
    | refine cl (nanS_ok x) ?_
    | refine cl (nanS_ok y) ?_
    | refine goO ?_
    | refine goS ?_
    | (refine WO.gs _ rfl rfl rfl ?_ ?_ <;> intro hb <;> simp only [hb] <;> try simp at hb))
  all_goals first | (exfalso; simp_all; done) | skip
  all_goals refine ⟨.inr rfl, _, _, rfl, .cons (.c (.id rfl)) .nil, ?_⟩
  all_goals (have a := lt_anti y x; cases h1 : Op.bytesLess x y <;> cases h2 : Op.bytesLess y x <;> simp_all [resV, X.v, cmpSS, lt])
end Go.YtakiodehjhpgkaaGreatMc

namespace Go.YtakiodehjhpgkaaGreatMc
open Go.Proofs
theorem cpIs (l : List Int) (hl : l.length ≤ 1048576) : Pu Tryz.prog 141 [L eI l] (L eI l) := by
  refine Pu.of D Tryz.func141 rfl rfl rfl ?_
  repeat' (first
    | (refine W.cond rfl ?_ ?_ <;> intro hb <;> try simp at hb)
    | refine OpK.of (OpOk.cpM D rfl rfl rfl rfl rfl rfl rfl rfl (by decide) (fun _ => rfl) (by first | assumption | omega | (simp; omega)) (by decide)) ?_
    | refine goO ?_
    | refine goS ?_
    | (refine WO.gs _ rfl rfl rfl ?_ ?_ <;> intro hb <;> simp only [hb] <;> try simp at hb))
  all_goals (refine ⟨.inr rfl, _, _, rfl, .cons (.c (.id rfl)) .nil, ?_⟩; rfl)
theorem coIs (l : List Int) (hl : l.length ≤ 1048576) : Po Tryz.prog 141 [L eI l] [] (.c (.sl 0 l.length 0 l.length)) [.arr (Rs eI l) 1] := by
  refine Po.of D Tryz.func141 rfl rfl rfl ?_
  repeat' (first
    | (refine W.cond rfl ?_ ?_ <;> intro hb <;> try simp at hb)
    | refine OpK.of (OpOk.cpO D rfl rfl rfl rfl rfl rfl rfl rfl (by decide) (fun _ => rfl) (by first | assumption | omega | (simp; omega)) (by decide)) ?_
    | refine goO ?_
    | refine goS ?_
    | (refine WO.gs _ rfl rfl rfl ?_ ?_ <;> intro hb <;> simp only [hb] <;> try simp at hb))
  all_goals ((first | refine Ro.c1 (.inr rfl) [0] rfl (by decide) (kp rfl) ?_ ?_ | refine Ro.a1 (.inr rfl) [0] rfl (by decide) (kp rfl) ?_ ?_ | refine Ro.t1 (.inr rfl) [0] rfl (by decide) (kp rfl) ?_ ?_ rfl); (repeat' (first | exact .nil | refine .cons rfl ?_ ?_ | refine .cons ?_ ?_ | refine .c ?_ | refine .ag ?_ | refine .box ?_ | exact .arr (rs_low _ _ _) | exact .dead | exact .id rfl | exact .sl rfl | exact .ptr rfl | exact .ap rfl | exact .emp | exact .full rfl rfl rfl rfl rfl | fail)))
theorem cpBs (l : List Bool) (hl : l.length ≤ 1048576) : Pu Tryz.prog 238 [L eB l] (L eB l) := by
  refine Pu.of D Tryz.func238 rfl rfl rfl ?_
  repeat' (first
    | (refine W.cond rfl ?_ ?_ <;> intro hb <;> try simp at hb)
    | refine OpK.of (OpOk.cpM D rfl rfl rfl rfl rfl rfl rfl rfl (by decide) (fun _ => rfl) (by first | assumption | omega | (simp; omega)) (by decide)) ?_
    | refine goO ?_
    | refine goS ?_
    | (refine WO.gs _ rfl rfl rfl ?_ ?_ <;> intro hb <;> simp only [hb] <;> try simp at hb))
  all_goals (refine ⟨.inr rfl, _, _, rfl, .cons (.c (.id rfl)) .nil, ?_⟩; rfl)
theorem coBs (l : List Bool) (hl : l.length ≤ 1048576) : Po Tryz.prog 238 [L eB l] [] (.c (.sl 0 l.length 0 l.length)) [.arr (Rs eB l) 1] := by
  refine Po.of D Tryz.func238 rfl rfl rfl ?_
  repeat' (first
    | (refine W.cond rfl ?_ ?_ <;> intro hb <;> try simp at hb)
    | refine OpK.of (OpOk.cpO D rfl rfl rfl rfl rfl rfl rfl rfl (by decide) (fun _ => rfl) (by first | assumption | omega | (simp; omega)) (by decide)) ?_
    | refine goO ?_
    | refine goS ?_
    | (refine WO.gs _ rfl rfl rfl ?_ ?_ <;> intro hb <;> simp only [hb] <;> try simp at hb))
  all_goals ((first | refine Ro.c1 (.inr rfl) [0] rfl (by decide) (kp rfl) ?_ ?_ | refine Ro.a1 (.inr rfl) [0] rfl (by decide) (kp rfl) ?_ ?_ | refine Ro.t1 (.inr rfl) [0] rfl (by decide) (kp rfl) ?_ ?_ rfl); (repeat' (first | exact .nil | refine .cons rfl ?_ ?_ | refine .cons ?_ ?_ | refine .c ?_ | refine .ag ?_ | refine .box ?_ | exact .arr (rs_low _ _ _) | exact .dead | exact .id rfl | exact .sl rfl | exact .ptr rfl | exact .ap rfl | exact .emp | exact .full rfl rfl rfl rfl rfl | fail)))
theorem cpPr (l : List Pr) (hl : l.length ≤ 1048576) : Pu Tryz.prog 278 [L Pr.e l] (L Pr.e l) := by
  refine Pu.of D Tryz.func278 rfl rfl rfl ?_
  repeat' (first
    | (refine W.cond rfl ?_ ?_ <;> intro hb <;> try simp at hb)
    | refine OpK.of (OpOk.cpM D rfl rfl rfl rfl rfl rfl rfl rfl (by decide) (fun _ => rfl) (by first | assumption | omega | (simp; omega)) (by decide)) ?_
    | refine goO ?_
    | refine goS ?_
    | (refine WO.gs _ rfl rfl rfl ?_ ?_ <;> intro hb <;> simp only [hb] <;> try simp at hb))
  all_goals (refine ⟨.inr rfl, _, _, rfl, .cons (.c (.id rfl)) .nil, ?_⟩; rfl)
theorem coPr (l : List Pr) (hl : l.length ≤ 1048576) : Po Tryz.prog 278 [L Pr.e l] [] (.c (.sl 0 l.length 0 l.length)) [.arr (Rs Pr.e l) 2] := by
  refine Po.of D Tryz.func278 rfl rfl rfl ?_
  repeat' (first
    | (refine W.cond rfl ?_ ?_ <;> intro hb <;> try simp at hb)
    | refine OpK.of (OpOk.cpO D rfl rfl rfl rfl rfl rfl rfl rfl (by decide) (fun _ => rfl) (by first | assumption | omega | (simp; omega)) (by decide)) ?_
    | refine goO ?_
    | refine goS ?_
    | (refine WO.gs _ rfl rfl rfl ?_ ?_ <;> intro hb <;> simp only [hb] <;> try simp at hb))
  all_goals ((first | refine Ro.c1 (.inr rfl) [0] rfl (by decide) (kp rfl) ?_ ?_ | refine Ro.a1 (.inr rfl) [0] rfl (by decide) (kp rfl) ?_ ?_ | refine Ro.t1 (.inr rfl) [0] rfl (by decide) (kp rfl) ?_ ?_ rfl); (repeat' (first | exact .nil | refine .cons rfl ?_ ?_ | refine .cons ?_ ?_ | refine .c ?_ | refine .ag ?_ | refine .box ?_ | exact .arr (rs_low _ _ _) | exact .dead | exact .id rfl | exact .sl rfl | exact .ptr rfl | exact .ap rfl | exact .emp | exact .full rfl rfl rfl rfl rfl | fail)))
theorem cpSes (l : List Ses) (hl : l.length ≤ 1048576) : Pu Tryz.prog 279 [L Ses.e l] (L Ses.e l) := by
  refine Pu.of D Tryz.func279 rfl rfl rfl ?_
  repeat' (first
    | (refine W.cond rfl ?_ ?_ <;> intro hb <;> try simp at hb)
    | refine OpK.of (OpOk.cpM D rfl rfl rfl rfl rfl rfl rfl rfl (by decide) (fun _ => rfl) (by first | assumption | omega | (simp; omega)) (by decide)) ?_
    | refine goO ?_
    | refine goS ?_
    | (refine WO.gs _ rfl rfl rfl ?_ ?_ <;> intro hb <;> simp only [hb] <;> try simp at hb))
  all_goals (refine ⟨.inr rfl, _, _, rfl, .cons (.c (.id rfl)) .nil, ?_⟩; rfl)
theorem coSes (l : List Ses) (hl : l.length ≤ 1048576) : Po Tryz.prog 279 [L Ses.e l] [] (.c (.sl 0 l.length 0 l.length)) [.arr (Rs Ses.e l) 3] := by
  refine Po.of D Tryz.func279 rfl rfl rfl ?_
  repeat' (first
    | (refine W.cond rfl ?_ ?_ <;> intro hb <;> try simp at hb)
    | refine OpK.of (OpOk.cpO D rfl rfl rfl rfl rfl rfl rfl rfl (by decide) (fun _ => rfl) (by first | assumption | omega | (simp; omega)) (by decide)) ?_
    | refine goO ?_
    | refine goS ?_
    | (refine WO.gs _ rfl rfl rfl ?_ ?_ <;> intro hb <;> simp only [hb] <;> try simp at hb))
  all_goals ((first | refine Ro.c1 (.inr rfl) [0] rfl (by decide) (kp rfl) ?_ ?_ | refine Ro.a1 (.inr rfl) [0] rfl (by decide) (kp rfl) ?_ ?_ | refine Ro.t1 (.inr rfl) [0] rfl (by decide) (kp rfl) ?_ ?_ rfl); (repeat' (first | exact .nil | refine .cons rfl ?_ ?_ | refine .cons ?_ ?_ | refine .c ?_ | refine .ag ?_ | refine .box ?_ | exact .arr (rs_low _ _ _) | exact .dead | exact .id rfl | exact .sl rfl | exact .ptr rfl | exact .ap rfl | exact .emp | exact .full rfl rfl rfl rfl rfl | fail)))
theorem cpEnt (l : List Ent) (hl : l.length ≤ 1048576) : Pu Tryz.prog 298 [L Ent.e l] (L Ent.e l) := by
  refine Pu.of D Tryz.func298 rfl rfl rfl ?_
  repeat' (first
    | (refine W.cond rfl ?_ ?_ <;> intro hb <;> try simp at hb)
    | refine OpK.of (OpOk.cpM D rfl rfl rfl rfl rfl rfl rfl rfl (by decide) (fun _ => rfl) (by first | assumption | omega | (simp; omega)) (by decide)) ?_
    | refine goO ?_
    | refine goS ?_
    | (refine WO.gs _ rfl rfl rfl ?_ ?_ <;> intro hb <;> simp only [hb] <;> try simp at hb))
  all_goals (refine ⟨.inr rfl, _, _, rfl, .cons (.c (.id rfl)) .nil, ?_⟩; rfl)
theorem coEnt (l : List Ent) (hl : l.length ≤ 1048576) : Po Tryz.prog 298 [L Ent.e l] [] (.c (.sl 0 l.length 0 l.length)) [.arr (Rs Ent.e l) 6] := by
  refine Po.of D Tryz.func298 rfl rfl rfl ?_
  repeat' (first
    | (refine W.cond rfl ?_ ?_ <;> intro hb <;> try simp at hb)
    | refine OpK.of (OpOk.cpO D rfl rfl rfl rfl rfl rfl rfl rfl (by decide) (fun _ => rfl) (by first | assumption | omega | (simp; omega)) (by decide)) ?_
    | refine goO ?_
    | refine goS ?_
    | (refine WO.gs _ rfl rfl rfl ?_ ?_ <;> intro hb <;> simp only [hb] <;> try simp at hb))
  all_goals ((first | refine Ro.c1 (.inr rfl) [0] rfl (by decide) (kp rfl) ?_ ?_ | refine Ro.a1 (.inr rfl) [0] rfl (by decide) (kp rfl) ?_ ?_ | refine Ro.t1 (.inr rfl) [0] rfl (by decide) (kp rfl) ?_ ?_ rfl); (repeat' (first | exact .nil | refine .cons rfl ?_ ?_ | refine .cons ?_ ?_ | refine .c ?_ | refine .ag ?_ | refine .box ?_ | exact .arr (rs_low _ _ _) | exact .dead | exact .id rfl | exact .sl rfl | exact .ptr rfl | exact .ap rfl | exact .emp | exact .full rfl rfl rfl rfl rfl | fail)))
theorem cpAns (l : List Ans) (hl : l.length ≤ 1048576) : Pu Tryz.prog 240 [L Ans.e l] (L Ans.e l) := by
  refine Pu.of D Tryz.func240 rfl rfl rfl ?_
  repeat' (first
    | (refine W.cond rfl ?_ ?_ <;> intro hb <;> try simp at hb)
    | refine OpK.of (OpOk.cpM D rfl rfl rfl rfl rfl rfl rfl rfl (by decide) (fun _ => rfl) (by first | assumption | omega | (simp; omega)) (by decide)) ?_
    | refine goO ?_
    | refine goS ?_
    | (refine WO.gs _ rfl rfl rfl ?_ ?_ <;> intro hb <;> simp only [hb] <;> try simp at hb))
  all_goals (refine ⟨.inr rfl, _, _, rfl, .cons (.c (.id rfl)) .nil, ?_⟩; rfl)
theorem coAns (l : List Ans) (hl : l.length ≤ 1048576) : Po Tryz.prog 240 [L Ans.e l] [] (.c (.sl 0 l.length 0 l.length)) [.arr (Rs Ans.e l) 7] := by
  refine Po.of D Tryz.func240 rfl rfl rfl ?_
  repeat' (first
    | (refine W.cond rfl ?_ ?_ <;> intro hb <;> try simp at hb)
    | refine OpK.of (OpOk.cpO D rfl rfl rfl rfl rfl rfl rfl rfl (by decide) (fun _ => rfl) (by first | assumption | omega | (simp; omega)) (by decide)) ?_
    | refine goO ?_
    | refine goS ?_
    | (refine WO.gs _ rfl rfl rfl ?_ ?_ <;> intro hb <;> simp only [hb] <;> try simp at hb))
  all_goals ((first | refine Ro.c1 (.inr rfl) [0] rfl (by decide) (kp rfl) ?_ ?_ | refine Ro.a1 (.inr rfl) [0] rfl (by decide) (kp rfl) ?_ ?_ | refine Ro.t1 (.inr rfl) [0] rfl (by decide) (kp rfl) ?_ ?_ rfl); (repeat' (first | exact .nil | refine .cons rfl ?_ ?_ | refine .cons ?_ ?_ | refine .c ?_ | refine .ag ?_ | refine .box ?_ | exact .arr (rs_low _ _ _) | exact .dead | exact .id rfl | exact .sl rfl | exact .ptr rfl | exact .ap rfl | exact .emp | exact .full rfl rfl rfl rfl rfl | fail)))
theorem rpIs (l r : List Int) (i m : Nat) (hl : l.length ≤ 1000000) (hr : r.length ≤ 1000) (hi : i + m ≤ l.length) : Pu Tryz.prog 335 [L eI l, I i, I m, L eI r] (L eI (l.take i ++ r ++ l.drop (i + m))) := by
  refine Pu.of D Tryz.func335 rfl rfl rfl ?_
  repeat' (first
    | (refine W.cond rfl ?_ ?_ <;> intro hb <;> try simp at hb)
    | refine OpK.of (OpOk.mk0e D eI rfl rfl rfl rfl rfl rfl (by omega) (by decide) ⟨by dsimp only; omega, by omega⟩) ?_
    | refine OpK.of (OpOk.apM D rfl rfl rfl rfl rfl rfl rfl rfl (by first | rfl | simp) rfl rfl (fun _ => rfl) (by first | assumption | omega | (simp; omega)) (by decide)) ?_
    | refine OpK.of (OpOk.slMt D rfl rfl rfl rfl rfl (fun _ => rfl) rfl (by omega)) ?_
    | refine OpK.of (OpOk.slMd D rfl rfl rfl rfl rfl (fun _ => rfl) rfl (by omega)) ?_
    | refine goO ?_
    | refine goS ?_
    | (refine WO.gs _ rfl rfl rfl ?_ ?_ <;> intro hb <;> simp only [hb] <;> try simp at hb))
  refine ⟨.inr rfl, _, _, rfl, .cons (.c (.full rfl rfl rfl)) .nil, ?_⟩
  simp [resV, X.v, ← Int.natCast_add]
theorem rpPr (l r : List Pr) (i m : Nat) (hl : l.length ≤ 1000000) (hr : r.length ≤ 1000) (hi : i + m ≤ l.length) : Pu Tryz.prog 339 [L Pr.e l, I i, I m, L Pr.e r] (L Pr.e (l.take i ++ r ++ l.drop (i + m))) := by
  refine Pu.of D Tryz.func339 rfl rfl rfl ?_
  repeat' (first
    | (refine W.cond rfl ?_ ?_ <;> intro hb <;> try simp at hb)
    | refine OpK.of (OpOk.mk0e D Pr.e rfl rfl rfl rfl rfl rfl (by omega) (by decide) ⟨by dsimp only; omega, by omega⟩) ?_
    | refine OpK.of (OpOk.apM D rfl rfl rfl rfl rfl rfl rfl rfl (by first | rfl | simp) rfl rfl (fun _ => rfl) (by first | assumption | omega | (simp; omega)) (by decide)) ?_
    | refine OpK.of (OpOk.slMt D rfl rfl rfl rfl rfl (fun _ => rfl) rfl (by omega)) ?_
    | refine OpK.of (OpOk.slMd D rfl rfl rfl rfl rfl (fun _ => rfl) rfl (by omega)) ?_
    | refine goO ?_
    | refine goS ?_
    | (refine WO.gs _ rfl rfl rfl ?_ ?_ <;> intro hb <;> simp only [hb] <;> try simp at hb))
  refine ⟨.inr rfl, _, _, rfl, .cons (.c (.full rfl rfl rfl)) .nil, ?_⟩
  simp [resV, X.v, ← Int.natCast_add]
theorem rpSes (l r : List Ses) (i m : Nat) (hl : l.length ≤ 1000000) (hr : r.length ≤ 1000) (hi : i + m ≤ l.length) : Pu Tryz.prog 322 [L Ses.e l, I i, I m, L Ses.e r] (L Ses.e (l.take i ++ r ++ l.drop (i + m))) := by
  refine Pu.of D Tryz.func322 rfl rfl rfl ?_
  repeat' (first
    | (refine W.cond rfl ?_ ?_ <;> intro hb <;> try simp at hb)
    | refine OpK.of (OpOk.mk0e D Ses.e rfl rfl rfl rfl rfl rfl (by omega) (by decide) ⟨by dsimp only; omega, by omega⟩) ?_
    | refine OpK.of (OpOk.apM D rfl rfl rfl rfl rfl rfl rfl rfl (by first | rfl | simp) rfl rfl (fun _ => rfl) (by first | assumption | omega | (simp; omega)) (by decide)) ?_
    | refine OpK.of (OpOk.slMt D rfl rfl rfl rfl rfl (fun _ => rfl) rfl (by omega)) ?_
    | refine OpK.of (OpOk.slMd D rfl rfl rfl rfl rfl (fun _ => rfl) rfl (by omega)) ?_
    | refine goO ?_
    | refine goS ?_
    | (refine WO.gs _ rfl rfl rfl ?_ ?_ <;> intro hb <;> simp only [hb] <;> try simp at hb))
  refine ⟨.inr rfl, _, _, rfl, .cons (.c (.full rfl rfl rfl)) .nil, ?_⟩
  simp [resV, X.v, ← Int.natCast_add]
theorem rpMsg (l r : List Msg) (i m : Nat) (hl : l.length ≤ 1000000) (hr : r.length ≤ 1000) (hi : i + m ≤ l.length) : Pu Tryz.prog 331 [L Msg.e l, I i, I m, L Msg.e r] (L Msg.e (l.take i ++ r ++ l.drop (i + m))) := by
  refine Pu.of D Tryz.func331 rfl rfl rfl ?_
  repeat' (first
    | (refine W.cond rfl ?_ ?_ <;> intro hb <;> try simp at hb)
    | refine OpK.of (OpOk.mk0e D Msg.e rfl rfl rfl rfl rfl rfl (by omega) (by decide) ⟨by dsimp only; omega, by omega⟩) ?_
    | refine OpK.of (OpOk.apM D rfl rfl rfl rfl rfl rfl rfl rfl (by first | rfl | simp) rfl rfl (fun _ => rfl) (by first | assumption | omega | (simp; omega)) (by decide)) ?_
    | refine OpK.of (OpOk.slMt D rfl rfl rfl rfl rfl (fun _ => rfl) rfl (by omega)) ?_
    | refine OpK.of (OpOk.slMd D rfl rfl rfl rfl rfl (fun _ => rfl) rfl (by omega)) ?_
    | refine goO ?_
    | refine goS ?_
    | (refine WO.gs _ rfl rfl rfl ?_ ?_ <;> intro hb <;> simp only [hb] <;> try simp at hb))
  refine ⟨.inr rfl, _, _, rfl, .cons (.c (.full rfl rfl rfl)) .nil, ?_⟩
  simp [resV, X.v, ← Int.natCast_add]
theorem cmpSes_ok (a : Ses) (c : Int) : Pu Tryz.prog 317 [A a.e, I c] (I (cmpII a.client c)) := by
  refine Pu.of D Tryz.func317 rfl rfl rfl ?_
  repeat' (first
    | (refine W.cond rfl ?_ ?_ <;> intro hb <;> try simp at hb)
    | refine cl (cmpII_ok a.client c) ?_
    | refine goO ?_
    | refine goS ?_
    | (refine WO.gs _ rfl rfl rfl ?_ ?_ <;> intro hb <;> simp only [hb] <;> try simp at hb))
  all_goals (refine ⟨.inr rfl, _, _, rfl, .cons (.c (.id rfl)) .nil, ?_⟩; rfl)
theorem bsSes (l : List Ses) (c : Int) (p : Nat) (hl : l.length ≤ 1048576) (hp : p ≤ l.length) (h : ∀ (i : Nat) (hi : i < l.length), cmpII l[i].client c < 0 ↔ i < p) : Pu Tryz.prog 316 [L Ses.e l, I c, .c (.k (.func (.func 317) #[] #[]))] (.tu [.c (.t (tI p)), .c (.t (.b (fat (fun a => decide (cmpII a.client c = 0)) l[p]?)))]) := by
  refine Pu.of D Tryz.func316 rfl rfl rfl ?_
  repeat' (first
    | (refine W.cond rfl ?_ ?_ <;> intro hb <;> try simp at hb)
    | refine goO ?_
    | refine goS ?_
    | (refine WO.gs _ rfl rfl rfl ?_ ?_ <;> intro hb <;> simp only [hb] <;> try simp at hb))
  refine W.loop (σ := Nat × Nat) (fun s => [(8, I l.length), (9, I s.1), (10, I s.2), (0, L Ses.e l), (1, I c), (2, .c (.k (.func (.func 317) #[] #[])))]) (fun _ => []) (fun s => s.1 ≤ p ∧ p ≤ s.2 ∧ s.2 ≤ l.length) (fun s => s.2 - s.1) 0 (fun _ _ => rfl) (0, l.length) ⟨by omega, hp, by simp⟩ rfl (.cons rfl rfl (.cons rfl rfl (.cons rfl rfl (.cons rfl rfl (.cons rfl rfl (.cons rfl rfl (.nil))))))) ?_
  rintro ⟨x, y⟩ ⟨h1, h2, h3⟩
  dsimp only at h1 h2 h3
  by_cases hxy : x < y
  · have hm := h ((x + y) / 2) (by omega)
    repeat' (first
    | (refine W.cond rfl ?_ ?_ <;> intro hb <;> try simp at hb)
    | refine OpK.of (OpOk.cvI D rfl rfl rfl rfl rfl rfl (wrap_u64 (by omega) (by omega))) ?_
    | refine OpK.of (OpOk.cvI D rfl rfl rfl rfl rfl rfl (wrap_i64 (by omega) (by omega))) ?_
    | refine OpK.of (OpOk.shrN (x + y) rfl rfl rfl (by omega)) ?_
    | refine OpK.of (OpOk.callV (cmpSes_ok (l[(x + y) / 2]'(by omega)) c) rfl rfl rfl rfl rfl) ?_
    | refine goO ?_
    | refine goS ?_
    | (refine WO.gs _ rfl rfl rfl ?_ ?_ <;> intro hb <;> simp only [hb] <;> try simp at hb))
    all_goals first
      | (exfalso; omega)
      | (have hlt := hm.1 hb; exact ⟨((x + y) / 2 + 1, y), ⟨by dsimp only; omega, h2, h3⟩, by dsimp only; omega, (.cons rfl rfl (.cons rfl rfl (.cons rfl rfl (.cons rfl rfl (.cons rfl rfl (.cons rfl rfl (.nil))))))), rfl, rfl⟩)
      | (have hge : ¬ (x + y) / 2 < p := fun h => hb.not_gt (hm.2 h) |>.elim; exact ⟨(x, (x + y) / 2), ⟨h1, by dsimp only; omega, by dsimp only; omega⟩, by dsimp only; omega, (.cons rfl rfl (.cons rfl rfl (.cons rfl rfl (.cons rfl rfl (.cons rfl rfl (.cons rfl rfl (.nil))))))), rfl, rfl⟩)
      | (have hge : ¬ (x + y) / 2 < p := fun h => by have := hm.2 h; omega
         exact ⟨(x, (x + y) / 2), ⟨h1, by dsimp only; omega, by dsimp only; omega⟩, by dsimp only; omega, (.cons rfl rfl (.cons rfl rfl (.cons rfl rfl (.cons rfl rfl (.cons rfl rfl (.cons rfl rfl (.nil))))))), rfl, rfl⟩)
  · obtain rfl : x = p := by omega
    by_cases hx : x < l.length
    · repeat' (first
    | (refine W.cond rfl ?_ ?_ <;> intro hb <;> try simp at hb)
    | refine OpK.of (OpOk.callV (cmpSes_ok l[x] c) rfl rfl rfl rfl rfl) ?_
    | refine goO ?_
    | refine goS ?_
    | (refine WO.gs _ rfl rfl rfl ?_ ?_ <;> intro hb <;> simp only [hb] <;> try simp at hb))
      all_goals first
        | (exfalso; omega)
        | (refine ⟨.inr rfl, _, _, rfl, .cons (.c (.id rfl)) (.cons (.c (.id rfl)) .nil), ?_⟩
           rw [List.getElem?_eq_getElem hx]; simp [resV, fat]; first | done | (rw [Bool.eq_iff_iff]; simp))
        | (refine ⟨.inr rfl, _, _, rfl, .cons (.c (.id rfl)) (.cons (.c (.id rfl)) .nil), ?_⟩
           rw [List.getElem?_eq_getElem hx]; simp [resV, fat, *]; done)
    · repeat' (first
    | (refine W.cond rfl ?_ ?_ <;> intro hb <;> try simp at hb)
    | refine goO ?_
    | refine goS ?_
    | (refine WO.gs _ rfl rfl rfl ?_ ?_ <;> intro hb <;> simp only [hb] <;> try simp at hb))
      all_goals first
        | (exfalso; omega)
        | (refine ⟨.inr rfl, _, _, rfl, .cons (.c (.id rfl)) (.cons (.c (.id rfl)) .nil), ?_⟩
           rw [List.getElem?_eq_none (by omega)]; simp [resV, fat]; done)
theorem cmpPr_ok (a : Pr) (c : (List UInt8)) : Pu Tryz.prog 342 [A a.e, Sx c] (I (cmpSS a.key c)) := by
  refine Pu.of D Tryz.func342 rfl rfl rfl ?_
  repeat' (first
    | (refine W.cond rfl ?_ ?_ <;> intro hb <;> try simp at hb)
    | refine cl (cmpSS_ok a.key c) ?_
    | refine goO ?_
    | refine goS ?_
    | (refine WO.gs _ rfl rfl rfl ?_ ?_ <;> intro hb <;> simp only [hb] <;> try simp at hb))
  all_goals (refine ⟨.inr rfl, _, _, rfl, .cons (.c (.id rfl)) .nil, ?_⟩; rfl)
theorem bsPr (l : List Pr) (c : (List UInt8)) (p : Nat) (hl : l.length ≤ 1048576) (hp : p ≤ l.length) (h : ∀ (i : Nat) (hi : i < l.length), cmpSS l[i].key c < 0 ↔ i < p) : Pu Tryz.prog 341 [L Pr.e l, Sx c, .c (.k (.func (.func 342) #[] #[]))] (.tu [.c (.t (tI p)), .c (.t (.b (fat (fun a => decide (cmpSS a.key c = 0)) l[p]?)))]) := by
  refine Pu.of D Tryz.func341 rfl rfl rfl ?_
  repeat' (first
    | (refine W.cond rfl ?_ ?_ <;> intro hb <;> try simp at hb)
    | refine goO ?_
    | refine goS ?_
    | (refine WO.gs _ rfl rfl rfl ?_ ?_ <;> intro hb <;> simp only [hb] <;> try simp at hb))
  refine W.loop (σ := Nat × Nat) (fun s => [(8, I l.length), (9, I s.1), (10, I s.2), (0, L Pr.e l), (1, Sx c), (2, .c (.k (.func (.func 342) #[] #[])))]) (fun _ => []) (fun s => s.1 ≤ p ∧ p ≤ s.2 ∧ s.2 ≤ l.length) (fun s => s.2 - s.1) 0 (fun _ _ => rfl) (0, l.length) ⟨by omega, hp, by simp⟩ rfl (.cons rfl rfl (.cons rfl rfl (.cons rfl rfl (.cons rfl rfl (.cons rfl rfl (.cons rfl rfl (.nil))))))) ?_
  rintro ⟨x, y⟩ ⟨h1, h2, h3⟩
  dsimp only at h1 h2 h3
  by_cases hxy : x < y
  · have hm := h ((x + y) / 2) (by omega)
    repeat' (first
    | (refine W.cond rfl ?_ ?_ <;> intro hb <;> try simp at hb)
    | refine OpK.of (OpOk.cvI D rfl rfl rfl rfl rfl rfl (wrap_u64 (by omega) (by omega))) ?_
    | refine OpK.of (OpOk.cvI D rfl rfl rfl rfl rfl rfl (wrap_i64 (by omega) (by omega))) ?_
    | refine OpK.of (OpOk.shrN (x + y) rfl rfl rfl (by omega)) ?_
    | refine OpK.of (OpOk.callV (cmpPr_ok (l[(x + y) / 2]'(by omega)) c) rfl rfl rfl rfl rfl) ?_
    | refine goO ?_
    | refine goS ?_
    | (refine WO.gs _ rfl rfl rfl ?_ ?_ <;> intro hb <;> simp only [hb] <;> try simp at hb))
    all_goals first
      | (exfalso; omega)
      | (have hlt := hm.1 hb; exact ⟨((x + y) / 2 + 1, y), ⟨by dsimp only; omega, h2, h3⟩, by dsimp only; omega, (.cons rfl rfl (.cons rfl rfl (.cons rfl rfl (.cons rfl rfl (.cons rfl rfl (.cons rfl rfl (.nil))))))), rfl, rfl⟩)
      | (have hge : ¬ (x + y) / 2 < p := fun h => hb.not_gt (hm.2 h) |>.elim; exact ⟨(x, (x + y) / 2), ⟨h1, by dsimp only; omega, by dsimp only; omega⟩, by dsimp only; omega, (.cons rfl rfl (.cons rfl rfl (.cons rfl rfl (.cons rfl rfl (.cons rfl rfl (.cons rfl rfl (.nil))))))), rfl, rfl⟩)
      | (have hge : ¬ (x + y) / 2 < p := fun h => by have := hm.2 h; omega
         exact ⟨(x, (x + y) / 2), ⟨h1, by dsimp only; omega, by dsimp only; omega⟩, by dsimp only; omega, (.cons rfl rfl (.cons rfl rfl (.cons rfl rfl (.cons rfl rfl (.cons rfl rfl (.cons rfl rfl (.nil))))))), rfl, rfl⟩)
  · obtain rfl : x = p := by omega
    by_cases hx : x < l.length
    · repeat' (first
    | (refine W.cond rfl ?_ ?_ <;> intro hb <;> try simp at hb)
    | refine OpK.of (OpOk.callV (cmpPr_ok l[x] c) rfl rfl rfl rfl rfl) ?_
    | refine goO ?_
    | refine goS ?_
    | (refine WO.gs _ rfl rfl rfl ?_ ?_ <;> intro hb <;> simp only [hb] <;> try simp at hb))
      all_goals first
        | (exfalso; omega)
        | (refine ⟨.inr rfl, _, _, rfl, .cons (.c (.id rfl)) (.cons (.c (.id rfl)) .nil), ?_⟩
           rw [List.getElem?_eq_getElem hx]; simp [resV, fat]; first | done | (rw [Bool.eq_iff_iff]; simp))
        | (refine ⟨.inr rfl, _, _, rfl, .cons (.c (.id rfl)) (.cons (.c (.id rfl)) .nil), ?_⟩
           rw [List.getElem?_eq_getElem hx]; simp [resV, fat, *]; done)
    · repeat' (first
    | (refine W.cond rfl ?_ ?_ <;> intro hb <;> try simp at hb)
    | refine goO ?_
    | refine goS ?_
    | (refine WO.gs _ rfl rfl rfl ?_ ?_ <;> intro hb <;> simp only [hb] <;> try simp at hb))
      all_goals first
        | (exfalso; omega)
        | (refine ⟨.inr rfl, _, _, rfl, .cons (.c (.id rfl)) (.cons (.c (.id rfl)) .nil), ?_⟩
           rw [List.getElem?_eq_none (by omega)]; simp [resV, fat]; done)
end Go.YtakiodehjhpgkaaGreatMc

namespace Go.YtakiodehjhpgkaaGreatMc
open Go.Proofs
/-! ### Places in order -/
theorem lt_trans' : ∀ {a b c : List UInt8}, lt a b = true → lt b c = true → lt a c = true
  | [], [], _, h, _ => by simp [lt, Op.bytesLess] at h
  | [], _ :: _, [], _, h => by simp [lt, Op.bytesLess] at h
  | [], _ :: _, _ :: _, _, _ => by simp [lt, Op.bytesLess]
  | _ :: _, [], _, h, _ => by simp [lt, Op.bytesLess] at h
  | _ :: _, _ :: _, [], _, h => by simp [lt, Op.bytesLess] at h
  | x :: a, y :: b, z :: c, h1, h2 => by
    have ih := @lt_trans' a b c
    simp only [lt, Op.bytesLess, Bool.or_eq_true, decide_eq_true_eq, Bool.and_eq_true, beq_iff_eq] at h1 h2 ih ⊢
    rcases h1 with h1 | ⟨rfl, h1⟩ <;> rcases h2 with h2 | ⟨rfl, h2⟩
    · exact .inl (UInt8.lt_trans h1 h2)
    · exact .inl h1
    · exact .inl h2
    · exact .inr ⟨rfl, ih h1 h2⟩
theorem lt_irrefl' (a : List UInt8) : lt a a = false := by
  have := lt_anti a a; cases h : lt a a <;> simp_all [lt]
theorem lt_total {a b : List UInt8} (h : lt a b = false) (h2 : a ≠ b) : lt b a = true := by
  have := lt_anti b a
  simp only [lt] at *; rw [this, h]; simp [h2]
/-- The place of a number, or of a key, in a list in order: how many are before it. -/
def plcBy {α : Type} (f : α → Bool) : List α → Nat
  | [] => 0
  | a :: l => if f a then plcBy f l + 1 else 0
theorem plcBy_le {α : Type} (f : α → Bool) : ∀ (l : List α), plcBy f l ≤ l.length
  | [] => Nat.le_refl _
  | a :: l => by
    have := plcBy_le f l
    unfold plcBy; split <;> simp <;> omega
theorem plcBy_lt {α : Type} (f : α → Bool) : ∀ (l : List α) (i : Nat) (hi : i < l.length), i < plcBy f l → f l[i] = true
  | [], i, hi, _ => by simp at hi
  | a :: l, i, hi, h => by
    unfold plcBy at h
    split at h
    · rename_i h1
      cases i with
      | zero => exact h1
      | succ i => exact plcBy_lt f l i (by simpa using hi) (by omega)
    · omega
theorem plcBy_at {α : Type} (f : α → Bool) : ∀ (l : List α) (h : plcBy f l < l.length), f l[plcBy f l] = false
  | [], h => by simp at h
  | a :: l, h => by
    by_cases h1 : f a = true
    · have e : plcBy f (a :: l) = plcBy f l + 1 := by simp [plcBy, h1]
      have h' : plcBy f l < l.length := by rw [e] at h; simpa using h
      have := plcBy_at f l h'
      have e2 : (a :: l)[plcBy f (a :: l)] = l[plcBy f l] := by simp only [e]; rfl
      rw [e2]; exact this
    · have e : plcBy f (a :: l) = 0 := by simp [plcBy, h1]
      have e2 : (a :: l)[plcBy f (a :: l)] = a := by simp only [e]; rfl
      rw [e2]; simpa using h1
/-- In a list whose order f falls with: f holds exactly before the place. -/
theorem plcBy_iff {α : Type} (f : α → Bool) (l : List α) (hm : ∀ i j (hj : j < l.length) (hij : i < j), f l[j] = true → f l[i] = true) (i : Nat) (hi : i < l.length) : f l[i] = true ↔ i < plcBy f l := by
  refine ⟨fun h => ?_, plcBy_lt f l i hi⟩
  rcases Nat.lt_or_ge i (plcBy f l) with g | g
  · exact g
  · have hlt : plcBy f l < l.length := by omega
    have h0 := plcBy_at f l hlt
    rcases Nat.eq_or_lt_of_le g with e | e
    · subst e; rw [h0] at h; cases h
    · have := hm _ i hi e h; rw [h0] at this; cases this
def plcS (c : Int) (l : List Ses) : Nat := plcBy (fun s => decide (s.client < c)) l
def plcP (k : List UInt8) (l : List Pr) : Nat := plcBy (fun p => lt p.key k) l
theorem row_pair {α : Type} {f : Option α → α → Bool} {r : α → α → Prop} (hr : ∀ a b, f (some a) b = true → r a b) : ∀ {l : List α} {p : Option α}, rowOk f p l = true → (∀ q, p = some q → ∀ b, l.head? = some b → r q b) ∧ ∀ i (hi : i + 1 < l.length), r l[i] l[i + 1]
  | [], p, _ => ⟨fun q _ b h => by simp at h, fun i hi => by simp at hi⟩
  | a :: l, p, h => by
    simp only [rowOk, Bool.and_eq_true] at h
    have ih := row_pair hr h.2
    refine ⟨fun q hq b hb => ?_, fun i hi => ?_⟩
    · simp at hb; subst hb; subst hq; exact hr q a h.1
    · cases i with
      | zero =>
        cases l with
        | nil => simp at hi
        | cons b l => exact ih.1 a rfl b rfl
      | succ i => exact ih.2 i (by simpa using hi)
theorem row_lt {α : Type} {r : α → α → Prop} (ht : ∀ a b c, r a b → r b c → r a c) {l : List α} (h : ∀ i (hi : i + 1 < l.length), r l[i] l[i + 1]) : ∀ (d i : Nat) (hj : i + d + 1 < l.length), r l[i] l[i + d + 1]
  | 0, i, hj => h i hj
  | d + 1, i, hj => ht _ _ _ (row_lt ht h d i (by omega)) (h (i + d + 1) (by omega))
theorem ses_lt {l : List Ses} (h : sesOk l = true) (i j : Nat) (hj : j < l.length) (hij : i < j) : l[i].client < l[j].client := by
  have h1 := (row_pair (f := seOk) (r := fun a b : Ses => a.client < b.client) (fun a b h => by simp only [seOk, Bool.and_eq_true, decide_eq_true_eq] at h; exact h.2) (p := none) h).2
  have := row_lt (r := fun a b : Ses => a.client < b.client) (fun a b c => Int.lt_trans) h1 (j - i - 1) i (by omega)
  have e : i + (j - i - 1) + 1 = j := by omega
  simpa [e] using this
theorem pr_lt {l : List Pr} (h : pairsOk l = true) (i j : Nat) (hj : j < l.length) (hij : i < j) : lt l[i].key l[j].key = true := by
  simp only [pairsOk, Bool.and_eq_true] at h
  have h1 := (row_pair (f := prOk) (r := fun a b : Pr => lt a.key b.key = true) (fun a b h => by simp only [prOk, Bool.and_eq_true] at h; exact h.2) (p := none) h.2).2
  have := row_lt (r := fun a b : Pr => lt a.key b.key = true) (fun a b c => lt_trans') h1 (j - i - 1) i (by omega)
  have e : i + (j - i - 1) + 1 = j := by omega
  simpa [e] using this
theorem plcS_iff {l : List Ses} (h : sesOk l = true) (c : Int) (i : Nat) (hi : i < l.length) : l[i].client < c ↔ i < plcS c l := by
  have := plcBy_iff (fun s : Ses => decide (s.client < c)) l (fun i j hj hij hf => by
    have := ses_lt h i j hj hij
    simp only [decide_eq_true_eq] at hf ⊢; omega) i hi
  simpa [plcS] using this
theorem plcP_iff {l : List Pr} (h : pairsOk l = true) (k : List UInt8) (i : Nat) (hi : i < l.length) : lt l[i].key k = true ↔ i < plcP k l :=
  plcBy_iff (fun p : Pr => lt p.key k) l (fun i j hj hij hf => lt_trans' (pr_lt h i j hj hij) hf) i hi
def fndS (c : Int) (l : List Ses) : Bool := fat (fun a => decide (a.client = c)) l[plcS c l]?
def fndP (k : List UInt8) (l : List Pr) : Bool := fat (fun a => decide (a.key = k)) l[plcP k l]?
theorem cmpII_lt {x y : Int} : cmpII x y < 0 ↔ x < y := by unfold cmpII; split <;> (try split) <;> omega
theorem cmpII_eq {x y : Int} : cmpII x y = 0 ↔ x = y := by unfold cmpII; split <;> (try split) <;> omega
theorem cmpSS_lt {x y : List UInt8} : cmpSS x y < 0 ↔ lt x y = true := by unfold cmpSS; split <;> (try split) <;> simp_all
theorem cmpSS_eq {x y : List UInt8} : cmpSS x y = 0 ↔ x = y := by
  unfold cmpSS
  split
  · rename_i h; simp; rintro rfl; rw [lt_irrefl'] at h; cases h
  · rename_i h
    split
    · rename_i h2; simp; rintro rfl; rw [lt_irrefl'] at h2; cases h2
    · rename_i h2; simp only [true_iff]
      exact Classical.byContradiction fun e => h2 (lt_total (by simpa using h) e)
theorem ses4 {l : List Ses} (h : sesOk l = true) : l.length ≤ 4 := by
  have cl : ∀ i (hi : i < l.length), 0 ≤ l[i].client ∧ l[i].client ≤ 3 := by
    have gen : ∀ (l : List Ses) (p : Option Ses), rowOk seOk p l = true → ∀ i (hi : i < l.length), 0 ≤ l[i].client ∧ l[i].client ≤ 3 := by
      intro l
      induction l with
      | nil => intro p _ i hi; simp at hi
      | cons a l ih =>
        intro p h i hi
        simp only [rowOk, Bool.and_eq_true] at h
        cases i with
        | zero => have := h.1; simp [seOk, inR] at this; exact this.1.1.1
        | succ i => exact ih _ h.2 i (by simpa using hi)
    exact gen l none h
  have ge : ∀ i (hi : i < l.length), (i : Int) ≤ l[i].client := by
    intro i
    induction i with
    | zero => intro hi; exact (cl 0 hi).1
    | succ i ih => intro hi; have := ih (by omega); have := ses_lt h i (i + 1) hi (by omega); omega
  rcases Nat.lt_or_ge 4 l.length with g | g
  · have := ge 4 g; have := (cl 4 g).2; omega
  · exact g
theorem pairs48 {l : List Pr} (h : pairsOk l = true) : l.length ≤ 48 := by
  simp only [pairsOk, Bool.and_eq_true, decide_eq_true_eq] at h; exact h.1
theorem sPlace_impl (l : List Ses) (c : Int) (h : sesOk l = true) : Pu Tryz.prog 280 [L Ses.e l, I c] (.tu [.c (.t (tI (plcS c l))), .c (.t (.b (fndS c l)))]) := by
  have h4 := ses4 h
  have hb := bsSes l c (plcS c l) (by omega) (plcBy_le _ _) (fun i hi => cmpII_lt.trans (plcS_iff h c i hi))
  have e : fat (fun a : Ses => decide (cmpII a.client c = 0)) l[plcS c l]? = fndS c l := by
    unfold fndS; cases l[plcS c l]? with
    | none => rfl
    | some a => simp [fat, cmpII_eq]
  rw [e] at hb
  refine Pu.of D Tryz.func280 rfl rfl rfl ?_
  repeat' (first
    | (refine W.cond rfl ?_ ?_ <;> intro hb <;> try simp at hb)
    | refine cl (hb) ?_
    | refine goO ?_
    | refine goS ?_
    | (refine WO.gs _ rfl rfl rfl ?_ ?_ <;> intro hb <;> simp only [hb] <;> try simp at hb))
  all_goals exact ⟨.inr rfl, _, _, rfl, .cons (.c (.id rfl)) (.cons (.c (.id rfl)) .nil), rfl⟩
theorem pPlace_impl (l : List Pr) (k : List UInt8) (h : pairsOk l = true) : Pu Tryz.prog 338 [L Pr.e l, Sx k] (.tu [.c (.t (tI (plcP k l))), .c (.t (.b (fndP k l)))]) := by
  have h4 := pairs48 h
  have hb := bsPr l k (plcP k l) (by omega) (plcBy_le _ _) (fun i hi => cmpSS_lt.trans (plcP_iff h k i hi))
  have e : fat (fun a : Pr => decide (cmpSS a.key k = 0)) l[plcP k l]? = fndP k l := by
    unfold fndP; cases l[plcP k l]? with
    | none => rfl
    | some a => simp [fat, cmpSS_eq]
  rw [e] at hb
  refine Pu.of D Tryz.func338 rfl rfl rfl ?_
  repeat' (first
    | (refine W.cond rfl ?_ ?_ <;> intro hb <;> try simp at hb)
    | refine cl (hb) ?_
    | refine goO ?_
    | refine goS ?_
    | (refine WO.gs _ rfl rfl rfl ?_ ?_ <;> intro hb <;> simp only [hb] <;> try simp at hb))
  all_goals exact ⟨.inr rfl, _, _, rfl, .cons (.c (.id rfl)) (.cons (.c (.id rfl)) .nil), rfl⟩
end Go.YtakiodehjhpgkaaGreatMc

namespace Go.YtakiodehjhpgkaaGreatMc
open Go.Proofs
abbrev Lx {α : Type} (e : α → List T) (xs : List α) : X := .c (.t (.l (xs.map e)))
abbrev Bx (b : Bool) : X := .c (.t (.b b))
abbrev Ix (n : Int) : X := .c (.t (tI n))
/-! ### Pairs: got, put, dropped -/
def pget (l : List Pr) (k : List UInt8) : Int := ((l[plcP k l]?).map (·.val)).getD (-1)
def pairGet (l : List Pr) (k : List UInt8) : Int := if pairsOk l && fndP k l then pget l k else -1
def pairPut (l : List Pr) (k : List UInt8) (v : Int) : List Pr × Bool :=
  if pairsOk l && keyOk k && inR v 0 999 then
    if fndP k l then (l.take (plcP k l) ++ [⟨k, v⟩] ++ l.drop (plcP k l + 1), true)
    else if 48 ≤ l.length then (l, false) else (l.take (plcP k l) ++ [⟨k, v⟩] ++ l.drop (plcP k l), true)
  else ([], false)
def pairDrop (l : List Pr) (k : List UInt8) : List Pr × Bool :=
  if pairsOk l then if fndP k l then (l.take (plcP k l) ++ [] ++ l.drop (plcP k l + 1), true) else (l, false) else ([], false)
abbrev PB (r : List Pr × Bool) : V := .tu [Lx Pr.e r.1, Bx r.2]
theorem fndP_lt {k : List UInt8} {l : List Pr} (h : fndP k l = true) : plcP k l < l.length := by
  unfold fndP at h
  cases e : l[plcP k l]? with
  | none => rw [e] at h; simp [fat] at h
  | some a => exact (List.getElem?_eq_some_iff.1 e).1
theorem fndP_key {k : List UInt8} {l : List Pr} (h : fndP k l = true) : l[plcP k l]? = some ⟨k, pget l k⟩ := by
  have h0 := fndP_lt h
  unfold fndP at h
  unfold pget
  rw [List.getElem?_eq_getElem h0] at h ⊢
  simp only [fat, decide_eq_true_eq] at h
  simp only [Option.map_some, Option.getD_some]
  generalize l[plcP k l] = q at h ⊢
  cases q
  simp only at h
  rw [h]
theorem pairGet_impl (l : List Pr) (k : List UInt8) : Pu Tryz.prog 319 [L Pr.e l, Sx k] (I (pairGet l k)) := by
  by_cases h : pairsOk l = true
  · have hl := pairs48 h
    by_cases hf : fndP k l = true
    · have h0 := fndP_lt hf
      refine Pu.of D Tryz.func319 rfl rfl rfl ?_
      repeat' (first
    | (refine W.cond rfl ?_ ?_ <;> intro hb <;> try simp at hb)
    | refine cl (pairsOk_impl l) ?_
    | refine cl (pPlace_impl l k h) ?_
    | refine goO ?_
    | refine goS ?_
    | (refine WO.gs _ rfl rfl rfl ?_ ?_ <;> intro hb <;> simp only [hb] <;> try simp at hb))
      all_goals first
        | (exfalso; simp_all; done)
        | (refine ⟨.inr rfl, _, _, rfl, .cons (.c (.id rfl)) .nil, ?_⟩; simp [resV, X.v, pairGet, pget, h, hf, h0]; done)
    · refine Pu.of D Tryz.func319 rfl rfl rfl ?_
      repeat' (first
    | (refine W.cond rfl ?_ ?_ <;> intro hb <;> try simp at hb)
    | refine cl (pairsOk_impl l) ?_
    | refine cl (pPlace_impl l k h) ?_
    | refine goO ?_
    | refine goS ?_
    | (refine WO.gs _ rfl rfl rfl ?_ ?_ <;> intro hb <;> simp only [hb] <;> try simp at hb))
      all_goals first
        | (exfalso; simp_all; done)
        | (refine ⟨.inr rfl, _, _, rfl, .cons (.c (.id rfl)) .nil, ?_⟩; simp [resV, X.v, pairGet, h, hf]; done)
  · refine Pu.of D Tryz.func319 rfl rfl rfl ?_
    repeat' (first
    | (refine W.cond rfl ?_ ?_ <;> intro hb <;> try simp at hb)
    | refine cl (pairsOk_impl l) ?_
    | refine goO ?_
    | refine goS ?_
    | (refine WO.gs _ rfl rfl rfl ?_ ?_ <;> intro hb <;> simp only [hb] <;> try simp at hb))
    all_goals first
      | (exfalso; simp_all; done)
      | (refine ⟨.inr rfl, _, _, rfl, .cons (.c (.id rfl)) .nil, ?_⟩; simp [resV, X.v, pairGet, h]; done)
theorem pairPut_impl (l : List Pr) (k : List UInt8) (v : Int) (hs : l.length ≤ 1048576) : Pu Tryz.prog 321 [L Pr.e l, Sx k, I v] (PB (pairPut l k v)) := by
  by_cases h : pairsOk l = true
  · have hl := pairs48 h
    have hp := plcBy_le (fun p : Pr => lt p.key k) l
    change plcP k l ≤ l.length at hp
    refine Pu.of D Tryz.func321 rfl rfl rfl ?_
    repeat' (first
    | (refine W.cond rfl ?_ ?_ <;> intro hb <;> try simp at hb)
    | refine cl (pairsOk_impl l) ?_
    | refine cl (keyOk_impl k) ?_
    | refine cl (value_ok v) ?_
    | refine cl (pPlace_impl l k h) ?_
    | refine cl (rpPr l [⟨k, v⟩] (plcP k l) 1 (by omega) (by simp) (by have := fndP_lt (by assumption : fndP k l = true); omega)) ?_
    | refine cl (rpPr l [⟨k, v⟩] (plcP k l) 0 (by omega) (by simp) (by omega)) ?_
    | refine OpK.of (OpOk.bldF D [⟨k, v⟩] Pr.e rfl rfl rfl rfl (by decide) (by decide) (by decide) rfl rfl rfl) ?_
    | refine cl (cpPr l hs) ?_
    | refine goO ?_
    | refine goS ?_
    | (refine WO.gs _ rfl rfl rfl ?_ ?_ <;> intro hb <;> simp only [hb] <;> try simp at hb))
    all_goals (refine ⟨.inr rfl, _, _, rfl, .cons (.c (by first | exact .emp | exact .full rfl rfl rfl | exact .id rfl | fail)) (.cons (.c (by first | exact .emp | exact .full rfl rfl rfl | exact .id rfl | fail)) (.nil)), ?_⟩; (simp only [resV, X.v]; unfold pairPut; (repeat' split) <;> first | rfl | (exfalso; simp_all; done) | (exfalso; simp_all; omega) | (simp_all; done)))
  · refine Pu.of D Tryz.func321 rfl rfl rfl ?_
    repeat' (first
    | (refine W.cond rfl ?_ ?_ <;> intro hb <;> try simp at hb)
    | refine cl (pairsOk_impl l) ?_
    | refine goO ?_
    | refine goS ?_
    | (refine WO.gs _ rfl rfl rfl ?_ ?_ <;> intro hb <;> simp only [hb] <;> try simp at hb))
    all_goals first
      | (exfalso; simp_all; done)
      | (refine ⟨.inr rfl, _, _, rfl, .cons (.c (by first | exact .emp | exact .full rfl rfl rfl | exact .id rfl | fail)) (.cons (.c (by first | exact .emp | exact .full rfl rfl rfl | exact .id rfl | fail)) (.nil)), ?_⟩; (simp only [resV, X.v]; unfold pairPut; (repeat' split) <;> first | rfl | (exfalso; simp_all; done) | (exfalso; simp_all; omega) | (simp_all; done)))
theorem pairDrop_impl (l : List Pr) (k : List UInt8) (hs : l.length ≤ 1048576) : Pu Tryz.prog 320 [L Pr.e l, Sx k] (PB (pairDrop l k)) := by
  by_cases h : pairsOk l = true
  · have hl := pairs48 h
    refine Pu.of D Tryz.func320 rfl rfl rfl ?_
    repeat' (first
    | (refine W.cond rfl ?_ ?_ <;> intro hb <;> try simp at hb)
    | refine cl (pairsOk_impl l) ?_
    | refine cl (pPlace_impl l k h) ?_
    | refine cl (rpPr l [] (plcP k l) 1 (by omega) (by simp) (by have := fndP_lt (by assumption : fndP k l = true); omega)) ?_
    | refine cl (cpPr l hs) ?_
    | refine goO ?_
    | refine goS ?_
    | (refine WO.gs _ rfl rfl rfl ?_ ?_ <;> intro hb <;> simp only [hb] <;> try simp at hb))
    all_goals (refine ⟨.inr rfl, _, _, rfl, .cons (.c (by first | exact .emp | exact .full rfl rfl rfl | exact .id rfl | fail)) (.cons (.c (by first | exact .emp | exact .full rfl rfl rfl | exact .id rfl | fail)) (.nil)), ?_⟩; (simp only [resV, X.v]; unfold pairDrop; (repeat' split) <;> first | rfl | (exfalso; simp_all; done) | (exfalso; simp_all; omega) | (simp_all; done)))
  · refine Pu.of D Tryz.func320 rfl rfl rfl ?_
    repeat' (first
    | (refine W.cond rfl ?_ ?_ <;> intro hb <;> try simp at hb)
    | refine cl (pairsOk_impl l) ?_
    | refine goO ?_
    | refine goS ?_
    | (refine WO.gs _ rfl rfl rfl ?_ ?_ <;> intro hb <;> simp only [hb] <;> try simp at hb))
    all_goals first
      | (exfalso; simp_all; done)
      | (refine ⟨.inr rfl, _, _, rfl, .cons (.c (by first | exact .emp | exact .full rfl rfl rfl | exact .id rfl | fail)) (.cons (.c (by first | exact .emp | exact .full rfl rfl rfl | exact .id rfl | fail)) (.nil)), ?_⟩; (simp only [resV, X.v]; unfold pairDrop; (repeat' split) <;> first | rfl | (exfalso; simp_all; done) | (exfalso; simp_all; omega) | (simp_all; done)))
/-! ### Commands, applied -/
def applyCmd (l : List Pr) (c : Cmd) : List Pr × Int :=
  if pairsOk l && cmdOk c && decide (c.kind ≠ 5) then
    if c.kind = 3 then ((pairDrop l c.key).1, pairGet l c.key)
    else if c.kind = 1 ∨ (c.kind = 4 ∧ c.old ≠ pairGet l c.key) then (l, pairGet l c.key)
    else if pairGet l c.key = -1 ∧ 8 ≤ l.length then (l, -2)
    else ((pairPut l c.key c.val).1, pairGet l c.key)
  else ([], -3)
abbrev PI (r : List Pr × Int) : V := .tu [Lx Pr.e r.1, Ix r.2]
set_option maxHeartbeats 4000000 in
theorem applyCmd_impl (l : List Pr) (c : Cmd) (hs : l.length ≤ 1048576) : Pu Tryz.prog 282 [L Pr.e l, A c.e] (PI (applyCmd l c)) := by
  refine Pu.of D Tryz.func282 rfl rfl rfl ?_
  repeat' (first
    | (refine W.cond rfl ?_ ?_ <;> intro hb <;> try simp at hb)
    | refine cl (pairsOk_impl l) ?_
    | refine cl (cmdOk_impl c) ?_
    | refine cl (pairGet_impl l c.key) ?_
    | refine cl (pairDrop_impl l c.key hs) ?_
    | refine cl (pairPut_impl l c.key c.val hs) ?_
    | refine cl (cpPr l hs) ?_
    | refine goO ?_
    | refine goS ?_
    | (refine WO.gs _ rfl rfl rfl ?_ ?_ <;> intro hb <;> simp only [hb] <;> try simp at hb))
  all_goals (refine ⟨.inr rfl, _, _, rfl, .cons (.c (by first | exact .emp | exact .full rfl rfl rfl | exact .id rfl | fail)) (.cons (.c (by first | exact .emp | exact .full rfl rfl rfl | exact .id rfl | fail)) (.nil)), ?_⟩; (simp only [resV, X.v]; unfold applyCmd; (repeat' split) <;> first | rfl | (exfalso; simp_all; done) | (exfalso; simp_all; omega) | (simp_all; done)))
end Go.YtakiodehjhpgkaaGreatMc

namespace Go.YtakiodehjhpgkaaGreatMc
open Go.Proofs
/-! ### Lists in order -/
theorem row_iff {α : Type} {f : Option α → α → Bool} {q : α → Bool} {r : α → α → Prop} (h0 : ∀ a, f none a = q a) (h1 : ∀ a b, f (some a) b = true ↔ q b = true ∧ r a b) (ht : ∀ a b c, r a b → r b c → r a c) : ∀ (l : List α), rowOk f none l = true ↔ l.all q = true ∧ l.Pairwise r := by
  have gen : ∀ (l : List α) (a : α), rowOk f (some a) l = true ↔ l.all q = true ∧ (a :: l).Pairwise r := by
    intro l
    induction l with
    | nil => intro a; simp [rowOk]
    | cons b l ih =>
      intro a
      simp only [rowOk, Bool.and_eq_true, h1, ih b, List.all_cons, List.pairwise_cons]
      constructor
      · rintro ⟨⟨a1, a2⟩, a3, a4, a5⟩
        refine ⟨⟨a1, a3⟩, fun c hc => ?_, a4, a5⟩
        rcases List.mem_cons.1 hc with rfl | hc
        · exact a2
        · exact ht _ _ _ a2 (a4 c hc)
      · rintro ⟨⟨a1, a3⟩, a2, a4, a5⟩
        exact ⟨⟨a1, a2 b (by simp)⟩, a3, a4, a5⟩
  intro l
  cases l with
  | nil => simp [rowOk]
  | cons a l => simp only [rowOk, Bool.and_eq_true, h0, gen l a, List.all_cons, and_assoc]
def prQ (a : Pr) : Bool := keyOk a.key && inR a.val 0 999
def seQ (a : Ses) : Bool := inR a.client 0 3 && inR a.seq 1 999 && inR a.reply (-2) 999
theorem pairsOk_iff (l : List Pr) : pairsOk l = true ↔ l.length ≤ 48 ∧ l.all prQ = true ∧ l.Pairwise (fun a b => lt a.key b.key = true) := by
  simp only [pairsOk, Bool.and_eq_true, decide_eq_true_eq]
  rw [row_iff (q := prQ) (r := fun a b : Pr => lt a.key b.key = true) (fun a => by simp [prOk, prQ]) (fun a b => by simp [prOk, prQ]) (fun a b c => lt_trans')]
theorem sesOk_iff (l : List Ses) : sesOk l = true ↔ l.all seQ = true ∧ l.Pairwise (fun a b => a.client < b.client) := by
  simp only [sesOk]
  rw [row_iff (q := seQ) (r := fun a b : Ses => a.client < b.client) (fun a => by simp [seOk, seQ]) (fun a b => by simp [seOk, seQ]) (fun a b c => Int.lt_trans)]
theorem mem_take_plc {α : Type} (f : α → Bool) : ∀ {l : List α} {a : α}, a ∈ l.take (plcBy f l) → f a = true
  | [], a, h => by simp at h
  | b :: l, a, h => by
    unfold plcBy at h
    split at h
    · rename_i hb
      rw [List.take_succ_cons] at h
      rcases List.mem_cons.1 h with rfl | h
      · exact hb
      · exact mem_take_plc f h
    · simp at h
theorem put_pw {α : Type} {r : α → α → Prop} {l : List α} (h : l.Pairwise r) (x : α) (i j : Nat) (hij : i ≤ j) (h1 : ∀ a ∈ l.take i, r a x) (h2 : ∀ a ∈ l.drop j, r x a) : (l.take i ++ [x] ++ l.drop j).Pairwise r := by
  have hd : (l.take i ++ l.drop j).Pairwise r := by
    have hs : (l.take i ++ l.drop j).Sublist l := by
      have : (l.take i ++ l.drop j).Sublist (l.take i ++ l.drop i) := List.Sublist.append (List.Sublist.refl _) (by
        rw [show j = i + (j - i) by omega, ← List.drop_drop]
        exact List.drop_sublist _ _)
      rwa [List.take_append_drop] at this
    exact h.sublist hs
  rw [List.pairwise_append] at hd
  rw [List.pairwise_append, List.pairwise_append]
  refine ⟨⟨hd.1, by simp, fun a ha b hb => by simp at hb; subst hb; exact h1 a ha⟩, hd.2.1, fun a ha b hb => ?_⟩
  rcases List.mem_append.1 ha with ha | ha
  · exact hd.2.2 a ha b hb
  · simp at ha; subst ha; exact h2 b hb
theorem mem_drop_ge {l : List Pr} (h : pairsOk l = true) {k : List UInt8} {a : Pr} (j : Nat) (hj : plcP k l ≤ j) (hf : fndP k l = true → plcP k l < j) (ha : a ∈ l.drop j) : lt k a.key = true := by
  obtain ⟨i, hi⟩ := List.getElem?_of_mem ha
  rw [List.getElem?_drop] at hi
  have hlt := (List.getElem?_eq_some_iff.1 hi).1
  have hv := (List.getElem?_eq_some_iff.1 hi).2
  have h1 : ¬ lt l[j + i].key k = true := fun e => by have := (plcP_iff h k (j + i) hlt).1 e; omega
  rw [hv] at h1
  refine lt_total (by simpa using h1) fun e => ?_
  -- the key itself is at the place
  have h2 : plcP k l < l.length := by omega
  by_cases e2 : j + i = plcP k l
  · have : fndP k l = true := by
      unfold fndP; rw [← e2, hi]; simp [fat, e]
    have := hf this; omega
  · have h3 := pr_lt h (plcP k l) (j + i) hlt (by omega)
    rw [hv, e] at h3
    have h4 := (plcP_iff h k (plcP k l) h2).1 h3
    omega
theorem mem_dropS {l : List Ses} (h : sesOk l = true) {c : Int} {a : Ses} (j : Nat) (hj : plcS c l ≤ j) (hf : fndS c l = true → plcS c l < j) (ha : a ∈ l.drop j) : c < a.client := by
  obtain ⟨i, hi⟩ := List.getElem?_of_mem ha
  rw [List.getElem?_drop] at hi
  have hlt := (List.getElem?_eq_some_iff.1 hi).1
  have hv := (List.getElem?_eq_some_iff.1 hi).2
  have h1 : ¬ l[j + i].client < c := fun e => by have := (plcS_iff h c (j + i) hlt).1 e; omega
  rw [hv] at h1
  rcases Int.lt_trichotomy c a.client with g | g | g
  · exact g
  · exfalso
    have h2 : plcS c l < l.length := by omega
    by_cases e2 : j + i = plcS c l
    · have : fndS c l = true := by
        unfold fndS; rw [← e2, hi]; simp [fat, g]
      have := hf this; omega
    · have h3 := ses_lt h (plcS c l) (j + i) hlt (by omega)
      rw [hv, ← g] at h3
      have h4 := (plcS_iff h c (plcS c l) h2).1 h3
      omega
  · exact absurd g h1
theorem pairPut_ok (l : List Pr) (k : List UInt8) (v : Int) : pairsOk (pairPut l k v).1 = true := by
  unfold pairPut
  split
  · rename_i hc
    simp only [Bool.and_eq_true] at hc
    obtain ⟨⟨h, hk⟩, hv⟩ := hc
    obtain ⟨a1, a2, a3⟩ := (pairsOk_iff l).1 h
    have hp := plcBy_le (fun p : Pr => lt p.key k) l
    change plcP k l ≤ l.length at hp
    have hq : prQ ⟨k, v⟩ = true := by simp [prQ, hk, hv]
    have al : ∀ i j, (l.take i ++ [(⟨k, v⟩ : Pr)] ++ l.drop j).all prQ = true := fun i j => by
      rw [List.all_eq_true] at a2 ⊢
      intro a ha
      rcases List.mem_append.1 ha with ha | ha
      · rcases List.mem_append.1 ha with ha | ha
        · exact a2 a (List.mem_of_mem_take ha)
        · simp at ha; subst ha; exact hq
      · exact a2 a (List.mem_of_mem_drop ha)
    have t1 : ∀ a ∈ l.take (plcP k l), lt a.key k = true := fun a ha => mem_take_plc (fun p : Pr => lt p.key k) ha
    split
    · rename_i hf
      have := fndP_lt hf
      exact (pairsOk_iff _).2 ⟨by simp; omega, al _ _, put_pw a3 _ _ _ (by omega) t1 fun a ha => mem_drop_ge (k := k) h _ (by omega) (fun _ => by omega) ha⟩
    · rename_i hf
      split
      · exact h
      · exact (pairsOk_iff _).2 ⟨by simp; omega, al _ _, put_pw a3 _ _ _ (by omega) t1 fun a ha => mem_drop_ge (k := k) h _ (by omega) (fun e => absurd e hf) ha⟩
  · rfl
theorem pairDrop_ok (l : List Pr) (k : List UInt8) : pairsOk (pairDrop l k).1 = true := by
  unfold pairDrop
  split
  · rename_i h
    split
    · obtain ⟨a1, a2, a3⟩ := (pairsOk_iff l).1 h
      have hs : (l.take (plcP k l) ++ [] ++ l.drop (plcP k l + 1)).Sublist l := by
        rw [List.append_nil]
        have : (l.take (plcP k l) ++ l.drop (plcP k l + 1)).Sublist (l.take (plcP k l) ++ l.drop (plcP k l)) := List.Sublist.append (List.Sublist.refl _) (by
          rw [← List.drop_drop]; exact List.drop_sublist _ _)
        rwa [List.take_append_drop] at this
      refine (pairsOk_iff _).2 ⟨Nat.le_trans hs.length_le a1, ?_, a3.sublist hs⟩
      rw [List.all_eq_true] at a2 ⊢
      exact fun a ha => a2 a (hs.subset ha)
    · exact h
  · rfl
theorem pairPut_mem {l : List Pr} {k : List UInt8} {v : Int} {a : Pr} (ha : a ∈ (pairPut l k v).1) : a ∈ l ∨ a = ⟨k, v⟩ := by
  have gen : ∀ i j, a ∈ l.take i ++ [(⟨k, v⟩ : Pr)] ++ l.drop j → a ∈ l ∨ a = ⟨k, v⟩ := fun i j h => by
    rcases List.mem_append.1 h with h | h
    · rcases List.mem_append.1 h with h | h
      · exact .inl (List.mem_of_mem_take h)
      · simp at h; exact .inr h
    · exact .inl (List.mem_of_mem_drop h)
  unfold pairPut at ha
  split at ha
  · split at ha
    · exact gen _ _ ha
    · split at ha
      · exact .inl ha
      · exact gen _ _ ha
  · simp at ha
theorem pairDrop_mem {l : List Pr} {k : List UInt8} {a : Pr} (ha : a ∈ (pairDrop l k).1) : a ∈ l := by
  unfold pairDrop at ha
  split at ha
  · split at ha
    · simp only [List.append_nil] at ha
      rcases List.mem_append.1 ha with h | h
      · exact List.mem_of_mem_take h
      · exact List.mem_of_mem_drop h
    · exact ha
  · simp at ha
theorem applyCmd_ok (l : List Pr) (c : Cmd) : pairsOk (applyCmd l c).1 = true := by
  unfold applyCmd
  split
  · rename_i h
    simp only [Bool.and_eq_true] at h
    repeat' split
    · exact pairDrop_ok ..
    · exact h.1.1
    · exact h.1.1
    · exact pairPut_ok ..
  · rfl
theorem applyCmd_mem {l : List Pr} {c : Cmd} {a : Pr} (ha : a ∈ (applyCmd l c).1) : a ∈ l ∨ a.key = c.key := by
  unfold applyCmd at ha
  repeat' split at ha
  · exact .inl (pairDrop_mem ha)
  · exact .inl ha
  · exact .inl ha
  · exact (pairPut_mem ha).imp id fun e => by rw [e]
  · simp at ha
end Go.YtakiodehjhpgkaaGreatMc

namespace Go.YtakiodehjhpgkaaGreatMc
open Go.Proofs
/-! ### Sessions -/
def sesAt (l : List Ses) (c : Int) : Ses := (l[plcS c l]?).getD ⟨0, 0, 0⟩
theorem fndS_lt {c : Int} {l : List Ses} (h : fndS c l = true) : plcS c l < l.length := by
  unfold fndS at h
  cases e : l[plcS c l]? with
  | none => rw [e] at h; simp [fat] at h
  | some a => exact (List.getElem?_eq_some_iff.1 e).1
theorem sesAt_eq {c : Int} {l : List Ses} (h : plcS c l < l.length) : sesAt l c = l[plcS c l] := by simp [sesAt, h]
theorem sesAt_cl {c : Int} {l : List Ses} (h : fndS c l = true) : (sesAt l c).client = c := by
  have h0 := fndS_lt h
  rw [sesAt_eq h0]
  unfold fndS at h
  rw [List.getElem?_eq_getElem h0] at h
  simpa [fat] using h
def sesPut (l : List Ses) (s : Ses) : List Ses × Bool :=
  if sesOk l && sesOk [s] then
    if fndS s.client l then
      if s.seq ≤ (sesAt l s.client).seq then (l, false) else (l.take (plcS s.client l) ++ [s] ++ l.drop (plcS s.client l + 1), true)
    else (l.take (plcS s.client l) ++ [s] ++ l.drop (plcS s.client l), true)
  else ([], false)
abbrev SB (r : List Ses × Bool) : V := .tu [Lx Ses.e r.1, Bx r.2]
theorem sesPut_ok (l : List Ses) (s : Ses) : sesOk (sesPut l s).1 = true := by
  unfold sesPut
  split
  · rename_i hc
    simp only [Bool.and_eq_true] at hc
    obtain ⟨h, hs⟩ := hc
    obtain ⟨a2, a3⟩ := (sesOk_iff l).1 h
    have hq : seQ s = true := by have := ((sesOk_iff [s]).1 hs).1; simpa using this
    have al : ∀ i j, (l.take i ++ [s] ++ l.drop j).all seQ = true := fun i j => by
      rw [List.all_eq_true] at a2 ⊢
      intro a ha
      rcases List.mem_append.1 ha with ha | ha
      · rcases List.mem_append.1 ha with ha | ha
        · exact a2 a (List.mem_of_mem_take ha)
        · simp at ha; subst ha; exact hq
      · exact a2 a (List.mem_of_mem_drop ha)
    have t1 : ∀ a ∈ l.take (plcS s.client l), a.client < s.client := fun a ha => by simpa using mem_take_plc (fun x : Ses => decide (x.client < s.client)) ha
    split
    · split
      · exact h
      · exact (sesOk_iff _).2 ⟨al _ _, put_pw a3 _ _ _ (by omega) t1 fun a ha => mem_dropS h _ (by omega) (fun _ => by omega) ha⟩
    · rename_i hf
      exact (sesOk_iff _).2 ⟨al _ _, put_pw a3 _ _ _ (by omega) t1 fun a ha => mem_dropS h _ (by omega) (fun e => absurd e hf) ha⟩
  · rfl
theorem sesPut_impl (l : List Ses) (s : Ses) (hs : l.length ≤ 1048576) : Pu Tryz.prog 283 [L Ses.e l, A s.e] (SB (sesPut l s)) := by
  by_cases h : sesOk l = true
  · have hl := ses4 h
    have hp := plcBy_le (fun x : Ses => decide (x.client < s.client)) l
    change plcS s.client l ≤ l.length at hp
    by_cases hf : fndS s.client l = true
    · have h0 := fndS_lt hf
      have e := sesAt_eq h0
      refine Pu.of D Tryz.func283 rfl rfl rfl ?_
      repeat' (first
    | (refine W.cond rfl ?_ ?_ <;> intro hb <;> try simp at hb)
    | refine cl (sesOk_impl l hs) ?_
    | refine cl (sesOk_impl [s] (by simp)) ?_
    | refine cl (sPlace_impl l s.client h) ?_
    | refine cl (rpSes l [s] (plcS s.client l) 1 (by omega) (by simp) (by omega)) ?_
    | refine cl (rpSes l [s] (plcS s.client l) 0 (by omega) (by simp) (by omega)) ?_
    | refine OpK.of (OpOk.bldF D [s] Ses.e rfl rfl rfl rfl (by decide) (by decide) (by decide) rfl rfl rfl) ?_
    | refine OpD.of (OpOk.bldF D [s] Ses.e rfl rfl rfl rfl (by decide) (by decide) (by decide) rfl rfl rfl) ?_
    | refine cl (cpSes l hs) ?_
    | refine goO ?_
    | refine goS ?_
    | (refine WO.gs _ rfl rfl rfl ?_ ?_ <;> intro hb <;> simp only [hb] <;> try simp at hb)
    | (refine WD.gs _ rfl rfl rfl ?_ ?_ <;> intro hb <;> simp only [hb] <;> try simp at hb))
      all_goals (refine ⟨.inr rfl, _, _, rfl, .cons (.c (by first | exact .emp | exact .full rfl rfl rfl | exact .id rfl | fail)) (.cons (.c (by first | exact .emp | exact .full rfl rfl rfl | exact .id rfl | fail)) (.nil)), ?_⟩; simp only [resV, X.v]; unfold sesPut; rw [e]; (repeat' split) <;> first | rfl | (exfalso; simp_all; done) | (exfalso; simp_all; omega) | (simp_all; done))
    · refine Pu.of D Tryz.func283 rfl rfl rfl ?_
      repeat' (first
    | (refine W.cond rfl ?_ ?_ <;> intro hb <;> try simp at hb)
    | refine cl (sesOk_impl l hs) ?_
    | refine cl (sesOk_impl [s] (by simp)) ?_
    | refine cl (sPlace_impl l s.client h) ?_
    | refine cl (rpSes l [s] (plcS s.client l) 0 (by omega) (by simp) (by omega)) ?_
    | refine OpK.of (OpOk.bldF D [s] Ses.e rfl rfl rfl rfl (by decide) (by decide) (by decide) rfl rfl rfl) ?_
    | refine OpD.of (OpOk.bldF D [s] Ses.e rfl rfl rfl rfl (by decide) (by decide) (by decide) rfl rfl rfl) ?_
    | refine cl (cpSes l hs) ?_
    | refine goO ?_
    | refine goS ?_
    | (refine WO.gs _ rfl rfl rfl ?_ ?_ <;> intro hb <;> simp only [hb] <;> try simp at hb)
    | (refine WD.gs _ rfl rfl rfl ?_ ?_ <;> intro hb <;> simp only [hb] <;> try simp at hb))
      all_goals first
        | (exfalso; simp_all; done)
        | (refine ⟨.inr rfl, _, _, rfl, .cons (.c (by first | exact .emp | exact .full rfl rfl rfl | exact .id rfl | fail)) (.cons (.c (by first | exact .emp | exact .full rfl rfl rfl | exact .id rfl | fail)) (.nil)), ?_⟩; (simp only [resV, X.v]; unfold sesPut; (repeat' split) <;> first | rfl | (exfalso; simp_all; done) | (exfalso; simp_all; omega) | (simp_all; done)))
  · refine Pu.of D Tryz.func283 rfl rfl rfl ?_
    repeat' (first
    | (refine W.cond rfl ?_ ?_ <;> intro hb <;> try simp at hb)
    | refine cl (sesOk_impl l hs) ?_
    | refine goO ?_
    | refine goS ?_
    | (refine WO.gs _ rfl rfl rfl ?_ ?_ <;> intro hb <;> simp only [hb] <;> try simp at hb)
    | (refine WD.gs _ rfl rfl rfl ?_ ?_ <;> intro hb <;> simp only [hb] <;> try simp at hb))
    all_goals first
      | (exfalso; simp_all; done)
      | (refine ⟨.inr rfl, _, _, rfl, .cons (.c (by first | exact .emp | exact .full rfl rfl rfl | exact .id rfl | fail)) (.cons (.c (by first | exact .emp | exact .full rfl rfl rfl | exact .id rfl | fail)) (.nil)), ?_⟩; (simp only [resV, X.v]; unfold sesPut; (repeat' split) <;> first | rfl | (exfalso; simp_all; done) | (exfalso; simp_all; omega) | (simp_all; done)))
/-! ### Entries, applied -/
def zStt : Stt := ⟨⟨[], []⟩, [], [], false, []⟩
def takes (s : Stt) (c : Cmd) : Bool := if c.kind = 5 then (decide (c.key = []) || cutOk s.span c.key) else hasK s.span c.key
def doneCmd (s : Stt) (e : Ent) : Stt × Int := if e.cmd.kind = 5 then (⟨s.span, s.pairs, s.known, true, e.cmd.key⟩, 0) else (⟨s.span, (applyCmd s.pairs e.cmd).1, s.known, s.sealed, s.cut⟩, (applyCmd s.pairs e.cmd).2)
def noted (s : Stt) (r : Stt × Int) (e : Ent) : Stt × Int := (⟨r.1.span, r.1.pairs, (sesPut s.known ⟨e.client, e.seq, r.2⟩).1, r.1.sealed, r.1.cut⟩, r.2)
def applyEnt (s : Stt) (e : Ent) : Stt × Int :=
  if stOk s && entOk e then
    if fndS e.client s.known && decide (e.seq ≤ (sesAt s.known e.client).seq) then
      if e.seq = (sesAt s.known e.client).seq then (s, (sesAt s.known e.client).reply) else (s, -4)
    else if s.sealed || !takes s e.cmd then (s, -3)
    else noted s (doneCmd s e) e
  else (zStt, -3)
abbrev SI (r : Stt × Int) : V := .tu [.ag (tc r.1.e), Ix r.2]
theorem copySt_impl (s : Stt) (hs : s.Sm) : Pu Tryz.prog 189 [A s.e] (A s.e) := by
  have h1 := hs.pairsN; have h2 := hs.knownN
  refine Pu.of D Tryz.func189 rfl rfl rfl ?_
  repeat' (first
    | (refine W.cond rfl ?_ ?_ <;> intro hb <;> try simp at hb)
    | refine cl (cpPr s.pairs h1) ?_
    | refine cl (cpSes s.known h2) ?_
    | refine goO ?_
    | refine goS ?_
    | (refine WO.gs _ rfl rfl rfl ?_ ?_ <;> intro hb <;> simp only [hb] <;> try simp at hb))
  all_goals (refine ⟨.inr rfl, _, _, rfl, .cons (.ag (.cons (by first | exact .emp | exact .full rfl rfl rfl | exact .id rfl | fail) (.cons (by first | exact .emp | exact .full rfl rfl rfl | exact .id rfl | fail) (.cons (by first | exact .emp | exact .full rfl rfl rfl | exact .id rfl | fail) (.cons (by first | exact .emp | exact .full rfl rfl rfl | exact .id rfl | fail) (.cons (by first | exact .emp | exact .full rfl rfl rfl | exact .id rfl | fail) (.cons (by first | exact .emp | exact .full rfl rfl rfl | exact .id rfl | fail) .nil))))))) (.nil), ?_⟩; rfl)
theorem takes_impl (s : Stt) (c : Cmd) : Pu Tryz.prog 281 [A s.e, A c.e] (B (takes s c)) := by
  refine Pu.of D Tryz.func281 rfl rfl rfl ?_
  repeat' (first
    | (refine W.cond rfl ?_ ?_ <;> intro hb <;> try simp at hb)
    | refine cl (inside_ok s.span c.key) ?_
    | refine cl (cut_impl2 s.span c.key) ?_
    | refine goO ?_
    | refine goS ?_
    | (refine WO.gs _ rfl rfl rfl ?_ ?_ <;> intro hb <;> simp only [hb] <;> try simp at hb))
  all_goals (refine ⟨.inr rfl, _, _, rfl, .cons (.c (.id rfl)) .nil, ?_⟩; (simp only [resV, X.v]; unfold takes; (repeat' split) <;> first | rfl | (exfalso; simp_all; done) | (exfalso; simp_all; omega) | (simp_all; done)))
theorem stOk_d {s : Stt} (h : stOk s = true) : ivOk s.span = true ∧ pairsOk s.pairs = true ∧ sesOk s.known = true ∧ hasAll s = true ∧ (s.cut = [] ∨ (s.sealed = true ∧ cutOk s.span s.cut = true)) := by
  simpa [stOk, and_assoc] using h
end Go.YtakiodehjhpgkaaGreatMc
