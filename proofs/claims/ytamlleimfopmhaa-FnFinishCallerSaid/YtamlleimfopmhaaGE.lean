/- Lemmas of this claim: walks through code, values and memory, and the contracts of functions; under no condition beyond those that each states. -/
import Derived.Test.YtamlleimfopmhaaGD
import Derived.Test.YtamlleimfopmhaaGC
set_option maxRecDepth 100000
set_option linter.unusedVariables false
set_option linter.unusedSimpArgs false
namespace Go.YtamlleimfopmhaaMc
open Go.Proofs
/-! ### Draws: clients that ask and finish -/
theorem OpOk.quoT (w : Int) {P : Program} {n : Nat} {o : Oper} {env : Env} {h : List Blk} {t t' : Nat} {x y : Operand} {a b : Int} (ho : o.op = .binOp .quo t x y t') (hx : oe env x = some (.c (.t (.i .i64 a)))) (hy : oe env y = some (.c (.t (.i .i64 b)))) (hw : a.tdiv b = w) (hb : b ≠ 0) (h0 : -9223372036854775808 ≤ w) (h1 : w ≤ 9223372036854775807) : OpOk P n o env h (.c (.t (.i .i64 w))) h := by
  have := OpOk.idiv (P := P) (n := n) (h := h) ho hx hy hb
  rw [hw] at this
  rwa [wrap_i64 h0 h1] at this
theorem OpOk.addZ (w : Int) {P : Program} {n : Nat} {o : Oper} {env : Env} {h : List Blk} {t t' : Nat} {x y : Operand} {a b : Int} (ho : o.op = .binOp .add t x y t') (hx : oe env x = some (.c (.t (.i .i64 a)))) (hy : oe env y = some (.c (.t (.i .i64 b)))) (hw : a + b = w) (h0 : -9223372036854775808 ≤ w) (h1 : w ≤ 9223372036854775807) : OpOk P n o env h (.c (.t (.i .i64 w))) h := by
  have := OpOk.ibin (P := P) (n := n) (h := h) (r := .i .i64 (IntKind.i64.wrap (a + b))) ho hx hy rfl
  rw [hw] at this
  rwa [wrap_i64 h0 h1] at this
theorem OpOk.subZ (w : Int) {P : Program} {n : Nat} {o : Oper} {env : Env} {h : List Blk} {t t' : Nat} {x y : Operand} {a b : Int} (ho : o.op = .binOp .sub t x y t') (hx : oe env x = some (.c (.t (.i .i64 a)))) (hy : oe env y = some (.c (.t (.i .i64 b)))) (hw : a - b = w) (h0 : -9223372036854775808 ≤ w) (h1 : w ≤ 9223372036854775807) : OpOk P n o env h (.c (.t (.i .i64 w))) h := by
  have := OpOk.ibin (P := P) (n := n) (h := h) (r := .i .i64 (IntKind.i64.wrap (a - b))) ho hx hy rfl
  rw [hw] at this
  rwa [wrap_i64 h0 h1] at this
set_option maxHeartbeats 4000000 in
theorem drawAsk_ex (bs : List UInt8) (hb : bs.length ≤ 1048576) : ∃ (c : Cal) (w : Cmd) (v : Int), c.Dr ∧ Pu Try.prog 16 [L eU bs] (.tu [.ag (tc c.e), .ag (tc w.e), .c (.t (tI v))]) := by
  have eo := open_ok bs hb
  have r0 : Rok (bs.take 2000) 0 := ⟨by simp; omega, by omega⟩
  generalize bs.take 2000 = cs at eo r0
  obtain ⟨c, p1, a1, a2, a3, ec⟩ := client_ex r0 (by omega) 12 (by omega)
  obtain ⟨m, p2, b1, b2, _, _, em⟩ := cmd_ex (p := p1) ⟨r0.b, by omega⟩ (by omega) 12 (by omega)
  obtain ⟨k, _, _, e1⟩ := pick_ex (p := p2) ⟨r0.b, by omega⟩ 12 (by omega)
  obtain ⟨v, p3, c1, c2, _, c4, et⟩ := time_ex (p := p2 + 1) ⟨r0.b, by omega⟩ (by omega) 12 (by omega)
  by_cases hk : (k : Int) = 11
  · refine ⟨c, ⟨5, [], 0, 0⟩, v, a3, ?_⟩
    refine Pu.of D Try.func16 rfl rfl rfl ?_
    repeat' (first
    | (refine W.cond rfl ?_ ?_ <;> intro hb <;> (try simp at hb) <;> (try contradiction) <;> (try (exfalso; omega)))
    | refine W.dg 6 6 [0,1,2] [0,1] [3,4,5] mixed (by decide +kernel) ?_
    | refine W.dge 6 6 [0,1,2] [0,1] [3,4,5] mixed (by decide +kernel) ?_
    | refine WG.t rfl ?_ rfl
    | refine WG.s1 rfl rfl rfl rfl rfl ?_
    | refine WG.b1 rfl rfl rfl rfl rfl ?_
    | refine WG.f1 rfl rfl rfl rfl rfl ?_
    | refine WG.n1 rfl rfl rfl ?_
    | apply Gf.go
    | refine WG.u rfl rfl rfl ?_
    | refine WG.done rfl ?_
    | refine GK.go rfl ?_
    | refine GN.go rfl ?_
    | (apply Af.mk; intro z_ x_)
    | (apply Ev.mk; rfl)
    | (apply OpD.of; apply stpR_ok D; rfl)
    | (apply OpD.of; refine OpOk.lenS D rfl rfl rfl rfl)
    | (apply OpD.of; refine OpOk.lenM D rfl rfl rfl rfl)
    | (apply OpD.of; refine OpOk.lenL D rfl rfl rfl rfl)
    | (apply OpD.of; refine OpOk.lenA D rfl rfl rfl rfl rfl rfl)
    | (apply OpD.of; refine OpOk.lenE D rfl rfl rfl rfl)
    | (apply OpD.of; refine OpOk.add rfl rfl rfl (by omega))
    | (apply OpD.of; refine OpOk.sub rfl rfl rfl (by omega))
    | (apply OpD.of; refine OpOk.build2 D rfl rfl rfl rfl rfl rfl)
    | (refine OpK.at 9 ?_; refine co [] (eo) ?_)
    | (refine OpD.at 9 ?_; refine co [] (eo) ?_)
    | (refine OpK.at 11 ?_; refine co [2] (ec) ?_)
    | (refine OpD.at 11 ?_; refine co [2] (ec) ?_)
    | (refine OpK.at 13 ?_; refine co [2] (em) ?_)
    | (refine OpD.at 13 ?_; refine co [2] (em) ?_)
    | (refine OpK.at 15 ?_; refine co [2] (e1) ?_)
    | (refine OpD.at 15 ?_; refine co [2] (e1) ?_)
    | (refine OpK.at 21 ?_; refine co [2] (et) ?_)
    | (refine OpD.at 21 ?_; refine co [2] (et) ?_)
    | refine goO ?_
    | refine goB ?_
    | refine OpK.of (stpR_ok D rfl) ?_
    | refine W.dv0 mixed rfl (by decide +kernel) ?_
    | refine W.dv1 mixed rfl (by decide +kernel) ?_
    | refine W.dv2 mixed rfl (by decide +kernel) ?_
    | refine W.dm0 mixed rfl (by decide +kernel) (by repeat' (first | exact .nil | refine .box rfl ?_ | refine .arr (rs_low _ _ _) ?_ | refine .dead ?_ | fail)) ?_
    | refine W.dm1 mixed rfl (by decide +kernel) (by repeat' (first | exact .nil | refine .box rfl ?_ | refine .arr (rs_low _ _ _) ?_ | refine .dead ?_ | fail)) ?_
    | refine W.dm2 mixed rfl (by decide +kernel) (by repeat' (first | exact .nil | refine .box rfl ?_ | refine .arr (rs_low _ _ _) ?_ | refine .dead ?_ | fail)) ?_
    | refine WD.done rfl ?_
    | refine WD.t rfl ?_ rfl
    | refine WD.g rfl rfl rfl ?_
    | refine WD.u rfl rfl rfl ?_
    | refine OpD.of (stpR_ok D rfl) ?_
    | (refine WO.gs _ rfl rfl rfl ?_ ?_ <;> intro hb <;> simp only [hb] <;> (try simp at hb) <;> (try contradiction) <;> (try (exfalso; omega)))
    | (refine WG.gs _ rfl rfl rfl ?_ ?_ <;> intro hb <;> simp only [hb] <;> (try simp at hb) <;> (try contradiction) <;> (try (exfalso; omega)))
    | (refine WD.gs _ rfl rfl rfl ?_ ?_ <;> intro hb <;> simp only [hb] <;> (try simp at hb) <;> (try contradiction) <;> (try (exfalso; omega))))
    all_goals first
      | (exfalso; omega)
      | (refine ⟨.inr rfl, _, _, rfl, .cons (.ag (.cons (by first | exact .emp | exact .full rfl rfl rfl | exact .id rfl | fail) (.cons (by first | exact .emp | exact .full rfl rfl rfl | exact .id rfl | fail) (.cons (by first | exact .emp | exact .full rfl rfl rfl | exact .id rfl | fail) (.cons (by first | exact .emp | exact .full rfl rfl rfl | exact .id rfl | fail) (.cons (by first | exact .emp | exact .full rfl rfl rfl | exact .id rfl | fail) (.cons (by first | exact .emp | exact .full rfl rfl rfl | exact .id rfl | fail) (.cons (by first | exact .emp | exact .full rfl rfl rfl | exact .id rfl | fail) (.cons (by first | exact .emp | exact .full rfl rfl rfl | exact .id rfl | fail) .nil))))))))) (.cons (.ag (.cons (by first | exact .emp | exact .full rfl rfl rfl | exact .id rfl | fail) (.cons (by first | exact .emp | exact .full rfl rfl rfl | exact .id rfl | fail) (.cons (by first | exact .emp | exact .full rfl rfl rfl | exact .id rfl | fail) (.cons (by first | exact .emp | exact .full rfl rfl rfl | exact .id rfl | fail) .nil))))) (.cons (.c (by first | exact .emp | exact .full rfl rfl rfl | exact .id rfl | fail)) (.nil))), ?_⟩; rfl)
      | trace_state
  · refine ⟨c, m, v, a3, ?_⟩
    refine Pu.of D Try.func16 rfl rfl rfl ?_
    repeat' (first
    | (refine W.cond rfl ?_ ?_ <;> intro hb <;> (try simp at hb) <;> (try contradiction) <;> (try (exfalso; omega)))
    | refine W.dg 6 6 [0,1,2] [0,1] [3,4,5] mixed (by decide +kernel) ?_
    | refine W.dge 6 6 [0,1,2] [0,1] [3,4,5] mixed (by decide +kernel) ?_
    | refine WG.t rfl ?_ rfl
    | refine WG.s1 rfl rfl rfl rfl rfl ?_
    | refine WG.b1 rfl rfl rfl rfl rfl ?_
    | refine WG.f1 rfl rfl rfl rfl rfl ?_
    | refine WG.n1 rfl rfl rfl ?_
    | apply Gf.go
    | refine WG.u rfl rfl rfl ?_
    | refine WG.done rfl ?_
    | refine GK.go rfl ?_
    | refine GN.go rfl ?_
    | (apply Af.mk; intro z_ x_)
    | (apply Ev.mk; rfl)
    | (apply OpD.of; apply stpR_ok D; rfl)
    | (apply OpD.of; refine OpOk.lenS D rfl rfl rfl rfl)
    | (apply OpD.of; refine OpOk.lenM D rfl rfl rfl rfl)
    | (apply OpD.of; refine OpOk.lenL D rfl rfl rfl rfl)
    | (apply OpD.of; refine OpOk.lenA D rfl rfl rfl rfl rfl rfl)
    | (apply OpD.of; refine OpOk.lenE D rfl rfl rfl rfl)
    | (apply OpD.of; refine OpOk.add rfl rfl rfl (by omega))
    | (apply OpD.of; refine OpOk.sub rfl rfl rfl (by omega))
    | (apply OpD.of; refine OpOk.build2 D rfl rfl rfl rfl rfl rfl)
    | (refine OpK.at 9 ?_; refine co [] (eo) ?_)
    | (refine OpD.at 9 ?_; refine co [] (eo) ?_)
    | (refine OpK.at 11 ?_; refine co [2] (ec) ?_)
    | (refine OpD.at 11 ?_; refine co [2] (ec) ?_)
    | (refine OpK.at 13 ?_; refine co [2] (em) ?_)
    | (refine OpD.at 13 ?_; refine co [2] (em) ?_)
    | (refine OpK.at 15 ?_; refine co [2] (e1) ?_)
    | (refine OpD.at 15 ?_; refine co [2] (e1) ?_)
    | (refine OpK.at 21 ?_; refine co [2] (et) ?_)
    | (refine OpD.at 21 ?_; refine co [2] (et) ?_)
    | refine goO ?_
    | refine goB ?_
    | refine OpK.of (stpR_ok D rfl) ?_
    | refine W.dv0 mixed rfl (by decide +kernel) ?_
    | refine W.dv1 mixed rfl (by decide +kernel) ?_
    | refine W.dv2 mixed rfl (by decide +kernel) ?_
    | refine W.dm0 mixed rfl (by decide +kernel) (by repeat' (first | exact .nil | refine .box rfl ?_ | refine .arr (rs_low _ _ _) ?_ | refine .dead ?_ | fail)) ?_
    | refine W.dm1 mixed rfl (by decide +kernel) (by repeat' (first | exact .nil | refine .box rfl ?_ | refine .arr (rs_low _ _ _) ?_ | refine .dead ?_ | fail)) ?_
    | refine W.dm2 mixed rfl (by decide +kernel) (by repeat' (first | exact .nil | refine .box rfl ?_ | refine .arr (rs_low _ _ _) ?_ | refine .dead ?_ | fail)) ?_
    | refine WD.done rfl ?_
    | refine WD.t rfl ?_ rfl
    | refine WD.g rfl rfl rfl ?_
    | refine WD.u rfl rfl rfl ?_
    | refine OpD.of (stpR_ok D rfl) ?_
    | (refine WO.gs _ rfl rfl rfl ?_ ?_ <;> intro hb <;> simp only [hb] <;> (try simp at hb) <;> (try contradiction) <;> (try (exfalso; omega)))
    | (refine WG.gs _ rfl rfl rfl ?_ ?_ <;> intro hb <;> simp only [hb] <;> (try simp at hb) <;> (try contradiction) <;> (try (exfalso; omega)))
    | (refine WD.gs _ rfl rfl rfl ?_ ?_ <;> intro hb <;> simp only [hb] <;> (try simp at hb) <;> (try contradiction) <;> (try (exfalso; omega))))
    all_goals first
      | (exfalso; omega)
      | (refine ⟨.inr rfl, _, _, rfl, .cons (.ag (.cons (by first | exact .emp | exact .full rfl rfl rfl | exact .id rfl | fail) (.cons (by first | exact .emp | exact .full rfl rfl rfl | exact .id rfl | fail) (.cons (by first | exact .emp | exact .full rfl rfl rfl | exact .id rfl | fail) (.cons (by first | exact .emp | exact .full rfl rfl rfl | exact .id rfl | fail) (.cons (by first | exact .emp | exact .full rfl rfl rfl | exact .id rfl | fail) (.cons (by first | exact .emp | exact .full rfl rfl rfl | exact .id rfl | fail) (.cons (by first | exact .emp | exact .full rfl rfl rfl | exact .id rfl | fail) (.cons (by first | exact .emp | exact .full rfl rfl rfl | exact .id rfl | fail) .nil))))))))) (.cons (.ag (.cons (by first | exact .emp | exact .full rfl rfl rfl | exact .id rfl | fail) (.cons (by first | exact .emp | exact .full rfl rfl rfl | exact .id rfl | fail) (.cons (by first | exact .emp | exact .full rfl rfl rfl | exact .id rfl | fail) (.cons (by first | exact .emp | exact .full rfl rfl rfl | exact .id rfl | fail) .nil))))) (.cons (.c (by first | exact .emp | exact .full rfl rfl rfl | exact .id rfl | fail)) (.nil))), ?_⟩; rfl)
      | trace_state
set_option maxHeartbeats 4000000 in
theorem drawFin_ex (bs : List UInt8) (hb : bs.length ≤ 1048576) : ∃ (c : Cal) (cn rp v : Int), c.Dr ∧ Pu Try.prog 22 [L eU bs] (.tu [.ag (tc c.e), .c (.t (tI cn)), .c (.t (tI rp)), .c (.t (tI v))]) := by
  have eo := open_ok bs hb
  have r0 : Rok (bs.take 2000) 0 := ⟨by simp; omega, by omega⟩
  generalize bs.take 2000 = cs at eo r0
  obtain ⟨c, p1, a1, a2, a3, ec⟩ := client_ex r0 (by omega) 12 (by omega)
  obtain ⟨k, k1, _, e1⟩ := pick_ex (p := p1) ⟨r0.b, by omega⟩ 5 (by omega)
  have k1 := k1 (by omega)
  obtain ⟨q, q1, _, e2⟩ := pick_ex (p := p1 + 1) ⟨r0.b, by omega⟩ 12 (by omega)
  have q1 := q1 (by omega)
  obtain ⟨rp, p2, b1, b2, _, _, er⟩ := reply_ex (p := p1 + 1 + 1) ⟨r0.b, by omega⟩ (by omega) 12 (by omega)
  obtain ⟨v, p3, c1, c2, _, c4, et⟩ := time_ex (p := p2) ⟨r0.b, by omega⟩ (by omega) 12 (by omega)
  obtain ⟨w, hw⟩ : ∃ w, v.tdiv 2 = w := ⟨_, rfl⟩
  have hwb : -1 ≤ w ∧ w ≤ 201 := by
    subst hw
    by_cases h0 : 0 ≤ v
    · rw [Int.tdiv_eq_ediv_of_nonneg h0]; omega
    · obtain rfl : v = -1 := by omega
      decide
  obtain ⟨cn, hcn⟩ : ∃ cn : Int, (k : Int) - ((q / 11 : Nat) : Int) = cn := ⟨_, rfl⟩
  have hcd := a3.called
  refine ⟨c, cn, rp, c.called + w, a3, ?_⟩
  refine Pu.of D Try.func22 rfl rfl rfl ?_
  repeat' (first
    | (refine W.cond rfl ?_ ?_ <;> intro hb <;> (try simp at hb) <;> (try contradiction) <;> (try (exfalso; omega)))
    | refine W.dg 5 12 [0,1] [0,1,2,3,4,7,8] [6,9] mixed (by decide +kernel) ?_
    | refine W.dge 5 12 [0,1] [0,1,2,3,4,7,8] [6,9] mixed (by decide +kernel) ?_
    | refine WG.t rfl ?_ rfl
    | refine WG.s1 rfl rfl rfl rfl rfl ?_
    | refine WG.b1 rfl rfl rfl rfl rfl ?_
    | refine WG.f1 rfl rfl rfl rfl rfl ?_
    | refine WG.n1 rfl rfl rfl ?_
    | apply Gf.go
    | refine WG.u rfl rfl rfl ?_
    | refine WG.done rfl ?_
    | refine GK.go rfl ?_
    | refine GN.go rfl ?_
    | (apply Af.mk; intro z_ x_)
    | (apply Ev.mk; rfl)
    | (apply OpD.of; apply stpR_ok D; rfl)
    | (apply OpD.of; refine OpOk.lenS D rfl rfl rfl rfl)
    | (apply OpD.of; refine OpOk.lenM D rfl rfl rfl rfl)
    | (apply OpD.of; refine OpOk.lenL D rfl rfl rfl rfl)
    | (apply OpD.of; refine OpOk.lenA D rfl rfl rfl rfl rfl rfl)
    | (apply OpD.of; refine OpOk.lenE D rfl rfl rfl rfl)
    | (apply OpD.of; refine OpOk.add rfl rfl rfl (by omega))
    | (apply OpD.of; refine OpOk.sub rfl rfl rfl (by omega))
    | (apply OpD.of; refine OpOk.build2 D rfl rfl rfl rfl rfl rfl)
    | (refine OpK.at 11 ?_; refine co [] (eo) ?_)
    | (refine OpD.at 11 ?_; refine co [] (eo) ?_)
    | (refine OpK.at 13 ?_; refine co [1] (ec) ?_)
    | (refine OpD.at 13 ?_; refine co [1] (ec) ?_)
    | (refine OpK.at 15 ?_; refine co [1] (e1) ?_)
    | (refine OpD.at 15 ?_; refine co [1] (e1) ?_)
    | (refine OpK.at 17 ?_; refine co [1] (e2) ?_)
    | (refine OpD.at 17 ?_; refine co [1] (e2) ?_)
    | (refine OpK.at 18 ?_; refine OpK.of (OpOk.quoN q 11 rfl rfl rfl rfl rfl (by decide) (by omega)) ?_)
    | (refine OpD.at 18 ?_; (apply OpD.of; refine OpOk.quoN q 11 rfl rfl rfl rfl rfl (by decide) (by omega)))
    | (refine OpK.at 19 ?_; refine OpK.of (OpOk.subZ cn rfl rfl rfl hcn (by omega) (by omega)) ?_)
    | (refine OpD.at 19 ?_; (apply OpD.of; refine OpOk.subZ cn rfl rfl rfl hcn (by omega) (by omega)))
    | (refine OpK.at 21 ?_; refine co [1] (er) ?_)
    | (refine OpD.at 21 ?_; refine co [1] (er) ?_)
    | (refine OpK.at 28 ?_; refine co [1] (et) ?_)
    | (refine OpD.at 28 ?_; refine co [1] (et) ?_)
    | (refine OpK.at 29 ?_; refine OpK.of (OpOk.quoT w rfl rfl rfl hw (by decide) (by omega) (by omega)) ?_)
    | (refine OpD.at 29 ?_; (apply OpD.of; refine OpOk.quoT w rfl rfl rfl hw (by decide) (by omega) (by omega)))
    | refine goO ?_
    | refine goB ?_
    | refine OpK.of (stpR_ok D rfl) ?_
    | refine W.dv0 mixed rfl (by decide +kernel) ?_
    | refine W.dv1 mixed rfl (by decide +kernel) ?_
    | refine W.dv2 mixed rfl (by decide +kernel) ?_
    | refine W.dm0 mixed rfl (by decide +kernel) (by repeat' (first | exact .nil | refine .box rfl ?_ | refine .arr (rs_low _ _ _) ?_ | refine .dead ?_ | fail)) ?_
    | refine W.dm1 mixed rfl (by decide +kernel) (by repeat' (first | exact .nil | refine .box rfl ?_ | refine .arr (rs_low _ _ _) ?_ | refine .dead ?_ | fail)) ?_
    | refine W.dm2 mixed rfl (by decide +kernel) (by repeat' (first | exact .nil | refine .box rfl ?_ | refine .arr (rs_low _ _ _) ?_ | refine .dead ?_ | fail)) ?_
    | refine WD.done rfl ?_
    | refine WD.t rfl ?_ rfl
    | refine WD.g rfl rfl rfl ?_
    | refine WD.u rfl rfl rfl ?_
    | refine OpD.of (stpR_ok D rfl) ?_
    | (refine WO.gs _ rfl rfl rfl ?_ ?_ <;> intro hb <;> simp only [hb] <;> (try simp at hb) <;> (try contradiction) <;> (try (exfalso; omega)))
    | (refine WG.gs _ rfl rfl rfl ?_ ?_ <;> intro hb <;> simp only [hb] <;> (try simp at hb) <;> (try contradiction) <;> (try (exfalso; omega)))
    | (refine WD.gs _ rfl rfl rfl ?_ ?_ <;> intro hb <;> simp only [hb] <;> (try simp at hb) <;> (try contradiction) <;> (try (exfalso; omega))))
  all_goals first
    | (exfalso; omega)
    | (refine ⟨.inr rfl, _, _, rfl, .cons (.ag (.cons (by first | exact .emp | exact .full rfl rfl rfl | exact .id rfl | fail) (.cons (by first | exact .emp | exact .full rfl rfl rfl | exact .id rfl | fail) (.cons (by first | exact .emp | exact .full rfl rfl rfl | exact .id rfl | fail) (.cons (by first | exact .emp | exact .full rfl rfl rfl | exact .id rfl | fail) (.cons (by first | exact .emp | exact .full rfl rfl rfl | exact .id rfl | fail) (.cons (by first | exact .emp | exact .full rfl rfl rfl | exact .id rfl | fail) (.cons (by first | exact .emp | exact .full rfl rfl rfl | exact .id rfl | fail) (.cons (by first | exact .emp | exact .full rfl rfl rfl | exact .id rfl | fail) .nil))))))))) (.cons (.c (by first | exact .emp | exact .full rfl rfl rfl | exact .id rfl | fail)) (.cons (.c (by first | exact .emp | exact .full rfl rfl rfl | exact .id rfl | fail)) (.cons (.c (by first | exact .emp | exact .full rfl rfl rfl | exact .id rfl | fail)) (.nil)))), ?_⟩; rfl)
    | trace_state
end Go.YtamlleimfopmhaaMc

namespace Go.YtamlleimfopmhaaMc
open Go.Proofs
/-! ### Clients that give up; clients that are alike -/
def gup (c : Cal) : Cal × Bool := if calOk c then (if c.busy then (idleC c, true) else (c, false)) else (zCal, false)
theorem gup_impl (c : Cal) (hs : c.cache.length ≤ 1048576) : Pu Try.prog 20 [A c.e] (askV (gup c)) := by
  have e1 := cal_impl c hs
  have e2 := copyCal_impl c hs
  have e3 := idle_impl c hs
  by_cases h : calOk c = true
  · rw [h] at e1
    cases hb : c.busy with
    | true =>
      have hb2 : ¬ c.busy = false := by simp [hb]
      have hm : gup c = (idleC c, true) := by unfold gup; rw [if_pos h, if_pos hb]
      rw [hm]
      refine Pu.of D Try.func20 rfl rfl rfl ?_
      repeat' (first
    | (refine W.cond rfl ?_ ?_ <;> intro hb <;> (try simp at hb) <;> (try contradiction) <;> (try (exfalso; omega)))
    | refine cl (e1) ?_
    | refine cl (e2) ?_
    | refine cl (e3) ?_
    | refine goO ?_
    | refine goN ?_
    | (refine WO.gs _ rfl rfl rfl ?_ ?_ <;> intro hb <;> simp only [hb] <;> (try simp at hb) <;> (try contradiction) <;> (try (exfalso; omega))))
      all_goals first
        | (refine ⟨.inr rfl, _, _, rfl, .cons (.ag (.cons (by first | exact .emp | exact .full rfl rfl rfl | exact .id rfl | fail) (.cons (by first | exact .emp | exact .full rfl rfl rfl | exact .id rfl | fail) (.cons (by first | exact .emp | exact .full rfl rfl rfl | exact .id rfl | fail) (.cons (by first | exact .emp | exact .full rfl rfl rfl | exact .id rfl | fail) (.cons (by first | exact .emp | exact .full rfl rfl rfl | exact .id rfl | fail) (.cons (by first | exact .emp | exact .full rfl rfl rfl | exact .id rfl | fail) (.cons (by first | exact .emp | exact .full rfl rfl rfl | exact .id rfl | fail) (.cons (by first | exact .emp | exact .full rfl rfl rfl | exact .id rfl | fail) .nil))))))))) (.cons (.c (by first | exact .emp | exact .full rfl rfl rfl | exact .id rfl | fail)) (.nil)), ?_⟩; rfl)
        | trace_state
    | false =>
      have hb2 : ¬ c.busy = true := by simp [hb]
      have hm : gup c = (c, false) := by unfold gup; rw [if_pos h, if_neg hb2]
      rw [hm]
      refine Pu.of D Try.func20 rfl rfl rfl ?_
      repeat' (first
    | (refine W.cond rfl ?_ ?_ <;> intro hb <;> (try simp at hb) <;> (try contradiction) <;> (try (exfalso; omega)))
    | refine cl (e1) ?_
    | refine cl (e2) ?_
    | refine cl (e3) ?_
    | refine goO ?_
    | refine goN ?_
    | (refine WO.gs _ rfl rfl rfl ?_ ?_ <;> intro hb <;> simp only [hb] <;> (try simp at hb) <;> (try contradiction) <;> (try (exfalso; omega))))
      all_goals first
        | (refine ⟨.inr rfl, _, _, rfl, .cons (.ag (.cons (by first | exact .emp | exact .full rfl rfl rfl | exact .id rfl | fail) (.cons (by first | exact .emp | exact .full rfl rfl rfl | exact .id rfl | fail) (.cons (by first | exact .emp | exact .full rfl rfl rfl | exact .id rfl | fail) (.cons (by first | exact .emp | exact .full rfl rfl rfl | exact .id rfl | fail) (.cons (by first | exact .emp | exact .full rfl rfl rfl | exact .id rfl | fail) (.cons (by first | exact .emp | exact .full rfl rfl rfl | exact .id rfl | fail) (.cons (by first | exact .emp | exact .full rfl rfl rfl | exact .id rfl | fail) (.cons (by first | exact .emp | exact .full rfl rfl rfl | exact .id rfl | fail) .nil))))))))) (.cons (.c (by first | exact .emp | exact .full rfl rfl rfl | exact .id rfl | fail)) (.nil)), ?_⟩; rfl)
        | trace_state
  · have hm : gup c = (zCal, false) := by unfold gup; rw [if_neg h]
    rw [show calOk c = false by simpa using h] at e1
    rw [hm]
    refine Pu.of D Try.func20 rfl rfl rfl ?_
    repeat' (first
    | (refine W.cond rfl ?_ ?_ <;> intro hb <;> (try simp at hb) <;> (try contradiction) <;> (try (exfalso; omega)))
    | refine cl (e1) ?_
    | refine goO ?_
    | refine goN ?_
    | (refine WO.gs _ rfl rfl rfl ?_ ?_ <;> intro hb <;> simp only [hb] <;> (try simp at hb) <;> (try contradiction) <;> (try (exfalso; omega))))
    all_goals first
      | (refine ⟨.inr rfl, _, _, rfl, .cons (.ag (.cons (by first | exact .emp | exact .full rfl rfl rfl | exact .id rfl | fail) (.cons (by first | exact .emp | exact .full rfl rfl rfl | exact .id rfl | fail) (.cons (by first | exact .emp | exact .full rfl rfl rfl | exact .id rfl | fail) (.cons (by first | exact .emp | exact .full rfl rfl rfl | exact .id rfl | fail) (.cons (by first | exact .emp | exact .full rfl rfl rfl | exact .id rfl | fail) (.cons (by first | exact .emp | exact .full rfl rfl rfl | exact .id rfl | fail) (.cons (by first | exact .emp | exact .full rfl rfl rfl | exact .id rfl | fail) (.cons (by first | exact .emp | exact .full rfl rfl rfl | exact .id rfl | fail) .nil))))))))) (.cons (.c (by first | exact .emp | exact .full rfl rfl rfl | exact .id rfl | fail)) (.nil)), ?_⟩; rfl)
      | trace_state
theorem req_yes (c : Cal) (n : Int) (hs : c.cache.length ≤ 1048576) (h : calOk c = true) (hb : c.busy = true) (hn : 0 ≤ n ∧ n < 4) : Pu Try.prog 25 [A c.e, I n] (.tu [.ag (tc (⟨n, c.seq, c.wish⟩ : Ent).e), .c (.t (.b true))]) := by
  have e1 := cal_impl c hs
  rw [h] at e1
  have hb2 : ¬ c.busy = false := by simp [hb]
  refine Pu.of D Try.func25 rfl rfl rfl ?_
  repeat' (first
    | (refine W.cond rfl ?_ ?_ <;> intro hb <;> (try simp at hb) <;> (try contradiction) <;> (try (exfalso; omega)))
    | refine cl (e1) ?_
    | refine goO ?_
    | refine goN ?_
    | (refine WO.gs _ rfl rfl rfl ?_ ?_ <;> intro hb <;> simp only [hb] <;> (try simp at hb) <;> (try contradiction) <;> (try (exfalso; omega))))
  all_goals first
    | (exfalso; omega)
    | (refine ⟨.inr rfl, _, _, rfl, .cons (.ag (.cons (by first | exact .emp | exact .full rfl rfl rfl | exact .id rfl | fail) (.cons (by first | exact .emp | exact .full rfl rfl rfl | exact .id rfl | fail) (.cons (by first | exact .emp | exact .full rfl rfl rfl | exact .id rfl | fail) (.cons (by first | exact .emp | exact .full rfl rfl rfl | exact .id rfl | fail) (.cons (by first | exact .emp | exact .full rfl rfl rfl | exact .id rfl | fail) (.cons (by first | exact .emp | exact .full rfl rfl rfl | exact .id rfl | fail) .nil))))))) (.cons (.c (by first | exact .emp | exact .full rfl rfl rfl | exact .id rfl | fail)) (.nil)), ?_⟩; rfl)
    | trace_state
set_option maxHeartbeats 1000000 in
theorem sCal_ok (a b : Cal) (hs : a.cache.length ≤ 1048576) : Pu Try.prog 19 [A a.e, A b.e] (B (decide (a = b))) := by
  refine Pu.of D Try.func19 rfl rfl rfl ?_
  repeat' (first
    | (refine W.cond rfl ?_ ?_ <;> intro hb <;> try simp at hb)
    | refine cl (sRou_ok a.cache b.cache hs) ?_
    | refine OpK.of (OpOk.eqE a.wish.e b.wish.e rfl (cmdC 0) (by decide) (by kernel_rfl) rfl rfl rfl rfl) ?_
    | refine goO ?_
    | refine goN ?_
    | (refine WO.gs _ rfl rfl rfl ?_ ?_ <;> intro hb <;> simp only [hb] <;> try simp at hb))
  all_goals refine ⟨.inr rfl, _, _, rfl, .cons (.c (.id rfl)) .nil, ?_⟩
  all_goals (obtain ⟨a1, a2, a3, a4, a5⟩ := a; obtain ⟨b1, b2, b3, b4, b5⟩ := b; simp [resV, X.v, eqTs_cmd] at *; grind)
end Go.YtamlleimfopmhaaMc

namespace Go.YtamlleimfopmhaaMc
open Go.Proofs
/-! ### FnAskCaller -/
def askN (c : Cal) (w : Cmd) (v : Int) : Cal := ⟨c.cache, c.seq + 1, true, w, v⟩
theorem ask_ok {c : Cal} {w : Cmd} {v : Int} (h : (calOk c && wishOk w && inR v 0 200) = true) (hb : c.busy = false) (hq : c.seq ≠ 999) : calOk (askN c w v) = true ∧ c.wish = zCmd ∧ c.called = 0 := by
  simp only [Bool.and_eq_true] at h
  obtain ⟨⟨h1, h2⟩, h3⟩ := h
  have hs := calOk_seq h1
  unfold calOk at h1 ⊢
  rw [hb] at h1
  simp only [Bool.and_eq_true, Bool.false_eq_true, if_false, decide_eq_true_eq] at h1
  obtain ⟨⟨h4, h5⟩, h6, h7⟩ := h1
  refine ⟨?_, h6, h7⟩
  simp only [askN, if_true, Bool.and_eq_true, decide_eq_true_eq]
  refine ⟨⟨h4, ?_⟩, ⟨decide_eq_true (show 1 ≤ c.seq + 1 by omega), h2⟩, h3⟩
  show inR (c.seq + 1) 0 999 = true
  simp [inR]; omega
theorem zCal_cache : zCal.cache.length ≤ 1048576 := by decide
set_option maxHeartbeats 4000000 in
theorem law_askd1 (bs : List UInt8) (hb : bs.length ≤ 1048576) {c : Cal} {w : Cmd} {v : Int} (hc : c.Dr) (ed : Pu Try.prog 16 [L eU bs] (.tu [.ag (tc c.e), .ag (tc w.e), .c (.t (tI v))])) (h : ask c w v = (zCal, false)) : Pu Try.prog 4 [L eU bs] (B true) := by
  have e1 := ask_impl c w v hc.sm.cacheN
  have e2 := ask_spec c w v hc.sm.cacheN
  rw [h] at e1 e2
  have s1 := sCal_ok zCal zCal zCal_cache
  rw [decide_eq_true rfl] at s1
  have s2 := sCal_ok zCal c zCal_cache
  generalize decide (zCal = c) = b at s2
  cases b
  · refine Pu.of D Try.func4 rfl rfl rfl ?_
    repeat' (first
    | (refine W.cond rfl ?_ ?_ <;> intro hb <;> (try simp at hb) <;> (try contradiction) <;> (try (exfalso; omega)))
    | refine cl (ed) ?_
    | refine cl (e1) ?_
    | refine cl (e2) ?_
    | (refine OpK.at 40 ?_; refine cl (s1) ?_)
    | (refine OpK.at 51 ?_; refine cl (s2) ?_)
    | (refine OpK.at 55 ?_; refine co [] ((Pu.po s1)) ?_)
    | refine cl (alive_ok) ?_
    | refine goO ?_
    | refine goN ?_
    | (refine WO.gs _ rfl rfl rfl ?_ ?_ <;> intro hb <;> simp only [hb] <;> (try simp at hb) <;> (try contradiction) <;> (try (exfalso; omega))))
    all_goals first
      | (exfalso; omega)
      | (refine ⟨.inr rfl, _, _, rfl, .cons (.c (.id rfl)) .nil, ?_⟩; rfl)
      | trace_state
  · refine Pu.of D Try.func4 rfl rfl rfl ?_
    repeat' (first
    | (refine W.cond rfl ?_ ?_ <;> intro hb <;> (try simp at hb) <;> (try contradiction) <;> (try (exfalso; omega)))
    | refine cl (ed) ?_
    | refine cl (e1) ?_
    | refine cl (e2) ?_
    | (refine OpK.at 40 ?_; refine cl (s1) ?_)
    | (refine OpK.at 51 ?_; refine cl (s2) ?_)
    | refine cl (alive_ok) ?_
    | refine goO ?_
    | refine goN ?_
    | (refine WO.gs _ rfl rfl rfl ?_ ?_ <;> intro hb <;> simp only [hb] <;> (try simp at hb) <;> (try contradiction) <;> (try (exfalso; omega))))
    all_goals first
      | (exfalso; omega)
      | (refine ⟨.inr rfl, _, _, rfl, .cons (.c (.id rfl)) .nil, ?_⟩; rfl)
      | trace_state
set_option maxHeartbeats 4000000 in
theorem law_askd2 (bs : List UInt8) (hb : bs.length ≤ 1048576) {c : Cal} {w : Cmd} {v : Int} (hc : c.Dr) (ed : Pu Try.prog 16 [L eU bs] (.tu [.ag (tc c.e), .ag (tc w.e), .c (.t (tI v))])) (h : ask c w v = (c, false)) : Pu Try.prog 4 [L eU bs] (B true) := by
  have e1 := ask_impl c w v hc.sm.cacheN
  have e2 := ask_spec c w v hc.sm.cacheN
  rw [h] at e1 e2
  have s1 := sCal_ok c c hc.sm.cacheN
  rw [decide_eq_true rfl] at s1
  refine Pu.of D Try.func4 rfl rfl rfl ?_
  repeat' (first
    | (refine W.cond rfl ?_ ?_ <;> intro hb <;> (try simp at hb) <;> (try contradiction) <;> (try (exfalso; omega)))
    | refine cl (ed) ?_
    | refine cl (e1) ?_
    | refine cl (e2) ?_
    | (refine OpK.at 40 ?_; refine cl (s1) ?_)
    | (refine OpK.at 51 ?_; refine cl (s1) ?_)
    | refine cl (alive_ok) ?_
    | refine goO ?_
    | refine goN ?_
    | (refine WO.gs _ rfl rfl rfl ?_ ?_ <;> intro hb <;> simp only [hb] <;> (try simp at hb) <;> (try contradiction) <;> (try (exfalso; omega))))
  all_goals first
    | (exfalso; omega)
    | (refine ⟨.inr rfl, _, _, rfl, .cons (.c (.id rfl)) .nil, ?_⟩; rfl)
    | trace_state
set_option maxHeartbeats 4000000 in
theorem law_askd3 (bs : List UInt8) (hb : bs.length ≤ 1048576) {c : Cal} {w : Cmd} {v : Int} (hc : c.Dr) (ed : Pu Try.prog 16 [L eU bs] (.tu [.ag (tc c.e), .ag (tc w.e), .c (.t (tI v))])) (h : (calOk c && wishOk w && inR v 0 200) = true) (hbz : c.busy = false) (hq : c.seq ≠ 999) : Pu Try.prog 4 [L eU bs] (B true) := by
  have e1 := ask_impl c w v hc.sm.cacheN
  have e2 := ask_spec c w v hc.sm.cacheN
  obtain ⟨k1, k2, k3⟩ := ask_ok h hbz hq
  have hsq := hc.seq
  have hm : ask c w v = (askN c w v, true) := by unfold ask; rw [if_pos h, if_neg (by simp [hbz, hq])]; rfl
  rw [hm] at e1 e2
  have hN : (askN c w v).cache.length ≤ 1048576 := hc.sm.cacheN
  have s1 := sCal_ok (askN c w v) (askN c w v) hN
  rw [decide_eq_true rfl] at s1
  have e3 := ask_impl (askN c w v) w v hN
  have hm2 : ask (askN c w v) w v = (askN c w v, false) := by
    simp only [Bool.and_eq_true] at h
    unfold ask; rw [if_pos (by rw [k1, h.1.2, h.2]; rfl), if_pos (by simp [askN])]
  rw [hm2] at e3
  have e4 := gup_impl (askN c w v) hN
  have hm3 : gup (askN c w v) = (idleC (askN c w v), true) := by unfold gup; rw [if_pos k1]; rfl
  rw [hm3] at e4
  have e5 := cal_impl (askN c w v) hN
  rw [k1] at e5
  have s2 := sCal_ok (idleC (askN c w v)) ⟨c.cache, c.seq + 1, c.busy, c.wish, c.called⟩ hN
  rw [decide_eq_true (show idleC (askN c w v) = ⟨c.cache, c.seq + 1, c.busy, c.wish, c.called⟩ by rw [hbz, k2, k3]; rfl)] at s2
  clear h hm hm2 hm3 k1 k2 k3
  refine Pu.of D Try.func4 rfl rfl rfl ?_
  repeat' (first
    | (refine W.cond rfl ?_ ?_ <;> intro hb <;> (try simp at hb) <;> (try contradiction) <;> (try (exfalso; omega)))
    | refine cl (ed) ?_
    | (refine OpK.at 28 ?_; refine cl (e1) ?_)
    | refine cl (e2) ?_
    | (refine OpK.at 40 ?_; refine cl (s1) ?_)
    | (refine OpK.at 64 ?_; refine cl (e3) ?_)
    | refine cl (e4) ?_
    | refine cl (e5) ?_
    | (refine OpK.at 101 ?_; refine cl (s2) ?_)
    | refine cl (alive_ok) ?_
    | refine goO ?_
    | refine goN ?_
    | (refine WO.gs _ rfl rfl rfl ?_ ?_ <;> intro hb <;> simp only [hb] <;> (try simp at hb) <;> (try contradiction) <;> (try (exfalso; omega))))
  all_goals first
    | (exfalso; omega)
    | (refine ⟨.inr rfl, _, _, rfl, .cons (.c (.id rfl)) .nil, ?_⟩; rfl)
    | (exfalso; simp_all [askN]; done)
    | trace_state
theorem law_askd (bs : List UInt8) (hf : bs.length ≤ 9223372036854775807) : Pu Try.prog 4 [L eU bs] (B true) := by
  by_cases hb : bs.length ≤ 1048576
  · obtain ⟨c, w, v, hc, ed⟩ := drawAsk_ex bs hb
    by_cases h : (calOk c && wishOk w && inR v 0 200) = true
    · by_cases hq : c.busy = false ∧ c.seq ≠ 999
      · exact law_askd3 bs hb hc ed h hq.1 hq.2
      · refine law_askd2 bs hb hc ed ?_
        unfold ask; rw [if_pos h, if_pos]
        cases hbz : c.busy
        · simp only [hbz, true_and] at hq
          simp only [Bool.false_or, decide_eq_true_eq]
          exact Classical.not_not.1 hq
        · rfl
    · refine law_askd1 bs hb hc ed ?_
      unfold ask; rw [if_neg h]
  · refine Pu.of D Try.func4 rfl rfl rfl ?_
    repeat' (first
    | (refine W.cond rfl ?_ ?_ <;> intro hb <;> (try simp at hb) <;> (try contradiction) <;> (try (exfalso; omega)))
    | refine goO ?_
    | refine goN ?_
    | (refine WO.gs _ rfl rfl rfl ?_ ?_ <;> intro hb <;> simp only [hb] <;> (try simp at hb) <;> (try contradiction) <;> (try (exfalso; omega))))
    all_goals first
      | (exfalso; omega)
      | (refine ⟨.inr rfl, _, _, rfl, .cons (.c (.id rfl)) .nil, ?_⟩; rfl)
end Go.YtamlleimfopmhaaMc

namespace Go.YtamlleimfopmhaaMc
open Go.Proofs
/-! ### FnFinishCaller -/
theorem resC (m : Nat) : EqC Try.prog 44 [.i .i64, .i .i64, .i .i64, .s, .i .i64, .i .i64, .i .i64, .i .i64, .i .i64] (m + 2) true :=
  .st' [(0, 3, [.i .i64]), (1, 3, [.i .i64]), (2, 31, [.i .i64, .s, .i .i64, .i .i64]), (6, 3, [.i .i64]), (7, 3, [.i .i64]), (8, 3, [.i .i64])] (by kernel_rfl) (by kernel_rfl) (by kernel_rfl) rfl rfl (.cons (.i _ (by kernel_rfl)) (.cons (.i _ (by kernel_rfl)) (.cons (cmdC m) (.cons (.i _ (by kernel_rfl)) (.cons (.i _ (by kernel_rfl)) (.cons (.i _ (by kernel_rfl)) .nil))))))
theorem eqTs_res (a b : Res) : eqTs a.e b.e = decide (a = b) := by
  obtain ⟨a1, a2, ⟨a3, a4, a5, a6⟩, a7, a8, a9⟩ := a; obtain ⟨b1, b2, ⟨b3, b4, b5, b6⟩, b7, b8, b9⟩ := b
  simp [Res.e, eqTs, T.eq]; grind
theorem eqRes_self (a : Res) : eqTs a.e a.e = true := by rw [eqTs_res]; simp
theorem eqCmd_self (a : Cmd) : eqTs a.e a.e = true := by rw [eqTs_cmd]; simp
set_option maxHeartbeats 4000000 in
theorem law_find1 (bs : List UInt8) (hb : bs.length ≤ 1048576) {c : Cal} {cn rp v : Int} (hc : c.Dr) (ed : Pu Try.prog 22 [L eU bs] (.tu [.ag (tc c.e), .c (.t (tI cn)), .c (.t (tI rp)), .c (.t (tI v))])) (h : fin c cn rp v = (zCal, zRes, false)) : Pu Try.prog 5 [L eU bs] (B true) := by
  have e1 := fin_impl c cn rp v hc.sm.cacheN
  have e2 := fin_spec c cn rp v hc.sm.cacheN
  rw [h] at e1 e2
  have s1 := sCal_ok zCal zCal zCal_cache
  rw [decide_eq_true rfl] at s1
  refine Pu.of D Try.func5 rfl rfl rfl ?_
  repeat' (first
    | (refine W.cond rfl ?_ ?_ <;> intro hb <;> (try simp at hb) <;> (try contradiction) <;> (try (exfalso; omega)))
    | refine cl (ed) ?_
    | refine cl (e1) ?_
    | refine cl (e2) ?_
    | (refine OpK.at 47 ?_; refine cl (s1) ?_)
    | (refine OpK.at 63 ?_; refine co [] ((Pu.po s1)) ?_)
    | (refine OpK.at 52 ?_; refine OpK.of (OpOk.eqN zRes.e zRes.e rfl (resC 0) (by decide) (by kernel_rfl) rfl rfl rfl rfl) ?_)
    | (refine OpK.at 67 ?_; refine OpK.of (OpOk.eqE zRes.e zRes.e rfl (resC 0) (by decide) (by kernel_rfl) rfl rfl rfl rfl) ?_)
    | refine cl (alive_ok) ?_
    | refine goO ?_
    | refine goN ?_
    | (refine WO.gs _ rfl rfl rfl ?_ ?_ <;> intro hb <;> simp only [hb] <;> (try simp at hb) <;> (try contradiction) <;> (try (exfalso; omega))))
  all_goals first
    | (exfalso; omega)
    | (refine ⟨.inr rfl, _, _, rfl, .cons (.c (.id rfl)) .nil, ?_⟩; rfl)
    | trace_state
set_option maxHeartbeats 8000000 in
theorem law_find2 (bs : List UInt8) (hb : bs.length ≤ 1048576) {c : Cal} {cn rp v : Int} (hc : c.Dr) (ed : Pu Try.prog 22 [L eU bs] (.tu [.ag (tc c.e), .c (.t (tI cn)), .c (.t (tI rp)), .c (.t (tI v))])) (h : finOk c cn rp v = true) : Pu Try.prog 5 [L eU bs] (B true) := by
  have e1 := fin_impl c cn rp v hc.sm.cacheN
  have e2 := fin_spec c cn rp v hc.sm.cacheN
  rw [fin_yes h] at e1 e2
  have hI : (idleC c).cache.length ≤ 1048576 := hc.sm.cacheN
  have s1 := sCal_ok (idleC c) (idleC c) hI
  rw [decide_eq_true rfl] at s1
  have h' := h
  simp only [finOk, Bool.and_eq_true] at h'
  obtain ⟨⟨⟨⟨k1, k2⟩, k3⟩, k4⟩, k5⟩ := h'
  have k3' : 1 ≤ cn ∧ cn ≤ 3 := by simpa [inR] using k3
  have e3 := req_yes c cn hc.sm.cacheN k1 k2 (by omega)
  have e4 := gup_impl c hc.sm.cacheN
  have hm : gup c = (idleC c, true) := by unfold gup; rw [if_pos k1, if_pos k2]
  rw [hm] at e4
  have e5 := res_impl (resOf c cn rp v)
  rw [fin_res k1 k2, k3, k4, k5] at e5
  clear h hm k1 k2 k3 k4 k5
  refine Pu.of D Try.func5 rfl rfl rfl ?_
  repeat' (first
    | (refine W.cond rfl ?_ ?_ <;> intro hb <;> (try simp at hb) <;> (try contradiction) <;> (try (exfalso; omega)))
    | refine cl (ed) ?_
    | refine cl (e1) ?_
    | refine cl (e2) ?_
    | refine cl (s1) ?_
    | refine cl (e3) ?_
    | refine cl (e4) ?_
    | refine cl (e5) ?_
    | (refine OpK.at 52 ?_; refine OpK.of (OpOk.eqN (resOf c cn rp v).e (resOf c cn rp v).e rfl (resC 0) (by decide) (by kernel_rfl) rfl rfl rfl rfl) ?_)
    | (refine OpK.at 115 ?_; refine OpK.of (OpOk.eqE c.wish.e c.wish.e rfl (cmdC 0) (by decide) (by kernel_rfl) rfl rfl rfl rfl) ?_)
    | refine cl (alive_ok) ?_
    | refine goO ?_
    | refine goN ?_
    | (refine WO.gs _ rfl rfl rfl ?_ ?_ <;> intro hb <;> simp only [hb] <;> (try simp at hb) <;> (try contradiction) <;> (try (exfalso; omega))))
  all_goals first
    | (exfalso; omega)
    | (refine ⟨.inr rfl, _, _, rfl, .cons (.c (.id rfl)) .nil, ?_⟩; rfl)
    | (refine ⟨.inr rfl, _, _, rfl, .cons (.c (.id rfl)) .nil, ?_⟩; simp [resV, X.v, resOf]; done)
    | (exfalso; simp_all [resOf]; done)
    | (exfalso; simp_all [eqRes_self, eqCmd_self]; done)
    | trace_state
theorem law_find (bs : List UInt8) (hf : bs.length ≤ 9223372036854775807) : Pu Try.prog 5 [L eU bs] (B true) := by
  by_cases hb : bs.length ≤ 1048576
  · obtain ⟨c, cn, rp, v, hc, ed⟩ := drawFin_ex bs hb
    by_cases h : finOk c cn rp v = true
    · exact law_find2 bs hb hc ed h
    · exact law_find1 bs hb hc ed (fin_no (by simpa using h))
  · refine Pu.of D Try.func5 rfl rfl rfl ?_
    repeat' (first
    | (refine W.cond rfl ?_ ?_ <;> intro hb <;> (try simp at hb) <;> (try contradiction) <;> (try (exfalso; omega)))
    | refine goO ?_
    | refine goN ?_
    | (refine WO.gs _ rfl rfl rfl ?_ ?_ <;> intro hb <;> simp only [hb] <;> (try simp at hb) <;> (try contradiction) <;> (try (exfalso; omega))))
    all_goals first
      | (exfalso; omega)
      | (refine ⟨.inr rfl, _, _, rfl, .cons (.c (.id rfl)) .nil, ?_⟩; rfl)
end Go.YtamlleimfopmhaaMc
