/- Lemmas of this claim: walks through code, values and memory, and the contracts of functions; under no condition beyond those that each states. -/
import Derived.Test.YtamlleimfopmhaaMD
import Derived.Laws.BytesString
set_option linter.unusedVariables false
set_option linter.unusedSimpArgs false
namespace Go.YtamlleimfopmhaaMc
/-! ### The memory, written out -/
section
variable {P : Program} {n : Nat} {c : Code} {env env' : Env} {h h' : List Blk} {Q : Ex → Env → List Blk → Prop}
theorem W.hp (e : h = h') (hw : W P n c env h' Q) : W P n c env h Q := e ▸ hw
theorem W.en (e : env = env') (hw : W P n c env' h Q) : W P n c env h Q := e ▸ hw
variable {o : Oper}
theorem OpOk.slMtI (D : Tab P) (r : Nat) {α : Type} {t e : Nat} {x y : Operand} {xs : List α} {enc : α → List T} {k : IntKind} {z : Int} {i ie : TI} (ho : o.op = .slice t x none (some y) none) (ht : D.f t = some i) (hk : i.k = .sl e) (hte : D.f e = some ie) (hx : oe env x = some (.c (.t (.l (xs.map enc))))) (hs : ∀ y, (enc y).length = ie.size) (hy : oe env y = some (.c (.t (.i k z)))) (hz : z = (r : Int)) (h1 : r ≤ xs.length) : OpOk P n o env h (.c (.t (.l ((xs.take r).map enc)))) h :=
  .slMt D ho ht hk hte hx hs (by simp [oi, hy, hz]) h1
theorem OpOk.slMdI (D : Tab P) (r : Nat) {α : Type} {t e : Nat} {x y : Operand} {xs : List α} {enc : α → List T} {k : IntKind} {z : Int} {i ie : TI} (ho : o.op = .slice t x (some y) none none) (ht : D.f t = some i) (hk : i.k = .sl e) (hte : D.f e = some ie) (hx : oe env x = some (.c (.t (.l (xs.map enc))))) (hs : ∀ y, (enc y).length = ie.size) (hy : oe env y = some (.c (.t (.i k z)))) (hz : z = (r : Int)) (h1 : r ≤ xs.length) : OpOk P n o env h (.c (.t (.l ((xs.drop r).map enc)))) h :=
  .slMd D ho ht hk hte hx hs (by simp [oi, hy, hz]) h1
theorem OpOk.ixJ (D : Tab P) (r : Nat) {α : Type} {t e : Nat} {x y : Operand} {xs : List α} {enc : α → List T} {k : IntKind} {z : Int} {i ie : TI} (ho : o.op = .indexAddr t x y) (ht : D.f t = some i) (hk : i.k = .sl e) (hte : D.f e = some ie) (hx : oe env x = some (.c (.t (.l (xs.map enc))))) (hy : oe env y = some (.c (.t (.i k z)))) (hz : z = (r : Int)) (hm : r < xs.length) (hl : ∀ y, (enc y).length = ie.size) : OpOk P n o env h (.c (.fa (enc xs[r]))) h :=
  .ixM D ho ht hk hte hx (by rw [hy, hz]) hm hl
end
end Go.YtamlleimfopmhaaMc

namespace Go.YtamlleimfopmhaaMc
/-! ### A region in every order: what has run, as bits -/
def rdy : List Nat → Nat → Nat → List Nat
  | [], _, _ => []
  | b :: bs, i, m => bif Nat.beq (Nat.land m (Nat.shiftLeft 1 i)) 0 && Nat.beq (Nat.land b m) b then i :: rdy bs (i + 1) m else rdy bs (i + 1) m
def arrM (bs : List Nat) (m : Nat) : Array Bool := ((List.range bs.length).map (Nat.testBit m)).toArray
def eqBit (ops : Array Oper) (bs : List Nat) : Bool := bs.length == ops.size && (List.range ops.size).all fun i => match ops[i]?, bs[i]? with
  | some o, some b => (o.after.all fun e => !Region.binds .any e || b.testBit e.on) && ((List.range ops.size).all fun k => !b.testBit k || o.after.any fun e => Region.binds .any e && e.on == k) && decide (b < 2 ^ ops.size)
  | _, _ => false
structure EqB (ops : Array Oper) (bs : List Nat) : Prop where
  len : bs.length = ops.size
  at' : ∀ (i : Nat) (o : Oper), ops[i]? = some o → ∃ b, bs[i]? = some b ∧ (∀ e ∈ o.after, Region.binds .any e = true → b.testBit e.on = true) ∧ (∀ k, b.testBit k = true → k < ops.size ∧ ∃ e ∈ o.after, Region.binds .any e = true ∧ e.on = k)
theorem eqBit_ok {ops : Array Oper} {bs : List Nat} (h : eqBit ops bs = true) : EqB ops bs := by
  unfold eqBit at h
  simp only [Bool.and_eq_true, beq_iff_eq] at h
  refine ⟨h.1, fun i o hi => ?_⟩
  have hlt := (Array.getElem?_eq_some_iff.1 hi).1
  have := List.all_eq_true.1 h.2 i (List.mem_range.2 hlt)
  rw [hi] at this
  have hb : bs[i]? = some bs[i] := List.getElem?_eq_getElem (by omega)
  rw [hb] at this
  simp only [Bool.and_eq_true, decide_eq_true_eq] at this
  obtain ⟨⟨h1, h2⟩, h3⟩ := this
  refine ⟨_, hb, fun e he hbd => ?_, fun k hk => ?_⟩
  · have := Array.all_eq_true'.1 h1 e he
    simpa [hbd] using this
  · have hks : k < ops.size := by
      rcases Nat.lt_or_ge k ops.size with g | g
      · exact g
      · rw [Nat.testBit_lt_two_pow (Nat.lt_of_lt_of_le h3 (Nat.pow_le_pow_right (by omega) g))] at hk; cases hk
    refine ⟨hks, ?_⟩
    have := List.all_eq_true.1 h2 k (List.mem_range.2 hks)
    simp only [hk, Bool.not_true, Bool.false_or] at this
    obtain ⟨e, he, h5⟩ := Array.any_eq_true'.1 this
    simp only [Bool.and_eq_true, beq_iff_eq] at h5
    exact ⟨e, he, h5⟩
theorem land_sub {b m : Nat} : Nat.land b m = b ↔ ∀ k, b.testBit k = true → m.testBit k = true := by
  constructor
  · intro h k hk
    have : (b &&& m).testBit k = true := by rw [show b &&& m = b from h]; exact hk
    rw [Nat.testBit_and] at this
    simp only [Bool.and_eq_true] at this; exact this.2
  · intro h
    show b &&& m = b
    apply Nat.eq_of_testBit_eq
    intro k
    rw [Nat.testBit_and]
    cases hk : b.testBit k with
    | false => rfl
    | true => rw [h k hk]; rfl
theorem bit_zero {m i : Nat} : Nat.beq (Nat.land m (Nat.shiftLeft 1 i)) 0 = !m.testBit i := by
  have e : m.testBit i = decide ((m &&& (1 <<< i)) ≠ 0) := by
    by_cases h : m.testBit i = true
    · rw [h]; symm; rw [decide_eq_true_eq]
      intro e
      have : (m &&& (1 <<< i)).testBit i = true := by rw [Nat.testBit_and, h]; simp [Nat.one_shiftLeft]
      rw [e] at this; simp at this
    · have h2 : m.testBit i = false := by simpa using h
      rw [h2]; symm; rw [decide_eq_false_iff_not, Decidable.not_not]
      apply Nat.eq_of_testBit_eq
      intro k
      rw [Nat.testBit_and, Nat.one_shiftLeft, Nat.testBit_two_pow, Nat.zero_testBit]
      by_cases e : i = k
      · subst e; rw [h2]; rfl
      · simp [e]
  rw [e]
  show Nat.beq (m &&& (1 <<< i)) 0 = _
  generalize m &&& (1 <<< i) = x
  cases x with
  | zero => rfl
  | succ x => rfl
theorem mem_rdy {i m : Nat} : ∀ {bs : List Nat} {s : Nat}, i ∈ rdy bs s m ↔ ∃ j b, i = s + j ∧ bs[j]? = some b ∧ m.testBit i = false ∧ Nat.land b m = b
  | [], s => by simp [rdy]
  | b :: bs, s => by
    have ih := @mem_rdy i m bs (s + 1)
    have tail : (∃ j b', i = s + 1 + j ∧ bs[j]? = some b' ∧ m.testBit i = false ∧ Nat.land b' m = b') ↔ (∃ j b', i = s + (j + 1) ∧ (b :: bs)[j + 1]? = some b' ∧ m.testBit i = false ∧ Nat.land b' m = b') := by
      constructor
      · rintro ⟨j, b', e, h⟩; exact ⟨j, b', by omega, by simpa using h⟩
      · rintro ⟨j, b', e, h⟩; exact ⟨j, b', by omega, by simpa using h⟩
    unfold rdy
    rw [bit_zero]
    constructor
    · intro h
      cases hc : (!m.testBit s && Nat.beq (Nat.land b m) b) with
      | true =>
        rw [hc] at h
        simp only [cond_true, List.mem_cons] at h
        rcases h with rfl | h
        · simp only [Bool.and_eq_true, Bool.not_eq_true'] at hc
          exact ⟨0, b, rfl, rfl, hc.1, Nat.eq_of_beq_eq_true hc.2⟩
        · obtain ⟨j, b', h⟩ := tail.1 (ih.1 h); exact ⟨j + 1, b', h⟩
      | false =>
        rw [hc] at h
        obtain ⟨j, b', h⟩ := tail.1 (ih.1 h); exact ⟨j + 1, b', h⟩
    · rintro ⟨j, b', e, h1, h2, h3⟩
      cases j with
      | zero =>
        simp only [List.getElem?_cons_zero, Option.some.injEq] at h1
        subst h1
        have e : i = s := by omega
        subst e
        have hb : Nat.beq (Nat.land b m) b = true := by rw [h3]; exact Nat.beq_refl b
        rw [h2, hb]; simp
      | succ j =>
        have := ih.2 (tail.2 ⟨j, b', e, h1, h2, h3⟩)
        cases (!m.testBit s && Nat.beq (Nat.land b m) b) with
        | true => exact List.mem_cons_of_mem _ this
        | false => exact this
section
variable {P : Program} {n fuel : Nat} {ops : Array Oper} {L : Array Bool} {env : Env} {h : List Blk} {K : Env → List Blk → Prop} {i m : Nat} {bs is : List Nat}
theorem arrM_getD {k : Nat} {x : Bool} (hk : k < bs.length) : (arrM bs m).getD k x = m.testBit k := by
  unfold arrM
  simp [Array.getD_eq_getD_getElem?, hk]
theorem arrM_size : (arrM bs m).size = bs.length := by simp [arrM]
theorem arrM_out {k : Nat} {x : Bool} (hk : bs.length ≤ k) : (arrM bs m).getD k x = x := by
  unfold arrM
  simp [Array.getD_eq_getD_getElem?, Nat.not_lt.2 hk]
theorem ready_rdy (c : EqB ops bs) : i ∈ Region.ready .any ops (arrM bs m) ↔ i ∈ rdy bs 0 m := by
  rw [mem_ready, mem_rdy]
  constructor
  · rintro ⟨h1, o, ho, h2⟩
    have hlt := (Array.getElem?_eq_some_iff.1 ho).1
    obtain ⟨b, hb, c1, c2⟩ := c.at' i o ho
    rw [arrM_getD (by rw [c.len]; exact hlt)] at h1
    refine ⟨i, b, by omega, hb, h1, land_sub.2 fun k hk => ?_⟩
    obtain ⟨hks, e, he, hbd, rfl⟩ := c2 k hk
    have := h2 e he hbd
    rwa [arrM_getD (by rw [c.len]; exact hks)] at this
  · rintro ⟨j, b, e, hb, h1, h2⟩
    have e : j = i := by omega
    subst e
    have hlt : j < bs.length := (List.getElem?_eq_some_iff.1 hb).1
    have hlo : j < ops.size := by rw [← c.len]; exact hlt
    refine ⟨by rw [arrM_getD hlt]; exact h1, ops[j], Array.getElem?_eq_getElem hlo, fun e he hbd => ?_⟩
    obtain ⟨b', hb', c1, c2⟩ := c.at' j _ (Array.getElem?_eq_getElem hlo)
    rw [hb] at hb'; injection hb' with hb'; subst hb'
    have h3 := c1 e he hbd
    have h4 := (c2 _ h3).1
    rw [arrM_getD (by rw [c.len]; exact h4)]
    exact land_sub.1 h2 _ h3
theorem arrM_set (hi : i < bs.length) : (arrM bs m).setIfInBounds i true = arrM bs (Nat.lor m (Nat.shiftLeft 1 i)) := by
  apply Array.ext
  · simp [arrM]
  · intro k h1 h2
    have hk : k < bs.length := by simpa [arrM] using h2
    have e1 : ((arrM bs m).setIfInBounds i true).getD k false = (decide (k = i) || m.testBit k) := by
      rw [setD (by rw [arrM_size]; exact hi), arrM_getD hk]
    have e2 : (arrM bs (Nat.lor m (Nat.shiftLeft 1 i))).getD k false = (decide (k = i) || m.testBit k) := by
      rw [arrM_getD hk]
      show (m ||| (1 <<< i)).testBit k = _
      rw [Nat.testBit_or, Nat.one_shiftLeft, Nat.testBit_two_pow, Bool.or_comm]
      congr 1
      simp [eq_comm]
    simp only [Array.getD_eq_getD_getElem?, Array.getElem?_eq_getElem h1, Array.getElem?_eq_getElem h2, Option.getD_some] at e1 e2
    rw [e1, e2]
/-- The region's walk, with what has run as bits. -/
structure WB (P : Program) (n : Nat) (ops : Array Oper) (bs : List Nat) (fuel m : Nat) (env : Env) (h : List Blk) (K : Env → List Blk → Prop) : Prop where
  out : EqB ops bs → WE P n ops fuel (arrM bs m) env h K
structure WBI (P : Program) (n : Nat) (ops : Array Oper) (bs : List Nat) (fuel m i : Nat) (env : Env) (h : List Blk) (K : Env → List Blk → Prop) : Prop where
  out : EqB ops bs → WI P n ops fuel (arrM bs m) i env h K
inductive WBL (P : Program) (n : Nat) (ops : Array Oper) (bs : List Nat) (fuel m : Nat) (env : Env) (h : List Blk) (K : Env → List Blk → Prop) : List Nat → Prop
  | nil : WBL P n ops bs fuel m env h K []
  | cons {i : Nat} {is : List Nat} (hi : WBI P n ops bs fuel m i env h K) (hs : WBL P n ops bs fuel m env h K is) : WBL P n ops bs fuel m env h K (i :: is)
theorem WB.step (hr : rdy bs 0 m = i :: is) (hs : WBL P n ops bs fuel m env h K (i :: is)) : WB P n ops bs (fuel + 1) m env h K := by
  constructor; intro c
  constructor; intro w S ι a r1 r2 r3 r4 Q' hQ
  have key : ∀ {l : List Nat}, WBL P n ops bs fuel m env h K l → ∀ j ∈ l, wpOp P ops Q' j (wpAny P .any ops Q' fuel ((arrM bs m).setIfInBounds j true)) a w := by
    intro l hl
    induction hl with
    | nil => intro j hj; cases hj
    | cons hi _ ih =>
      intro j hj
      rcases List.mem_cons.1 hj with rfl | hj
      · exact (hi.out c).out w S ι a r1 r2 r3 r4 Q' hQ
      · exact ih j hj
  refine ⟨fun e => ?_, fun j hj => ?_⟩
  · have : i ∈ Region.ready .any ops (arrM bs m) := (ready_rdy c).2 (by rw [hr]; simp)
    rw [e] at this; cases this
  · exact key hs j (by rw [← hr]; exact (ready_rdy c).1 hj)
theorem WB.done (hr : rdy bs 0 m = []) (hk : K env h) : WB P n ops bs fuel m env h K := ⟨fun c => .done (by
  cases e : Region.ready .any ops (arrM bs m) with
  | nil => rfl
  | cons j r =>
    have : j ∈ rdy bs 0 m := (ready_rdy c).1 (by rw [e]; simp)
    rw [hr] at this; cases this) hk⟩
theorem WBL.on (e : is = []) : WBL P n ops bs fuel m env h K is := by subst e; exact .nil
theorem WBL.oc {is' : List Nat} (e : is = i :: is') (hi : WBI P n ops bs fuel m i env h K) (hs : WBL P n ops bs fuel m env h K is') : WBL P n ops bs fuel m env h K is := by subst e; exact .cons hi hs
theorem WBL.id (x : WBL P n ops bs fuel m env h K is) : WBL P n ops bs fuel m env h K is := x
theorem WB.id (x : WB P n ops bs fuel m env h K) : WB P n ops bs fuel m env h K := x
theorem WBI.id (x : WBI P n ops bs fuel m i env h K) : WBI P n ops bs fuel m i env h K := x
theorem WB.ci (hi : i.blt bs.length = true) (hr : WB P n ops bs fuel (Nat.lor m (Nat.shiftLeft 1 i)) env h K) (c : EqB ops bs) : WE P n ops fuel ((arrM bs m).setIfInBounds i true) env h K := by
  rw [arrM_set (by simpa [Nat.blt_eq] using hi)]; exact hr.out c
variable {e' d d' j : Nat} {p p' : Op} {ty ty' : Nat} {ps ps' : String} {af af' : Array Edge} {gd gd' : Option (Nat × Bool)} {g1 : Bool} {h1 : List Blk}
theorem WBI.r (D : Tab P) {env' : Env} (hl : i.blt bs.length = true) (hs : stp1 D.f n ops i env h = some (env', h1)) (hr : WB P n ops bs fuel (Nat.lor m (Nat.shiftLeft 1 i)) env' h1 K) : WBI P n ops bs fuel m i env h K := ⟨fun c => .r D hs (hr.ci hl c)⟩
theorem WBI.g (hl : i.blt bs.length = true) (hi : ops[i]? = some ⟨some e', p, ty, ps, af, gd⟩) (hg : grd ops env gd = some true) (hd : e'.blt n = true) (hr : OpK P n ⟨some e', p, ty, ps, af, gd⟩ env h fun v h1 => WB P n ops bs fuel (Nat.lor m (Nat.shiftLeft 1 i)) ((e', v) :: env) h1 K) : WBI P n ops bs fuel m i env h K := ⟨fun c => .g hi hg hd (by obtain ⟨v, h1, a, b⟩ := hr.out; exact ⟨v, h1, a, b.ci hl c⟩)⟩
theorem WBI.g0 (hl : i.blt bs.length = true) (hi : ops[i]? = some ⟨none, p, ty, ps, af, none⟩) (hr : OpK P n ⟨none, p, ty, ps, af, none⟩ env h fun _ h1 => WB P n ops bs fuel (Nat.lor m (Nat.shiftLeft 1 i)) env h1 K) : WBI P n ops bs fuel m i env h K := ⟨fun c => .g0 hi (by obtain ⟨v, h1, a, b⟩ := hr.out; exact ⟨v, h1, a, b.ci hl c⟩)⟩
theorem WBI.gs (x : Bool) (hi : ops[i]? = some ⟨some e', p, ty, ps, af, some (j, g1)⟩) (hj : ops[j]? = some ⟨some d', p', ty', ps', af', gd'⟩) (hx : env.lookup d' = some (.c (.t (.b x)))) (h1 : x = true → WBI P n ops bs fuel m i env h K) (h2 : x = false → WBI P n ops bs fuel m i env h K) : WBI P n ops bs fuel m i env h K := by
  cases x
  · exact h2 rfl
  · exact h1 rfl
variable {rid : Nat} {y : Code} {Q : Ex → Env → List Blk → Prop}
theorem arrM_0 (c : EqB ops bs) : Array.replicate ops.size false = arrM bs 0 := by
  apply Array.ext
  · rw [arrM_size, c.len]; simp
  · intro k h1 h2
    have hk : k < bs.length := by simpa [arrM] using h2
    have := arrM_getD (bs := bs) (m := 0) (x := false) hk
    simp only [Array.getD_eq_getD_getElem?, Array.getElem?_eq_getElem h2, Option.getD_some] at this
    rw [this]; simp
theorem W.db (rid : Nat) (bs : List Nat) (hmx : P.follows .mixedOrders = true) (hc : eqBit ops bs = true) (hr : WB P n ops bs ops.size 0 env h (fun env' h' => W P n y env' h' Q)) : W P n (.seq (.region rid ops true) y) env h Q := by
  have c := eqBit_ok hc
  have := hr.out c
  rw [← arrM_0 c] at this
  exact W.drws hmx this
theorem W.dbe (rid : Nat) (bs : List Nat) (hmx : P.follows .mixedOrders = true) (hc : eqBit ops bs = true) (hr : WB P n ops bs ops.size 0 env h (Q .n)) : W P n (.region rid ops true) env h Q := by
  have c := eqBit_ok hc
  have := hr.out c
  rw [← arrM_0 c] at this
  exact W.drawn hmx this
end
end Go.YtamlleimfopmhaaMc

namespace Go.YtamlleimfopmhaaMc
def noReg : Code → Bool
  | .region .. => false
  | _ => true
theorem W.sq {P : Program} {n : Nat} {x y : Code} {env : Env} {h : List Blk} {Q : Ex → Env → List Blk → Prop} (_ : noReg x = true) (hw : W P n x env h (Then (fun env' h' => W P n y env' h' Q) Q)) : W P n (.seq x y) env h Q := .seq hw
/-! ### Values that are only handed on, whatever the memory is -/
section
variable {P : Program} {n m f : Nat} {ops : Array Oper} {h bs : List Blk} {K : Env → List Blk → Prop} {E : Env} {i e' : Nat} {ty : Nat} {ps : String} {af : Array Edge} {gd : Option (Nat × Bool)} {x : Operand} {v : V}
theorem WM.mv (hi : ops[i]? = some ⟨some e', .move x, ty, ps, af, gd⟩) (hg : grd ops (rst (usesOf ops ⟨some e', .move x, ty, ps, af, gd⟩) E) gd = some true) (hx : oe (rst (usesOf ops ⟨some e', .move x, ty, ps, af, gd⟩) E) x = some v) (hd : e'.blt n = true) (hr : WM P n ops h K m (i + 1) ((e', v) :: E) bs) : WM P n ops h K m i E bs := .p hi hg (fun _ => .move rfl hx) hd hr
theorem WM.as (hi : ops[i]? = some ⟨some e', .assign x, ty, ps, af, gd⟩) (hg : grd ops (rst (usesOf ops ⟨some e', .assign x, ty, ps, af, gd⟩) E) gd = some true) (hx : oe (rst (usesOf ops ⟨some e', .assign x, ty, ps, af, gd⟩) E) x = some v) (hd : e'.blt n = true) (hr : WM P n ops h K m (i + 1) ((e', v) :: E) bs) : WM P n ops h K m i E bs := .p hi hg (fun _ => .assign rfl hx) hd hr
theorem WM.xt {j : Nat} {xs : List X} {y : X} (hi : ops[i]? = some ⟨some e', .extract x j, ty, ps, af, gd⟩) (hg : grd ops (rst (usesOf ops ⟨some e', .extract x j, ty, ps, af, gd⟩) E) gd = some true) (hx : oe (rst (usesOf ops ⟨some e', .extract x j, ty, ps, af, gd⟩) E) x = some (.tu xs)) (hy : xs[j]? = some y) (hd : e'.blt n = true) (hr : WM P n ops h K m (i + 1) ((e', y.v) :: E) bs) : WM P n ops h K m i E bs := .p hi hg (fun _ => .extract rfl hx hy) hd hr
theorem WF.mv (hi : ops[i]? = some ⟨some e', .move x, ty, ps, af, gd⟩) (hg : grd ops (rst (usesOf ops ⟨some e', .move x, ty, ps, af, gd⟩) E) gd = some true) (hx : oe (rst (usesOf ops ⟨some e', .move x, ty, ps, af, gd⟩) E) x = some v) (hd : e'.blt n = true) (hr : WF P n ops h K f m (i + 1) ((e', v) :: E) bs) : WF P n ops h K f m i E bs := .p hi hg (fun _ => .move rfl hx) hd hr
theorem WF.as (hi : ops[i]? = some ⟨some e', .assign x, ty, ps, af, gd⟩) (hg : grd ops (rst (usesOf ops ⟨some e', .assign x, ty, ps, af, gd⟩) E) gd = some true) (hx : oe (rst (usesOf ops ⟨some e', .assign x, ty, ps, af, gd⟩) E) x = some v) (hd : e'.blt n = true) (hr : WF P n ops h K f m (i + 1) ((e', v) :: E) bs) : WF P n ops h K f m i E bs := .p hi hg (fun _ => .assign rfl hx) hd hr
theorem WF.xt {j : Nat} {xs : List X} {y : X} (hi : ops[i]? = some ⟨some e', .extract x j, ty, ps, af, gd⟩) (hg : grd ops (rst (usesOf ops ⟨some e', .extract x j, ty, ps, af, gd⟩) E) gd = some true) (hx : oe (rst (usesOf ops ⟨some e', .extract x j, ty, ps, af, gd⟩) E) x = some (.tu xs)) (hy : xs[j]? = some y) (hd : e'.blt n = true) (hr : WF P n ops h K f m (i + 1) ((e', y.v) :: E) bs) : WF P n ops h K f m i E bs := .p hi hg (fun _ => .extract rfl hx hy) hd hr
end
/-! ### Writing memory and what is known out -/
theorem nzm0 (ρ : Nat → Nat) : ([] : List C).map (C.ren ρ) = [] := rfl
theorem nzm1 (ρ : Nat → Nat) (c : C) (cs : List C) : (c :: cs).map (C.ren ρ) = c.ren ρ :: cs.map (C.ren ρ) := rfl
theorem nzx0 (ρ : Nat → Nat) : ([] : List X).map (X.ren ρ) = [] := rfl
theorem nzx1 (ρ : Nat → Nat) (c : X) (cs : List X) : (c :: cs).map (X.ren ρ) = c.ren ρ :: cs.map (X.ren ρ) := rfl
theorem nzt (ρ : Nat → Nat) (ts : List T) : (tc ts).map (C.ren ρ) = tc ts := by simp [tc, C.ren]
theorem nzr0 (n i : Nat) : rf [] n i = n + i := by simp [rf]
theorem nzr1 (b n : Nat) (K : List Nat) : rf (b :: K) n 0 = b := by simp [rf]
theorem nzr2 (b n i : Nat) (K : List Nat) : rf (b :: K) n (i + 1) = rf K n i := by simp [rf, Nat.add_sub_add_right]
theorem nzu0 (h h1 : List Blk) : unH h [] h1 = h ++ h1.map (Blk.ren (rf [] h.length)) := by
  cases h1 <;> simp [unH, setAll]
theorem nzu1 (h : List Blk) (b : Nat) (K : List Nat) (x : Blk) (h1 : List Blk) : unH h (b :: K) (x :: h1) = setAll (h.set b (x.ren (rf (b :: K) h.length))) K (h1.map (Blk.ren (rf (b :: K) h.length))) ++ ((h1.drop K.length).map (Blk.ren (rf (b :: K) h.length))) := by simp [unH, setAll]
theorem nzb0 (ρ : Nat → Nat) : ([] : List Blk).map (Blk.ren ρ) = [] := rfl
theorem nzb1 (ρ : Nat → Nat) (c : Blk) (cs : List Blk) : (c :: cs).map (Blk.ren ρ) = c.ren ρ :: cs.map (Blk.ren ρ) := rfl
theorem nzs0 (h bs : List Blk) : setAll h [] bs = h := by cases bs <;> rfl
theorem nzs1 (h bs : List Blk) (b : Nat) (K : List Nat) (x : Blk) : setAll h (b :: K) (x :: bs) = setAll (h.set b x) K bs := rfl
theorem tcn : tc [] = [] := rfl
theorem tcc (x : T) (xs : List T) : tc (x :: xs) = C.t x :: tc xs := rfl
theorem nzd1 {α : Type} (n : Nat) (x : α) (l : List α) : (x :: l).drop (n + 1) = l.drop n := rfl
/-! ### Walks in one word: the seat's own table (D) and open order (mixed) are those of the text that uses them -/
theorem goS {A G : Prop} (g : G) (h : G → A := by
  intro g_
  repeat1' (first
    | (refine WO.id ?_; first
      | refine stp1_ok D rfl ?_
      | refine WO.nil ?_
      | refine WO.g rfl rfl rfl ?_
      | refine WO.g0 rfl ?_)
    | (refine W.id ?_; first
      | refine W.regs ?_
      | refine W.dv0 mixed rfl (by decide +kernel) ?_
      | refine W.dv1 mixed rfl (by decide +kernel) ?_
      | refine W.dv2 mixed rfl (by decide +kernel) ?_
      | refine W.dm0 mixed rfl (by decide +kernel) (by repeat' (first | exact .nil | refine .box rfl ?_ | refine .arr (rs_low _ _ _) ?_ | refine .dead ?_ | fail)) ?_
      | refine W.dm1 mixed rfl (by decide +kernel) (by repeat' (first | exact .nil | refine .box rfl ?_ | refine .arr (rs_low _ _ _) ?_ | refine .dead ?_ | fail)) ?_
      | refine W.dm2 mixed rfl (by decide +kernel) (by repeat' (first | exact .nil | refine .box rfl ?_ | refine .arr (rs_low _ _ _) ?_ | refine .dead ?_ | fail)) ?_
      | refine W.ret ?_
      | refine W.sq rfl ?_
      | refine W.skip ?_
      | refine W.region ?_
      | refine W.exit ?_
      | refine W.block ?_)
    | (refine Then.id ?_; first
      | refine Then.rn ?_
      | refine Then.rr ?_
      | refine Then.rx ?_)
    | (refine InBlk.id ?_; first
      | refine InBlk.rn ?_
      | refine InBlk.rr ?_
      | refine InBlk.re ?_
      | refine InBlk.rx rfl ?_)
    | (refine WD.id ?_; first
      | refine WD.done rfl ?_
      | refine WD.t rfl ?_ rfl
      | refine WD.g rfl rfl rfl ?_
      | refine WD.u rfl rfl rfl ?_)
    | (refine WM.id ?_; first
      | refine WM.mv rfl rfl rfl rfl ?_
      | refine WM.as rfl rfl rfl rfl ?_
      | refine WM.xt rfl rfl rfl rfl rfl ?_
      | refine .done rfl ?_
      | refine .t rfl ?_ rfl
      | refine WM.g rfl rfl rfl rfl ?_
      | refine .u rfl rfl rfl ?_)
    | (refine WF.id ?_; first
      | refine WF.mv rfl rfl rfl rfl ?_
      | refine WF.as rfl rfl rfl rfl ?_
      | refine WF.xt rfl rfl rfl rfl rfl ?_
      | refine .done rfl ?_
      | refine WF.g rfl rfl rfl rfl rfl ?_
      | refine WF.v rfl rfl rfl rfl (stpR_ok D rfl) rfl ?_
      | refine .u rfl rfl rfl ?_)
    | (refine OpD.id ?_; refine OpD.of (stpR_ok D rfl) ?_)
    | (refine OpM.id ?_; first
      | refine OpM.v (stpR_ok D rfl) rfl ?_
      | refine OpM.b (stpR_ok D rfl) rfl (by repeat' (first | exact .nil | refine .box rfl ?_ | refine .arr (rs_low _ _ _) ?_ | refine .dead ?_ | fail)) ?_))
  exact g_) : A := h g
/-- The same; the memory is written out after each region. -/
theorem goN {A G : Prop} (g : G) (h : G → A := by
  intro g_
  repeat1' (first
    | (refine WO.id ?_; first
      | refine stp1_ok D rfl ?_
      | refine WO.nil ?_
      | refine WO.g rfl rfl rfl ?_
      | refine WO.g0 rfl ?_)
    | (refine W.id ?_; first
      | refine W.hp (by simp only [List.nil_append, List.cons_append, List.append_nil, List.length_cons, List.length_nil, List.length_set, List.set_cons_zero, List.set_cons_succ, Nat.reduceAdd, Nat.zero_add, Nat.add_zero, wr, C.ren, X.ren, V.ren, Blk.ren, nzm0, nzm1, nzx0, nzx1, nzt, nzr0, nzr1, nzr2, nzu0, nzu1, nzb0, nzb1, nzs0, nzs1, nzd1, List.drop_zero, List.drop_nil, tcn, tcc, List.take_succ_cons, List.take_zero, List.take_nil] <;> rfl) ?_
      | refine W.en (by simp only [List.nil_append, List.cons_append, List.append_nil, List.length_cons, List.length_nil, List.length_set, List.set_cons_zero, List.set_cons_succ, Nat.reduceAdd, Nat.zero_add, Nat.add_zero, wr, C.ren, X.ren, V.ren, Blk.ren, nzm0, nzm1, nzx0, nzx1, nzt, nzr0, nzr1, nzr2, nzu0, nzu1, nzb0, nzb1, nzs0, nzs1, nzd1, List.drop_zero, List.drop_nil, tcn, tcc, List.take_succ_cons, List.take_zero, List.take_nil] <;> rfl) ?_
      | refine W.regs ?_
      | refine W.dv0 mixed rfl (by decide +kernel) ?_
      | refine W.dv1 mixed rfl (by decide +kernel) ?_
      | refine W.dv2 mixed rfl (by decide +kernel) ?_
      | refine W.dm0 mixed rfl (by decide +kernel) (by repeat' (first | exact .nil | refine .box rfl ?_ | refine .arr (rs_low _ _ _) ?_ | refine .dead ?_ | fail)) ?_
      | refine W.dm1 mixed rfl (by decide +kernel) (by repeat' (first | exact .nil | refine .box rfl ?_ | refine .arr (rs_low _ _ _) ?_ | refine .dead ?_ | fail)) ?_
      | refine W.dm2 mixed rfl (by decide +kernel) (by repeat' (first | exact .nil | refine .box rfl ?_ | refine .arr (rs_low _ _ _) ?_ | refine .dead ?_ | fail)) ?_
      | refine W.ret ?_
      | refine W.sq rfl ?_
      | refine W.skip ?_
      | refine W.region ?_
      | refine W.exit ?_
      | refine W.block ?_)
    | (refine Then.id ?_; first
      | refine Then.rn ?_
      | refine Then.rr ?_
      | refine Then.rx ?_)
    | (refine InBlk.id ?_; first
      | refine InBlk.rn ?_
      | refine InBlk.rr ?_
      | refine InBlk.re ?_
      | refine InBlk.rx rfl ?_)
    | (refine WD.id ?_; first
      | refine WD.done rfl ?_
      | refine WD.t rfl ?_ rfl
      | refine WD.g rfl rfl rfl ?_
      | refine WD.u rfl rfl rfl ?_)
    | (refine WM.id ?_; first
      | refine WM.mv rfl rfl rfl rfl ?_
      | refine WM.as rfl rfl rfl rfl ?_
      | refine WM.xt rfl rfl rfl rfl rfl ?_
      | refine .done rfl ?_
      | refine .t rfl ?_ rfl
      | refine WM.g rfl rfl rfl rfl ?_
      | refine .u rfl rfl rfl ?_)
    | (refine WF.id ?_; first
      | refine WF.mv rfl rfl rfl rfl ?_
      | refine WF.as rfl rfl rfl rfl ?_
      | refine WF.xt rfl rfl rfl rfl rfl ?_
      | refine .done rfl ?_
      | refine WF.g rfl rfl rfl rfl rfl ?_
      | refine WF.v rfl rfl rfl rfl (stpR_ok D rfl) rfl ?_
      | refine .u rfl rfl rfl ?_)
    | (refine OpD.id ?_; refine OpD.of (stpR_ok D rfl) ?_)
    | (refine OpM.id ?_; first
      | refine OpM.v (stpR_ok D rfl) rfl ?_
      | refine OpM.b (stpR_ok D rfl) rfl (by repeat' (first | exact .nil | refine .box rfl ?_ | refine .arr (rs_low _ _ _) ?_ | refine .dead ?_ | fail)) ?_))
  exact g_) : A := h g
/-- The same, for functions whose regions of open order make blocks. -/
theorem goM {A G : Prop} (g : G) (h : G → A := by
  intro g_
  repeat1' (first
    | (refine WO.id ?_; first
      | refine stp1_ok D rfl ?_
      | refine WO.nil ?_
      | refine WO.g rfl rfl rfl ?_
      | refine WO.g0 rfl ?_)
    | (refine W.id ?_; first
      | refine W.hp (by simp only [List.nil_append, List.cons_append, List.append_nil, List.length_cons, List.length_nil, List.length_set, List.set_cons_zero, List.set_cons_succ, Nat.reduceAdd, Nat.zero_add, Nat.add_zero, wr, C.ren, X.ren, V.ren, Blk.ren, nzm0, nzm1, nzx0, nzx1, nzt, nzr0, nzr1, nzr2, nzu0, nzu1, nzb0, nzb1, nzs0, nzs1, nzd1, List.drop_zero, List.drop_nil, tcn, tcc, List.take_succ_cons, List.take_zero, List.take_nil] <;> rfl) ?_
      | refine W.en (by simp only [List.nil_append, List.cons_append, List.append_nil, List.length_cons, List.length_nil, List.length_set, List.set_cons_zero, List.set_cons_succ, Nat.reduceAdd, Nat.zero_add, Nat.add_zero, wr, C.ren, X.ren, V.ren, Blk.ren, nzm0, nzm1, nzx0, nzx1, nzt, nzr0, nzr1, nzr2, nzu0, nzu1, nzb0, nzb1, nzs0, nzs1, nzd1, List.drop_zero, List.drop_nil, tcn, tcc, List.take_succ_cons, List.take_zero, List.take_nil] <;> rfl) ?_
      | refine W.regs ?_
      | refine W.dm0 mixed rfl (by decide +kernel) (by repeat' (first | exact .nil | refine .box rfl ?_ | refine .arr (rs_low _ _ _) ?_ | refine .dead ?_ | fail)) ?_
      | refine W.dm1 mixed rfl (by decide +kernel) (by repeat' (first | exact .nil | refine .box rfl ?_ | refine .arr (rs_low _ _ _) ?_ | refine .dead ?_ | fail)) ?_
      | refine W.dm2 mixed rfl (by decide +kernel) (by repeat' (first | exact .nil | refine .box rfl ?_ | refine .arr (rs_low _ _ _) ?_ | refine .dead ?_ | fail)) ?_
      | refine W.ret ?_
      | refine W.sq rfl ?_
      | refine W.skip ?_
      | refine W.region ?_
      | refine W.exit ?_
      | refine W.block ?_)
    | (refine Then.id ?_; first
      | refine Then.rn ?_
      | refine Then.rr ?_
      | refine Then.rx ?_)
    | (refine InBlk.id ?_; first
      | refine InBlk.rn ?_
      | refine InBlk.rr ?_
      | refine InBlk.re ?_
      | refine InBlk.rx rfl ?_)
    | (refine WM.id ?_; first
      | refine WM.mv rfl rfl rfl rfl ?_
      | refine WM.as rfl rfl rfl rfl ?_
      | refine WM.xt rfl rfl rfl rfl rfl ?_
      | refine .done rfl ?_
      | refine .t rfl ?_ rfl
      | refine WM.g rfl rfl rfl rfl ?_
      | refine .u rfl rfl rfl ?_)
    | (refine OpM.id ?_; first
      | refine OpM.v (stpR_ok D rfl) rfl ?_
      | refine OpM.b (stpR_ok D rfl) rfl (by repeat' (first | exact .nil | refine .box rfl ?_ | refine .arr (rs_low _ _ _) ?_ | refine .dead ?_ | fail)) ?_))
  exact g_) : A := h g
/-- The same; regions of open order are gone through in every order. -/
theorem goB {A G : Prop} (g : G) (h : G → A := by
  intro g_
  repeat1' (first
    | (refine WO.id ?_; first
      | refine stp1_ok D rfl ?_
      | refine WO.nil ?_
      | refine WO.g rfl rfl rfl ?_
      | refine WO.g0 rfl ?_)
    | (refine W.id ?_; first
      | refine W.hp (by simp only [List.nil_append, List.cons_append, List.append_nil, List.length_cons, List.length_nil, List.length_set, List.set_cons_zero, List.set_cons_succ, Nat.reduceAdd, Nat.zero_add, Nat.add_zero, wr, C.ren, X.ren, V.ren, Blk.ren, nzm0, nzm1, nzx0, nzx1, nzt, nzr0, nzr1, nzr2, nzu0, nzu1, nzb0, nzb1, nzs0, nzs1, nzd1, List.drop_zero, List.drop_nil, tcn, tcc, List.take_succ_cons, List.take_zero, List.take_nil] <;> rfl) ?_
      | refine W.en (by simp only [List.nil_append, List.cons_append, List.append_nil, List.length_cons, List.length_nil, List.length_set, List.set_cons_zero, List.set_cons_succ, Nat.reduceAdd, Nat.zero_add, Nat.add_zero, wr, C.ren, X.ren, V.ren, Blk.ren, nzm0, nzm1, nzx0, nzx1, nzt, nzr0, nzr1, nzr2, nzu0, nzu1, nzb0, nzb1, nzs0, nzs1, nzd1, List.drop_zero, List.drop_nil, tcn, tcc, List.take_succ_cons, List.take_zero, List.take_nil] <;> rfl) ?_
      | refine W.regs ?_
      | refine W.ret ?_
      | refine W.sq rfl ?_
      | refine W.skip ?_
      | refine W.region ?_
      | refine W.exit ?_
      | refine W.block ?_)
    | (refine Then.id ?_; first
      | refine Then.rn ?_
      | refine Then.rr ?_
      | refine Then.rx ?_)
    | (refine InBlk.id ?_; first
      | refine InBlk.rn ?_
      | refine InBlk.rr ?_
      | refine InBlk.re ?_
      | refine InBlk.rx rfl ?_)
    | (refine WM.id ?_; first
      | refine WM.mv rfl rfl rfl rfl ?_
      | refine WM.as rfl rfl rfl rfl ?_
      | refine WM.xt rfl rfl rfl rfl rfl ?_
      | refine .done rfl ?_
      | refine .t rfl ?_ rfl
      | refine WM.g rfl rfl rfl rfl ?_
      | refine .u rfl rfl rfl ?_)
    | (refine OpM.id ?_; first
      | refine OpM.v (stpR_ok D rfl) rfl ?_
      | refine OpM.b (stpR_ok D rfl) rfl (by repeat' (first | exact .nil | refine .box rfl ?_ | refine .arr (rs_low _ _ _) ?_ | refine .dead ?_ | fail)) ?_))
  exact g_) : A := h g
/-! ### Values in which slices of the call's own lie -/
def V.cl2 : V → Option (List C)
  | .c x => some [x]
  | .ag cs => some cs
  | .tu _ => none
def vone : V → List C
  | .c x => [x]
  | _ => []
inductive Ones (h : List Blk) : List C → Prop
  | nil : Ones h []
  | c {x : C} {cs : List C} (h1 : x.one h = true) (hs : Ones h cs) : Ones h (x :: cs)
  | s {α : Type} {e : α → List T} {l : List α} {b n off len sz : Nat} {cs : List C} (hb : h[b]? = some (.arr (Rs e l) sz)) (hn : n = l.length) (hs : Ones h cs) : Ones h (.sl b n off len :: cs)
theorem Ones.ok {h : List Blk} {cs : List C} (o : Ones h cs) : cs.all (·.one h) = true := by
  induction o with
  | nil => rfl
  | c h1 _ ih => rw [List.all_cons, ih, h1]; rfl
  | s hb hn _ ih => rw [List.all_cons, ih, Bool.and_true]; subst hn; simp [C.one, hb]
theorem cl2_ok {h : List Blk} {v : V} {xs : List C} (hc : v.cl2 = some xs) (o : Ones h xs) : v.cl h = some xs := by
  cases v with
  | c x =>
    simp only [V.cl2, Option.some.injEq] at hc; subst hc
    have := o.ok
    simp only [List.all_cons, List.all_nil, Bool.and_true] at this
    simp [V.cl, this]
  | ag cs => exact hc
  | tu xs => cases hc
def bldC2 (fs : List (Nat × Nat)) (cs : List C) : List (Nat × V) → Option (List C)
  | [] => some cs
  | (i, v) :: rest => match fs[i]?, v.cl2 with
    | some (off, size), some xs => if xs.length = size ∧ off + xs.length ≤ cs.length then bldC2 fs (wr cs off xs) rest else none
    | _, _ => none
theorem Ones.app {h : List Blk} {xs ys : List C} (o : (xs ++ ys).all (·.one h) = true) : xs.all (·.one h) = true ∧ ys.all (·.one h) = true := by
  rw [List.all_append, Bool.and_eq_true] at o; exact o
theorem bldC2_ok {fs : List (Nat × Nat)} {h : List Blk} : ∀ {vs : List (Nat × V)} {cs cs' : List C}, bldC2 fs cs vs = some cs' → (vs.flatMap fun p => vone p.2).all (·.one h) = true → bldC fs cs h vs = some cs'
  | [], _, _, hb, _ => hb
  | (i, v) :: rest, cs, cs', hb, o => by
    rw [List.flatMap_cons] at o
    obtain ⟨o1, o2⟩ := Ones.app o
    have hc : ∀ xs, v.cl2 = some xs → v.cl h = some xs := fun xs hx => by
      cases v with
      | c x =>
        simp only [V.cl2, Option.some.injEq] at hx; subst hx
        simp only [vone, List.all_cons, List.all_nil, Bool.and_true] at o1
        simp [V.cl, o1]
      | ag cs => exact hx
      | tu xs => cases hx
    rw [bldC2] at hb
    rw [bldC]
    cases hf : fs[i]? with
    | none => rw [hf] at hb; cases hb
    | some p =>
      obtain ⟨off, size⟩ := p
      cases hv : v.cl2 with
      | none => rw [hf, hv] at hb; cases hb
      | some xs =>
        rw [hf, hv] at hb
        rw [hc xs hv]
        dsimp only at hb ⊢
        split at hb
        · rename_i hi
          rw [if_pos hi]; exact bldC2_ok hb o2
        · cases hb
theorem OpOk.stB2 {P : Program} {n : Nat} {o : Oper} {env : Env} {h : List Blk} {v : V} (D : Tab P) {t : Nat} {x y : Operand} {b off : Nat} {cs xs : List C} {i : TI} (ho : o.op = .store t x y) (ht : D.f t = some i) (hx : oe env x = some (.c (.ptr b off))) (hb : h[b]? = some (.box cs)) (hy : oe env y = some v) (hc : v.cl2 = some xs) (hsz : xs.length = i.size) (hin : (off + xs.length).ble cs.length = true) (hk : Ones h xs := by repeat' (first | exact .nil | refine .c rfl ?_ | refine .s rfl rfl ?_)) :
    OpOk P n o env h (.c .u) (h.set b (.box (wr cs off xs))) := .stB D ho ht hx hb hy (cl2_ok hc hk) hk.ok hsz (Nat.le_of_ble_eq_true hin)
theorem OpOk.build2 {P : Program} {n : Nat} {o : Oper} {env : Env} {h : List Blk} (D : Tab P) {t : Nat} {ps : Array (Nat × Operand)} {vs : List (Nat × V)} {fs : List (Nat × Nat)} {i : TI} {cs : List C} (ho : o.op = .build t ps) (ht : D.f t = some i) (hk : i.k = .st fs) (h0 : fs.all (·.2 != 0) = true) (hv : oes env ps.toList = some vs) (hb : bldC2 fs i.zero vs = some cs) (ho1 : Ones h (vs.flatMap fun p => vone p.2) := by repeat' (first | exact .nil | refine .c rfl ?_ | refine .s rfl rfl ?_)) : OpOk P n o env h (.ag cs) h :=
  .build D ho ht hk h0 hv (bldC2_ok hb ho1.ok)
/-- One operation of the common ones. -/
theorem goO {A G : Prop} (g : G) (h : G → A := by
  intro g_
  first
    | (refine OpK.id ?_; first
      | exact OpK.of (OpOk.lenS D rfl rfl rfl rfl) g_
      | exact OpK.of (OpOk.lenM D rfl rfl rfl rfl) g_
      | exact OpK.of (OpOk.lenL D rfl rfl rfl rfl) g_
      | exact OpK.of (OpOk.lenA D rfl rfl rfl rfl rfl rfl) g_
      | exact OpK.of (OpOk.lenE D rfl rfl rfl rfl) g_
      | exact OpK.of (OpOk.inc rfl rfl rfl (by clear g_; omega)) g_
      | exact OpK.of (OpOk.add rfl rfl rfl (by clear g_; omega)) g_
      | exact OpK.of (OpOk.sub rfl rfl rfl (by clear g_; omega)) g_
      | exact OpK.of (OpOk.stB2 D rfl rfl rfl rfl rfl rfl rfl rfl) g_
      | exact OpK.of (OpOk.build2 D rfl rfl rfl rfl rfl rfl) g_
      | exact OpK.of (OpOk.ixM D rfl rfl rfl rfl rfl rfl (by clear g_; first | assumption | omega) (fun _ => rfl)) g_)
    | (refine OpD.id ?_; first
      | exact OpD.of (OpOk.lenS D rfl rfl rfl rfl) g_
      | exact OpD.of (OpOk.lenM D rfl rfl rfl rfl) g_
      | exact OpD.of (OpOk.lenL D rfl rfl rfl rfl) g_
      | exact OpD.of (OpOk.lenA D rfl rfl rfl rfl rfl rfl) g_
      | exact OpD.of (OpOk.lenE D rfl rfl rfl rfl) g_
      | exact OpD.of (OpOk.inc rfl rfl rfl (by clear g_; omega)) g_
      | exact OpD.of (OpOk.add rfl rfl rfl (by clear g_; omega)) g_
      | exact OpD.of (OpOk.sub rfl rfl rfl (by clear g_; omega)) g_
      | exact OpD.of (OpOk.build2 D rfl rfl rfl rfl rfl rfl) g_
      | exact OpD.of (OpOk.ixM D rfl rfl rfl rfl rfl rfl (by clear g_; first | assumption | omega) (fun _ => rfl)) g_)
    | (refine OpM.id ?_; first
      | exact OpM.v (OpOk.lenS D rfl rfl rfl rfl) rfl g_
      | exact OpM.v (OpOk.lenM D rfl rfl rfl rfl) rfl g_
      | exact OpM.v (OpOk.lenL D rfl rfl rfl rfl) rfl g_
      | exact OpM.v (OpOk.lenA D rfl rfl rfl rfl rfl rfl) rfl g_
      | exact OpM.v (OpOk.lenE D rfl rfl rfl rfl) rfl g_
      | exact OpM.v (OpOk.inc rfl rfl rfl (by clear g_; omega)) rfl g_
      | exact OpM.v (OpOk.add rfl rfl rfl (by clear g_; omega)) rfl g_
      | exact OpM.v (OpOk.sub rfl rfl rfl (by clear g_; omega)) rfl g_
      | exact OpM.v (OpOk.build2 D rfl rfl rfl rfl rfl rfl) rfl g_
      | exact OpM.v (OpOk.ixM D rfl rfl rfl rfl rfl rfl (by clear g_; first | assumption | omega) (fun _ => rfl)) rfl g_)) : A := h g
/-- A call of a pure function. -/
theorem cl {P : Program} {f : FuncId} {vs : List V} {v : V} {A G : Prop} (c : Pu P f vs v) (g : G) (h : Pu P f vs v → G → A := by
  intro c_ g_
  first
    | exact OpK.of (OpOk.call rfl c_ rfl rfl rfl) g_
    | exact OpD.of (OpOk.call rfl c_ rfl rfl rfl) g_
    | exact OpM.v (OpOk.call rfl c_ rfl rfl rfl) rfl g_) : A := h c g
/-- A number of blocks, named. -/
structure Kw (K : List Nat) : Prop where
theorem OpOk.callK {P : Program} {n : Nat} {o : Oper} {env : Env} {h : List Blk} {f : FuncId} {xs : Array Operand} {ts : Array Nat} {us vs : List V} {g h1 : List Blk} {K : List Nat} {r : V} (k : Kw K) (hF : Po P f vs g r h1) (ho : o.op = .call { callee := .value (.func f), args := xs, argTypes := ts })
    (hx : oel env xs.toList = some us) (hv : VwVs h K false us vs) (hn : K.Nodup) (hg : VwH h K false K g) (hq : r.okv false = true ∧ h1.all (Blk.okb false) = true) (hr : RlH h1) : OpOk P n o env h (r.ren (rf K h.length)) (unH h K h1) := .callO hF ho hx hv hn hg hq hr
theorem OpA.callK {P : Program} {n : Nat} {o : Oper} {env : Env} {h : List Blk} {f : FuncId} {xs : Array Operand} {ts : Array Nat} {us vs : List V} {g : List Blk} {K : List Nat} {α : Type} {p : α → Prop} {r : α → V} {h1 : α → List Blk} (k : Kw K) (hF : Px P f vs g p r h1) (ho : o.op = .call { callee := .value (.func f), args := xs, argTypes := ts })
    (hx : oel env xs.toList = some us) (hv : VwVs h K false us vs) (hn : K.Nodup) (hg : VwH h K false K g) (hq : ∀ x, (r x).okv false = true ∧ (h1 x).all (Blk.okb false) = true) (hr : ∀ x, RlH (h1 x)) : OpA P n o env h p (fun x => (r x).ren (rf K h.length)) (fun x => unH h K (h1 x)) := .call hF ho hx hv hn hg hq hr
section
variable {P : Program} {n : Nat} {f : FuncId} {vs : List V} {g h1 : List Blk} {v : V} {env : Env} {h bs : List Blk} {kk : V → List Blk → Prop} {kd : V → Prop} {d : Option Nat} {xs : Array Operand} {ts : Array Nat} {ty : Nat} {ps : String} {af : Array Edge} {gd : Option (Nat × Bool)}
theorem OpK.gf (_ : Po P f vs g v h1) (x : OpK P n ⟨d, .call { callee := .value (.func f), args := xs, argTypes := ts }, ty, ps, af, gd⟩ env h kk) : OpK P n ⟨d, .call { callee := .value (.func f), args := xs, argTypes := ts }, ty, ps, af, gd⟩ env h kk := x
theorem OpM.gf (_ : Po P f vs g v h1) (x : OpM P n ⟨d, .call { callee := .value (.func f), args := xs, argTypes := ts }, ty, ps, af, gd⟩ env h bs kk) : OpM P n ⟨d, .call { callee := .value (.func f), args := xs, argTypes := ts }, ty, ps, af, gd⟩ env h bs kk := x
theorem OpD.gf (_ : Po P f vs g v h1) (x : OpD P n ⟨d, .call { callee := .value (.func f), args := xs, argTypes := ts }, ty, ps, af, gd⟩ env h kd) : OpD P n ⟨d, .call { callee := .value (.func f), args := xs, argTypes := ts }, ty, ps, af, gd⟩ env h kd := x
end
/-- A call that is handed blocks. -/
theorem co (K : List Nat) {P : Program} {f : FuncId} {vs : List V} {g h1 : List Blk} {v : V} {A G : Prop} (c : Po P f vs g v h1) (gg : G) (h : Kw K → Po P f vs g v h1 → G → A := by
  intro k_ c_ g_
  first
    | (refine OpK.gf c_ ?_; refine OpK.of (OpOk.callK k_ c_ rfl rfl (by repeat' (first | exact .nil | refine .cons rfl ?_ ?_ | refine .cons ?_ ?_ | refine .c ?_ | refine .ag ?_ | refine .box ?_ | exact .arr (rs_low _ _ _) | exact .dead | exact .id rfl | exact .sl rfl | exact .ptr rfl | exact .ap rfl | exact .emp | exact .full rfl rfl rfl rfl (by first | rfl | (clear g_; assumption)) | fail)) (by decide) (by repeat' (first | exact .nil | refine .cons rfl ?_ ?_ | refine .cons ?_ ?_ | refine .c ?_ | refine .ag ?_ | refine .box ?_ | exact .arr (rs_low _ _ _) | exact .dead | exact .id rfl | exact .sl rfl | exact .ptr rfl | exact .ap rfl | exact .emp | exact .full rfl rfl rfl rfl (by first | rfl | (clear g_; assumption)) | fail)) ⟨rfl, rfl⟩ (by repeat' (first | exact .nil | refine .box ?_ | refine .arr (rs_low _ _ _) ?_ | refine .dead ?_ | fail))) ?_)
    | (refine OpM.gf c_ ?_; refine OpM.b (OpOk.callK k_ c_ rfl rfl (by repeat' (first | exact .nil | refine .cons rfl ?_ ?_ | refine .cons ?_ ?_ | refine .c ?_ | refine .ag ?_ | refine .box ?_ | exact .arr (rs_low _ _ _) | exact .dead | exact .id rfl | exact .sl rfl | exact .ptr rfl | exact .ap rfl | exact .emp | exact .full rfl rfl rfl rfl (by first | rfl | (clear g_; assumption)) | fail)) (by decide) (by repeat' (first | exact .nil | refine .cons rfl ?_ ?_ | refine .cons ?_ ?_ | refine .c ?_ | refine .ag ?_ | refine .box ?_ | exact .arr (rs_low _ _ _) | exact .dead | exact .id rfl | exact .sl rfl | exact .ptr rfl | exact .ap rfl | exact .emp | exact .full rfl rfl rfl rfl (by first | rfl | (clear g_; assumption)) | fail)) ⟨rfl, rfl⟩ (by repeat' (first | exact .nil | refine .box ?_ | refine .arr (rs_low _ _ _) ?_ | refine .dead ?_ | fail))) rfl (by repeat' (first | exact .nil | refine .box rfl ?_ | refine .arr (rs_low _ _ _) ?_ | refine .dead ?_ | fail)) ?_)
    | (refine OpM.gf c_ ?_; refine OpM.v (OpOk.callK k_ c_ rfl rfl (by repeat' (first | exact .nil | refine .cons rfl ?_ ?_ | refine .cons ?_ ?_ | refine .c ?_ | refine .ag ?_ | refine .box ?_ | exact .arr (rs_low _ _ _) | exact .dead | exact .id rfl | exact .sl rfl | exact .ptr rfl | exact .ap rfl | exact .emp | exact .full rfl rfl rfl rfl (by first | rfl | (clear g_; assumption)) | fail)) (by decide) (by repeat' (first | exact .nil | refine .cons rfl ?_ ?_ | refine .cons ?_ ?_ | refine .c ?_ | refine .ag ?_ | refine .box ?_ | exact .arr (rs_low _ _ _) | exact .dead | exact .id rfl | exact .sl rfl | exact .ptr rfl | exact .ap rfl | exact .emp | exact .full rfl rfl rfl rfl (by first | rfl | (clear g_; assumption)) | fail)) ⟨rfl, rfl⟩ (by repeat' (first | exact .nil | refine .box ?_ | refine .arr (rs_low _ _ _) ?_ | refine .dead ?_ | fail))) rfl ?_)
  exact g_) : A := h ⟨⟩ c gg
/-- A call of whose results something is known. -/
theorem ca (K : List Nat) {P : Program} {f : FuncId} {vs : List V} {g : List Blk} {α : Type} {p : α → Prop} {r : α → V} {h1 : α → List Blk} {A G : Prop} (c : Px P f vs g p r h1) (gg : G) (h : Kw K → Px P f vs g p r h1 → G → A := by
  intro k_ c_ g_
  first
    | refine WO.a rfl rfl rfl (OpA.callK k_ c_ rfl rfl (by repeat' (first | exact .nil | refine .cons rfl ?_ ?_ | refine .cons ?_ ?_ | refine .c ?_ | refine .ag ?_ | refine .box ?_ | exact .arr (rs_low _ _ _) | exact .dead | exact .id rfl | exact .sl rfl | exact .ptr rfl | exact .ap rfl | exact .emp | exact .full rfl rfl rfl rfl (by first | rfl | (clear g_; assumption)) | fail)) (by decide) (by repeat' (first | exact .nil | refine .cons rfl ?_ ?_ | refine .cons ?_ ?_ | refine .c ?_ | refine .ag ?_ | refine .box ?_ | exact .arr (rs_low _ _ _) | exact .dead | exact .id rfl | exact .sl rfl | exact .ptr rfl | exact .ap rfl | exact .emp | exact .full rfl rfl rfl rfl (by first | rfl | (clear g_; assumption)) | fail)) (fun _ => ⟨rfl, rfl⟩) (fun _ => (by repeat' (first | exact .nil | refine .box ?_ | refine .arr (rs_low _ _ _) ?_ | refine .dead ?_ | fail)))) ?_
    | refine WO.a0 rfl (OpA.callK k_ c_ rfl rfl (by repeat' (first | exact .nil | refine .cons rfl ?_ ?_ | refine .cons ?_ ?_ | refine .c ?_ | refine .ag ?_ | refine .box ?_ | exact .arr (rs_low _ _ _) | exact .dead | exact .id rfl | exact .sl rfl | exact .ptr rfl | exact .ap rfl | exact .emp | exact .full rfl rfl rfl rfl (by first | rfl | (clear g_; assumption)) | fail)) (by decide) (by repeat' (first | exact .nil | refine .cons rfl ?_ ?_ | refine .cons ?_ ?_ | refine .c ?_ | refine .ag ?_ | refine .box ?_ | exact .arr (rs_low _ _ _) | exact .dead | exact .id rfl | exact .sl rfl | exact .ptr rfl | exact .ap rfl | exact .emp | exact .full rfl rfl rfl rfl (by first | rfl | (clear g_; assumption)) | fail)) (fun _ => ⟨rfl, rfl⟩) (fun _ => (by repeat' (first | exact .nil | refine .box ?_ | refine .arr (rs_low _ _ _) ?_ | refine .dead ?_ | fail)))) ?_
    | refine WI.a rfl rfl rfl (OpA.callK k_ c_ rfl rfl (by repeat' (first | exact .nil | refine .cons rfl ?_ ?_ | refine .cons ?_ ?_ | refine .c ?_ | refine .ag ?_ | refine .box ?_ | exact .arr (rs_low _ _ _) | exact .dead | exact .id rfl | exact .sl rfl | exact .ptr rfl | exact .ap rfl | exact .emp | exact .full rfl rfl rfl rfl (by first | rfl | (clear g_; assumption)) | fail)) (by decide) (by repeat' (first | exact .nil | refine .cons rfl ?_ ?_ | refine .cons ?_ ?_ | refine .c ?_ | refine .ag ?_ | refine .box ?_ | exact .arr (rs_low _ _ _) | exact .dead | exact .id rfl | exact .sl rfl | exact .ptr rfl | exact .ap rfl | exact .emp | exact .full rfl rfl rfl rfl (by first | rfl | (clear g_; assumption)) | fail)) (fun _ => ⟨rfl, rfl⟩) (fun _ => (by repeat' (first | exact .nil | refine .box ?_ | refine .arr (rs_low _ _ _) ?_ | refine .dead ?_ | fail)))) ?_
    | refine WI.a0 rfl (OpA.callK k_ c_ rfl rfl (by repeat' (first | exact .nil | refine .cons rfl ?_ ?_ | refine .cons ?_ ?_ | refine .c ?_ | refine .ag ?_ | refine .box ?_ | exact .arr (rs_low _ _ _) | exact .dead | exact .id rfl | exact .sl rfl | exact .ptr rfl | exact .ap rfl | exact .emp | exact .full rfl rfl rfl rfl (by first | rfl | (clear g_; assumption)) | fail)) (by decide) (by repeat' (first | exact .nil | refine .cons rfl ?_ ?_ | refine .cons ?_ ?_ | refine .c ?_ | refine .ag ?_ | refine .box ?_ | exact .arr (rs_low _ _ _) | exact .dead | exact .id rfl | exact .sl rfl | exact .ptr rfl | exact .ap rfl | exact .emp | exact .full rfl rfl rfl rfl (by first | rfl | (clear g_; assumption)) | fail)) (fun _ => ⟨rfl, rfl⟩) (fun _ => (by repeat' (first | exact .nil | refine .box ?_ | refine .arr (rs_low _ _ _) ?_ | refine .dead ?_ | fail)))) ?_
  exact g_) : A := h ⟨⟩ c gg
/-- A step that makes a block. -/
theorem OpM.bl {P : Program} {n : Nat} {o : Oper} {env : Env} {h bs : List Blk} {v : V} {blk : Blk} {k : V → List Blk → Prop} (hok : OpOk P n o env h v (h ++ [blk])) (hk : k (v.ren (mvf h.length (h.length + bs.length))) (bs ++ [blk])) (hv : v.low (h.length + 1) = true := by rfl) (hb : LH h.length [blk] := by repeat' (first | exact .nil | refine .box rfl ?_ | refine .arr (rs_low _ _ _) ?_ | refine .dead ?_ | fail)) : OpM P n o env h bs k := .b hok hv hb hk
end Go.YtamlleimfopmhaaMc

namespace Go.YtamlleimfopmhaaMc
/-! ### Bytes and strings; more ways to call; digits -/
section
variable {P : Program} {n : Nat} {o : Oper} {env : Env} {h h' : List Blk} {v : V}
theorem foldl_bytes (bs : List UInt8) : ∀ (s : ByteArray), (bs.map fun c => (c.toNat : Int)).foldl (fun r n => r.push (UInt8.ofNat n.toNat)) s = ⟨s.data ++ bs.toArray⟩ := by
  induction bs with
  | nil => intro s; simp
  | cons b bs ih =>
    intro s
    rw [List.map_cons, List.foldl_cons, ih]
    simp [ByteArray.push]
theorem OpOk.b2s (D : Tab P) (bs : List UInt8) {t t' e : Nat} {x : Operand} {vx : V} {i i' ie : TI} {es : List (List C)} (ho : o.op = .convert t t' x) (ht : D.f t = some i) (hk : i.k = .sl e) (hte : D.f e = some ie) (hke : ie.k = .int .u8) (ht' : D.f t' = some i') (hk' : i'.k = .str)
    (hx : oe env x = some vx) (hs : srcE h vx = some es) (he : es = bs.map fun c => [C.t (.i .u8 c.toNat)]) : OpOk P n o env h (.c (.t (.s bs))) h := by
  refine .val fun w S ι a r1 r2 => ?_
  have hu := (D.ok t i ht).und
  rw [hk] at hu
  have hu : P.underlying t = some (.slice e) := hu
  have hue := (D.ok e ie hte).und
  rw [hke] at hue
  have hue : P.underlying e = some (.int .u8) := hue
  have hu' := (D.ok t' i' ht').und
  rw [hk'] at hu'
  have hu' : P.underlying t' = some .string := hu'
  obtain ⟨A, cap, vs, q1, q2, q3, q4⟩ := src_ok (P := P) (sz := 1) (by decide) r1 (oe_ok r2 hx) hs (fun el hel => by rw [he] at hel; obtain ⟨c, _, rfl⟩ := List.mem_map.1 hel; rfl)
  have hl : es.length = bs.length := by rw [he]; simp
  have hvs : vs = (bs.map fun c => (c.toNat : Int)).map (Value.int .u8) := by
    apply List.ext_getElem?
    intro k
    by_cases hkb : k < bs.length
    · obtain ⟨u, u1, u2⟩ := q3.2 k [C.t (.i .u8 bs[k].toNat)] 0 (.t (.i .u8 bs[k].toNat)) (by rw [he]; simp [hkb]) rfl
      simp only [Nat.mul_one, Nat.add_zero] at u1
      cases u2
      rw [u1]; simp [hkb]
    · rw [List.getElem?_eq_none (by rw [q3.1]; omega), List.getElem?_eq_none (by simp; omega)]
  have h4 := q4 w rfl
  refine ⟨.string ⟨bs.toArray⟩, ?_, RT.s _ _ (by simp)⟩
  have hrun : (convert t t' (a.eval x)).run P w = .ok (.string ⟨bs.toArray⟩) w := by
    rw [q1, run_convert_bytes_string w t t' e A es.length cap hu hue hu']
    cases A with
    | none =>
      have : bs = [] := by
        rw [q1] at h4
        simp only [Builtin.firstCells, Sem.run_pure, Result.ok.injEq, and_true] at h4
        have : vs = [] := by simpa using congrArg Array.toList h4.symm
        rw [this] at hvs
        simpa using hvs.symm
      subst this
      rfl
    | some a0 =>
      rw [q1] at h4
      simp only [Builtin.firstCells, Nat.mul_one] at h4
      have := run_bytesToString (P := P) w a0 es.length cap (bs.map fun c => (c.toNat : Int)) (by rw [h4, hvs])
      rw [this, foldl_bytes]
      simp
  simp only [execOp, ho, hrun, bind_pure_comp, Sem.run_map, Result.andThen_ok]
theorem tmod_nat (m c : Nat) : ((m : Int).tmod (c : Int)) = ((m % c : Nat) : Int) := by rw [Int.tmod_eq_emod_of_nonneg (by omega)]; rfl
theorem tdiv_nat (m c : Nat) : ((m : Int).tdiv (c : Int)) = ((m / c : Nat) : Int) := by rw [Int.tdiv_eq_ediv_of_nonneg (by omega)]; rfl
/-- A number that is not below 0, by a constant. -/
theorem OpOk.remN (m c : Nat) {t t' : Nat} {x y : Operand} {k : IntKind} {a b : Int} (ho : o.op = .binOp .rem t x y t') (hx : oe env x = some (.c (.t (.i k a)))) (hy : oe env y = some (.c (.t (.i k b)))) (ha : a = (m : Int)) (hb : b = (c : Int)) (hc : c ≠ 0) : OpOk P n o env h (.c (.t (.i k ((m % c : Nat) : Int)))) h := by
  subst ha; subst hb
  have := OpOk.irem (P := P) (n := n) (h := h) ho hx hy (by omega)
  rwa [tmod_nat] at this
theorem OpOk.quoN (m c : Nat) {t t' : Nat} {x y : Operand} {a b : Int} (ho : o.op = .binOp .quo t x y t') (hx : oe env x = some (.c (.t (.i .i64 a)))) (hy : oe env y = some (.c (.t (.i .i64 b)))) (ha : a = (m : Int)) (hb : b = (c : Int)) (hc : c ≠ 0) (hm : m ≤ 9223372036854775807) : OpOk P n o env h (.c (.t (.i .i64 ((m / c : Nat) : Int)))) h := by
  subst ha; subst hb
  have := OpOk.idiv (P := P) (n := n) (h := h) ho hx hy (by omega)
  have h2 : m / c ≤ m := Nat.div_le_self m c
  rw [tdiv_nat] at this
  generalize m / c = q at this h2 ⊢
  rwa [wrap_i64 (by omega) (by omega)] at this
/-- A store into one of the rows of data of a slice of the call's own. -/
theorem OpOk.stR (D : Tab P) {α : Type} {enc : α → List T} {xs : List α} (j : Nat) (x' : α) {t : Nat} {x y : Operand} {b k i f sz : Nat} {ys : List C} {ti : TI} {vy : V} (ho : o.op = .store t x y) (ht : D.f t = some ti) (hx : oe env x = some (.c (.ap b k i f))) (hb : h[b]? = some (.arr (Rs enc xs) sz)) (hk : k = xs.length) (hi : i = j) (hj : j < xs.length)
    (hy : oe env y = some vy) (hc : vy.cl h = some ys) (h1 : ys.all (·.one h) = true) (hsz : ys.length = ti.size) (hin : f + ys.length ≤ sz) (hw : wr ((enc xs[j]).map C.t) f ys = (enc x').map C.t) : OpOk P n o env h (.c .u) (h.set b (.arr (Rs enc (xs.set j x')) sz)) := by
  subst hi
  have := OpOk.stA (P := P) (n := n) D ho ht hx hb (by rw [hk, rs_len]) (rs_get enc xs i hj) hy hc h1 hsz hin
  rw [hw, rs_set] at this
  exact this
end
theorem OpK.at {P : Program} {n : Nat} {env : Env} {h : List Blk} {kk : V → List Blk → Prop} {p : Op} {ty : Nat} {ps : String} {af : Array Edge} {gd : Option (Nat × Bool)} (d : Nat) (x : OpK P n ⟨some d, p, ty, ps, af, gd⟩ env h kk) : OpK P n ⟨some d, p, ty, ps, af, gd⟩ env h kk := x
theorem OpM.at {P : Program} {n : Nat} {env : Env} {h bs : List Blk} {kk : V → List Blk → Prop} {p : Op} {ty : Nat} {ps : String} {af : Array Edge} {gd : Option (Nat × Bool)} (d : Nat) (x : OpM P n ⟨some d, p, ty, ps, af, gd⟩ env h bs kk) : OpM P n ⟨some d, p, ty, ps, af, gd⟩ env h bs kk := x
theorem okb_nil : ([] : List Blk).all (Blk.okb true) = true := rfl
theorem okb_arr {α : Type} {e : α → List T} {xs : List α} {sz : Nat} {bs : List Blk} (h : ∀ a, ((e a).map C.t).all C.sf = true) (hs : bs.all (Blk.okb true) = true) : (Blk.arr (Rs e xs) sz :: bs).all (Blk.okb true) = true := by
  rw [List.all_cons, hs, Bool.and_true]
  show (!true || (Rs e xs).all (·.all C.sf)) = true
  rw [Bool.not_true, Bool.false_or, List.all_eq_true]
  intro el hel
  obtain ⟨a, _, rfl⟩ := List.mem_map.1 (by simpa [Rs] using hel : el ∈ xs.map fun a => (e a).map C.t)
  exact h a
theorem okb_box {cs : List C} {bs : List Blk} (h : cs.all C.sf = true) (hs : bs.all (Blk.okb true) = true) : (Blk.box cs :: bs).all (Blk.okb true) = true := by
  rw [List.all_cons, hs, Bool.and_true]
  rw [List.all_eq_true] at h
  show cs.all (okc true) = true
  rw [List.all_eq_true]
  intro c hc
  show (!true || c.sf) = true
  rw [h c hc]; rfl
theorem Pu.po {P : Program} {f : FuncId} {xs : List V} {v : V} (hF : Pu P f xs v) (hv : v.low 0 = true := by rfl) : Po P f xs [] v [] := by
  refine ⟨hF.1, ⟨fun w S ι us r1 hr => ?_⟩⟩
  refine (hF.2.out w S ι us r1 hr).mono ?_
  rintro e w' ⟨x, u, S', ι', h', rfl, k1, k2, k3, rfl⟩
  exact ⟨x, u, S', ι', [], rfl, by simpa using k1.take (m := 0) (by simp), by simpa using k2.take (m := 0) (by simp), by simpa using k3.take (m := 0) hv, rfl, rfl⟩
theorem OpOk.callZ {P : Program} {n : Nat} {o : Oper} {env : Env} {h : List Blk} {f : FuncId} {xs : Array Operand} {ts : Array Nat} {us vs : List V} {g h1 : List Blk} {K : List Nat} {r : V} (k : Kw K) (hF : Po P f vs g r h1) (ho : o.op = .call { callee := .value (.func f), args := xs, argTypes := ts })
    (hx : oel env xs.toList = some us) (hv : VwVs h K true us vs) (hn : K.Nodup) (hg : VwH h K true K g) (hq : r.okv true = true) (hq2 : h1.all (Blk.okb true) = true) (hr : RlH h1) : OpOk P n o env h (r.ren (rf K h.length)) (unH h K h1) := .callO hF ho hx hv hn hg ⟨hq, hq2⟩ hr
/-- A call that is handed blocks; others of the call's own are data for it. -/
theorem coz (K : List Nat) {P : Program} {f : FuncId} {vs : List V} {g h1 : List Blk} {v : V} {A G : Prop} (c : Po P f vs g v h1) (gg : G) (h : Kw K → Po P f vs g v h1 → G → A := by
  intro k_ c_ g_
  first
    | (refine OpK.gf c_ ?_; refine OpK.of (OpOk.callZ k_ c_ rfl rfl (by repeat' (first | exact .nil | refine .cons rfl ?_ ?_ | refine .cons ?_ ?_ | refine .c ?_ | refine .ag ?_ | refine .box ?_ | exact .arr (rs_low _ _ _) | exact .dead | exact .id rfl | exact .sl rfl | exact .ptr rfl | exact .ap rfl | exact .emp | exact .full rfl rfl rfl rfl (by first | rfl | (clear g_; assumption)) | fail)) (by decide) (by repeat' (first | exact .nil | refine .cons rfl ?_ ?_ | refine .cons ?_ ?_ | refine .c ?_ | refine .ag ?_ | refine .box ?_ | exact .arr (rs_low _ _ _) | exact .dead | exact .id rfl | exact .sl rfl | exact .ptr rfl | exact .ap rfl | exact .emp | exact .full rfl rfl rfl rfl (by first | rfl | (clear g_; assumption)) | fail)) rfl (by repeat' (first | exact okb_nil | refine okb_arr (fun _ => rfl) ?_ | refine okb_box rfl ?_)) (by repeat' (first | exact .nil | refine .box ?_ | refine .arr (rs_low _ _ _) ?_ | refine .dead ?_ | fail))) ?_)
    | (refine OpM.gf c_ ?_; refine OpM.b (OpOk.callZ k_ c_ rfl rfl (by repeat' (first | exact .nil | refine .cons rfl ?_ ?_ | refine .cons ?_ ?_ | refine .c ?_ | refine .ag ?_ | refine .box ?_ | exact .arr (rs_low _ _ _) | exact .dead | exact .id rfl | exact .sl rfl | exact .ptr rfl | exact .ap rfl | exact .emp | exact .full rfl rfl rfl rfl (by first | rfl | (clear g_; assumption)) | fail)) (by decide) (by repeat' (first | exact .nil | refine .cons rfl ?_ ?_ | refine .cons ?_ ?_ | refine .c ?_ | refine .ag ?_ | refine .box ?_ | exact .arr (rs_low _ _ _) | exact .dead | exact .id rfl | exact .sl rfl | exact .ptr rfl | exact .ap rfl | exact .emp | exact .full rfl rfl rfl rfl (by first | rfl | (clear g_; assumption)) | fail)) rfl (by repeat' (first | exact okb_nil | refine okb_arr (fun _ => rfl) ?_ | refine okb_box rfl ?_)) (by repeat' (first | exact .nil | refine .box ?_ | refine .arr (rs_low _ _ _) ?_ | refine .dead ?_ | fail))) rfl (by repeat' (first | exact .nil | refine .box rfl ?_ | refine .arr (rs_low _ _ _) ?_ | refine .dead ?_ | fail)) ?_)
    | (refine OpM.gf c_ ?_; refine OpM.v (OpOk.callZ k_ c_ rfl rfl (by repeat' (first | exact .nil | refine .cons rfl ?_ ?_ | refine .cons ?_ ?_ | refine .c ?_ | refine .ag ?_ | refine .box ?_ | exact .arr (rs_low _ _ _) | exact .dead | exact .id rfl | exact .sl rfl | exact .ptr rfl | exact .ap rfl | exact .emp | exact .full rfl rfl rfl rfl (by first | rfl | (clear g_; assumption)) | fail)) (by decide) (by repeat' (first | exact .nil | refine .cons rfl ?_ ?_ | refine .cons ?_ ?_ | refine .c ?_ | refine .ag ?_ | refine .box ?_ | exact .arr (rs_low _ _ _) | exact .dead | exact .id rfl | exact .sl rfl | exact .ptr rfl | exact .ap rfl | exact .emp | exact .full rfl rfl rfl rfl (by first | rfl | (clear g_; assumption)) | fail)) rfl (by repeat' (first | exact okb_nil | refine okb_arr (fun _ => rfl) ?_ | refine okb_box rfl ?_)) (by repeat' (first | exact .nil | refine .box ?_ | refine .arr (rs_low _ _ _) ?_ | refine .dead ?_ | fail))) rfl ?_)
    | (refine OpD.gf c_ ?_; refine OpD.of (OpOk.callZ k_ c_ rfl rfl (by repeat' (first | exact .nil | refine .cons rfl ?_ ?_ | refine .cons ?_ ?_ | refine .c ?_ | refine .ag ?_ | refine .box ?_ | exact .arr (rs_low _ _ _) | exact .dead | exact .id rfl | exact .sl rfl | exact .ptr rfl | exact .ap rfl | exact .emp | exact .full rfl rfl rfl rfl (by first | rfl | (clear g_; assumption)) | fail)) (by decide) (by repeat' (first | exact .nil | refine .cons rfl ?_ ?_ | refine .cons ?_ ?_ | refine .c ?_ | refine .ag ?_ | refine .box ?_ | exact .arr (rs_low _ _ _) | exact .dead | exact .id rfl | exact .sl rfl | exact .ptr rfl | exact .ap rfl | exact .emp | exact .full rfl rfl rfl rfl (by first | rfl | (clear g_; assumption)) | fail)) rfl (by repeat' (first | exact okb_nil | refine okb_arr (fun _ => rfl) ?_ | refine okb_box rfl ?_)) (by repeat' (first | exact .nil | refine .box ?_ | refine .arr (rs_low _ _ _) ?_ | refine .dead ?_ | fail))) ?_)
  exact g_) : A := h ⟨⟩ c gg
/-- Decimal digits. -/
def dig (k : Nat) : List UInt8 := if h : k = 0 then [] else dig (k / 10) ++ [UInt8.ofNat (48 + k % 10)]
termination_by k
decreasing_by omega
theorem dig_0 : dig 0 = [] := by rw [dig]; rfl
theorem dig_s {k : Nat} (h : k ≠ 0) : dig k = dig (k / 10) ++ [UInt8.ofNat (48 + k % 10)] := by rw [dig, dif_neg h]
theorem dig_len (k : Nat) : (dig k).length ≤ k := by
  induction k using Nat.strongRecOn with
  | _ k ih =>
    by_cases h : k = 0
    · rw [h, dig_0]; simp
    · rw [dig_s h]; have := ih (k / 10) (by omega); simp; omega
def mtx (k : Nat) : List UInt8 := 109 :: dig k
end Go.YtamlleimfopmhaaMc

namespace Go.YtamlleimfopmhaaMc
/-! ### Behind a region: one state for all its orders, of which only what is used later is kept -/
/-- What is kept of what is known. -/
inductive Rst (m : Nat) (env : Env) : List Nat → Env → Prop
  | nil : Rst m env [] []
  | cons {t : Nat} {v : V} {us : List Nat} {E : Env} (h : env.lookup t = some v) (hl : v.low m = true) (s : Rst m env us E) : Rst m env (t :: us) ((t, v) :: E)
  | skip {t : Nat} {us : List Nat} {E : Env} (s : Rst m env us E) : Rst m env (t :: us) E
theorem Rst.cov {m : Nat} {env : Env} {us : List Nat} {E : Env} (r : Rst m env us E) : Cov m env E := by
  induction r with
  | nil => exact Cov.nil
  | cons h hl _ ih => exact Cov.cons h hl ih
  | skip _ ih => exact ih
structure Mid (us : List Nat) (E2 : Env) (h2 : List Blk) (env : Env) (h : List Blk) : Prop where
  eq : h = h2
  cov : Rst h2.length env us E2
theorem Mid.id {us : List Nat} {E2 : Env} {h2 : List Blk} {env : Env} {h : List Blk} (x : Mid us E2 h2 env h) : Mid us E2 h2 env h := x
section
variable {P : Program} {n : Nat} {ops : Array Oper} {h h2 : List Blk} {env E2 : Env} {y : Code} {Q : Ex → Env → List Blk → Prop}
def MidQ (us : List Nat) (E2 : Env) (h2 : List Blk) : Ex → Env → List Blk → Prop
  | .n, env, h => Mid us E2 h2 env h
  | _, _, _ => False
theorem MidQ.go {us : List Nat} (hy : W P n y E2 h2 Q) : ∀ (e : Ex) (env' : Env) (h' : List Blk), MidQ us E2 h2 e env' h' → Then (fun env' h' => W P n y env' h' Q) Q e env' h'
  | .n, env', h', hq => by
    obtain ⟨e, c⟩ := hq
    exact W.cut e c.cov hy
  | .x _, _, _, hq => hq.elim
  | .r, _, _, hq => hq.elim
/-- A region of open order, and what follows, with one state between them. -/
structure Dfm (P : Program) (n : Nat) (ops : Array Oper) (f m d : Nat) (us : List Nat) (y : Code) (env : Env) (h : List Blk) (Q : Ex → Env → List Blk → Prop) : Prop where
  out : ∃ E2 h2, WF P n ops h (TF P n ops f m d (Mid us E2 h2)) f m 0 env [] ∧ W P n y E2 h2 Q
structure Dbm (P : Program) (n : Nat) (ops : Array Oper) (bs : List Nat) (us : List Nat) (y : Code) (env : Env) (h : List Blk) (Q : Ex → Env → List Blk → Prop) : Prop where
  out : ∃ E2 h2, WB P n ops bs ops.size 0 env h (Mid us E2 h2) ∧ W P n y E2 h2 Q
theorem Dfm.go {us : List Nat} {f m d : Nat} (hw : WF P n ops h (TF P n ops f m d (Mid us E2 h2)) f m 0 env []) (hy : W P n y E2 h2 Q) : Dfm P n ops f m d us y env h Q := ⟨_, _, hw, hy⟩
theorem Dbm.go {us bs : List Nat} (hw : WB P n ops bs ops.size 0 env h (Mid us E2 h2)) (hy : W P n y E2 h2 Q) : Dbm P n ops bs us y env h Q := ⟨_, _, hw, hy⟩
theorem W.dfm (rid : Nat) (us : List Nat) (f m d : Nat) (hmx : P.follows .mixedOrders = true) (hc : dchkF ops f m d = true) (hh : LH h.length h) (hw : Dfm P n ops f m d us y env h Q) : W P n (.seq (.region rid ops true) y) env h Q := by
  obtain ⟨E2, h2, hw, hy⟩ := hw.out
  exact W.seq (W.mono (MidQ.go hy) (W.drawF (Q := MidQ us E2 h2) hmx f m d hc hh hw))
theorem W.dbm (rid : Nat) (us : List Nat) (bs : List Nat) (hmx : P.follows .mixedOrders = true) (hc : eqBit ops bs = true) (hr : Dbm P n ops bs us y env h Q) : W P n (.seq (.region rid ops true) y) env h Q := by
  obtain ⟨E2, h2, hr, hy⟩ := hr.out
  exact W.seq (W.mono (MidQ.go hy) (W.drawn (Q := MidQ us E2 h2) hmx (by rw [arrM_0 (eqBit_ok hc)]; exact hr.out (eqBit_ok hc))))
theorem nzv (m b k : Nat) : mvf m b k = bif k == m then b else k := by
  unfold mvf; by_cases e : k = m
  · simp [e]
  · have h : (k == m) = false := by simpa using e
    simp [e, h]
theorem Mid.go {us : List Nat} {m : Nat} {h' : List Blk} (he : h' = h2 := by first | (simp only [List.nil_append, List.cons_append, List.append_nil, List.length_cons, List.length_nil, List.length_set, List.set_cons_zero, List.set_cons_succ, Nat.reduceAdd, Nat.zero_add, Nat.add_zero, wr, C.ren, X.ren, V.ren, Blk.ren, nzm0, nzm1, nzx0, nzx1, nzt, nzr0, nzr1, nzr2, nzu0, nzu1, nzb0, nzb1, nzs0, nzs1, nzd1, List.drop_zero, List.drop_nil, tcn, tcc, List.take_succ_cons, List.take_zero, List.take_nil, nzv, Nat.reduceBEq, cond_true, cond_false] <;> rfl) | rfl) (hm : h2.length = m := by rfl) (c : Rst m env us E2 := by repeat' (first | exact .nil | (apply Rst.cons; rfl; rfl) | refine .skip ?_)) : Mid us E2 h2 env h' := ⟨he, hm ▸ c⟩
end
theorem OpD.at {P : Program} {n : Nat} {env : Env} {h : List Blk} {kk : V → Prop} {p : Op} {ty : Nat} {ps : String} {af : Array Edge} {gd : Option (Nat × Bool)} (d : Nat) (x : OpD P n ⟨some d, p, ty, ps, af, gd⟩ env h kk) : OpD P n ⟨some d, p, ty, ps, af, gd⟩ env h kk := x
end Go.YtamlleimfopmhaaMc

namespace Go.YtamlleimfopmhaaMc
/-- What is handed over may be left as it is. -/
theorem Po.pu {P : Program} {f : FuncId} {xs : List V} {ys zs : List X} {h1 : List Blk} (hF : Po P f xs [] (resV ys) h1) (hz : FrzXs h1 0 ys zs) : Pu P f xs (resV zs) := by
  refine ⟨hF.cal, ⟨fun w S ι us hr hrs => (hF.fn.out w S ι us hr hrs).mono ?_⟩⟩
  rintro e w' ⟨x, u, S', ι', h', he, r', p, rv, rfl, rfl⟩
  have f := HR.frz (m := 0) r' rfl
  have rz := FrzXs.ok r' rfl hz rv
  exact ⟨_, u, _, ι', [], he, f.1, p.frz r' (Nat.le_refl _) rfl, rz, rfl⟩
/-- Bits that differ, of numbers that are not below 0. -/
theorem OpOk.xorN (m c : Nat) {P : Program} {n : Nat} {o : Oper} {env : Env} {h : List Blk} {t t' : Nat} {x y : Operand} {a b : Int} (ho : o.op = .binOp .xor t x y t') (hx : oe env x = some (.c (.t (.i .i64 a)))) (hy : oe env y = some (.c (.t (.i .i64 b)))) (ha : a = (m : Int)) (hb : b = (c : Int)) (hm : m < 9223372036854775808) (hc : c < 9223372036854775808) : OpOk P n o env h (.c (.t (.i .i64 ((m ^^^ c : Nat) : Int)))) h := by
  subst ha; subst hb
  refine .val fun w S ι ac _ r2 => ?_
  have e1 := (oe_ok r2 hx).i
  have e2 := (oe_ok r2 hy).i
  refine ⟨_, ?_, RT.i _ _⟩
  have hlt : m ^^^ c < 2 ^ 63 := Nat.xor_lt_two_pow (by omega) (by omega)
  have hw : IntKind.i64.wrap ((m ^^^ c : Nat) : Int) = ((m ^^^ c : Nat) : Int) := wrap_i64 (by omega) (by omega)
  have hv : ((BitVec.ofInt IntKind.i64.bits (m : Int)) ^^^ (BitVec.ofInt IntKind.i64.bits (c : Int))).toNat = m ^^^ c := by
    show ((BitVec.ofInt 64 (m : Int)) ^^^ (BitVec.ofInt 64 (c : Int))).toNat = m ^^^ c
    rw [BitVec.toNat_xor, BitVec.ofInt_natCast, BitVec.ofInt_natCast, BitVec.toNat_ofNat, BitVec.toNat_ofNat, Nat.mod_eq_of_lt (by omega), Nat.mod_eq_of_lt (by omega)]
  simp only [execOp, ho, e1, e2, eqGuard, binOp, Op.intBits, hv, hw]
  rfl
section
variable {P : Program} {n : Nat} {o : Oper} {env : Env} {h : List Blk} {t t' : Nat} {x y : Operand} {a b : Int}
theorem OpOk.mulN (m c : Nat) (ho : o.op = .binOp .mul t x y t') (hx : oe env x = some (.c (.t (.i .i64 a)))) (hy : oe env y = some (.c (.t (.i .i64 b)))) (ha : a = (m : Int)) (hb : b = (c : Int)) (hl : m * c ≤ 9223372036854775807) : OpOk P n o env h (.c (.t (.i .i64 ((m * c : Nat) : Int)))) h := by
  subst ha; subst hb
  have := OpOk.ibin (P := P) (n := n) (h := h) (r := .i .i64 (IntKind.i64.wrap ((m : Int) * c))) ho hx hy rfl
  rwa [← Int.natCast_mul, wrap_i64 (by omega) (by omega)] at this
theorem OpOk.addN (m c : Nat) (ho : o.op = .binOp .add t x y t') (hx : oe env x = some (.c (.t (.i .i64 a)))) (hy : oe env y = some (.c (.t (.i .i64 b)))) (ha : a = (m : Int)) (hb : b = (c : Int)) (hl : m + c ≤ 9223372036854775807) : OpOk P n o env h (.c (.t (.i .i64 ((m + c : Nat) : Int)))) h := by
  subst ha; subst hb
  have := OpOk.ibin (P := P) (n := n) (h := h) (r := .i .i64 (IntKind.i64.wrap ((m : Int) + c))) ho hx hy rfl
  rwa [← Int.natCast_add, wrap_i64 (by omega) (by omega)] at this
end
end Go.YtamlleimfopmhaaMc

namespace Go.YtamlleimfopmhaaMc
/-! ### A region of open order: some operations, in order among themselves, change the first block; all others are values whatever that is -/
def schk (ops : Array Oper) (m : Nat) (sp : List Nat) : Bool := dchk ops m && sp.all fun i => Nat.blt i ops.size && sp.all fun k => !Nat.blt k i || (bi ops i).testBit k
theorem schk_ok {ops : Array Oper} {m : Nat} {sp : List Nat} (h : schk ops m sp = true) : Dck ops m ∧ ∀ i k, sp.elem i = true → sp.elem k = true → k < i → (bi ops i).testBit k = true := by
  unfold schk at h
  simp only [Bool.and_eq_true] at h
  refine ⟨dchk_ok h.1, fun i k hi hk hlt => ?_⟩
  have h1 := List.all_eq_true.1 h.2 i (List.elem_iff.1 hi)
  simp only [Bool.and_eq_true] at h1
  have h2 := List.all_eq_true.1 h1.2 k (List.elem_iff.1 hk)
  have h3 : Nat.blt k i = true := by rw [Nat.blt_eq]; exact hlt
  rw [h3] at h2
  simpa using h2
structure Ev (v u : V) : Prop where
  eq : u = v
structure Az (P : Program) (n : Nat) (o : Oper) (env : Env) (t : List Blk) (v : V) : Prop where
  out : ∀ z, OpD P n o env (z :: t) (Ev v)
inductive WS (P : Program) (n : Nat) (ops : Array Oper) (t : List Blk) (K : Env → List Blk → Prop) (m : Nat) (sp : List Nat) : Nat → Env → Blk → Prop
  | done {i : Nat} {E : Env} {x : Blk} (hi : ops.size.ble i = true) (hk : K E (x :: t)) : WS P n ops t K m sp i E x
  | t {i : Nat} {E : Env} {x : Blk} (him : i = m) (hw : WO P n ops ((List.range ops.size).drop i) E (x :: t) K) (hlt : i.blt ops.size = true) : WS P n ops t K m sp i E x
  | o {i e' : Nat} {E : Env} {x : Blk} {v : V} {p : Op} {ty : Nat} {ps : String} {af : Array Edge} {gd : Option (Nat × Bool)} (hi : ops[i]? = some ⟨some e', p, ty, ps, af, gd⟩) (hg : grd ops (rst (usesOf ops ⟨some e', p, ty, ps, af, gd⟩) E) gd = some true)
      (hs : sp.elem i = false) (hok : ∀ z, OpOk P n ⟨some e', p, ty, ps, af, gd⟩ (rst (usesOf ops ⟨some e', p, ty, ps, af, gd⟩) E) (z :: t) v (z :: t)) (hd : e'.blt n = true) (hr : WS P n ops t K m sp (i + 1) ((e', v) :: E) x) : WS P n ops t K m sp i E x
  | s {i e' : Nat} {E : Env} {x x' : Blk} {v : V} {p : Op} {ty : Nat} {ps : String} {af : Array Edge} {gd : Option (Nat × Bool)} (hi : ops[i]? = some ⟨some e', p, ty, ps, af, gd⟩) (hg : grd ops (rst (usesOf ops ⟨some e', p, ty, ps, af, gd⟩) E) gd = some true)
      (hs : sp.elem i = true) (hok : OpOk P n ⟨some e', p, ty, ps, af, gd⟩ (rst (usesOf ops ⟨some e', p, ty, ps, af, gd⟩) E) (x :: t) v (x' :: t)) (hd : e'.blt n = true) (hr : WS P n ops t K m sp (i + 1) ((e', v) :: E) x') : WS P n ops t K m sp i E x
  | u {i e' : Nat} {E : Env} {x : Blk} {p : Op} {ty : Nat} {ps : String} {af : Array Edge} {gd : Option (Nat × Bool)} (hi : ops[i]? = some ⟨some e', p, ty, ps, af, gd⟩) (hg : grd ops (rst (usesOf ops ⟨some e', p, ty, ps, af, gd⟩) E) gd = some false)
      (hd : e'.blt n = true) (hr : WS P n ops t K m sp (i + 1) ((e', .tu []) :: E) x) : WS P n ops t K m sp i E x
section
variable {P : Program} {n : Nat} {ops : Array Oper} {t : List Blk} {K : Env → List Blk → Prop} {sp : List Nat} {m i j e' d' : Nat} {E : Env} {x : Blk} {v : V} {p p' : Op} {ty ty' : Nat} {ps ps' : String} {af af' : Array Edge} {gd gd' : Option (Nat × Bool)} {g : Bool}
structure SpK (P : Program) (n : Nat) (ops : Array Oper) (t : List Blk) (K : Env → List Blk → Prop) (m : Nat) (sp : List Nat) (i e' : Nat) (E : Env) (v : V) (h : List Blk) : Prop where
  out : ∃ x', h = x' :: t ∧ WS P n ops t K m sp i ((e', v) :: E) x'
theorem SpK.go {h : List Blk} {x' : Blk} (e : h = x' :: t) (hr : WS P n ops t K m sp i ((e', v) :: E) x') : SpK P n ops t K m sp i e' E v h := ⟨x', e, hr⟩
theorem WS.g1 (hi : ops[i]? = some ⟨some e', p, ty, ps, af, gd⟩) (hs : sp.elem i = true) (hg : grd ops (rst (usesOf ops ⟨some e', p, ty, ps, af, gd⟩) E) gd = some true) (hd : e'.blt n = true)
    (hr : OpK P n ⟨some e', p, ty, ps, af, gd⟩ (rst (usesOf ops ⟨some e', p, ty, ps, af, gd⟩) E) (x :: t) (SpK P n ops t K m sp (i + 1) e' E)) : WS P n ops t K m sp i E x := by
  obtain ⟨v, h', h1, x', rfl, h2⟩ := hr.out
  exact .s hi hg hs h1 hd h2
structure Gz (P : Program) (n : Nat) (ops : Array Oper) (t : List Blk) (K : Env → List Blk → Prop) (m : Nat) (sp : List Nat) (i e' : Nat) (E : Env) (x : Blk) (o : Oper) (env : Env) : Prop where
  out : ∃ v, Az P n o env t v ∧ WS P n ops t K m sp i ((e', v) :: E) x
theorem Gz.go {o : Oper} {env : Env} (h1 : Az P n o env t v) (hr : WS P n ops t K m sp i ((e', v) :: E) x) : Gz P n ops t K m sp i e' E x o env := ⟨v, h1, hr⟩
theorem WS.g0 (hi : ops[i]? = some ⟨some e', p, ty, ps, af, gd⟩) (hs : sp.elem i = false) (hg : grd ops (rst (usesOf ops ⟨some e', p, ty, ps, af, gd⟩) E) gd = some true) (hd : e'.blt n = true)
    (hr : Gz P n ops t K m sp (i + 1) e' E x ⟨some e', p, ty, ps, af, gd⟩ (rst (usesOf ops ⟨some e', p, ty, ps, af, gd⟩) E)) : WS P n ops t K m sp i E x := by
  obtain ⟨v, h1, h2⟩ := hr.out
  exact .o hi hg hs (fun z => by obtain ⟨u, k1, ⟨k2⟩⟩ := (h1.out z).out; rw [k2] at k1; exact k1) hd h2
theorem WS.gs (b : Bool) (hi : ops[i]? = some ⟨some e', p, ty, ps, af, some (j, g)⟩) (hj : ops[j]? = some ⟨some d', p', ty', ps', af', gd'⟩) (hx : E.lookup d' = some (.c (.t (.b b)))) (h1 : b = true → WS P n ops t K m sp i E x) (h2 : b = false → WS P n ops t K m sp i E x) : WS P n ops t K m sp i E x := by
  cases b
  · exact h2 rfl
  · exact h1 rfl
def Okx (P : Program) (n : Nat) (ops : Array Oper) (t : List Blk) (sp : List Nat) (i : Nat) (o : Oper) (E : Env) (v : V) (x x' : Blk) : Prop :=
  (grd ops (rst (usesOf ops o) E) o.guard = some true ∧ ((sp.elem i = false ∧ x' = x ∧ ∀ z, OpOk P n o (rst (usesOf ops o) E) (z :: t) v (z :: t)) ∨ (sp.elem i = true ∧ OpOk P n o (rst (usesOf ops o) E) (x :: t) v (x' :: t)))) ∨ (grd ops (rst (usesOf ops o) E) o.guard = some false ∧ v = .tu [] ∧ x' = x)
theorem WS.ex (hw : WS P n ops t K m sp i E x) : ∃ (pv : List (Nat × V)) (xs : Nat → Blk), xs 0 = x ∧ (∀ k y, pv[k]? = some y → ∃ o, ops[i + k]? = some o ∧ o.dst = some y.1 ∧ y.1 < n ∧ Okx P n ops t sp (i + k) o ((pv.take k).reverse ++ E) y.2 (xs k) (xs (k + 1))) ∧
    ((ops.size ≤ i + pv.length ∧ K (pv.reverse ++ E) (xs pv.length :: t)) ∨ (i + pv.length = m ∧ i + pv.length < ops.size ∧ WO P n ops ((List.range ops.size).drop (i + pv.length)) (pv.reverse ++ E) (xs pv.length :: t) K)) := by
  induction hw with
  | @done i E x hi hk => exact ⟨[], fun _ => x, rfl, fun k x h => by simp at h, .inl ⟨by simpa using hi, hk⟩⟩
  | @t i E x him hw hlt => exact ⟨[], fun _ => x, rfl, fun k x h => by simp at h, .inr ⟨him, by simpa [Nat.blt_eq] using hlt, hw⟩⟩
  | @o i e' E x v p ty ps af gd hi hg hs hok hd _ ih =>
    obtain ⟨pv, xs, h0, h1, h3⟩ := ih
    refine ⟨(e', v) :: pv, fun k => match k with | 0 => x | k + 1 => xs k, rfl, fun k y hk => ?_, by rw [List.length_cons, show i + (pv.length + 1) = i + 1 + pv.length by omega]; simpa using h3⟩
    cases k with
    | zero => simp only [List.getElem?_cons_zero, Option.some.injEq] at hk; subst hk; exact ⟨_, hi, rfl, by simpa [Nat.blt_eq] using hd, .inl ⟨hg, .inl ⟨hs, h0, hok⟩⟩⟩
    | succ k =>
      obtain ⟨o, a, b, c, d⟩ := h1 k y (by simpa using hk)
      rw [show i + 1 + k = i + (k + 1) by omega] at a d
      exact ⟨o, a, b, c, by simpa using d⟩
  | @s i e' E x x' v p ty ps af gd hi hg hs hok hd _ ih =>
    obtain ⟨pv, xs, h0, h1, h3⟩ := ih
    refine ⟨(e', v) :: pv, fun k => match k with | 0 => x | k + 1 => xs k, rfl, fun k y hk => ?_, by rw [List.length_cons, show i + (pv.length + 1) = i + 1 + pv.length by omega]; simpa using h3⟩
    cases k with
    | zero => simp only [List.getElem?_cons_zero, Option.some.injEq] at hk; subst hk; exact ⟨_, hi, rfl, by simpa [Nat.blt_eq] using hd, .inl ⟨hg, .inr ⟨hs, by show OpOk _ _ _ _ (x :: t) _ (xs 0 :: t); rw [h0]; exact hok⟩⟩⟩
    | succ k =>
      obtain ⟨o, a, b, c, d⟩ := h1 k y (by simpa using hk)
      rw [show i + 1 + k = i + (k + 1) by omega] at a d
      exact ⟨o, a, b, c, by simpa using d⟩
  | @u i e' E x p ty ps af gd hi hg hd _ ih =>
    obtain ⟨pv, xs, h0, h1, h3⟩ := ih
    refine ⟨(e', .tu []) :: pv, fun k => match k with | 0 => x | k + 1 => xs k, rfl, fun k y hk => ?_, by rw [List.length_cons, show i + (pv.length + 1) = i + 1 + pv.length by omega]; simpa using h3⟩
    cases k with
    | zero => simp only [List.getElem?_cons_zero, Option.some.injEq] at hk; subst hk; exact ⟨_, hi, rfl, by simpa [Nat.blt_eq] using hd, .inr ⟨hg, rfl, h0⟩⟩
    | succ k =>
      obtain ⟨o, a, b, c, d⟩ := h1 k y (by simpa using hk)
      rw [show i + 1 + k = i + (k + 1) by omega] at a d
      exact ⟨o, a, b, c, by simpa using d⟩
end
section
variable {P : Program} {n : Nat} {ops : Array Oper} {t : List Blk} {m : Nat} {sp : List Nat} {x : Blk} {env : Env} {y : Code}
theorem W.drawS {Q : Ex → Env → List Blk → Prop} {id : Nat} (hmx : P.follows .mixedOrders = true) (hc : schk ops m sp = true) (hw : WS P n ops t (Q .n) m sp 0 env x) : W P n (.region id ops true) env (x :: t) Q := by
  constructor; intro w S ι a r1 r2 r3 r4
  obtain ⟨pv, xs, x0, p1, p2⟩ := hw.ex
  simp only [Nat.zero_add] at p1 p2
  obtain ⟨c, cs⟩ := schk_ok hc
  have hlen : pv.length ≤ ops.size := by
    rcases Nat.lt_or_ge ops.size pv.length with g | g
    · obtain ⟨o, h1, _⟩ := p1 ops.size pv[ops.size] (List.getElem?_eq_getElem g)
      have := (Array.getElem?_eq_some_iff.1 h1).1; omega
    · exact g
  have xst : ∀ k, k < pv.length → sp.elem k = false → xs (k + 1) = xs k := fun k hk hs => by
    obtain ⟨o, _, _, _, d⟩ := p1 k pv[k] (List.getElem?_eq_getElem hk)
    rcases d with ⟨_, ⟨_, d, _⟩ | ⟨d, _⟩⟩ | ⟨_, _, d⟩
    · exact d
    · rw [hs] at d; cases d
    · exact d
  have xrg : ∀ b a, a ≤ b → b ≤ pv.length → (∀ k, a ≤ k → k < b → sp.elem k = false) → xs b = xs a := by
    intro b
    induction b with
    | zero => intro a h1 _ _; rw [show a = 0 by omega]
    | succ b ih =>
      intro a h1 h2 h3
      by_cases e : a = b + 1
      · rw [e]
      · rw [xst b (by omega) (h3 b (by omega) (by omega))]
        exact ih a (by omega) (by omega) (fun k g1 g2 => h3 k g1 (by omega))
  refine wp_region_any hmx ?_
  have claim : ∀ (fuel : Nat) (L : Array Bool) (a : Act) (w' : World) (S' : Nat → Nat) (ι' : Nat → Option Nat) (q : Nat), L.size = ops.size → cnt ops L ≤ fuel → (∀ i k, L.getD i false = true → (bi ops i).testBit k = true → L.getD k false = true) →
      q ≤ pv.length → (∀ k, k < q → sp.elem k = true → L.getD k false = true) → (∀ k, q ≤ k → sp.elem k = true → L.getD k false = false) → (∀ k, L.getD k false = true → k < pv.length) →
      HR w' S' ι' (xs q :: t) → Pres w S ι (x :: t) w' S' ι' (xs q :: t) → ER w' S' ι' (xs q :: t) (envL (fun k => L.getD k false) env pv 0) a.tmps → a.tmps.size = n → a.defers = [] → wpAny P .any ops (Post n w S ι (x :: t) Q) fuel L a w' := by
    intro fuel
    induction fuel with
    | zero =>
      intro L a w' S' ι' q hs hf hdc hq0 hq1 hq2 hlt k1 k2 k3 k4 k5
      have all : ∀ i, i < ops.size → L.getD i false = true := fun i hi => by
        cases hL : L.getD i false with
        | true => rfl
        | false => have := cnt_set hs hi hL; omega
      have hready : Region.ready .any ops L = [] := by
        cases hr : Region.ready .any ops L with
        | nil => rfl
        | cons j r => have := ready_of hs (j := j) (by rw [hr]; simp); rw [all j this.1] at this; simp at this
      have e := envL_true (fun k => L.getD k false) pv env 0 (fun k hk => by rw [Nat.zero_add]; exact all k (by omega))
      rw [e] at k3
      have hxe : xs q = xs pv.length := (xrg pv.length q hq0 (Nat.le_refl _) fun k g1 g2 => by
        cases hsk : sp.elem k with
        | false => rfl
        | true => have := hq2 k g1 hsk; rw [all k (by omega)] at this; cases this).symm
      rw [hxe] at k1 k2 k3
      rcases p2 with ⟨_, hK⟩ | ⟨hm, hlt2, _⟩
      · exact ⟨hready, _, _, S', ι', .n, rfl, k4, k5, k1, k2, k3, hK⟩
      · have := hlt pv.length (all _ hlt2); omega
    | succ fuel ih =>
      intro L a w' S' ι' q hs hf hdc hq0 hq1 hq2 hlt k1 k2 k3 k4 k5
      by_cases hall : ∀ k, k < pv.length → L.getD k false = true
      · have e := envL_true (fun k => L.getD k false) pv env 0 (fun k hk => by rw [Nat.zero_add]; exact hall k hk)
        rw [e] at k3
        have hxe : xs q = xs pv.length := (xrg pv.length q hq0 (Nat.le_refl _) fun k g1 g2 => by
          cases hsk : sp.elem k with
          | false => rfl
          | true => have := hq2 k g1 hsk; rw [hall k g2] at this; cases this).symm
        rw [hxe] at k1 k2 k3
        rcases p2 with ⟨hN, hK⟩ | ⟨hm, hlt2, hWO⟩
        · have hready : Region.ready .any ops L = [] := by
            cases hr : Region.ready .any ops L with
            | nil => rfl
            | cons j r => have := ready_of hs (j := j) (by rw [hr]; simp); rw [hall j (by omega)] at this; simp at this
          have hq : Post n w S ι (x :: t) Q .normal a w' := ⟨_, _, S', ι', .n, rfl, k4, k5, k1, k2, k3, hK⟩
          exact ⟨fun _ => hq, fun j hj => by rw [hready] at hj; cases hj⟩
        · have hLm : ∀ k, L.getD k false = decide (k < m) := fun k => by
            rw [← hm]
            by_cases g : k < pv.length
            · rw [hall k g]; simp [g]
            · cases hL : L.getD k false with
              | false => simp [g]
              | true => exact (g (hlt k hL)).elim
          refine any_tail c (fuel + 1) m L a w' hs (Nat.le_refl _) (by omega) ?_ hLm ?_
          · have : cnt ops L = ops.size - m := by
              unfold cnt
              rw [← cnt_lt m ops.size]
              congr 1
              exact List.filter_congr fun i _ => by rw [hLm]
            omega
          · rw [← hm]
            refine hWO.out w' S' ι' a k1 k3 k4 k5 _ fun w2 S2 ι2 a2 env2 h2 q1 q2 q3 q4 q5 q6 => ?_
            exact ⟨env2, h2, S2, ι2, .n, rfl, q4, q5, q1, k2.trans q2, q3, q6⟩
      · obtain ⟨k0, hk0⟩ : ∃ k, ¬ (k < pv.length → L.getD k false = true) := Classical.not_forall.1 hall
        have hk0l : k0 < pv.length := Classical.byContradiction fun g => hk0 fun g' => (g g').elim
        have hk0f : L.getD k0 false = false := by
          cases hL : L.getD k0 false with
          | false => rfl
          | true => exact (hk0 fun _ => hL).elim
        refine ⟨fun hr => ?_, fun i hi => ?_⟩
        · have := ready_nil c hs hr k0 (by omega); rw [hk0f] at this; cases this
        obtain ⟨hiN, hiL, o, hio, hpre⟩ := ready_of hs hi
        have hil : i < pv.length := by
          rcases Nat.lt_or_ge i pv.length with g | g
          · exact g
          · rcases p2 with ⟨hN, _⟩ | ⟨hm, _, _⟩
            · omega
            · have := c.pre (L := L) hio hpre hdc (c.last i k0 hiN (by omega) (by omega))
              rw [hk0f] at this; cases this
        obtain ⟨o', ho', hdst, hdn, hok⟩ := p1 i pv[i] (List.getElem?_eq_getElem hil)
        rw [hio] at ho'; injection ho' with ho'; subst ho'
        have hpv : pv[i]? = some pv[i] := List.getElem?_eq_getElem hil
        have hset : ∀ j, (L.setIfInBounds i true).getD j false = (decide (j = i) || L.getD j false) := fun j => setD (by omega)
        -- what the operation names reads as in the order of the text
        have huse : ER w' S' ι' (xs q :: t) (rst (usesOf ops o) ((pv.take i).reverse ++ env)) a.tmps := by
          intro t v hv
          obtain ⟨hu, hv⟩ := rst_lookup hv
          refine k3 t v ?_
          rw [← hv]
          have e2 := envL_lt i pv env 0
          rw [Nat.sub_zero] at e2
          rw [← e2]
          refine envL_agree fun k x hk hx => ?_
          obtain ⟨ok, g1, g2, _, _⟩ := p1 k x hk
          by_cases e : k = i
          · subst e; rw [hiL]; simp
          · rcases c.sep i k o ok t hio g1 e (by rw [g2, hx]) (.inl hu) with g | g
            · have h1 := c.pre (L := L) hio hpre hdc g
              have h2 := c.lt hio g
              rw [h1]; simp [h2]
            · have h2 := c.lt g1 g
              cases hL : L.getD k false with
              | false => simp; omega
              | true => have := hdc k i hL g; rw [hiL] at this; cases this
        -- what comes behind it
        have next : ∀ (q2 : Nat) (w2 : World) S2 ι2 (u : Value), q2 ≤ pv.length → (∀ k, k < q2 → sp.elem k = true → (L.setIfInBounds i true).getD k false = true) → (∀ k, q2 ≤ k → sp.elem k = true → (L.setIfInBounds i true).getD k false = false) →
            HR w2 S2 ι2 (xs q2 :: t) → Pres w' S' ι' (xs q :: t) w2 S2 ι2 (xs q2 :: t) → RV w2 S2 ι2 (xs q2 :: t) pv[i].2 u → wpAny P .any ops (Post n w S ι (x :: t) Q) fuel (L.setIfInBounds i true) (a.put o.dst u) w2 := by
          intro q2 w2 S2 ι2 u z1 z2 z3 y1 y2 y3
          refine ih _ _ w2 S2 ι2 q2 (by simpa using hs) (by have := cnt_set hs hiN hiL; omega) (fun i' k g1 g2 => ?_) z1 z2 z3 (fun k g => ?_) y1 (k2.trans y2) ?_ (by rw [put_size]; exact k4) (by rw [put_defers]; exact k5)
          · rw [hset] at g1 ⊢
            by_cases e : i' = i
            · subst e; rw [c.pre (L := L) hio hpre hdc g2]; simp
            · have : L.getD i' false = true := by simpa [e] using g1
              rw [hdc i' k this g2]; simp
          · rw [hset] at g
            by_cases e : k = i
            · omega
            · exact hlt k (by simpa [e] using g)
          · intro t v hv
            have hsz : i < L.size := by omega
            rw [hdst]
            simp only [Act.put, Array.size_setIfInBounds]
            by_cases e : t = pv[i].1
            · have hv2 : v = pv[i].2 := by
                rcases envL_lookup (fun k => (L.setIfInBounds i true).getD k false) t env _ pv rfl with ⟨g1, _⟩ | ⟨k, x, g1, g2, g3, g4, g5⟩
                · have := g1 i _ hpv e.symm; rw [hset] at this; simp at this
                · rw [g5] at hv; injection hv with hv; subst hv
                  have hki : k = i := by
                    rcases Nat.lt_trichotomy k i with g | g | g
                    · have := g4 i _ g hpv e.symm; rw [hset] at this; simp at this
                    · exact g
                    · rw [hset] at g3
                      have hne : k ≠ i := by omega
                      have hLk : L.getD k false = true := by simpa [hne] using g3
                      obtain ⟨ok, f1, f2, _, _⟩ := p1 k x g1
                      rcases c.sep i k o ok t hio f1 hne (by rw [f2, g2]) (.inr (by rw [hdst, e])) with f | f
                      · have := c.lt hio f; omega
                      · have := hdc k i hLk f; rw [hiL] at this; cases this
                  subst hki
                  rw [hpv] at g1; injection g1 with g1; rw [g1]
              subst hv2
              refine ⟨by rw [e, k4]; exact hdn, ?_⟩
              have : (a.tmps.setIfInBounds pv[i].1 u).getD t undef = u := by
                rw [e]; simp [Array.getD_eq_getD_getElem?, k4, hdn]
              rw [this]; exact y3
            · have hv2 : (envL (fun k => L.getD k false) env pv 0).lookup t = some v := by
                rw [← hv]
                refine (envL_agree fun k x g1 g2 => ?_).symm
                rw [hset]
                have : k ≠ i := fun g => by subst g; rw [hpv] at g1; injection g1 with g1; subst g1; exact e g2.symm
                simp [this]
              obtain ⟨g1, g2⟩ := k3 t v hv2
              refine ⟨g1, ?_⟩
              have : (a.tmps.setIfInBounds pv[i].1 u).getD t undef = a.tmps.getD t undef := by
                simp [Array.getD_eq_getD_getElem?, Ne.symm e]
              rw [this]; exact g2.mono y2
        -- a value: the first block stays
        have stay : ∀ (hsi : sp.elem i = false ∨ True) (w2 : World) S2 ι2 (u : Value), (sp.elem i = false) → HR w2 S2 ι2 (xs q :: t) → Pres w' S' ι' (xs q :: t) w2 S2 ι2 (xs q :: t) → RV w2 S2 ι2 (xs q :: t) pv[i].2 u → wpAny P .any ops (Post n w S ι (x :: t) Q) fuel (L.setIfInBounds i true) (a.put o.dst u) w2 := by
          intro _ w2 S2 ι2 u hsi y1 y2 y3
          refine next q w2 S2 ι2 u hq0 (fun k g1 g2 => ?_) (fun k g1 g2 => ?_) y1 y2 y3
          · rw [hset, hq1 k g1 g2]; simp
          · rw [hset, hq2 k g1 g2]
            have : k ≠ i := fun e => by subst e; rw [hsi] at g2; cases g2
            simp [this]
        -- one that is in order
        have inord : sp.elem i = true → q ≤ i ∧ xs q = xs i ∧ (∀ k, k < i + 1 → sp.elem k = true → (L.setIfInBounds i true).getD k false = true) ∧ (∀ k, i + 1 ≤ k → sp.elem k = true → (L.setIfInBounds i true).getD k false = false) := fun hsi => by
          have hqi : q ≤ i := by
            rcases Nat.lt_or_ge i q with g | g
            · have := hq1 i g hsi; rw [hiL] at this; cases this
            · exact g
          have before : ∀ k, k < i → sp.elem k = true → L.getD k false = true := fun k g1 g2 => c.pre (L := L) hio hpre hdc (cs i k hsi g2 g1)
          refine ⟨hqi, (xrg i q hqi (by omega) fun k g1 g2 => ?_).symm, fun k g1 g2 => ?_, fun k g1 g2 => ?_⟩
          · cases hsk : sp.elem k with
            | false => rfl
            | true => have := before k g2 hsk; rw [hq2 k g1 hsk] at this; cases this
          · rw [hset]
            by_cases e : k = i
            · simp [e]
            · rw [before k (by omega) g2]; simp
          · rw [hset, hq2 k (by omega) g2]
            have : k ≠ i := by omega
            simp [this]
        unfold wpOp
        simp only [hio]
        rcases hok with ⟨hg, hok⟩ | ⟨hg, hv, hxx⟩
        · rw [if_pos (grd_ok hg rfl w' S' ι' a huse)]
          rcases hok with ⟨hsi, _, hok⟩ | ⟨hsi, hok⟩
          · exact .inl ((hok (xs q)).out w' S' ι' a k1 huse k4 k5 _ _ fun w2 S2 ι2 u y1 y2 y3 => stay (.inr trivial) w2 S2 ι2 u hsi y1 y2 y3)
          · obtain ⟨hqi, hxq, z2, z3⟩ := inord hsi
            rw [hxq] at k1 huse
            exact .inl (hok.out w' S' ι' a k1 huse k4 k5 _ _ fun w2 S2 ι2 u y1 y2 y3 => next (i + 1) w2 S2 ι2 u (by omega) z2 z3 y1 (by rw [hxq]; exact y2) y3)
        · rw [if_neg (by rw [grd_ok hg rfl w' S' ι' a huse]; simp)]
          have hu : RV w' S' ι' (xs q :: t) pv[i].2 undef := by rw [hv]; exact ⟨#[], rfl, rfl, fun j x v h1 _ => by simp at h1⟩
          cases hsi : sp.elem i with
          | false => exact stay (.inr trivial) w' S' ι' undef hsi k1 (.refl ..) hu
          | true =>
            obtain ⟨hqi, hxq, z2, z3⟩ := inord hsi
            have e1 : xs q = xs (i + 1) := by rw [hxq, hxx]
            rw [e1] at hu
            refine next (i + 1) w' S' ι' undef (by omega) z2 z3 (by rw [← e1]; exact k1) (by rw [← e1]; exact .refl ..) hu
  obtain ⟨e1, e2⟩ := r1.ext (w' := { w with drawn := w.drawn + 1 }) (S' := S) (fun _ _ => rfl) (Nat.le_refl _) (fun _ _ => rfl) r1.low (fun b blk B g1 g2 g3 => (r1.own b blk B g1 g2 g3).1)
  have hrep : ∀ k, (Array.replicate ops.size false).getD k false = false := fun k => by simp only [Array.getD_eq_getD_getElem?, Array.getElem?_replicate]; split <;> rfl
  refine claim ops.size _ a _ S ι 0 (by simp) ?_ (fun i k g => by rw [hrep] at g; cases g) (Nat.zero_le _) (fun k g => by omega) (fun k _ _ => hrep k) (fun k g => by rw [hrep] at g; cases g) (by rw [x0]; exact e1) (by rw [x0]; exact e2) ?_ r3 r4
  · unfold cnt; exact Nat.le_trans (List.length_filter_le _ _) (by simp)
  · have : envL (fun k => (Array.replicate ops.size false).getD k false) env pv 0 = env := by
      have gen : ∀ (pv : List (Nat × V)) (i : Nat), envL (fun k => (Array.replicate ops.size false).getD k false) env pv i = env := by
        intro pv
        induction pv with
        | nil => intro i; rfl
        | cons x pv ih => intro i; simp only [envL]; rw [if_neg (by rw [hrep]; simp)]; exact ih (i + 1)
      exact gen pv 0
    rw [this, x0]; exact r2.mono e2
theorem W.dsp (rid m : Nat) (sp : List Nat) {Q : Ex → Env → List Blk → Prop} (hmx : P.follows .mixedOrders = true) (hc : schk ops m sp = true) (hw : WS P n ops t (fun env' h' => W P n y env' h' Q) m sp 0 env x) : W P n (.seq (.region rid ops true) y) env (x :: t) Q := W.seq (W.drawS hmx hc hw)
theorem W.dspe (rid m : Nat) (sp : List Nat) {Q : Ex → Env → List Blk → Prop} (hmx : P.follows .mixedOrders = true) (hc : schk ops m sp = true) (hw : WS P n ops t (Q .n) m sp 0 env x) : W P n (.region rid ops true) env (x :: t) Q := W.drawS hmx hc hw
end
end Go.YtamlleimfopmhaaMc

namespace Go.YtamlleimfopmhaaMc
/-- A result without room, taken as a block of no elements. -/
theorem Po.gh {P : Program} {f : FuncId} {xs : List V} {g h1 : List Blk} (sz : Nat) (hz : 0 < sz) (hF : Po P f xs g (.c .emp) h1) : Po P f xs g (.c (.sl h1.length 0 0 0)) (h1 ++ [.arr [] sz]) := by
  refine ⟨hF.cal, ⟨fun w S ι us hr hrs => (hF.fn.out w S ι us hr hrs).mono ?_⟩⟩
  rintro e w' ⟨x, u, S', ι', h', he, r', p, rv, rfl, rfl⟩
  obtain ⟨k1, k2⟩ := r'.new (w' := w') (S' := S') (fun _ _ => rfl) (Nat.le_refl _) (fun _ _ => rfl) r'.low (fun _ h => .inl h) none (fun B hB => by cases hB) (.arr [] sz) (fun p => ⟨hz, by simp, .inl ⟨rfl, rfl⟩⟩) (by simp)
  obtain ⟨A, hA⟩ := rv
  refine ⟨_, u, S', _, _, he, k1, p.trans k2, ?_, rfl, rfl⟩
  refine ⟨⟨_, app_last .., by simp⟩, fun es' sz' hq => ?_⟩
  simp at hq; obtain ⟨rfl, rfl⟩ := hq
  exact ⟨Nat.le_refl _, fun _ => ⟨by simp, by rw [upd_eq]; exact ⟨A, hA⟩⟩⟩
theorem OpOk.subN (m c : Nat) {P : Program} {n : Nat} {o : Oper} {env : Env} {h : List Blk} {t t' : Nat} {x y : Operand} {a b : Int} (ho : o.op = .binOp .sub t x y t') (hx : oe env x = some (.c (.t (.i .i64 a)))) (hy : oe env y = some (.c (.t (.i .i64 b)))) (ha : a = (m : Int)) (hb : b = (c : Int)) (hc : c ≤ m) (hl : m ≤ 9223372036854775807) : OpOk P n o env h (.c (.t (.i .i64 ((m - c : Nat) : Int)))) h := by
  subst ha; subst hb
  have := OpOk.ibin (P := P) (n := n) (h := h) (r := .i .i64 (IntKind.i64.wrap ((m : Int) - c))) ho hx hy rfl
  have e : ((m - c : Nat) : Int) = (m : Int) - c := by omega
  rw [e]
  rwa [wrap_i64 (by omega) (by omega)] at this
section
variable {P : Program} {n : Nat} {o : Oper} {env : Env} {h : List Blk} {v : V} {α : Type} {enc : α → List T} {xs : List α}
/-- Slices of the call's own whose rows are data: their length, a row's place, a row. -/
theorem OpOk.lenO (D : Tab P) {x : Operand} {t e b q sz : Nat} {i : TI} (ho : o.op = .call { callee := .builtin .len, args := #[x], argTypes := #[t] }) (ht : D.f t = some i) (hk : i.k = .sl e) (hx : oe env x = some (.c (.sl b q 0 q))) (hb : h[b]? = some (.arr (Rs enc xs) sz)) (hq : q = xs.length) : OpOk P n o env h (.c (.t (.i .i64 (xs.length : Nat)))) h := by
  subst hq
  exact .lenA D ho ht hk hx hb (by rw [rs_len])
theorem OpOk.ixO (D : Tab P) (j : Nat) {t e b q sz : Nat} {x y : Operand} {k : IntKind} {z : Int} {i ie : TI} (ho : o.op = .indexAddr t x y) (ht : D.f t = some i) (hk : i.k = .sl e) (hte : D.f e = some ie) (hx : oe env x = some (.c (.sl b q 0 q))) (hy : oe env y = some (.c (.t (.i k z))))
    (hb : h[b]? = some (.arr (Rs enc xs) sz)) (hq : q = xs.length) (hl : sz = ie.size) (hz : z = (j : Int)) (hj : j < xs.length) : OpOk P n o env h (.c (.ap b q j 0)) h := by
  subst hq; subst hz
  have := OpOk.ixA (P := P) (n := n) D ho ht hk hte hx hy hb (by rw [rs_len]) hl (by omega) (by omega)
  simpa using this
theorem OpOk.ldO (D : Tab P) {t b k i f sz : Nat} {x : Operand} {ti : TI} (ho : o.op = .load t x) (ht : D.f t = some ti) (hx : oe env x = some (.c (.ap b k i f))) (hb : h[b]? = some (.arr (Rs enc xs) sz)) (hk : k = xs.length) (hi : i < xs.length) (hv : ldv ti (((enc xs[i]).map C.t).drop f) = some v) : OpOk P n o env h v h :=
  .ldA D ho ht hx hb (by rw [rs_len]; exact hk) (rs_get enc xs i hi) hv
end
end Go.YtamlleimfopmhaaMc

namespace Go.YtamlleimfopmhaaMc
/-! ### A region of open order: operations that change memory, in order among themselves; values that may be taken at any time; and all others, in order with those that change memory -/
def ovr (ch : List Nat) (z : Nat → Blk) : Nat → List Blk → List Blk
  | _, [] => []
  | k, b :: t => (bif ch.elem k then z k else b) :: ovr ch z (k + 1) t
theorem ovr_self (ch : List Nat) (z : Nat → Blk) : ∀ (h : List Blk) (k : Nat), (∀ j b, h[j]? = some b → z (k + j) = b) → ovr ch z k h = h
  | [], _, _ => rfl
  | b :: t, k, hz => by
    have h0 := hz 0 b rfl
    rw [ovr, ovr_self ch z t (k + 1) (fun j x hx => by rw [show k + 1 + j = k + (j + 1) by omega]; exact hz (j + 1) x (by simpa using hx))]
    simp only [Nat.add_zero] at h0
    rw [h0]; cases ch.elem k <;> rfl
def gchk (ops : Array Oper) (m : Nat) (fl sp : List Nat) : Bool :=
  let b := bm ops.toList
  sp.all (fun s => !fl.elem s) && dchk ops m && sp.all (fun s => Nat.blt s ops.size) && (List.range ops.size).all fun i => fl.elem i || sp.all fun s => (!Nat.blt s i || (b.getD i 0).testBit s) && (!Nat.blt i s || (b.getD s 0).testBit i)
theorem gchk_ok {ops : Array Oper} {m : Nat} {fl sp : List Nat} (h : gchk ops m fl sp = true) : Dck ops m ∧ (∀ s, sp.elem s = true → fl.elem s = false) ∧ ∀ i s, i < ops.size → fl.elem i = false → sp.elem s = true → (s < i → (bi ops i).testBit s = true) ∧ (i < s → (bi ops s).testBit i = true) := by
  unfold gchk at h
  simp only [Bool.and_eq_true] at h
  obtain ⟨⟨⟨h0, h1⟩, h2⟩, h3⟩ := h
  refine ⟨dchk_ok h1, fun s hs => ?_, fun i s hi hf hs => ?_⟩
  · have := List.all_eq_true.1 h0 s (List.elem_iff.1 hs)
    simpa using this
  · have h4 := List.all_eq_true.1 h3 i (List.mem_range.2 hi)
    rw [hf, Bool.false_or] at h4
    have h5 := List.all_eq_true.1 h4 s (List.elem_iff.1 hs)
    simp only [Bool.and_eq_true, Bool.or_eq_true] at h5
    refine ⟨fun hlt => ?_, fun hlt => ?_⟩
    · have hb : Nat.blt s i = true := by rw [Nat.blt_eq]; exact hlt
      rcases h5.1 with h6 | h6
      · rw [hb] at h6; cases h6
      · exact h6
    · have hb : Nat.blt i s = true := by rw [Nat.blt_eq]; exact hlt
      rcases h5.2 with h6 | h6
      · rw [hb] at h6; cases h6
      · exact h6
structure Af (P : Program) (n : Nat) (o : Oper) (env : Env) (ch : List Nat) (h0 : List Blk) (v : V) : Prop where
  out : ∀ z ex, OpD P n o env (ovr ch z 0 h0 ++ ex) (Ev v)
inductive WG (P : Program) (n : Nat) (ops : Array Oper) (h0 : List Blk) (ch fl sp : List Nat) (m : Nat) (K : Env → List Blk → Prop) : Nat → Env → List Blk → Prop
  | done {i : Nat} {E : Env} {h : List Blk} (hi : ops.size.ble i = true) (hk : K E h) : WG P n ops h0 ch fl sp m K i E h
  | t {i : Nat} {E : Env} {h : List Blk} (him : i = m) (hw : WO P n ops ((List.range ops.size).drop i) E h K) (hlt : i.blt ops.size = true) : WG P n ops h0 ch fl sp m K i E h
  | f {i e' : Nat} {E : Env} {h : List Blk} {v : V} {p : Op} {ty : Nat} {ps : String} {af : Array Edge} {gd : Option (Nat × Bool)} (hi : ops[i]? = some ⟨some e', p, ty, ps, af, gd⟩) (hs : fl.elem i = true) (hs2 : sp.elem i = false) (hg : grd ops (rst (usesOf ops ⟨some e', p, ty, ps, af, gd⟩) E) gd = some true)
      (hok : ∀ z ex, OpOk P n ⟨some e', p, ty, ps, af, gd⟩ (rst (usesOf ops ⟨some e', p, ty, ps, af, gd⟩) E) (ovr ch z 0 h0 ++ ex) v (ovr ch z 0 h0 ++ ex)) (hd : e'.blt n = true) (hr : WG P n ops h0 ch fl sp m K (i + 1) ((e', v) :: E) h) : WG P n ops h0 ch fl sp m K i E h
  | s {i e' : Nat} {E : Env} {h h' : List Blk} {v : V} {p : Op} {ty : Nat} {ps : String} {af : Array Edge} {gd : Option (Nat × Bool)} (hi : ops[i]? = some ⟨some e', p, ty, ps, af, gd⟩) (hs : fl.elem i = false) (hg : grd ops (rst (usesOf ops ⟨some e', p, ty, ps, af, gd⟩) E) gd = some true)
      (hok : OpOk P n ⟨some e', p, ty, ps, af, gd⟩ (rst (usesOf ops ⟨some e', p, ty, ps, af, gd⟩) E) h v h') (hc : (sp.elem i = true ∧ ∃ z ex, h' = ovr ch z 0 h0 ++ ex) ∨ (sp.elem i = false ∧ h' = h)) (hd : e'.blt n = true) (hr : WG P n ops h0 ch fl sp m K (i + 1) ((e', v) :: E) h') : WG P n ops h0 ch fl sp m K i E h
  | n {i : Nat} {E : Env} {h h' : List Blk} {v : V} {p : Op} {ty : Nat} {ps : String} {af : Array Edge} (hi : ops[i]? = some ⟨none, p, ty, ps, af, none⟩) (hs : fl.elem i = false) (hs2 : sp.elem i = true)
      (hok : OpOk P n ⟨none, p, ty, ps, af, none⟩ (rst (usesOf ops ⟨none, p, ty, ps, af, none⟩) E) h v h') (hc : ∃ z ex, h' = ovr ch z 0 h0 ++ ex) (hr : WG P n ops h0 ch fl sp m K (i + 1) E h') : WG P n ops h0 ch fl sp m K i E h
  | u {i e' : Nat} {E : Env} {h : List Blk} {p : Op} {ty : Nat} {ps : String} {af : Array Edge} {gd : Option (Nat × Bool)} (hi : ops[i]? = some ⟨some e', p, ty, ps, af, gd⟩) (hg : grd ops (rst (usesOf ops ⟨some e', p, ty, ps, af, gd⟩) E) gd = some false)
      (hd : e'.blt n = true) (hr : WG P n ops h0 ch fl sp m K (i + 1) ((e', .tu []) :: E) h) : WG P n ops h0 ch fl sp m K i E h
section
variable {P : Program} {n : Nat} {ops : Array Oper} {h0 h : List Blk} {K : Env → List Blk → Prop} {ch fl sp : List Nat} {m i j e' d' : Nat} {E : Env} {v : V} {p p' : Op} {ty ty' : Nat} {ps ps' : String} {af af' : Array Edge} {gd gd' : Option (Nat × Bool)} {g : Bool}
structure GK (P : Program) (n : Nat) (ops : Array Oper) (h0 : List Blk) (ch fl sp : List Nat) (m : Nat) (K : Env → List Blk → Prop) (i e' : Nat) (E : Env) (v : V) (h : List Blk) : Prop where
  out : (∃ z ex, h = ovr ch z 0 h0 ++ ex) ∧ WG P n ops h0 ch fl sp m K i ((e', v) :: E) h
theorem GK.go (e : h = ovr ch (fun k => (h[k]?).getD .dead) 0 h0 ++ h.drop h0.length) (hr : WG P n ops h0 ch fl sp m K i ((e', v) :: E) h) : GK P n ops h0 ch fl sp m K i e' E v h := ⟨⟨_, _, e⟩, hr⟩
structure GN (P : Program) (n : Nat) (ops : Array Oper) (h0 : List Blk) (ch fl sp : List Nat) (m : Nat) (K : Env → List Blk → Prop) (i : Nat) (E : Env) (v : V) (h : List Blk) : Prop where
  out : (∃ z ex, h = ovr ch z 0 h0 ++ ex) ∧ WG P n ops h0 ch fl sp m K i E h
theorem GN.go (e : h = ovr ch (fun k => (h[k]?).getD .dead) 0 h0 ++ h.drop h0.length) (hr : WG P n ops h0 ch fl sp m K i E h) : GN P n ops h0 ch fl sp m K i E v h := ⟨⟨_, _, e⟩, hr⟩
theorem WG.s1 (hi : ops[i]? = some ⟨some e', p, ty, ps, af, gd⟩) (hs : sp.elem i = true) (hf : fl.elem i = false) (hg : grd ops (rst (usesOf ops ⟨some e', p, ty, ps, af, gd⟩) E) gd = some true) (hd : e'.blt n = true)
    (hr : OpK P n ⟨some e', p, ty, ps, af, gd⟩ (rst (usesOf ops ⟨some e', p, ty, ps, af, gd⟩) E) h (GK P n ops h0 ch fl sp m K (i + 1) e' E)) : WG P n ops h0 ch fl sp m K i E h := by
  obtain ⟨v, h', h1, h2, h3⟩ := hr.out
  exact .s hi hf hg h1 (.inl ⟨hs, h2⟩) hd h3
theorem WG.n1 (hi : ops[i]? = some ⟨none, p, ty, ps, af, none⟩) (hs : sp.elem i = true) (hf : fl.elem i = false)
    (hr : OpK P n ⟨none, p, ty, ps, af, none⟩ (rst (usesOf ops ⟨none, p, ty, ps, af, none⟩) E) h (GN P n ops h0 ch fl sp m K (i + 1) E)) : WG P n ops h0 ch fl sp m K i E h := by
  obtain ⟨v, h', h1, h2, h3⟩ := hr.out
  exact .n hi hf hs h1 h2 h3
theorem WG.b1 (hi : ops[i]? = some ⟨some e', p, ty, ps, af, gd⟩) (hs : sp.elem i = false) (hf : fl.elem i = false) (hg : grd ops (rst (usesOf ops ⟨some e', p, ty, ps, af, gd⟩) E) gd = some true) (hd : e'.blt n = true)
    (hr : OpD P n ⟨some e', p, ty, ps, af, gd⟩ (rst (usesOf ops ⟨some e', p, ty, ps, af, gd⟩) E) h fun v => WG P n ops h0 ch fl sp m K (i + 1) ((e', v) :: E) h) : WG P n ops h0 ch fl sp m K i E h := by
  obtain ⟨v, h1, h3⟩ := hr.out
  exact .s hi hf hg h1 (.inr ⟨hs, rfl⟩) hd h3
structure Gf (P : Program) (n : Nat) (ops : Array Oper) (h0 : List Blk) (ch fl sp : List Nat) (m : Nat) (K : Env → List Blk → Prop) (i e' : Nat) (E : Env) (h : List Blk) (o : Oper) (env : Env) : Prop where
  out : ∃ v, Af P n o env ch h0 v ∧ WG P n ops h0 ch fl sp m K i ((e', v) :: E) h
theorem Gf.go {o : Oper} {env : Env} (h1 : Af P n o env ch h0 v) (hr : WG P n ops h0 ch fl sp m K i ((e', v) :: E) h) : Gf P n ops h0 ch fl sp m K i e' E h o env := ⟨v, h1, hr⟩
theorem WG.f1 (hi : ops[i]? = some ⟨some e', p, ty, ps, af, gd⟩) (hf : fl.elem i = true) (hs : sp.elem i = false) (hg : grd ops (rst (usesOf ops ⟨some e', p, ty, ps, af, gd⟩) E) gd = some true) (hd : e'.blt n = true)
    (hr : Gf P n ops h0 ch fl sp m K (i + 1) e' E h ⟨some e', p, ty, ps, af, gd⟩ (rst (usesOf ops ⟨some e', p, ty, ps, af, gd⟩) E)) : WG P n ops h0 ch fl sp m K i E h := by
  obtain ⟨v, h1, h2⟩ := hr.out
  exact .f hi hf hs hg (fun z ex => by obtain ⟨u, k1, ⟨k2⟩⟩ := (h1.out z ex).out; rw [k2] at k1; exact k1) hd h2
theorem WG.gs (b : Bool) (hi : ops[i]? = some ⟨some e', p, ty, ps, af, some (j, g)⟩) (hj : ops[j]? = some ⟨some d', p', ty', ps', af', gd'⟩) (hx : E.lookup d' = some (.c (.t (.b b)))) (h1 : b = true → WG P n ops h0 ch fl sp m K i E h) (h2 : b = false → WG P n ops h0 ch fl sp m K i E h) : WG P n ops h0 ch fl sp m K i E h := by
  cases b
  · exact h2 rfl
  · exact h1 rfl
def Okg (P : Program) (n : Nat) (ops : Array Oper) (h0 : List Blk) (ch fl sp : List Nat) (i : Nat) (o : Oper) (E : Env) (v : V) (x x' : List Blk) : Prop :=
  (grd ops (rst (usesOf ops o) E) o.guard = some true ∧ ((fl.elem i = true ∧ sp.elem i = false ∧ x' = x ∧ ∀ z ex, OpOk P n o (rst (usesOf ops o) E) (ovr ch z 0 h0 ++ ex) v (ovr ch z 0 h0 ++ ex)) ∨ (fl.elem i = false ∧ OpOk P n o (rst (usesOf ops o) E) x v x' ∧ ((sp.elem i = true ∧ ∃ z ex, x' = ovr ch z 0 h0 ++ ex) ∨ (sp.elem i = false ∧ x' = x))))) ∨
  (grd ops (rst (usesOf ops o) E) o.guard = some false ∧ v = .tu [] ∧ x' = x ∧ o.dst ≠ none)
theorem envL_shift (L : Nat → Bool) : ∀ (pv : List (Nat × V)) (E : Env) (i : Nat), envL L E pv (i + 1) = envL (fun k => L (k + 1)) E pv i
  | [], E, i => rfl
  | x :: pv, E, i => by simp only [envL]; exact envL_shift L pv _ (i + 1)
theorem envL_cons (L : Nat → Bool) (x : Nat × V) (pv : List (Nat × V)) (E : Env) : envL L E (x :: pv) 0 = envL (fun k => L (k + 1)) (if L 0 then x :: E else E) pv 0 := by
  simp only [envL]; exact envL_shift L pv _ 0
theorem WG.ex (hw : WG P n ops h0 ch fl sp m K i E h) : ∃ (pv : List (Nat × V)) (fg : Nat → Bool) (xs : Nat → List Blk), xs 0 = h ∧ (∀ k y, pv[k]? = some y → ∃ o, ops[i + k]? = some o ∧ (fg k = true → o.dst = some y.1 ∧ y.1 < n) ∧ (fg k = false → o.dst = none) ∧ Okg P n ops h0 ch fl sp (i + k) o (envL (fun j => decide (j < k) && fg j) E pv 0) y.2 (xs k) (xs (k + 1))) ∧
    ((ops.size ≤ i + pv.length ∧ K (envL fg E pv 0) (xs pv.length)) ∨ (i + pv.length = m ∧ i + pv.length < ops.size ∧ WO P n ops ((List.range ops.size).drop (i + pv.length)) (envL fg E pv 0) (xs pv.length) K)) := by
  have step : ∀ {i : Nat} {E E' : Env} {h h' : List Blk} {o : Oper} {d : Nat} {v : V} (b : Bool), ops[i]? = some o → (b = true → o.dst = some d ∧ d < n) → (b = false → o.dst = none) → Okg P n ops h0 ch fl sp i o E v h h' → E' = (if b then (d, v) :: E else E) →
      (∃ (pv : List (Nat × V)) (fg : Nat → Bool) (xs : Nat → List Blk), xs 0 = h' ∧ (∀ k y, pv[k]? = some y → ∃ o, ops[i + 1 + k]? = some o ∧ (fg k = true → o.dst = some y.1 ∧ y.1 < n) ∧ (fg k = false → o.dst = none) ∧ Okg P n ops h0 ch fl sp (i + 1 + k) o (envL (fun j => decide (j < k) && fg j) E' pv 0) y.2 (xs k) (xs (k + 1))) ∧
        ((ops.size ≤ i + 1 + pv.length ∧ K (envL fg E' pv 0) (xs pv.length)) ∨ (i + 1 + pv.length = m ∧ i + 1 + pv.length < ops.size ∧ WO P n ops ((List.range ops.size).drop (i + 1 + pv.length)) (envL fg E' pv 0) (xs pv.length) K))) →
      ∃ (pv : List (Nat × V)) (fg : Nat → Bool) (xs : Nat → List Blk), xs 0 = h ∧ (∀ k y, pv[k]? = some y → ∃ o, ops[i + k]? = some o ∧ (fg k = true → o.dst = some y.1 ∧ y.1 < n) ∧ (fg k = false → o.dst = none) ∧ Okg P n ops h0 ch fl sp (i + k) o (envL (fun j => decide (j < k) && fg j) E pv 0) y.2 (xs k) (xs (k + 1))) ∧
        ((ops.size ≤ i + pv.length ∧ K (envL fg E pv 0) (xs pv.length)) ∨ (i + pv.length = m ∧ i + pv.length < ops.size ∧ WO P n ops ((List.range ops.size).drop (i + pv.length)) (envL fg E pv 0) (xs pv.length) K)) := by
    intro i E E' h h' o d v b hi hb1 hb2 hok he ⟨pv, fg, xs, g0, g1, g3⟩
    subst he
    have hl : i + ((d, v) :: pv).length = i + 1 + pv.length := by rw [List.length_cons]; omega
    refine ⟨(d, v) :: pv, fun k => match k with | 0 => b | k + 1 => fg k, fun k => match k with | 0 => h | k + 1 => xs k, rfl, fun k y hk => ?_, ?_⟩
    · cases k with
      | zero =>
        simp only [List.getElem?_cons_zero, Option.some.injEq] at hk; subst hk
        have he0 : envL (fun j => decide (j < 0) && (match j with | 0 => b | k + 1 => fg k)) E ((d, v) :: pv) 0 = E := by
          rw [show (fun j => decide (j < 0) && (match j with | 0 => b | k + 1 => fg k)) = (fun k => decide (k < 0)) from funext fun j => by simp]
          rw [envL_lt]; rfl
        refine ⟨o, hi, hb1, hb2, ?_⟩
        rw [he0]
        show Okg P n ops h0 ch fl sp i o E v h (xs 0)
        rw [g0]; exact hok
      | succ k =>
        obtain ⟨o, a, b1, c, e⟩ := g1 k y (by simpa using hk)
        rw [show i + 1 + k = i + (k + 1) by omega] at a e
        refine ⟨o, a, b1, c, ?_⟩
        rw [envL_cons]
        have e1 : (fun j => (fun j => decide (j < k + 1) && (match j with | 0 => b | k + 1 => fg k)) (j + 1)) = (fun j => decide (j < k) && fg j) := funext fun j => by simp
        have e2 : (decide (0 < k + 1) && b) = b := by simp
        rw [e1]
        show Okg P n ops h0 ch fl sp (i + (k + 1)) o (envL (fun j => decide (j < k) && fg j) (if (decide (0 < k + 1) && b) = true then (d, v) :: E else E) pv 0) y.2 (xs k) (xs (k + 1))
        rw [e2]; exact e
    · rw [hl, envL_cons]
      exact g3
  induction hw with
  | @done i E h hi hk => exact ⟨[], fun _ => false, fun _ => h, rfl, fun k x h => by simp at h, .inl ⟨by simpa using hi, hk⟩⟩
  | @t i E h him hw hlt => exact ⟨[], fun _ => false, fun _ => h, rfl, fun k x h => by simp at h, .inr ⟨him, by simpa [Nat.blt_eq] using hlt, hw⟩⟩
  | @f i e' E h v p ty ps af gd hi hs hs2 hg hok hd _ ih => exact step true hi (fun _ => ⟨rfl, by simpa [Nat.blt_eq] using hd⟩) (fun h => by cases h) (.inl ⟨hg, .inl ⟨hs, hs2, rfl, hok⟩⟩) rfl ih
  | @s i e' E h h' v p ty ps af gd hi hs hg hok hc hd _ ih => exact step true hi (fun _ => ⟨rfl, by simpa [Nat.blt_eq] using hd⟩) (fun h => by cases h) (.inl ⟨hg, .inr ⟨hs, hok, hc⟩⟩) rfl ih
  | @n i E h h' v p ty ps af hi hs hs2 hok hc _ ih => exact step (d := 0) (v := v) false hi (fun h => by cases h) (fun _ => rfl) (.inl ⟨rfl, .inr ⟨hs, hok, .inl ⟨hs2, hc⟩⟩⟩) rfl ih
  | @u i e' E h p ty ps af gd hi hg hd _ ih => exact step true hi (fun _ => ⟨rfl, by simpa [Nat.blt_eq] using hd⟩) (fun h => by cases h) (.inr ⟨hg, rfl, rfl, by simp⟩) rfl ih
end
theorem envL_cong {L L' : Nat → Bool} : ∀ {pv : List (Nat × V)} {E : Env}, (∀ k, k < pv.length → L k = L' k) → envL L E pv 0 = envL L' E pv 0 := by
  have gen : ∀ (pv : List (Nat × V)) (E : Env) (L L' : Nat → Bool), (∀ k, k < pv.length → L k = L' k) → envL L E pv 0 = envL L' E pv 0 := by
    intro pv
    induction pv with
    | nil => intro E L L' _; rfl
    | cons x pv ih =>
      intro E L L' h
      rw [envL_cons, envL_cons, h 0 (by simp)]
      exact ih _ _ _ fun k hk => h (k + 1) (by simpa using hk)
  intro pv E h
  exact gen pv E L L' h
section
variable {P : Program} {n : Nat} {ops : Array Oper} {h0 : List Blk} {ch fl sp : List Nat} {m : Nat} {env : Env} {y : Code}
theorem W.drawG {Q : Ex → Env → List Blk → Prop} {id : Nat} (hmx : P.follows .mixedOrders = true) (hc : gchk ops m fl sp = true) (hw : WG P n ops h0 ch fl sp m (Q .n) 0 env h0) : W P n (.region id ops true) env h0 Q := by
  constructor; intro w S ι a r1 r2 r3 r4
  obtain ⟨pv, fg, xs, x0, p1, p2⟩ := hw.ex
  simp only [Nat.zero_add] at p1 p2
  obtain ⟨c, nfs, cs⟩ := gchk_ok hc
  have hlen : pv.length ≤ ops.size := by
    rcases Nat.lt_or_ge ops.size pv.length with g | g
    · obtain ⟨o, h1, _⟩ := p1 ops.size pv[ops.size] (List.getElem?_eq_getElem g)
      have := (Array.getElem?_eq_some_iff.1 h1).1; omega
    · exact g
  have xst : ∀ k, k < pv.length → sp.elem k = false → xs (k + 1) = xs k := fun k hk hs => by
    obtain ⟨o, _, _, _, d⟩ := p1 k pv[k] (List.getElem?_eq_getElem hk)
    rcases d with ⟨_, ⟨_, _, d, _⟩ | ⟨_, _, ⟨d, _⟩ | ⟨_, d⟩⟩⟩ | ⟨_, _, d, _⟩
    · exact d
    · rw [hs] at d; cases d
    · exact d
    · exact d
  have xz : ∀ k, k ≤ pv.length → ∃ z ex, xs k = ovr ch z 0 h0 ++ ex := by
    intro k
    induction k with
    | zero => intro _; exact ⟨fun k => (h0[k]?).getD .dead, [], by rw [x0, List.append_nil, ovr_self]; intro j b hb; simp [hb]⟩
    | succ k ih =>
      intro hk
      obtain ⟨o, _, _, _, d⟩ := p1 k pv[k] (List.getElem?_eq_getElem (by omega))
      rcases d with ⟨_, ⟨_, _, d, _⟩ | ⟨_, _, ⟨_, d⟩ | ⟨_, d⟩⟩⟩ | ⟨_, _, d, _⟩
      · rw [d]; exact ih (by omega)
      · exact d
      · rw [d]; exact ih (by omega)
      · rw [d]; exact ih (by omega)
  have xrg : ∀ b a, a ≤ b → b ≤ pv.length → (∀ k, a ≤ k → k < b → sp.elem k = false) → xs b = xs a := by
    intro b
    induction b with
    | zero => intro a h1 _ _; rw [show a = 0 by omega]
    | succ b ih =>
      intro a h1 h2 h3
      by_cases e : a = b + 1
      · rw [e]
      · rw [xst b (by omega) (h3 b (by omega) (by omega))]
        exact ih a (by omega) (by omega) (fun k g1 g2 => h3 k g1 (by omega))
  refine wp_region_any hmx ?_
  have claim : ∀ (fuel : Nat) (L : Array Bool) (a : Act) (w' : World) (S' : Nat → Nat) (ι' : Nat → Option Nat) (q : Nat), L.size = ops.size → cnt ops L ≤ fuel → (∀ i k, L.getD i false = true → (bi ops i).testBit k = true → L.getD k false = true) →
      q ≤ pv.length → (∀ k, k < q → sp.elem k = true → L.getD k false = true) → (∀ k, q ≤ k → sp.elem k = true → L.getD k false = false) → (∀ k, L.getD k false = true → k < pv.length) →
      HR w' S' ι' (xs q) → Pres w S ι h0 w' S' ι' (xs q) → ER w' S' ι' (xs q) (envL (fun k => L.getD k false && fg k) env pv 0) a.tmps → a.tmps.size = n → a.defers = [] → wpAny P .any ops (Post n w S ι h0 Q) fuel L a w' := by
    intro fuel
    induction fuel with
    | zero =>
      intro L a w' S' ι' q hs hf hdc hq0 hq1 hq2 hlt k1 k2 k3 k4 k5
      have all : ∀ i, i < ops.size → L.getD i false = true := fun i hi => by
        cases hL : L.getD i false with
        | true => rfl
        | false => have := cnt_set hs hi hL; omega
      have hready : Region.ready .any ops L = [] := by
        cases hr : Region.ready .any ops L with
        | nil => rfl
        | cons j r => have := ready_of hs (j := j) (by rw [hr]; simp); rw [all j this.1] at this; simp at this
      have e : envL (fun k => L.getD k false && fg k) env pv 0 = envL fg env pv 0 := envL_cong fun k hk => by rw [all k (by omega), Bool.true_and]
      rw [e] at k3
      have hxe : xs q = xs pv.length := (xrg pv.length q hq0 (Nat.le_refl _) fun k g1 g2 => by
        cases hsk : sp.elem k with
        | false => rfl
        | true => have := hq2 k g1 hsk; rw [all k (by omega)] at this; cases this).symm
      rw [hxe] at k1 k2 k3
      rcases p2 with ⟨_, hK⟩ | ⟨hm, hlt2, _⟩
      · exact ⟨hready, _, _, S', ι', .n, rfl, k4, k5, k1, k2, k3, hK⟩
      · have := hlt pv.length (all _ hlt2); omega
    | succ fuel ih =>
      intro L a w' S' ι' q hs hf hdc hq0 hq1 hq2 hlt k1 k2 k3 k4 k5
      by_cases hall : ∀ k, k < pv.length → L.getD k false = true
      · have e : envL (fun k => L.getD k false && fg k) env pv 0 = envL fg env pv 0 := envL_cong fun k hk => by rw [hall k hk, Bool.true_and]
        rw [e] at k3
        have hxe : xs q = xs pv.length := (xrg pv.length q hq0 (Nat.le_refl _) fun k g1 g2 => by
          cases hsk : sp.elem k with
          | false => rfl
          | true => have := hq2 k g1 hsk; rw [hall k g2] at this; cases this).symm
        rw [hxe] at k1 k2 k3
        rcases p2 with ⟨hN, hK⟩ | ⟨hm, hlt2, hWO⟩
        · have hready : Region.ready .any ops L = [] := by
            cases hr : Region.ready .any ops L with
            | nil => rfl
            | cons j r => have := ready_of hs (j := j) (by rw [hr]; simp); rw [hall j (by omega)] at this; simp at this
          have hq : Post n w S ι h0 Q .normal a w' := ⟨_, _, S', ι', .n, rfl, k4, k5, k1, k2, k3, hK⟩
          exact ⟨fun _ => hq, fun j hj => by rw [hready] at hj; cases hj⟩
        · have hLm : ∀ k, L.getD k false = decide (k < m) := fun k => by
            rw [← hm]
            by_cases g : k < pv.length
            · rw [hall k g]; simp [g]
            · cases hL : L.getD k false with
              | false => simp [g]
              | true => exact (g (hlt k hL)).elim
          refine any_tail c (fuel + 1) m L a w' hs (Nat.le_refl _) (by omega) ?_ hLm ?_
          · have : cnt ops L = ops.size - m := by
              unfold cnt
              rw [← cnt_lt m ops.size]
              congr 1
              exact List.filter_congr fun i _ => by rw [hLm]
            omega
          · rw [← hm]
            refine hWO.out w' S' ι' a k1 k3 k4 k5 _ fun w2 S2 ι2 a2 env2 h2 q1 q2 q3 q4 q5 q6 => ?_
            exact ⟨env2, h2, S2, ι2, .n, rfl, q4, q5, q1, k2.trans q2, q3, q6⟩
      · obtain ⟨k0, hk0⟩ : ∃ k, ¬ (k < pv.length → L.getD k false = true) := Classical.not_forall.1 hall
        have hk0l : k0 < pv.length := Classical.byContradiction fun g => hk0 fun g' => (g g').elim
        have hk0f : L.getD k0 false = false := by
          cases hL : L.getD k0 false with
          | false => rfl
          | true => exact (hk0 fun _ => hL).elim
        refine ⟨fun hr => ?_, fun i hi => ?_⟩
        · have := ready_nil c hs hr k0 (by omega); rw [hk0f] at this; cases this
        obtain ⟨hiN, hiL, o, hio, hpre⟩ := ready_of hs hi
        have hil : i < pv.length := by
          rcases Nat.lt_or_ge i pv.length with g | g
          · exact g
          · rcases p2 with ⟨hN, _⟩ | ⟨hm, _, _⟩
            · omega
            · have := c.pre (L := L) hio hpre hdc (c.last i k0 hiN (by omega) (by omega))
              rw [hk0f] at this; cases this
        obtain ⟨o', ho', hdst, hdst0, hok⟩ := p1 i pv[i] (List.getElem?_eq_getElem hil)
        rw [hio] at ho'; injection ho' with ho'; subst ho'
        have hpv : pv[i]? = some pv[i] := List.getElem?_eq_getElem hil
        have hset : ∀ j, (L.setIfInBounds i true).getD j false = (decide (j = i) || L.getD j false) := fun j => setD (by omega)
        -- what the operation names reads as in the order of the text
        have huse : ER w' S' ι' (xs q) (rst (usesOf ops o) (envL (fun j => decide (j < i) && fg j) env pv 0)) a.tmps := by
          intro t v hv
          obtain ⟨hu, hv⟩ := rst_lookup hv
          refine k3 t v ?_
          rw [← hv]
          refine envL_agree fun k x hk hx => ?_
          obtain ⟨ok, g1, g2, _, _⟩ := p1 k x hk
          cases hfk : fg k with
          | false => simp
          | true =>
          simp only [Bool.and_true]
          have g2 := (g2 hfk).1
          by_cases e : k = i
          · subst e; rw [hiL]; simp
          · rcases c.sep i k o ok t hio g1 e (by rw [g2, hx]) (.inl hu) with g | g
            · have h1 := c.pre (L := L) hio hpre hdc g
              have h2 := c.lt hio g
              rw [h1]; simp [h2]
            · have h2 := c.lt g1 g
              cases hL : L.getD k false with
              | false => simp; omega
              | true => have := hdc k i hL g; rw [hiL] at this; cases this
        -- what comes behind it
        have next : ∀ (q2 : Nat) (w2 : World) S2 ι2 (u : Value), q2 ≤ pv.length → (∀ k, k < q2 → sp.elem k = true → (L.setIfInBounds i true).getD k false = true) → (∀ k, q2 ≤ k → sp.elem k = true → (L.setIfInBounds i true).getD k false = false) →
            HR w2 S2 ι2 (xs q2) → Pres w' S' ι' (xs q) w2 S2 ι2 (xs q2) → RV w2 S2 ι2 (xs q2) pv[i].2 u → wpAny P .any ops (Post n w S ι h0 Q) fuel (L.setIfInBounds i true) (a.put o.dst u) w2 := by
          intro q2 w2 S2 ι2 u z1 z2 z3 y1 y2 y3
          refine ih _ _ w2 S2 ι2 q2 (by simpa using hs) (by have := cnt_set hs hiN hiL; omega) (fun i' k g1 g2 => ?_) z1 z2 z3 (fun k g => ?_) y1 (k2.trans y2) ?_ (by rw [put_size]; exact k4) (by rw [put_defers]; exact k5)
          · rw [hset] at g1 ⊢
            by_cases e : i' = i
            · subst e; rw [c.pre (L := L) hio hpre hdc g2]; simp
            · have : L.getD i' false = true := by simpa [e] using g1
              rw [hdc i' k this g2]; simp
          · rw [hset] at g
            by_cases e : k = i
            · omega
            · exact hlt k (by simpa [e] using g)
          · intro t v hv
            have hsz : i < L.size := by omega
            cases hfi : fg i with
            | false =>
              rw [hdst0 hfi]
              have hv2 : (envL (fun k => L.getD k false && fg k) env pv 0).lookup t = some v := by
                rw [← hv]
                congr 1
                refine envL_cong fun k hk => ?_
                rw [hset]
                by_cases e : k = i
                · subst e; rw [hfi]; simp
                · simp [e]
              obtain ⟨g1, g2⟩ := k3 t v hv2
              exact ⟨g1, g2.mono y2⟩
            | true =>
            obtain ⟨hdst, hdn⟩ := hdst hfi
            rw [hdst]
            simp only [Act.put, Array.size_setIfInBounds]
            by_cases e : t = pv[i].1
            · have hv2 : v = pv[i].2 := by
                rcases envL_lookup (fun k => (L.setIfInBounds i true).getD k false && fg k) t env _ pv rfl with ⟨g1, _⟩ | ⟨k, x, g1, g2, g3, g4, g5⟩
                · have := g1 i _ hpv e.symm; rw [hset, hfi] at this; simp at this
                · rw [g5] at hv; injection hv with hv; subst hv
                  have hki : k = i := by
                    rcases Nat.lt_trichotomy k i with g | g | g
                    · have := g4 i _ g hpv e.symm; rw [hset, hfi] at this; simp at this
                    · exact g
                    · rw [hset] at g3
                      simp only [Bool.and_eq_true] at g3
                      obtain ⟨g3, hfk⟩ := g3
                      have hne : k ≠ i := by omega
                      have hLk : L.getD k false = true := by simpa [hne] using g3
                      obtain ⟨ok, f1, f2, _, _⟩ := p1 k x g1
                      rcases c.sep i k o ok t hio f1 hne (by rw [(f2 hfk).1, g2]) (.inr (by rw [hdst, e])) with f | f
                      · have := c.lt hio f; omega
                      · have := hdc k i hLk f; rw [hiL] at this; cases this
                  subst hki
                  rw [hpv] at g1; injection g1 with g1; rw [g1]
              subst hv2
              refine ⟨by rw [e, k4]; exact hdn, ?_⟩
              have : (a.tmps.setIfInBounds pv[i].1 u).getD t undef = u := by
                rw [e]; simp [Array.getD_eq_getD_getElem?, k4, hdn]
              rw [this]; exact y3
            · have hv2 : (envL (fun k => L.getD k false && fg k) env pv 0).lookup t = some v := by
                rw [← hv]
                refine (envL_agree fun k x g1 g2 => ?_).symm
                rw [hset]
                have : k ≠ i := fun g => by subst g; rw [hpv] at g1; injection g1 with g1; subst g1; exact e g2.symm
                simp [this]
              obtain ⟨g1, g2⟩ := k3 t v hv2
              refine ⟨g1, ?_⟩
              have : (a.tmps.setIfInBounds pv[i].1 u).getD t undef = a.tmps.getD t undef := by
                simp [Array.getD_eq_getD_getElem?, Ne.symm e]
              rw [this]; exact g2.mono y2
        -- a value: the first block stays
        have stay : ∀ (hsi : sp.elem i = false ∨ True) (w2 : World) S2 ι2 (u : Value), (sp.elem i = false) → HR w2 S2 ι2 (xs q) → Pres w' S' ι' (xs q) w2 S2 ι2 (xs q) → RV w2 S2 ι2 (xs q) pv[i].2 u → wpAny P .any ops (Post n w S ι h0 Q) fuel (L.setIfInBounds i true) (a.put o.dst u) w2 := by
          intro _ w2 S2 ι2 u hsi y1 y2 y3
          refine next q w2 S2 ι2 u hq0 (fun k g1 g2 => ?_) (fun k g1 g2 => ?_) y1 y2 y3
          · rw [hset, hq1 k g1 g2]; simp
          · rw [hset, hq2 k g1 g2]
            have : k ≠ i := fun e => by subst e; rw [hsi] at g2; cases g2
            simp [this]
        -- one that is in order: the memory is what it was in the order of the text
        have same : fl.elem i = false → xs q = xs i := fun hfi => by
          rcases Nat.le_total q i with hqi | hqi
          · refine (xrg i q hqi (by omega) fun k g1 g2 => ?_).symm
            cases hsk : sp.elem k with
            | false => rfl
            | true =>
              have := c.pre (L := L) hio hpre hdc ((cs i k hiN hfi hsk).1 g2)
              rw [hq2 k g1 hsk] at this; cases this
          · refine xrg q i hqi hq0 fun k g1 g2 => ?_
            cases hsk : sp.elem k with
            | false => rfl
            | true =>
              have hk := hq1 k g2 hsk
              rcases Nat.eq_or_lt_of_le g1 with e | e
              · subst e; rw [hiL] at hk; cases hk
              · have := hdc k i hk ((cs i k hiN hfi hsk).2 e)
                rw [hiL] at this; cases this
        have inord : sp.elem i = true → fl.elem i = false → (∀ k, k < i + 1 → sp.elem k = true → (L.setIfInBounds i true).getD k false = true) ∧ (∀ k, i + 1 ≤ k → sp.elem k = true → (L.setIfInBounds i true).getD k false = false) := fun hsi hfi => by
          have hqi : q ≤ i := by
            rcases Nat.lt_or_ge i q with g | g
            · have := hq1 i g hsi; rw [hiL] at this; cases this
            · exact g
          refine ⟨fun k g1 g2 => ?_, fun k g1 g2 => ?_⟩
          · rw [hset]
            by_cases e : k = i
            · simp [e]
            · rw [c.pre (L := L) hio hpre hdc ((cs i k hiN hfi g2).1 (by omega))]; simp
          · rw [hset, hq2 k (by omega) g2]
            have : k ≠ i := by omega
            simp [this]
        unfold wpOp
        simp only [hio]
        rcases hok with ⟨hg, hok⟩ | ⟨hg, hv, hxx, hdn⟩
        · rw [if_pos (grd_ok hg rfl w' S' ι' a huse)]
          rcases hok with ⟨hfi, hsi, _, hok⟩ | ⟨hfi, hok, hcc⟩
          · obtain ⟨z, ex, hz⟩ := xz q hq0
            have hok := hok z ex
            rw [← hz] at hok
            exact .inl (hok.out w' S' ι' a k1 huse k4 k5 _ _ fun w2 S2 ι2 u y1 y2 y3 => stay (.inr trivial) w2 S2 ι2 u hsi y1 y2 y3)
          · have hxq := same hfi
            rcases hcc with ⟨hsi, _⟩ | ⟨hsi, hxx⟩
            · obtain ⟨z2, z3⟩ := inord hsi hfi
              rw [hxq] at k1 huse
              exact .inl (hok.out w' S' ι' a k1 huse k4 k5 _ _ fun w2 S2 ι2 u y1 y2 y3 => next (i + 1) w2 S2 ι2 u (by omega) z2 z3 y1 (by rw [hxq]; exact y2) y3)
            · rw [hxx, ← hxq] at hok
              exact .inl (hok.out w' S' ι' a k1 huse k4 k5 _ _ fun w2 S2 ι2 u y1 y2 y3 => stay (.inr trivial) w2 S2 ι2 u hsi y1 y2 y3)
        · rw [if_neg (by rw [grd_ok hg rfl w' S' ι' a huse]; simp)]
          have hu : RV w' S' ι' (xs q) pv[i].2 undef := by rw [hv]; exact ⟨#[], rfl, rfl, fun j x v h1 _ => by simp at h1⟩
          cases hsi : sp.elem i with
          | false => exact stay (.inr trivial) w' S' ι' undef hsi k1 (.refl ..) hu
          | true =>
            -- a guarded one of those that change memory, that does not run: as if it were no such one
            have hqi : q ≤ i := by
              rcases Nat.lt_or_ge i q with g | g
              · have := hq1 i g hsi; rw [hiL] at this; cases this
              · exact g
            have before : ∀ k, k < i → sp.elem k = true → L.getD k false = true := fun k g1 g2 => by
              cases hfk : fl.elem k with
              | false => exact c.pre (L := L) hio hpre hdc ((cs k i (by omega) hfk hsi).2 g1)
              | true =>
                cases hfi : fl.elem i with
                | false => exact c.pre (L := L) hio hpre hdc ((cs i k hiN hfi g2).1 g1)
                | true => exact absurd hfi (by have := nfs i hsi; rw [this]; simp)
            have hxq : xs q = xs i := (xrg i q hqi (by omega) fun k g1 g2 => by
              cases hsk : sp.elem k with
              | false => rfl
              | true => have := before k g2 hsk; rw [hq2 k g1 hsk] at this; cases this).symm
            have e1 : xs q = xs (i + 1) := by rw [hxq, hxx]
            rw [e1] at hu
            refine next (i + 1) w' S' ι' undef (by omega) (fun k g1 g2 => ?_) (fun k g1 g2 => ?_) (by rw [← e1]; exact k1) (by rw [← e1]; exact .refl ..) hu
            · rw [hset]
              by_cases e : k = i
              · simp [e]
              · rw [before k (by omega) g2]; simp
            · rw [hset, hq2 k (by omega) g2]
              have : k ≠ i := by omega
              simp [this]
  obtain ⟨e1, e2⟩ := r1.ext (w' := { w with drawn := w.drawn + 1 }) (S' := S) (fun _ _ => rfl) (Nat.le_refl _) (fun _ _ => rfl) r1.low (fun b blk B g1 g2 g3 => (r1.own b blk B g1 g2 g3).1)
  have hrep : ∀ k, (Array.replicate ops.size false).getD k false = false := fun k => by simp only [Array.getD_eq_getD_getElem?, Array.getElem?_replicate]; split <;> rfl
  refine claim ops.size _ a _ S ι 0 (by simp) ?_ (fun i k g => by rw [hrep] at g; cases g) (Nat.zero_le _) (fun k g => by omega) (fun k _ _ => hrep k) (fun k g => by rw [hrep] at g; cases g) (by rw [x0]; exact e1) (by rw [x0]; exact e2) ?_ r3 r4
  · unfold cnt; exact Nat.le_trans (List.length_filter_le _ _) (by simp)
  · have : envL (fun k => (Array.replicate ops.size false).getD k false && fg k) env pv 0 = env := by
      have gen : ∀ (pv : List (Nat × V)) (i : Nat), envL (fun k => (Array.replicate ops.size false).getD k false && fg k) env pv i = env := by
        intro pv
        induction pv with
        | nil => intro i; rfl
        | cons x pv ih => intro i; simp only [envL]; rw [if_neg (by rw [hrep]; simp)]; exact ih (i + 1)
      exact gen pv 0
    rw [this, x0]; exact r2.mono e2
theorem W.dg (rid m : Nat) (ch fl sp : List Nat) {Q : Ex → Env → List Blk → Prop} (hmx : P.follows .mixedOrders = true) (hc : gchk ops m fl sp = true) (hw : WG P n ops h0 ch fl sp m (fun env' h' => W P n y env' h' Q) 0 env h0) : W P n (.seq (.region rid ops true) y) env h0 Q := W.seq (W.drawG hmx hc hw)
theorem W.dge (rid m : Nat) (ch fl sp : List Nat) {Q : Ex → Env → List Blk → Prop} (hmx : P.follows .mixedOrders = true) (hc : gchk ops m fl sp = true) (hw : WG P n ops h0 ch fl sp m (Q .n) 0 env h0) : W P n (.region rid ops true) env h0 Q := W.drawG hmx hc hw
end
end Go.YtamlleimfopmhaaMc

namespace Go.YtamlleimfopmhaaMc
/-- A loop of so many rounds at most, each with a memory of its own. -/
theorem W.loopN {P : Program} {n : Nat} {c : Code} {env : Env} {h : List Blk} {Q : Ex → Env → List Blk → Prop} (st : Nat → Env) (hp : Nat → List Blk) (N : Nat) (hh : h = hp 0) (hc : Cov (hp 0).length env (st 0))
    (round : ∀ j, j ≤ N → W P n c (st j) (hp j) (Then (fun env' h' => j < N ∧ Cov (hp (j + 1)).length env' (st (j + 1)) ∧ h' = hp (j + 1)) Q)) : W P n (.loop c) env h Q := by
  constructor; intro w S ι a r1 r2 r3 r4
  subst hh
  have rr := r2.cov hc
  rw [List.take_of_length_le (Nat.le_refl _)] at rr
  refine wp_loop_ghost (I := fun k a' w' => ∃ j S' ι', N - j = k ∧ j ≤ N ∧ HR w' S' ι' (hp j) ∧ Pres w S ι (hp 0) w' S' ι' (hp j) ∧ ER w' S' ι' (hp j) (st j) a'.tmps ∧ a'.tmps.size = n ∧ a'.defers = []) (N - 0)
    ⟨0, S, ι, rfl, Nat.zero_le _, r1, .refl .., rr, r3, r4⟩ ?_
  rintro k a' w' ⟨j, S', ι', rfl, g1, g2, g3, g4, g5, g6⟩
  refine wp_mono ((round j g1).out w' S' ι' a' g2 g4 g5 g6) ?_
  rintro e a'' w'' ⟨env', h', S'', ι'', e', rfl, k2, k3, k4, k5, k6, k7⟩
  cases e' with
  | n =>
    obtain ⟨q1, q2, q3⟩ := k7
    subst q3
    have k6' := k6.cov q2
    rw [List.take_of_length_le (Nat.le_refl _)] at k6'
    exact ⟨N - (j + 1), by omega, j + 1, S'', ι'', rfl, q1, k4, g3.trans k5, k6', k2, k3⟩
  | x id => exact Post.pres g3 ⟨env', h', S'', ι'', .x id, rfl, k2, k3, k4, k5, k6, k7⟩
  | r => exact Post.pres g3 ⟨env', h', S'', ι'', .r, rfl, k2, k3, k4, k5, k6, k7⟩
/-- An argument without room, where an empty list is asked for. -/
theorem RVs.emp {w : World} {S : Nat → Nat} {ι : Nat → Option Nat} {h : List Blk} {xs : List V} {us : List Value} (k : Nat) (hk : xs[k]? = some (.c (.t (.l [])))) (r : RVs w S ι h (xs.set k (.c .emp)) us) : RVs w S ι h xs us := by
  refine ⟨by rw [← r.1]; simp, fun j x u hx hu => ?_⟩
  by_cases e : j = k
  · subst e
    rw [hk] at hx; injection hx with hx; subst hx
    have hlt := (List.getElem?_eq_some_iff.1 hk).1
    obtain ⟨a, ha⟩ := r.2 j (.c .emp) u (by simp [hlt]) hu
    subst ha
    exact RT.l [] a 0 0 (fun _ _ => undef) (Nat.le_refl _) (fun e h => by cases h) (.inl rfl) (fun i e j t h => by simp at h)
  · exact r.2 j x u (by rw [List.getElem?_set_ne (Ne.symm e)]; exact hx) hu
theorem Pu.empA {P : Program} {f : FuncId} {xs : List V} {v : V} (k : Nat) (hF : Pu P f xs v) (hk : xs[k]? = some (.c (.t (.l [])))) : Pu P f (xs.set k (.c .emp)) v :=
  ⟨hF.1, ⟨fun w S ι us r1 hr => hF.2.out w S ι us r1 (hr.emp k hk)⟩⟩
theorem Po.empA {P : Program} {f : FuncId} {xs : List V} {g h1 : List Blk} {v : V} (k : Nat) (hF : Po P f xs g v h1) (hk : xs[k]? = some (.c (.t (.l [])))) : Po P f (xs.set k (.c .emp)) g v h1 :=
  ⟨hF.1, ⟨fun w S ι us r1 hr => hF.2.out w S ι us r1 (hr.emp k hk)⟩⟩
/-- A value that asks nothing of memory may refer to blocks made in the same region of open order. -/
theorem WM.bd {P : Program} {n : Nat} {ops : Array Oper} {h : List Blk} {K : Env → List Blk → Prop} {m i e' : Nat} {E : Env} {bs : List Blk} {v : V} {p : Op} {ty : Nat} {ps : String} {af : Array Edge} {gd : Option (Nat × Bool)} (D : Tab P) (hi : ops[i]? = some ⟨some e', p, ty, ps, af, gd⟩) (hg : grd ops (rst (usesOf ops ⟨some e', p, ty, ps, af, gd⟩) E) gd = some true)
    (hs : ∀ g, stpR D.f (rst (usesOf ops ⟨some e', p, ty, ps, af, gd⟩) E) g ⟨some e', p, ty, ps, af, gd⟩ = some (v, g)) (hd : e'.blt n = true) (hr : WM P n ops h K m (i + 1) ((e', v) :: E) bs) : WM P n ops h K m i E bs := .p hi hg (fun g => stpR_ok D (hs g)) hd hr
end Go.YtamlleimfopmhaaMc
