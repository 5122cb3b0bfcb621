/- Lemmas of this claim: walks through code, values and memory, and the contracts of functions; under no condition beyond those that each states. -/
import Derived.Test.YtamlleimfopmhaaMA
import Derived.Laws.MakeOwn
import Derived.Laws.StructEq
import Derived.Deep.Slices
import Derived.ChangeArms
import Derived.DataReads
set_option linter.unusedVariables false
set_option linter.unusedSimpArgs false
namespace Go.YtamlleimfopmhaaMc
/-! ### Lists of operations -/
structure WO (P : Program) (n : Nat) (ops : Array Oper) (is : List Nat) (env : Env) (h : List Blk) (K : Env → List Blk → Prop) : Prop where
  out : ∀ (w : World) (S : Nat → Nat) (ι : Nat → Option Nat) (a : Act), HR w S ι h → ER w S ι h env a.tmps → a.tmps.size = n → a.defers = [] → ∀ (Q' : Exit → Act → World → Prop),
    (∀ w' S' ι' a' env' h', HR w' S' ι' h' → Pres w S ι h w' S' ι' h' → ER w' S' ι' h' env' a'.tmps → a'.tmps.size = n → a'.defers = [] → K env' h' → Q' .normal a' w') → wpOps P ops Q' is a w
section
variable {P : Program} {n : Nat} {ops : Array Oper} {env : Env} {h h1 : List Blk} {K : Env → List Blk → Prop} {v : V} {o oj : Oper} {i j d : Nat} {rest : List Nat} {g : Bool} {Q : Ex → Env → List Blk → Prop}
theorem WO.nil (hk : K env h) : WO P n ops [] env h K := ⟨fun w S ι a r1 r2 r3 r4 Q' hQ => hQ w S ι a env h r1 (.refl ..) r2 r3 r4 hk⟩
theorem yielded_of {w : World} {S : Nat → Nat} {ι : Nat → Option Nat} {a : Act} {x : Bool} (r2 : ER w S ι h env a.tmps) (hj : ops[j]? = some oj) (hd : oj.dst = some d) (hx : env.lookup d = some (.c (.t (.b x)))) : yielded ops a.tmps j = some x := by
  obtain ⟨l, r⟩ := r2 d _ hx
  have e := RV.b r
  have : a.tmps[d]? = some (.bool x) := by rw [← e]; simp [Array.getD_eq_getD_getElem?, l]
  simp [yielded, hj, hd, this]
theorem WO.step (hi : ops[i]? = some o) (hw : ∀ (w : World) S ι (a : Act), ER w S ι h env a.tmps → Region.wanted o (yielded ops a.tmps) = true) (hd : dok n o.dst = true) (hok : OpOk P n o env h v h1) (hr : WO P n ops rest (pu env o.dst v) h1 K) : WO P n ops (i :: rest) env h K := by
  constructor; intro w S ι a r1 r2 r3 r4 Q' hQ
  simp only [wpOps, hi, hw w S ι a r2, if_true]
  refine .inl (hok.out w S ι a r1 r2 r3 r4 _ _ fun w' S' ι' u k1 k2 k3 => ?_)
  refine hr.out w' S' ι' _ k1 (pu_ok (r2.mono k2) (by rw [r3]; exact hd) k3) (by rw [put_size]; exact r3) (by rw [put_defers]; exact r4) Q' fun w'' S'' ι'' a' env' h' q1 q2 q3 q4 q5 q6 => hQ w'' S'' ι'' a' env' h' q1 (k2.trans q2) q3 q4 q5 q6
variable {e' d' : Nat} {p : Op} {ty ty' : Nat} {ps ps' : String} {af af' : Array Edge} {p' : Op} {gd' : Option (Nat × Bool)}
theorem WO.op (hi : ops[i]? = some ⟨some e', p, ty, ps, af, none⟩) (hok : OpOk P n ⟨some e', p, ty, ps, af, none⟩ env h v h1) (hd : e'.blt n = true) (hr : WO P n ops rest ((e', v) :: env) h1 K) : WO P n ops (i :: rest) env h K :=
  .step hi (fun w S ι a _ => by simp [Region.wanted]) (by simpa [dok, Nat.blt_eq] using hd) hok hr
theorem WO.op0 (hi : ops[i]? = some ⟨none, p, ty, ps, af, none⟩) (hok : OpOk P n ⟨none, p, ty, ps, af, none⟩ env h v h1) (hr : WO P n ops rest env h1 K) : WO P n ops (i :: rest) env h K :=
  .step hi (fun w S ι a _ => by simp [Region.wanted]) rfl hok hr
/-- An operation under a guard that is met. -/
theorem WO.opg (hi : ops[i]? = some ⟨some e', p, ty, ps, af, some (j, g)⟩) (hj : ops[j]? = some ⟨some d', p', ty', ps', af', gd'⟩) (hx : env.lookup d' = some (.c (.t (.b g)))) (hok : OpOk P n ⟨some e', p, ty, ps, af, some (j, g)⟩ env h v h1) (hd : e'.blt n = true) (hr : WO P n ops rest ((e', v) :: env) h1 K) : WO P n ops (i :: rest) env h K :=
  .step hi (fun w S ι a r2 => by simp [Region.wanted, yielded_of r2 hj rfl hx]) (by simpa [dok, Nat.blt_eq] using hd) hok hr
/-- An operation under a guard that is not met. -/
theorem WO.skp {g' : Bool} (hi : ops[i]? = some ⟨some e', p, ty, ps, af, some (j, g)⟩) (hj : ops[j]? = some ⟨some d', p', ty', ps', af', gd'⟩) (hx : env.lookup d' = some (.c (.t (.b g')))) (hgg : (g' == g) = false) (hd : e'.blt n = true) (hr : WO P n ops rest ((e', .c .u) :: env) h K) : WO P n ops (i :: rest) env h K := by
  constructor; intro w S ι a r1 r2 r3 r4 Q' hQ
  have hgg' : g' = g → False := fun e => by subst e; simp at hgg
  have hw : Region.wanted ⟨some e', p, ty, ps, af, some (j, g)⟩ (yielded ops a.tmps) = false := by simp [Region.wanted, yielded_of r2 hj rfl hx]; exact hgg'
  simp only [wpOps, hi, hw]
  refine hr.out w S ι _ r1 (pu_ok (d := some e') r2 (by rw [r3]; simpa [dok, Nat.blt_eq] using hd) (v := .c .u) trivial) (by rw [put_size]; exact r3) (by rw [put_defers]; exact r4) Q' hQ
/-- A guard of which it is not known whether it is met. -/
theorem WO.gs (x : Bool) (hi : ops[i]? = some ⟨some e', p, ty, ps, af, some (j, g)⟩) (hj : ops[j]? = some ⟨some d', p', ty', ps', af', gd'⟩) (hx : env.lookup d' = some (.c (.t (.b x)))) (h1 : x = true → WO P n ops (i :: rest) env h K) (h2 : x = false → WO P n ops (i :: rest) env h K) : WO P n ops (i :: rest) env h K := by
  cases x
  · exact h2 rfl
  · exact h1 rfl
theorem W.region {id : Nat} (hr : WO P n ops (List.range ops.size) env h (Q .n)) : W P n (.region id ops false) env h Q := by
  constructor; intro w S ι a r1 r2 r3 r4
  refine wp_region (hr.out w S ι a r1 r2 r3 r4 _ fun w' S' ι' a' env' h' k1 k2 k3 k4 k5 k6 => ?_)
  exact ⟨env', h', S', ι', .n, rfl, k4, k5, k1, k2, k3, k6⟩
theorem W.regs {id : Nat} {y : Code} (hr : WO P n ops (List.range ops.size) env h (fun env' h' => W P n y env' h' Q)) : W P n (.seq (.region id ops false) y) env h Q := W.seq (W.region hr)
/-! ### Functions -/
def RVs (w : World) (S : Nat → Nat) (ι : Nat → Option Nat) (h : List Blk) (xs : List V) (us : List Value) : Prop := xs.length = us.length ∧ ∀ (j : Nat) x u, xs[j]? = some x → us[j]? = some u → RV w S ι h x u
structure Fn (P : Program) (f : FuncId) (xs : List V) (h : List Blk) (Q : V → List Blk → Prop) : Prop where
  out : ∀ (w : World) (S : Nat → Nat) (ι : Nat → Option Nat) (us : Array Value), HR w S ι h → RVs w S ι h xs us.toList →
    Calls P f us w fun e w' => ∃ x u S' ι' h', e = .returned u ∧ HR w' S' ι' h' ∧ Pres w S ι h w' S' ι' h' ∧ RV w' S' ι' h' x u ∧ Q x h'
/-- The result variables. -/
inductive RVar where
  | tmp (t : Nat)
  | cell (a : Nat) (t : Nat)
def rvOf : ResultVar → RVar
  | .tmp t => .tmp t
  | .cell a t => .cell a t
def resX (f : Nat → Option TI) (env : Env) (h : List Blk) : RVar → Option X
  | .tmp t => match env.lookup t with
    | some (.c x) => some (.c x)
    | some (.ag cs) => some (.ag cs)
    | _ => none
  | .cell a t => match env.lookup a, f t with
    | some (.c (.ptr b 0)), some i => match h[b]? with
      | some (.box cs) => match ldv i cs with
        | some (.c x) => some (.c x)
        | some (.ag cs') => some (.ag cs')
        | _ => none
      | _ => none
    | _, _ => none
def resXs (f : Nat → Option TI) (env : Env) (h : List Blk) : List RVar → Option (List X)
  | [] => some []
  | r :: rs => match resX f env h r, resXs f env h rs with
    | some x, some xs => some (x :: xs)
    | _, _ => none
def resV : List X → V
  | [x] => x.v
  | xs => .tu xs
theorem resX_ok (D : Tab P) {w : World} {S : Nat → Nat} {ι : Nat → Option Nat} {a : Act} (r1 : HR w S ι h) (r2 : ER w S ι h env a.tmps) {rv : ResultVar} {x : X} (hx : resX D.f env h (rvOf rv) = some x) :
    ∃ u, (match rv with | .tmp t => pure (a.tmps.getD t undef) | .cell a' t => (do loadVar t (← asAddr (a.tmps.getD a' undef))) : Sem Value).run P w = .ok u w ∧ RX w S ι h x u := by
  cases rv with
  | tmp t =>
    simp only [rvOf, resX] at hx
    split at hx
    · rename_i y hy; injection hx with hx; subst hx; exact ⟨_, rfl, (r2 t _ hy).2⟩
    · rename_i cs hy; injection hx with hx; subst hx; exact ⟨_, rfl, (r2 t _ hy).2⟩
    · cases hx
  | cell a' t =>
    simp only [rvOf, resX] at hx
    split at hx
    · rename_i b i hy ht
      split at hx
      · rename_i cs hb
        obtain ⟨_, hp⟩ := (r2 a' _ hy).2
        obtain ⟨B, i1, hp⟩ := hp cs hb
        obtain ⟨B', vs, e, j1, j2, j3⟩ := r1.box b cs hb
        rw [j1] at i1; injection i1 with i1; subst i1
        have main : ∀ v, ldv i cs = some v → ∃ u, (do loadVar t (← asAddr (a.tmps.getD a' undef)) : Sem Value).run P w = .ok u w ∧ RV w S ι h v u := fun v hv => by
          obtain ⟨u, k1, k2⟩ := ld_ok (P := P) (D.ok t i ht) hv j3 (B := B') (off := 0) (fun j u hu => by rw [cell_of j2, Nat.zero_add]; simpa using hu)
          exact ⟨u, by simp only [Sem.run_bind, hp, asAddr, Sem.run_pure, Result.andThen_ok, k1], k2⟩
        split at hx
        · rename_i y hv; injection hx with hx; subst hx; exact main _ hv
        · rename_i cs' hv; injection hx with hx; subst hx; exact main _ hv
        · cases hx
      · cases hx
    · cases hx
theorem results_ok (D : Tab P) {w : World} {S : Nat → Nat} {ι : Nat → Option Nat} {a : Act} {fn : Func} (r1 : HR w S ι h) (r2 : ER w S ι h env a.tmps) {xs : List X} (hx : resXs D.f env h (fn.results.toList.map rvOf) = some xs) :
    ∃ u, (results fn a.tmps).run P w = .ok u w ∧ RV w S ι h (resV xs) u := by
  have gen : ∀ (rs : List ResultVar) (xs : List X), resXs D.f env h (rs.map rvOf) = some xs → ∃ us : List Value, (rs.mapM (fun rv => (match rv with | .tmp t => pure (a.tmps.getD t undef) | .cell a' t => (do loadVar t (← asAddr (a.tmps.getD a' undef))) : Sem Value))).run P w = .ok us w ∧ us.length = xs.length ∧ ∀ (j : Nat) x u, xs[j]? = some x → us[j]? = some u → RX w S ι h x u := by
    intro rs
    induction rs with
    | nil => intro xs hx; simp only [List.map_nil, resXs] at hx; injection hx with hx; subst hx; exact ⟨[], by simp, rfl, fun j x u h1 => by simp at h1⟩
    | cons r rs ih =>
      intro xs hx
      simp only [List.map_cons, resXs] at hx
      split at hx
      · rename_i y ys h1 h2
        injection hx with hx; subst hx
        obtain ⟨u, k1, k2⟩ := resX_ok D r1 r2 h1
        obtain ⟨us, m1, m2, m3⟩ := ih ys h2
        refine ⟨u :: us, by rw [List.mapM_cons, Sem.run_bind, k1, Result.andThen_ok, Sem.run_bind, m1]; rfl, by simp [m2], fun j x v g1 g2 => ?_⟩
        cases j with
        | zero => simp at g1 g2; subst g1; subst g2; exact k2
        | succ j => exact m3 j x v (by simpa using g1) (by simpa using g2)
      · cases hx
  obtain ⟨us, m1, m2, m3⟩ := gen _ _ hx
  have e : (results fn a.tmps).run P w = .ok (if h : us.toArray.size = 1 then us.toArray[0] else .tuple us.toArray) w := by
    unfold results
    rw [Array.mapM_eq_mapM_toList]
    simp only [Sem.run_bind, Sem.run_map]
    exact congrArg (fun r : Result (List Value) => (r.andThen fun a w' => Result.ok a.toArray w').andThen fun a w' => Sem.run P (pure (if h : a.size = 1 then a[0] else Value.tuple a)) w') m1
  match xs, us, m2, m3, e with
  | [x], [u], _, m3, e => exact ⟨u, by simpa using e, (m3 0 x u rfl rfl).v⟩
  | [], [], _, m3, e => exact ⟨.tuple #[], by simpa using e, #[], rfl, rfl, fun j x v h1 => by simp at h1⟩
  | x :: y :: xs, u :: v :: us, m2, m3, e => exact ⟨.tuple (u :: v :: us).toArray, by simpa using e, _, rfl, by simpa using m2.symm, fun j x v g1 g2 => m3 j x v g1 (by simpa using g2)⟩
def args : Nat → List V → Env
  | _, [] => []
  | k, v :: vs => (k, v) :: args (k + 1) vs
theorem args_ok {w : World} {S : Nat → Nat} {ι : Nat → Option Nat} {tmps : Array Value} : ∀ (xs : List V) (us : List Value) (k : Nat), RVs w S ι h xs us → (∀ j u, us[j]? = some u → tmps[k + j]? = some u) → ER w S ι h (args k xs) tmps
  | [], _, _, _, _ => fun t v hv => by cases hv
  | x :: xs, [], _, hr, _ => by have := hr.1; simp at this
  | x :: xs, u :: us, k, hr, hu => by
    intro t v hv
    simp only [args, List.lookup_cons] at hv
    by_cases e : t = k
    · subst e; simp only [beq_self_eq_true] at hv; injection hv with hv; subst hv
      have := hu 0 u rfl
      simp only [Nat.add_zero] at this
      exact ⟨(Array.getElem?_eq_some_iff.1 this).1, by rw [Array.getD_eq_getD_getElem?, this]; exact hr.2 0 x u rfl rfl⟩
    · have e' : (t == k) = false := by simpa using e
      rw [e'] at hv
      exact args_ok xs us (k + 1) ⟨by have := hr.1; simpa using this, fun j x u g1 g2 => hr.2 (j + 1) x u (by simpa using g1) (by simpa using g2)⟩ (fun j u g => by have := hu (j + 1) u (by simpa using g); rwa [show k + 1 + j = k + (j + 1) by omega]) t v hv
/-- A function, by its body. What was made behind the m-th block is forgotten. -/
theorem Fn.of {fn : Func} {c : Code} {f : FuncId} {xs : List V} {Q' : V → List Blk → Prop} (D : Tab P) (hf : P.funcs[f]? = some fn) (hc : fn.body = some c) (hn : xs.length ≤ fn.ntmps)
    (hw : W P fn.ntmps c (args 0 xs) h (fun e env' h' => (e = .n ∨ e = .r) ∧ ∃ ys m, resXs D.f env' h' (fn.results.toList.map rvOf) = some ys ∧ h.length ≤ m ∧ (resV ys).low m = true ∧ (h'.take m).all (·.low m) = true ∧ Q' (resV ys) (h'.take m))) : Fn P f xs h Q' := by
  constructor; intro w S ι us r1 hr
  refine calls_of_wp hf hc ?_
  have hl : us.size ≤ fn.ntmps := by have := hr.1; simp at this; omega
  refine wp_mono (hw.out w S ι { tmps := us ++ Array.replicate (fn.ntmps - us.size) undef, defers := [] } r1 (args_ok xs us.toList 0 hr (fun j u hu => ?_)) (by simp; omega) rfl) ?_
  · have hj : j < us.size := by have := (List.getElem?_eq_some_iff.1 hu).1; simpa using this
    simp only [Nat.zero_add]
    rw [Array.getElem?_append_left hj]; simpa using hu
  · rintro e a' w' ⟨env', h', S', ι', e', rfl, k2, k3, k4, k5, k6, hen, ys, m, q1, q2, q3, q4, q5⟩
    obtain ⟨u, g1, g2⟩ := results_ok D k4 k6 q1
    have : ∃ v, (results fn a'.tmps).run P w' = .ok v w' ∧ (∃ x u S' ι' h'', Ending.returned v = .returned u ∧ HR w' S' ι' h'' ∧ Pres w S ι h w' S' ι' h'' ∧ RV w' S' ι' h'' x u ∧ Q' x h'') :=
      ⟨u, g1, _, u, S', ι', h'.take m, rfl, k4.take q4, k5.take q2, g2.take q3, q5⟩
    rcases hen with rfl | rfl <;> exact ⟨k3, this⟩
end
end Go.YtamlleimfopmhaaMc

namespace Go.YtamlleimfopmhaaMc
/-! ### Calls -/
def Callable (P : Program) (f : FuncId) : Prop := ∀ (args : Array Value) (w : World), (callFunc f args).run P w = .ok (.enter f args) w
theorem Callable.of {P : Program} {f : FuncId} {fn : Func} (hf : P.funcs[f]? = some fn) (hb : fn.body.isNone = false) (hn : (fn.name == "runtime.NumGoroutine") = false) : Callable P f := by
  intro args w
  have hb' : ¬ fn.body = none := fun e => by rw [e] at hb; cases hb
  have hn' : ¬ fn.name = "runtime.NumGoroutine" := by simpa using hn
  simp [callFunc, hf, hb', hn']
def C.nz : C → C
  | .emp => .t (.l [])
  | c => c
def V.nz : V → V
  | .c x => .c x.nz
  | .ag cs => .ag (cs.map C.nz)
  | v => v
def C.pur : C → Bool
  | .t _ => true
  | .k _ => true
  | _ => false
def X.pur : X → Bool
  | .c x => x.pur
  | .ag cs => cs.all C.pur
def V.pur : V → Bool
  | .c x => x.pur
  | .ag cs => cs.all C.pur
  | .tu xs => xs.all X.pur
section
variable {w w' : World} {S S' : Nat → Nat} {ι ι' : Nat → Option Nat} {h h' : List Blk}
theorem RC.nz {c : C} {u : Value} (r : RC w S ι h c u) : RC w S ι h c.nz u := by
  cases c with
  | emp => obtain ⟨A, rfl⟩ := r; exact RT.l [] A 0 0 (fun _ _ => undef) (by simp) (by simp) (.inl rfl) (by simp)
  | _ => exact r
theorem RV.nz {v : V} {u : Value} (r : RV w S ι h v u) : RV w S ι h v.nz u := by
  cases v with
  | c x => exact RC.nz r
  | tu xs => exact r
  | ag cs =>
    obtain ⟨vs, rfl, h1, h2⟩ := r
    refine ⟨vs, rfl, by simpa using h1, fun j c u g1 g2 => ?_⟩
    rw [List.getElem?_map] at g1
    obtain ⟨c', e1, rfl⟩ := Option.map_eq_some_iff.1 g1
    exact (h2 j c' u e1 g2).nz
theorem RC.move (hm : ∀ B, S B = 2 → S' B = 2 ∧ w'.heap[B]? = w.heap[B]?) {c : C} {u : Value} (hp : c.pur = true) (r : RC w S ι h c u) : RC w' S' ι' h' c u := by
  cases c with
  | t x => exact RT.mono hm r
  | k x => exact r
  | _ => cases hp
theorem RCs.move (hm : ∀ B, S B = 2 → S' B = 2 ∧ w'.heap[B]? = w.heap[B]?) {cs : List C} {us : List Value} (hp : cs.all C.pur = true) (r : RCs w S ι h cs us) : RCs w' S' ι' h' cs us :=
  ⟨r.1, fun j c u g1 g2 => (r.2 j c u g1 g2).move hm (List.all_eq_true.1 hp c (List.mem_of_getElem? g1))⟩
theorem RX.move (hm : ∀ B, S B = 2 → S' B = 2 ∧ w'.heap[B]? = w.heap[B]?) {x : X} {u : Value} (hp : x.pur = true) (r : RX w S ι h x u) : RX w' S' ι' h' x u := by
  cases x with
  | c x => exact RC.move hm hp r
  | ag cs => obtain ⟨vs, e, r⟩ := r; exact ⟨vs, e, r.move hm hp⟩
theorem RV.move (hm : ∀ B, S B = 2 → S' B = 2 ∧ w'.heap[B]? = w.heap[B]?) {v : V} {u : Value} (hp : v.pur = true) (r : RV w S ι h v u) : RV w' S' ι' h' v u := by
  cases v with
  | c x => exact RC.move hm hp r
  | ag cs => obtain ⟨vs, e, r⟩ := r; exact ⟨vs, e, r.move hm hp⟩
  | tu xs => obtain ⟨vs, e, l, r⟩ := r; exact ⟨vs, e, l, fun j x u g1 g2 => (r j x u g1 g2).move hm (List.all_eq_true.1 hp x (List.mem_of_getElem? g1))⟩
end
section
variable {P : Program} {n : Nat} {o : Oper} {env : Env} {h h' : List Blk} {v : V}
def oel (env : Env) : List Operand → Option (List V)
  | [] => some []
  | x :: xs => match oe env x, oel env xs with
    | some v, some vs => some (v.nz :: vs)
    | _, _ => none
theorem oel_ok {w : World} {S : Nat → Nat} {ι : Nat → Option Nat} {a : Act} (r : ER w S ι h env a.tmps) : ∀ {xs : List Operand} {vs : List V}, oel env xs = some vs → RVs w S ι h vs (xs.map a.eval)
  | [], vs, hv => by simp only [oel] at hv; injection hv with hv; subst hv; exact ⟨rfl, fun j x u h1 => by simp at h1⟩
  | x :: xs, vs, hv => by
    simp only [oel] at hv
    split at hv
    · rename_i v vs' h1 h2
      injection hv with hv; subst hv
      obtain ⟨l1, l2⟩ := oel_ok r h2
      refine ⟨by simpa using l1, fun j y u g1 g2 => ?_⟩
      cases j with
      | zero => simp at g1 g2; subst g1; subst g2; exact (oe_ok r h1).nz
      | succ j => exact l2 j y u (by simpa using g1) (by simpa using g2)
    · cases hv
/-- A function that neither reads nor leaves anything of the call's own. -/
def Pu (P : Program) (f : FuncId) (xs : List V) (v : V) : Prop := Callable P f ∧ Fn P f xs [] (fun r _ => r = v)
open Classical in
theorem OpOk.call {f : FuncId} {xs : Array Operand} {ts : Array Nat} {vs : List V} (ho : o.op = .call { callee := .value (.func f), args := xs, argTypes := ts }) (hF : Pu P f vs v) (hx : oel env xs.toList = some vs) (hp : vs.all V.pur = true) (hv : v.pur = true) : OpOk P n o env h v h := by
  constructor; intro w S ι a r1 r2 r3 r4 N Q' hN
  have hrun : (execOp a.eval o).run P w = .ok (.enter f (xs.map a.eval)) w := by
    simp only [execOp, ho, resolve, Act.eval, Deferred.ofValue, Sem.run_bind, Sem.run_pure, Result.andThen_ok, invoke]
    rw [hF.1]; simp
  unfold Oper.wp
  rw [hrun, Oper.upon_enter]
  let ow : Nat → Prop := fun B => ∃ b blk, h[b]? = some blk ∧ blk.al ∧ ι b = some B
  let Sc : Nat → Nat := fun B => if ow B then 1 else S B
  have hS2 : ∀ B, S B ≠ 0 → ¬ ow B := fun B hB ⟨b, blk, g1, g2, g3⟩ => hB (r1.own b blk B g1 g2 g3).1
  have hSc : ∀ B, S B ≠ 0 → Sc B = S B := fun B hB => if_neg (hS2 B hB)
  have hrc : HR w Sc (fun _ => none) [] := by
    refine ⟨fun B hB => ?_, fun b blk B hq => by simp at hq, fun b b' blk blk' B hq => by simp at hq, fun b cs hq => by simp at hq, fun b es sz hq => by simp at hq⟩
    by_cases ho : ow B
    · obtain ⟨b, blk, g1, g2, g3⟩ := ho; exact (r1.own b blk B g1 g2 g3).2
    · exact r1.low B (by simpa [Sc, ho] using hB)
  have hargs : RVs w Sc (fun _ => none) [] vs (xs.map a.eval).toList := by
    have := oel_ok r2 hx
    refine ⟨by simpa using this.1, fun j x u g1 g2 => ?_⟩
    have := this.2 j x u g1 (by simpa using g2)
    exact RV.move (fun B hB => ⟨by rw [hSc B (by omega)]; exact hB, rfl⟩) (List.all_eq_true.1 hp x (List.mem_of_getElem? g1)) this
  refine (hF.2.out w Sc (fun _ => none) (xs.map a.eval) hrc hargs).mono ?_
  rintro e w' ⟨x, u, S', ι', h', rfl, k1, k2, k3, rfl⟩
  let S2 : Nat → Nat := fun B => if ow B then 0 else S' B
  obtain ⟨m1, m2⟩ := r1.ext (w' := w') (S' := S2) (fun B hB => (k2.st B (by
      rcases hB with hB | hB
      · rw [hSc B hB]; exact hB
      · have : Sc B = 1 := if_pos hB
        omega)).2) k2.sz (fun B hB => by
      have h1 : S2 B = S' B := if_neg (hS2 B hB)
      rw [h1, (k2.st B (by rw [hSc B hB]; exact hB)).1, hSc B hB]) (fun B hB => k1.low B (by
      intro h0
      by_cases ho : ow B
      · exact hB (if_pos ho)
      · exact hB ((if_neg ho).trans h0))) (fun b blk B g1 g2 g3 => if_pos ⟨b, blk, g1, g2, g3⟩) k2.kp
  refine hN w' S2 ι u m1 m2 (RV.move (fun B hB => ⟨?_, rfl⟩) hv k3)
  have hno : ¬ ow B := fun ho => by
    have h1 : Sc B = 1 := if_pos ho
    have h2 := (k2.st B (by omega)).1
    omega
  exact (if_neg hno).trans hB
end
end Go.YtamlleimfopmhaaMc

namespace Go.YtamlleimfopmhaaMc
/-! ### What was made stays as it is from here on -/
inductive FrzC (h : List Blk) (m : Nat) : C → C → Prop
  | sl {b off len sz : Nat} {es : List (List C)} {es' : List (List T)} (hm : m.ble b = true) (hb : h[b]? = some (.arr es sz)) (he : es = es'.map (·.map .t)) : FrzC h m (.sl b es.length off len) (.t (.l ((es'.drop off).take len)))
  | emp : FrzC h m .emp (.t (.l []))
  | id {c : C} (hl : c.low m = true) : FrzC h m c c
inductive FrzL (h : List Blk) (m : Nat) : List C → List C → Prop
  | nil : FrzL h m [] []
  | cons {c c' : C} {cs cs' : List C} (hc : FrzC h m c c') (hs : FrzL h m cs cs') : FrzL h m (c :: cs) (c' :: cs')
inductive FrzX (h : List Blk) (m : Nat) : X → X → Prop
  | c {x y : C} (hc : FrzC h m x y) : FrzX h m (.c x) (.c y)
  | ag {x y : List C} (hc : FrzL h m x y) : FrzX h m (.ag x) (.ag y)
inductive FrzXs (h : List Blk) (m : Nat) : List X → List X → Prop
  | nil : FrzXs h m [] []
  | cons {c c' : X} {cs cs' : List X} (hc : FrzX h m c c') (hs : FrzXs h m cs cs') : FrzXs h m (c :: cs) (c' :: cs')
section
variable {w : World} {S : Nat → Nat} {ι : Nat → Option Nat} {h : List Blk} {m : Nat}
def late (ι : Nat → Option Nat) (h : List Blk) (m : Nat) (B : Nat) : Prop := ∃ b blk, m ≤ b ∧ h[b]? = some blk ∧ blk.al ∧ ι b = some B
open Classical in
noncomputable def frS (S : Nat → Nat) (ι : Nat → Option Nat) (h : List Blk) (m : Nat) : Nat → Nat := fun B => if late ι h m B then 2 else S B
theorem frS_old (r : HR w S ι h) {B : Nat} (hB : S B ≠ 0) : frS S ι h m B = S B := if_neg fun ⟨b, blk, _, g1, g2, g3⟩ => hB (r.own b blk B g1 g2 g3).1
theorem take_get {b : Nat} {blk : Blk} (hq : (h.take m)[b]? = some blk) : b < m ∧ h[b]? = some blk := by
  rw [List.getElem?_take] at hq
  split at hq
  · exact ⟨by assumption, hq⟩
  · cases hq
theorem HR.frz (r : HR w S ι h) (hl : (h.take m).all (·.low m) = true) : HR w (frS S ι h m) ι (h.take m) ∧ Pres w S ι (h.take m) w (frS S ι h m) ι (h.take m) := by
  refine (r.take hl).ext (fun _ _ => rfl) (Nat.le_refl _) (fun B hB => frS_old r hB) (fun B hB => ?_) (fun b blk B g1 g2 g3 => ?_)
  · by_cases hla : late ι h m B
    · obtain ⟨b, blk, _, g1, g2, g3⟩ := hla; exact (r.own b blk B g1 g2 g3).2
    · exact r.low B (by simpa [frS, hla] using hB)
  · obtain ⟨hbm, g1⟩ := take_get g1
    have : ¬ late ι h m B := fun ⟨b', blk', k0, k1, k2, k3⟩ => by
      have := r.inj b b' blk blk' B g1 k1 g2 k2 g3 k3; omega
    show frS S ι h m B = 0
    unfold frS; rw [if_neg this]; exact (r.own b blk B g1 g2 g3).1
theorem RC.frz (r : HR w S ι h) (hl : (h.take m).all (·.low m) = true) {c c' : C} {u : Value} (hc : FrzC h m c c') (rc : RC w S ι h c u) : RC w (frS S ι h m) ι (h.take m) c' u := by
  have hp := (r.frz hl).2
  cases hc with
  | emp => exact RC.mono hp (RC.take (c := .t (.l [])) rfl rc.nz)
  | id hl' => exact RC.mono hp (RC.take hl' rc)
  | @sl b off len sz es es' hm hb he =>
    have hm : m ≤ b := by simpa using hm
    obtain ⟨_, rc⟩ := rc
    obtain ⟨hle, rc⟩ := (rc es sz hb).2 rfl
    obtain ⟨z0, hlen, hA⟩ := r.arr b es sz hb
    have hll : ((es'.drop off).take len).length = len := by rw [he] at hle; simp at hle; simp; omega
    show RT w (frS S ι h m) (.l ((es'.drop off).take len)) u
    cases hB : ι b with
    | none =>
      rw [hB] at rc; obtain ⟨A, rfl⟩ := rc
      rcases hA with ⟨h0, _⟩ | ⟨B, vs, e, j1, _⟩
      · have : es.length = 0 := by rw [h0]; rfl
        have : len = 0 := by omega
        subst this
        have e0 : (es'.drop off).take 0 = [] := by simp
        rw [e0]
        exact RT.l [] A 0 0 (fun _ _ => undef) (by simp) (by simp) (.inl rfl) (by simp)
      · rw [hB] at j1; cases j1
    | some B =>
      rw [hB] at rc
      obtain ⟨cap, rfl, hcap, _⟩ := rc
      have hB2 : frS S ι h m B = 2 := if_pos ⟨b, _, hm, hb, trivial, hB⟩
      rcases hA with ⟨h0, _⟩ | ⟨B', vs, e, j1, j2, j3, j4⟩
      · have : es.length = 0 := by rw [h0]; rfl
        have : len = 0 := by omega
        subst this
        have e0 : (es'.drop off).take 0 = [] := by simp
        rw [e0]
        exact RT.l [] _ cap 0 (fun _ _ => undef) (by simp) (by simp) (.inl rfl) (by simp)
      · rw [hB] at j1; injection j1 with j1; subst j1
        rw [← hll] at hcap
        have hget : ∀ (i : Nat) el (j : Nat) t, ((es'.drop off).take len)[i]? = some el → el[j]? = some t → ∃ v, vs[(off + i) * sz + j]? = some v ∧ RT w S t v := fun i el j t g1 g2 => by
          rw [List.getElem?_take] at g1
          split at g1
          · rw [List.getElem?_drop] at g1
            exact j4 (off + i) (el.map .t) j (.t t) (by rw [he]; simp [g1]) (by simp [g2])
          · cases g1
        have := RT.l (w := w) (S := frS S ι h m) ((es'.drop off).take len) (some ⟨B, off * sz, none⟩) cap sz (fun i j => (vs[(off + i) * sz + j]?).getD undef) hcap (fun el hel => by
          have h1 := List.mem_of_mem_drop (List.mem_of_mem_take hel)
          have := hlen (el.map .t) (by rw [he]; exact List.mem_map.2 ⟨el, h1, rfl⟩)
          simpa using this) (.inr ⟨B, off * sz, rfl, hB2, fun i el j t g1 g2 => by
            obtain ⟨v, k1, _⟩ := hget i el j t g1 g2
            rw [cell_of j2, k1, show off * sz + i * sz + j = (off + i) * sz + j by rw [Nat.add_mul], k1]; rfl⟩) (fun i el j t g1 g2 => by
            obtain ⟨v, k1, k2⟩ := hget i el j t g1 g2
            rw [k1]
            exact RT.mono hp.two k2)
        rw [hll] at this
        exact this
theorem FrzL.ok (r : HR w S ι h) (hl : (h.take m).all (·.low m) = true) : ∀ {cs cs' : List C} {us : List Value}, FrzL h m cs cs' → RCs w S ι h cs us → RCs w (frS S ι h m) ι (h.take m) cs' us
  | _, _, us, .nil, hr => ⟨hr.1, fun j c u h1 => by simp at h1⟩
  | _, _, [], .cons hc hs, hr => by have := hr.1; simp at this
  | _, _, u :: us, .cons hc hs, hr => by
    have ih := FrzL.ok r hl (us := us) hs ⟨by have := hr.1; simpa using this, fun j c v g1 g2 => hr.2 (j + 1) c v (by simpa using g1) (by simpa using g2)⟩
    refine ⟨by simpa using ih.1, fun j c v g1 g2 => ?_⟩
    cases j with
    | zero => simp at g1 g2; subst g1; subst g2; exact RC.frz r hl hc (hr.2 0 _ _ rfl rfl)
    | succ j => exact ih.2 j c v (by simpa using g1) (by simpa using g2)
theorem FrzX.ok (r : HR w S ι h) (hl : (h.take m).all (·.low m) = true) {x x' : X} {u : Value} (hx : FrzX h m x x') (rx : RX w S ι h x u) : RX w (frS S ι h m) ι (h.take m) x' u := by
  cases hx with
  | c hc => exact RC.frz r hl hc rx
  | ag hc => obtain ⟨vs, e, rx⟩ := rx; exact ⟨vs, e, hc.ok r hl rx⟩
theorem FrzXs.len {xs xs' : List X} (hx : FrzXs h m xs xs') : xs.length = xs'.length := by
  induction hx with
  | nil => rfl
  | cons _ _ ih => simp [ih]
theorem FrzXs.get {xs xs' : List X} (hx : FrzXs h m xs xs') : ∀ (j : Nat) x', xs'[j]? = some x' → ∃ x, xs[j]? = some x ∧ FrzX h m x x' := by
  induction hx with
  | nil => intro j x' g; simp at g
  | cons hc _ ih =>
    intro j x' g
    cases j with
    | zero => simp at g; subst g; exact ⟨_, rfl, hc⟩
    | succ j => simpa using ih j x' (by simpa using g)
theorem FrzXs.ok (r : HR w S ι h) (hl : (h.take m).all (·.low m) = true) {xs xs' : List X} {u : Value} (hx : FrzXs h m xs xs') (rv : RV w S ι h (resV xs) u) : RV w (frS S ι h m) ι (h.take m) (resV xs') u := by
  match xs, xs', hx with
  | [x], [y], .cons hc .nil =>
    have rx : RX w S ι h x u := by cases x <;> exact rv
    exact (hc.ok r hl rx).v
  | [], [], .nil => obtain ⟨vs, e, l, r⟩ := rv; exact ⟨vs, e, l, fun j x u g => by simp at g⟩
  | x :: x2 :: xs, y :: y2 :: ys, hx =>
    obtain ⟨vs, e, l, rr⟩ := rv
    refine ⟨vs, e, by rw [← hx.len]; exact l, fun j z u g1 g2 => ?_⟩
    obtain ⟨z0, k1, k2⟩ := hx.get j z g1
    exact k2.ok r hl (rr j z0 u k1 g2)
theorem Pres.frz {w0 : World} {S0 : Nat → Nat} {ι0 : Nat → Option Nat} {h0 : List Blk} (p : Pres w0 S0 ι0 h0 w S ι h) (r : HR w S ι h) (hm : h0.length ≤ m) (hl : (h.take m).all (·.low m) = true) : Pres w0 S0 ι0 h0 w (frS S ι h m) ι (h.take m) :=
  (p.take hm).trans (r.frz hl).2
end
section
variable {P : Program} {h : List Blk}
/-- A function, by its body; what it made behind the blocks that were there stays as it is. -/
theorem Fn.ofz {fn : Func} {c : Code} {f : FuncId} {xs : List V} {Q' : V → List Blk → Prop} (D : Tab P) (hf : P.funcs[f]? = some fn) (hc : fn.body = some c) (hn : xs.length ≤ fn.ntmps)
    (hw : W P fn.ntmps c (args 0 xs) h (fun e env' h' => (e = .n ∨ e = .r) ∧ ∃ ys zs, resXs D.f env' h' (fn.results.toList.map rvOf) = some ys ∧ (h'.take h.length).all (·.low h.length) = true ∧ FrzXs h' h.length ys zs ∧ Q' (resV zs) (h'.take h.length))) : Fn P f xs h Q' := by
  constructor; intro w S ι us r1 hr
  refine calls_of_wp hf hc ?_
  have hl : us.size ≤ fn.ntmps := by have := hr.1; simp at this; omega
  refine wp_mono (hw.out w S ι { tmps := us ++ Array.replicate (fn.ntmps - us.size) undef, defers := [] } r1 (args_ok xs us.toList 0 hr (fun j u hu => ?_)) (by simp; omega) rfl) ?_
  · have hj : j < us.size := by have := (List.getElem?_eq_some_iff.1 hu).1; simpa using this
    simp only [Nat.zero_add]
    rw [Array.getElem?_append_left hj]; simpa using hu
  · rintro e a' w' ⟨env', h', S', ι', e', rfl, k2, k3, k4, k5, k6, hen, ys, zs, q1, q2, q3, q4⟩
    obtain ⟨u, g1, g2⟩ := results_ok D k4 k6 q1
    have : ∃ v, (results fn a'.tmps).run P w' = .ok v w' ∧ (∃ x u S' ι' h'', Ending.returned v = .returned u ∧ HR w' S' ι' h'' ∧ Pres w S ι h w' S' ι' h'' ∧ RV w' S' ι' h'' x u ∧ Q' x h'') :=
      ⟨u, g1, _, u, _, ι', h'.take h.length, rfl, (k4.frz q2).1, k5.frz k4 (Nat.le_refl _) q2, q3.ok k4 q2 g2, q4⟩
    rcases hen with rfl | rfl <;> exact ⟨k3, this⟩
/-- What a pure function's body must come to. -/
def Rt (D : Tab P) (fn : Func) (v : V) (e : Ex) (env' : Env) (h' : List Blk) : Prop := (e = .n ∨ e = .r) ∧ ∃ ys zs, resXs D.f env' h' (fn.results.toList.map rvOf) = some ys ∧ FrzXs h' 0 ys zs ∧ resV zs = v
theorem Pu.of {fn : Func} {c : Code} {f : FuncId} {xs : List V} {v : V} (D : Tab P) (hf : P.funcs[f]? = some fn) (hc : fn.body = some c) (hn : xs.length.ble fn.ntmps = true) (hnm : (fn.name == "runtime.NumGoroutine") = false)
    (hw : W P fn.ntmps c (args 0 xs) [] (Rt D fn v)) : Pu P f xs v :=
  ⟨.of hf (by rw [hc]; rfl) hnm, .ofz D hf hc (by simpa using hn) (hw.mono fun e env' h' ⟨q1, ys, zs, q2, q3, q4⟩ => ⟨q1, ys, zs, q2, by simp, q3, q4⟩)⟩
end
end Go.YtamlleimfopmhaaMc
namespace Go.YtamlleimfopmhaaMc
section
variable {P : Program} {n : Nat} {ops : Array Oper} {env : Env} {h h1 : List Blk} {K : Env → List Blk → Prop} {v : V} {i j d : Nat} {rest : List Nat} {g : Bool} {Q : Ex → Env → List Blk → Prop} {N : Env → List Blk → Prop} {id : Nat}
theorem Then.rn (h : N env h1) : Then N Q .n env h1 := h
theorem Then.rr (h : Q .r env h1) : Then N Q .r env h1 := h
theorem Then.rx (h : Q (.x id) env h1) : Then N Q (.x id) env h1 := h
theorem InBlk.rn (h : Q .n env h1) : InBlk id Q .n env h1 := h
theorem InBlk.rr (h : Q .r env h1) : InBlk id Q .r env h1 := h
theorem InBlk.re (h : Q .n env h1) : InBlk id Q (.x id) env h1 := by simpa [InBlk] using h
theorem InBlk.rx (hj : (j == id) = false) (h : Q (.x j) env h1) : InBlk id Q (.x j) env h1 := by
  have : ¬ j = id := by simpa using hj
  simpa [InBlk, this] using h
/-- Whether an operation's guard is met. -/
def grd (ops : Array Oper) (env : Env) : Option (Nat × Bool) → Option Bool
  | none => some true
  | some (j, g) => match ops[j]? with
    | some oj => match oj.dst with
      | some d => match env.lookup d with
        | some (.c (.t (.b x))) => some (x == g)
        | some (.tu []) => some false
        | _ => none
      | none => none
    | none => none
theorem grd_ok {gd : Option (Nat × Bool)} {x : Bool} (hg : grd ops env gd = some x) {o : Oper} (ho : o.guard = gd) (w : World) (S : Nat → Nat) (ι : Nat → Option Nat) (a : Act) (r2 : ER w S ι h env a.tmps) : Region.wanted o (yielded ops a.tmps) = x := by
  subst ho
  unfold grd at hg
  unfold Region.wanted
  split at hg
  · rename_i e; injection hg with hg; subst hg; simp [e]
  · rename_i j g e
    split at hg
    · rename_i oj h1
      split at hg
      · rename_i d h2
        split at hg
        · rename_i x' h3; injection hg with hg; subst hg; simp [e, yielded_of r2 h1 h2 h3]
        · rename_i h3; injection hg with hg; subst hg
          obtain ⟨l, vs, hu, hz, _⟩ := r2 d _ h3
          have hv : vs = #[] := Array.size_eq_zero_iff.1 (by simpa using hz.symm)
          have : a.tmps[d]? = some (.tuple #[]) := by rw [← hv, ← hu]; simp [Array.getD_eq_getD_getElem?, l]
          simp [e, yielded, h1, h2, this]
        · cases hg
      · cases hg
    · cases hg
variable {e' : Nat} {p : Op} {ty : Nat} {ps : String} {af : Array Edge} {gd : Option (Nat × Bool)}
theorem WO.o (hi : ops[i]? = some ⟨some e', p, ty, ps, af, gd⟩) (hg : grd ops env gd = some true) (hok : OpOk P n ⟨some e', p, ty, ps, af, gd⟩ env h v h1) (hd : e'.blt n = true) (hr : WO P n ops rest ((e', v) :: env) h1 K) : WO P n ops (i :: rest) env h K :=
  .step hi (fun w S ι a r2 => grd_ok hg rfl w S ι a r2) (by simpa [dok, Nat.blt_eq] using hd) hok hr
theorem WO.u (hi : ops[i]? = some ⟨some e', p, ty, ps, af, gd⟩) (hg : grd ops env gd = some false) (hd : e'.blt n = true) (hr : WO P n ops rest ((e', .tu []) :: env) h K) : WO P n ops (i :: rest) env h K := by
  constructor; intro w S ι a r1 r2 r3 r4 Q' hQ
  have hw := grd_ok hg (o := ⟨some e', p, ty, ps, af, gd⟩) rfl w S ι a r2
  simp only [wpOps, hi, hw]
  exact hr.out w S ι _ r1 (pu_ok (d := some e') r2 (by rw [r3]; simpa [dok, Nat.blt_eq] using hd) (v := .tu []) ⟨#[], rfl, rfl, fun j x v h1 _ => by simp at h1⟩) (by rw [put_size]; exact r3) (by rw [put_defers]; exact r4) Q' hQ
/-- Sums that fit. -/
theorem OpOk.add {o : Oper} {t t' : Nat} {x y : Operand} {a b : Int} (ho : o.op = .binOp .add t x y t') (hx : oe env x = some (.c (.t (.i .i64 a)))) (hy : oe env y = some (.c (.t (.i .i64 b)))) (hb : -9223372036854775808 ≤ a + b ∧ a + b ≤ 9223372036854775807) : OpOk P n o env h (.c (.t (.i .i64 (a + b)))) h := by
  have := OpOk.ibin (P := P) (n := n) (h := h) ho hx hy (r := .i .i64 (IntKind.i64.wrap (a + b))) rfl
  have e : IntKind.i64.wrap (a + b) = a + b := by simp [IntKind.wrap, IntKind.bits, IntKind.signed]; omega
  rwa [e] at this
theorem OpOk.inc {o : Oper} {t t' : Nat} {x y : Operand} {a : Nat} (ho : o.op = .binOp .add t x y t') (hx : oe env x = some (.c (.t (.i .i64 (a : Int))))) (hy : oe env y = some (.c (.t (.i .i64 1)))) (hb : a < 9223372036854775807) : OpOk P n o env h (.c (.t (.i .i64 ((a + 1 : Nat) : Int)))) h := by
  have := OpOk.add (P := P) (n := n) (h := h) ho hx hy (by omega)
  exact this
theorem OpOk.sub {o : Oper} {t t' : Nat} {x y : Operand} {a b : Int} (ho : o.op = .binOp .sub t x y t') (hx : oe env x = some (.c (.t (.i .i64 a)))) (hy : oe env y = some (.c (.t (.i .i64 b)))) (hb : -9223372036854775808 ≤ a - b ∧ a - b ≤ 9223372036854775807) : OpOk P n o env h (.c (.t (.i .i64 (a - b)))) h := by
  have := OpOk.ibin (P := P) (n := n) (h := h) ho hx hy (r := .i .i64 (IntKind.i64.wrap (a - b))) rfl
  have e : IntKind.i64.wrap (a - b) = a - b := by simp [IntKind.wrap, IntKind.bits, IntKind.signed]; omega
  rwa [e] at this
/-- The address of an element, of data that a function lays out. -/
theorem OpOk.ixM (D : Tab P) {o : Oper} {α : Type} {t e : Nat} {x y : Operand} {xs : List α} {enc : α → List T} {k : IntKind} {m : Nat} {i ie : TI} (ho : o.op = .indexAddr t x y) (ht : D.f t = some i) (hk : i.k = .sl e) (hte : D.f e = some ie) (hx : oe env x = some (.c (.t (.l (xs.map enc))))) (hy : oe env y = some (.c (.t (.i k (m : Int)))))
    (hm : m < xs.length) (hl : ∀ y, (enc y).length = ie.size) : OpOk P n o env h (.c (.fa (enc xs[m]))) h :=
  .ixF D ho ht hk hte hx hy (by omega) (by simp [hm]) (hl _)
theorem OpOk.lenS (D : Tab P) {o : Oper} {x : Operand} {t : Nat} {i : TI} {s : List UInt8} (ho : o.op = .call { callee := .builtin .len, args := #[x], argTypes := #[t] }) (ht : D.f t = some i) (hk : i.k = .str) (hx : oe env x = some (.c (.t (.s s)))) : OpOk P n o env h (.c (.t (.i .i64 (s.length : Nat)))) h :=
  .len D ho ht (.inr ⟨hk, _, rfl⟩) hx rfl
theorem OpOk.lenL (D : Tab P) {o : Oper} {x : Operand} {t e : Nat} {i : TI} {es : List (List T)} (ho : o.op = .call { callee := .builtin .len, args := #[x], argTypes := #[t] }) (ht : D.f t = some i) (hk : i.k = .sl e) (hx : oe env x = some (.c (.t (.l es)))) : OpOk P n o env h (.c (.t (.i .i64 (es.length : Nat)))) h :=
  .len D ho ht (.inl ⟨e, hk, fun s e => by cases e⟩) hx rfl
theorem OpOk.lenM (D : Tab P) {o : Oper} {x : Operand} {t e : Nat} {i : TI} {α : Type} {xs : List α} {enc : α → List T} (ho : o.op = .call { callee := .builtin .len, args := #[x], argTypes := #[t] }) (ht : D.f t = some i) (hk : i.k = .sl e) (hx : oe env x = some (.c (.t (.l (xs.map enc))))) : OpOk P n o env h (.c (.t (.i .i64 (xs.length : Nat)))) h := by
  have := OpOk.lenL (P := P) (n := n) (h := h) D ho ht hk hx
  rwa [List.length_map] at this
theorem OpOk.lenA (D : Tab P) {o : Oper} {x : Operand} {t e b q off len : Nat} {i : TI} {es : List (List C)} {sz : Nat} (ho : o.op = .call { callee := .builtin .len, args := #[x], argTypes := #[t] }) (ht : D.f t = some i) (hk : i.k = .sl e) (hx : oe env x = some (.c (.sl b q off len))) (hb : h[b]? = some (.arr es sz)) (hq : q = es.length) : OpOk P n o env h (.c (.t (.i .i64 (len : Nat)))) h :=
  .len D ho ht (.inl ⟨e, hk, fun s e => by cases e⟩) hx (by simp only [lenV, hb, if_pos hq])
theorem OpOk.lenE (D : Tab P) {o : Oper} {x : Operand} {t e : Nat} {i : TI} (ho : o.op = .call { callee := .builtin .len, args := #[x], argTypes := #[t] }) (ht : D.f t = some i) (hk : i.k = .sl e) (hx : oe env x = some (.c .emp)) : OpOk P n o env h (.c (.t (.i .i64 0))) h :=
  .len D ho ht (.inl ⟨e, hk, fun s e => by cases e⟩) hx rfl
end
end Go.YtamlleimfopmhaaMc

namespace Go.YtamlleimfopmhaaMc
/-! ### Regions whose order is open -/
def usesOf (ops : Array Oper) (o : Oper) : List Nat :=
  (o.op.operands.toList.filterMap fun | .tmp t => some t | _ => none) ++ (match o.guard with
    | some (j, _) => match ops[j]? with
      | some oj => oj.dst.toList
      | none => []
    | none => [])
def rst (us : List Nat) (E : Env) : Env := us.filterMap fun t => (E.lookup t).map fun v => (t, v)
theorem rst_lookup {us : List Nat} {E : Env} {t : Nat} {v : V} (h : (rst us E).lookup t = some v) : t ∈ us ∧ E.lookup t = some v := by
  induction us with
  | nil => cases h
  | cons u us ih =>
    unfold rst at h
    rw [List.filterMap_cons] at h
    cases hu : E.lookup u with
    | none => rw [hu] at h; simp only [Option.map_none] at h; have := ih h; exact ⟨List.mem_cons_of_mem _ this.1, this.2⟩
    | some x =>
      rw [hu] at h
      simp only [Option.map_some, List.lookup_cons] at h
      by_cases e : t = u
      · subst e; simp only [beq_self_eq_true] at h; injection h with h; subst h; exact ⟨List.mem_cons_self .., hu⟩
      · have e' : (t == u) = false := by simpa using e
        rw [e'] at h; have := ih h; exact ⟨List.mem_cons_of_mem _ this.1, this.2⟩
inductive WD (P : Program) (n : Nat) (ops : Array Oper) (h : List Blk) (K : Env → List Blk → Prop) (m : Nat) : Nat → Env → Prop
  | done {i : Nat} {E : Env} (hi : ops.size.ble i = true) (hk : K E h) : WD P n ops h K m i E
  | o {i e' : Nat} {E : Env} {v : V} {p : Op} {ty : Nat} {ps : String} {af : Array Edge} {gd : Option (Nat × Bool)} (hi : ops[i]? = some ⟨some e', p, ty, ps, af, gd⟩) (hg : grd ops (rst (usesOf ops ⟨some e', p, ty, ps, af, gd⟩) E) gd = some true)
      (hok : OpOk P n ⟨some e', p, ty, ps, af, gd⟩ (rst (usesOf ops ⟨some e', p, ty, ps, af, gd⟩) E) h v h) (hd : e'.blt n = true) (hr : WD P n ops h K m (i + 1) ((e', v) :: E)) : WD P n ops h K m i E
  | u {i e' : Nat} {E : Env} {p : Op} {ty : Nat} {ps : String} {af : Array Edge} {gd : Option (Nat × Bool)} (hi : ops[i]? = some ⟨some e', p, ty, ps, af, gd⟩) (hg : grd ops (rst (usesOf ops ⟨some e', p, ty, ps, af, gd⟩) E) gd = some false)
      (hd : e'.blt n = true) (hr : WD P n ops h K m (i + 1) ((e', .tu []) :: E)) : WD P n ops h K m i E
  | t {i : Nat} {E : Env} (him : i = m) (hw : WO P n ops ((List.range ops.size).drop i) E h K) (hlt : i.blt ops.size = true) : WD P n ops h K m i E
/-- What must come before an operation, as a mask. -/
def bm (ops : List Oper) : List Nat := ops.foldl (fun acc o => acc ++ [o.after.foldl (fun s e => if Region.binds .any e then s ||| (2 ^ e.on) ||| acc.getD e.on 0 else s) 0]) []
/-- Each two operations of which one writes what the other names are in order; from the m-th on each follows all before it. -/
def dchk (ops : Array Oper) (m : Nat) : Bool :=
  let b := bm ops.toList
  (List.range ops.size).all fun i => match ops[i]? with
    | none => false
    | some o => (o.after.all fun e => !Region.binds .any e || e.on < i) &&
      ((List.range ops.size).all fun k => k == i || (match ops[k]? with
        | none => true
        | some ok => match ok.dst with
          | none => true
          | some d => !((usesOf ops o).contains d || o.dst == some d) || (b.getD i 0).testBit k || (b.getD k 0).testBit i)) &&
      (i < m || (List.range i).all fun k => (b.getD i 0).testBit k)
section
variable {P : Program} {n : Nat} {ops : Array Oper} {h : List Blk} {K : Env → List Blk → Prop}
def envL (L : Nat → Bool) (env : Env) : List (Nat × V) → Nat → Env
  | [], _ => env
  | x :: pv, i => envL L (if L i then x :: env else env) pv (i + 1)
theorem envL_snoc (L : Nat → Bool) : ∀ (pv : List (Nat × V)) (env : Env) (i : Nat) (x : Nat × V), envL L env (pv ++ [x]) i = if L (i + pv.length) then x :: envL L env pv i else envL L env pv i
  | [], env, i, x => by simp only [List.nil_append, envL, List.length_nil, Nat.add_zero]
  | y :: pv, env, i, x => by
    simp only [List.cons_append, envL]
    rw [envL_snoc L pv _ (i + 1) x, List.length_cons, show i + 1 + pv.length = i + (pv.length + 1) by omega]
/-- What a temporary reads, of the operations that have run. -/
theorem envL_lookup (L : Nat → Bool) (t : Nat) (env : Env) : ∀ (m : Nat) (pv : List (Nat × V)), pv.length = m →
    ((∀ k x, pv[k]? = some x → x.1 = t → L k = false) ∧ (envL L env pv 0).lookup t = env.lookup t) ∨
    (∃ k x, pv[k]? = some x ∧ x.1 = t ∧ L k = true ∧ (∀ k' x', k < k' → pv[k']? = some x' → x'.1 = t → L k' = false) ∧ (envL L env pv 0).lookup t = some x.2) := by
  intro m
  induction m with
  | zero => intro pv hm; have := List.length_eq_zero_iff.1 hm; subst this; exact .inl ⟨fun k x h => by simp at h, rfl⟩
  | succ m ih =>
    intro pv hm
    obtain ⟨pv', x, rfl⟩ : ∃ pv' x, pv = pv' ++ [x] := ⟨pv.dropLast, pv.getLast (by intro e; subst e; simp at hm), (List.dropLast_concat_getLast _).symm⟩
    have hm' : pv'.length = m := by simpa using hm
    rw [envL_snoc, Nat.zero_add, hm']
    have hx : (pv' ++ [x])[m]? = some x := by rw [← hm']; simp
    have hget : ∀ k y, (pv' ++ [x])[k]? = some y → (k < m ∧ pv'[k]? = some y) ∨ (k = m ∧ y = x) := fun k y hy => by
      rcases Nat.lt_or_ge k m with hk | hk
      · rw [List.getElem?_append_left (by omega)] at hy; exact .inl ⟨hk, hy⟩
      · have hk' : k = m := by have := (List.getElem?_eq_some_iff.1 hy).1; simp at this; omega
        subst hk'; rw [hx] at hy; exact .inr ⟨rfl, by injection hy with hy; exact hy.symm⟩
    by_cases hcase : L m = true ∧ x.1 = t
    · obtain ⟨h1, h2⟩ := hcase
      refine .inr ⟨m, x, hx, h2, h1, fun k' x' hk hk' => ?_, ?_⟩
      · rcases hget k' x' hk' with ⟨a, _⟩ | ⟨a, _⟩ <;> omega
      · rw [if_pos h1, ← h2]; cases x; simp [List.lookup_cons]
    · have hl : (if L m then x :: envL L env pv' 0 else envL L env pv' 0).lookup t = (envL L env pv' 0).lookup t := by
        by_cases h1 : L m = true
        · rw [if_pos h1]
          have h2 : ¬ t = x.1 := fun e => hcase ⟨h1, e.symm⟩
          cases x with
          | mk a b => rw [List.lookup_cons]; have : (t == a) = false := by simpa using h2
                      rw [this]
        · rw [if_neg h1]
      rw [hl]
      have hm0 : x.1 = t → L m = false := fun e => by cases hL : L m; rfl; exact (hcase ⟨hL, e⟩).elim
      rcases ih pv' hm' with ⟨a, b⟩ | ⟨k, y, a, b, c, d, e⟩
      · refine .inl ⟨fun k y hk hy => ?_, b⟩
        rcases hget k y hk with ⟨_, g⟩ | ⟨rfl, rfl⟩
        · exact a k y g hy
        · exact hm0 hy
      · refine .inr ⟨k, y, by rw [List.getElem?_append_left (List.getElem?_eq_some_iff.1 a).1]; exact a, b, c, fun k' x' hk hk' hx' => ?_, e⟩
        rcases hget k' x' hk' with ⟨_, g⟩ | ⟨rfl, rfl⟩
        · exact d k' x' hk g hx'
        · exact hm0 hx'
/-- Two ways to run: they read a temporary alike if they agree on who has written it. -/
theorem envL_agree {L L' : Nat → Bool} {t : Nat} {env : Env} {pv : List (Nat × V)} (h : ∀ k x, pv[k]? = some x → x.1 = t → L k = L' k) : (envL L env pv 0).lookup t = (envL L' env pv 0).lookup t := by
  rcases envL_lookup L t env _ pv rfl with ⟨a, b⟩ | ⟨k, x, a, b, c, d, e⟩ <;> rcases envL_lookup L' t env _ pv rfl with ⟨a', b'⟩ | ⟨k', x', a', b', c', d', e'⟩
  · rw [b, b']
  · have := a k' x' a' b'; rw [h k' x' a' b', c'] at this; cases this
  · have := a' k x a b; rw [← h k x a b, c] at this; cases this
  · rw [e, e']
    rcases Nat.lt_trichotomy k k' with g | g | g
    · have := d k' x' g a' b'; rw [h k' x' a' b', c'] at this; cases this
    · subst g; rw [a] at a'; injection a' with a'; rw [a']
    · have := d' k x g a b; rw [← h k x a b, c] at this; cases this

theorem envL_true (L : Nat → Bool) : ∀ (pv : List (Nat × V)) (env : Env) (i : Nat), (∀ k, k < pv.length → L (i + k) = true) → envL L env pv i = pv.reverse ++ env
  | [], env, i, _ => rfl
  | x :: pv, env, i, hL => by
    have h0 := hL 0 (by simp)
    simp only [Nat.add_zero] at h0
    simp only [envL, h0, if_true]
    rw [envL_true L pv _ (i + 1) (fun k hk => by rw [show i + 1 + k = i + (k + 1) by omega]; exact hL (k + 1) (by simpa using hk))]
    simp
theorem envL_lt (m : Nat) : ∀ (pv : List (Nat × V)) (env : Env) (i : Nat), envL (fun k => decide (k < m)) env pv i = (pv.take (m - i)).reverse ++ env
  | [], env, i => by simp [envL]
  | x :: pv, env, i => by
    simp only [envL]
    rw [envL_lt m pv _ (i + 1)]
    by_cases hi : i < m
    · rw [show m - i = (m - (i + 1)) + 1 by omega]; simp [hi]
    · rw [show m - i = 0 by omega, show m - (i + 1) = 0 by omega]; simp [hi]
def Okv (P : Program) (n : Nat) (ops : Array Oper) (h : List Blk) (o : Oper) (E : Env) (v : V) : Prop :=
  (grd ops (rst (usesOf ops o) E) o.guard = some true ∧ OpOk P n o (rst (usesOf ops o) E) h v h) ∨ (grd ops (rst (usesOf ops o) E) o.guard = some false ∧ v = .tu [])
theorem WD.ex {m i : Nat} {E : Env} (hw : WD P n ops h K m i E) : ∃ pv : List (Nat × V), (∀ k x, pv[k]? = some x → ∃ o, ops[i + k]? = some o ∧ o.dst = some x.1 ∧ x.1 < n ∧ Okv P n ops h o ((pv.take k).reverse ++ E) x.2) ∧
    ((ops.size ≤ i + pv.length ∧ K (pv.reverse ++ E) h) ∨ (i + pv.length = m ∧ i + pv.length < ops.size ∧ WO P n ops ((List.range ops.size).drop (i + pv.length)) (pv.reverse ++ E) h K)) := by
  induction hw with
  | done hi hk => exact ⟨[], fun k x h => by simp at h, .inl ⟨by simpa using hi, hk⟩⟩
  | t him hw hlt => exact ⟨[], fun k x h => by simp at h, .inr ⟨him, by simpa [Nat.blt_eq] using hlt, hw⟩⟩
  | @o i e' E v p ty ps af gd hi hg hok hd _ ih =>
    obtain ⟨pv, h1, h2⟩ := ih
    refine ⟨(e', v) :: pv, fun k x hk => ?_, ?_⟩
    · cases k with
      | zero => simp only [List.getElem?_cons_zero, Option.some.injEq] at hk; subst hk; exact ⟨_, hi, rfl, by simpa [Nat.blt_eq] using hd, .inl ⟨hg, hok⟩⟩
      | succ k =>
        obtain ⟨o, a, b, c, d⟩ := h1 k x (by simpa using hk)
        exact ⟨o, by rw [← a]; congr 1; omega, b, c, by simpa using d⟩
    · rw [List.length_cons, show i + (pv.length + 1) = i + 1 + pv.length by omega]; simpa using h2
  | @u i e' E p ty ps af gd hi hg hd _ ih =>
    obtain ⟨pv, h1, h2⟩ := ih
    refine ⟨(e', .tu []) :: pv, fun k x hk => ?_, ?_⟩
    · cases k with
      | zero => simp only [List.getElem?_cons_zero, Option.some.injEq] at hk; subst hk; exact ⟨_, hi, rfl, by simpa [Nat.blt_eq] using hd, .inr ⟨hg, rfl⟩⟩
      | succ k =>
        obtain ⟨o, a, b, c, d⟩ := h1 k x (by simpa using hk)
        exact ⟨o, by rw [← a]; congr 1; omega, b, c, by simpa using d⟩
    · rw [List.length_cons, show i + (pv.length + 1) = i + 1 + pv.length by omega]; simpa using h2
theorem bm_spec : ∀ (ops : List Oper), (bm ops).length = ops.length ∧ ∀ (i : Nat) (o : Oper), ops[i]? = some o → ∀ k, ((bm ops).getD i 0).testBit k = true → ∃ e ∈ o.after, Region.binds .any e = true ∧ (k = e.on ∨ (e.on < i ∧ ((bm ops).getD e.on 0).testBit k = true)) := by
  intro ops
  have fold : ∀ (L : List Oper) (acc : List Nat), (L.foldl (fun acc o => acc ++ [o.after.foldl (fun s e => if Region.binds .any e then s ||| (2 ^ e.on) ||| acc.getD e.on 0 else s) 0]) acc).length = acc.length + L.length := by
    intro L
    induction L with
    | nil => intro acc; rfl
    | cons o L ih =>
      intro acc
      rw [List.foldl_cons, ih]
      simp only [List.length_append, List.length_cons, List.length_nil]; omega
  have rev : ∀ (L : List Oper), ∀ (i : Nat) (o : Oper), L[i]? = some o → ∀ k, ((bm L).getD i 0).testBit k = true → ∃ e ∈ o.after, Region.binds .any e = true ∧ (k = e.on ∨ (e.on < i ∧ ((bm L).getD e.on 0).testBit k = true)) := by
    intro L
    have step : ∀ (m : Nat) (L : List Oper), L.length = m → ∀ (i : Nat) (o : Oper), L[i]? = some o → ∀ k, ((bm L).getD i 0).testBit k = true → ∃ e ∈ o.after, Region.binds .any e = true ∧ (k = e.on ∨ (e.on < i ∧ ((bm L).getD e.on 0).testBit k = true)) := by
      intro m
      induction m with
      | zero => intro L hL i o hi; have := List.length_eq_zero_iff.1 hL; subst this; simp at hi
      | succ m ih =>
        intro L hL i o hi k hk
        obtain ⟨L', x, rfl⟩ : ∃ L' x, L = L' ++ [x] := ⟨L.dropLast, L.getLast (by intro e; subst e; simp at hL), (List.dropLast_concat_getLast _).symm⟩
        have hm' : L'.length = m := by simpa using hL
        have hb : bm (L' ++ [x]) = bm L' ++ [x.after.foldl (fun s e => if Region.binds .any e then s ||| (2 ^ e.on) ||| (bm L').getD e.on 0 else s) 0] := by
          unfold bm; rw [List.foldl_append]; rfl
        have hlen : (bm L').length = m := by have := fold L' []; unfold bm; rw [this, hm']; exact Nat.zero_add m
        have low : ∀ j, j < m → (bm (L' ++ [x])).getD j 0 = (bm L').getD j 0 := fun j hj => by
          rw [hb]; simp only [List.getD_eq_getElem?_getD]; rw [List.getElem?_append_left (by omega)]
        rcases Nat.lt_or_ge i m with hi' | hi'
        · rw [low i hi'] at hk
          rw [List.getElem?_append_left (by omega)] at hi
          obtain ⟨e, a, b, c⟩ := ih L' hm' i o hi k hk
          refine ⟨e, a, b, c.imp id fun ⟨g1, g2⟩ => ⟨g1, by rw [low e.on (by omega)]; exact g2⟩⟩
        · have hie : i = m := by have := (List.getElem?_eq_some_iff.1 hi).1; simp at this; omega
          subst hie
          have hox : o = x := by rw [← hm'] at hi; simp at hi; exact hi.symm
          subst hox
          rw [hb] at hk
          simp only [List.getD_eq_getElem?_getD] at hk
          rw [List.getElem?_append_right (by omega), hlen] at hk
          simp only [Nat.sub_self, List.getElem?_cons_zero, Option.getD_some] at hk
          have inner : ∀ (A : List Edge) (s : Nat), (A.foldl (fun s e => if Region.binds .any e then s ||| (2 ^ e.on) ||| (bm L').getD e.on 0 else s) s).testBit k = true → s.testBit k = true ∨ ∃ e ∈ A, Region.binds .any e = true ∧ (k = e.on ∨ ((bm L').getD e.on 0).testBit k = true) := by
            intro A
            induction A with
            | nil => intro s hs; exact .inl hs
            | cons e A ihA =>
              intro s hs
              rcases ihA _ hs with hs | ⟨e', a, b, c⟩
              · by_cases hbn : Region.binds .any e = true
                · dsimp only at hs
                  rw [if_pos hbn] at hs
                  simp only [Nat.testBit_or, Bool.or_eq_true, Nat.testBit_two_pow, decide_eq_true_eq] at hs
                  rcases hs with (hs | hs) | hs
                  · exact .inl hs
                  · exact .inr ⟨e, List.mem_cons_self .., hbn, .inl hs.symm⟩
                  · exact .inr ⟨e, List.mem_cons_self .., hbn, .inr hs⟩
                · dsimp only at hs
                  rw [if_neg hbn] at hs; exact .inl hs
              · exact .inr ⟨e', List.mem_cons_of_mem _ a, b, c⟩
          rw [← Array.foldl_toList] at hk
          rcases inner _ 0 hk with hs | ⟨e, a, b, c⟩
          · simp at hs
          · refine ⟨e, by simpa using a, b, c.imp id fun g => ?_⟩
            have hlt : e.on < i := by
              rcases Nat.lt_or_ge e.on i with h' | h'
              · exact h'
              · rw [List.getD_eq_getElem?_getD, List.getElem?_eq_none (by omega)] at g; simp at g
            exact ⟨hlt, by rw [low e.on hlt]; exact g⟩
    exact step _ L rfl
  exact ⟨by have := fold ops []; unfold bm; rw [this]; exact Nat.zero_add _, rev ops⟩
end
end Go.YtamlleimfopmhaaMc

namespace Go.YtamlleimfopmhaaMc
section
variable {P : Program} {n : Nat} {ops : Array Oper} {h : List Blk} {K : Env → List Blk → Prop} {Q' : Exit → Act → World → Prop}
def bi (ops : Array Oper) (i : Nat) : Nat := (bm ops.toList).getD i 0
structure Dck (ops : Array Oper) (m : Nat) : Prop where
  back : ∀ (i : Nat) (o : Oper), ops[i]? = some o → ∀ e ∈ o.after, Region.binds .any e = true → e.on < i
  sep : ∀ (i k : Nat) (o ok : Oper) (d : Nat), ops[i]? = some o → ops[k]? = some ok → k ≠ i → ok.dst = some d → (d ∈ usesOf ops o ∨ o.dst = some d) → (bi ops i).testBit k = true ∨ (bi ops k).testBit i = true
  last : ∀ (i k : Nat), i < ops.size → m ≤ i → k < i → (bi ops i).testBit k = true
theorem dchk_ok {m : Nat} (hc : dchk ops m = true) : Dck ops m := by
  unfold dchk at hc
  simp only [List.all_eq_true, List.mem_range] at hc
  have at' : ∀ (i : Nat) (o : Oper), ops[i]? = some o → i < ops.size := fun i o hi => (Array.getElem?_eq_some_iff.1 hi).1
  refine ⟨fun i o hi e he hb => ?_, fun i k o ok d hi hk hne hd hor => ?_, fun i k hi hm hk => ?_⟩
  · have := hc i (at' i o hi)
    rw [hi] at this
    simp only [Bool.and_eq_true] at this
    have := Array.all_eq_true'.1 this.1.1 e he
    simpa [hb] using this
  · have := hc i (at' i o hi)
    rw [hi] at this
    simp only [Bool.and_eq_true] at this
    have := List.all_eq_true.1 this.1.2 k (List.mem_range.2 (at' k ok hk))
    rw [hk] at this
    have hcon : ((usesOf ops o).contains d || o.dst == some d) = true := by
      rcases hor with h1 | h1
      · simp [h1]
      · simp [h1]
    simp only [hd, hcon, Bool.not_true, Bool.false_or, Bool.or_eq_true, beq_iff_eq] at this
    rcases this with h1 | h1
    · exact (hne h1).elim
    · exact h1
  · have := hc i hi
    have ho : ops[i]? = some ops[i] := Array.getElem?_eq_getElem hi
    rw [ho] at this
    simp only [Bool.and_eq_true] at this
    have h2 := this.2
    have : ¬ i < m := by omega
    simp only [this, decide_false, Bool.false_or] at h2
    exact List.all_eq_true.1 h2 k (List.mem_range.2 hk)
theorem Dck.lt {m : Nat} (c : Dck ops m) {i k : Nat} {o : Oper} (hi : ops[i]? = some o) (hk : (bi ops i).testBit k = true) : k < i := by
  induction i using Nat.strongRecOn generalizing o with
  | _ i ih =>
    obtain ⟨e, he, hb, h1⟩ := (bm_spec ops.toList).2 i o (by simpa using hi) k hk
    have h2 := c.back i o hi e he hb
    rcases h1 with rfl | ⟨_, h3⟩
    · exact h2
    · have hlt : e.on < ops.size := by have := (Array.getElem?_eq_some_iff.1 hi).1; omega
      have he' : ops[e.on]? = some ops[e.on] := Array.getElem?_eq_getElem hlt
      exact Nat.lt_trans (ih e.on h2 he' h3) h2
theorem Dck.pre {m : Nat} (_ : Dck ops m) {i k : Nat} {o : Oper} {L : Array Bool} (hi : ops[i]? = some o) (hr : ∀ e ∈ o.after, Region.binds .any e = true → L.getD e.on false = true) (hdc : ∀ i k, L.getD i false = true → (bi ops i).testBit k = true → L.getD k false = true) (hk : (bi ops i).testBit k = true) : L.getD k false = true := by
  obtain ⟨e, he, hb, h1⟩ := (bm_spec ops.toList).2 i o (by simpa using hi) k hk
  have h2 := hr e he hb
  rcases h1 with rfl | ⟨_, h3⟩
  · exact h2
  · exact hdc e.on k h2 h3
theorem ready_of {L : Array Bool} {j : Nat} (hs : L.size = ops.size) (hj : j ∈ Region.ready .any ops L) : j < ops.size ∧ L.getD j false = false ∧ ∃ o, ops[j]? = some o ∧ ∀ e ∈ o.after, Region.binds .any e = true → L.getD e.on false = true := by
  obtain ⟨h1, o, h2, h3⟩ := mem_ready.1 hj
  have hlt := (Array.getElem?_eq_some_iff.1 h2).1
  refine ⟨hlt, ?_, o, h2, h3⟩
  simp only [Array.getD_eq_getD_getElem?] at h1 ⊢
  rw [Array.getElem?_eq_getElem (by omega)] at h1 ⊢
  simpa using h1
theorem getD_default {L : Array Bool} {j : Nat} (hj : j < L.size) : L.getD j true = L.getD j false := by
  simp only [Array.getD_eq_getD_getElem?, Array.getElem?_eq_getElem hj]; rfl
/-- The least operation that has not run can. -/
theorem ready_nil {m : Nat} (c : Dck ops m) {L : Array Bool} (hs : L.size = ops.size) (hr : Region.ready .any ops L = []) : ∀ i, i < ops.size → L.getD i false = true := by
  intro i
  induction i using Nat.strongRecOn with
  | _ i ih =>
    intro hi
    cases hL : L.getD i false with
    | true => rfl
    | false =>
      have : i ∈ Region.ready .any ops L := mem_ready.2 ⟨by rw [getD_default (by omega)]; exact hL, ops[i], Array.getElem?_eq_getElem hi, fun e he hb => ih e.on (c.back i _ (Array.getElem?_eq_getElem hi) e he hb) (by have := c.back i _ (Array.getElem?_eq_getElem hi) e he hb; omega)⟩
      rw [hr] at this; cases this
theorem setD {L : Array Bool} {i j : Nat} (hi : i < L.size) : (L.setIfInBounds i true).getD j false = (decide (j = i) || L.getD j false) := by
  simp only [Array.getD_eq_getD_getElem?, Array.getElem?_setIfInBounds]
  by_cases e : i = j
  · subst e; simp [hi]
  · simp [e, Ne.symm e]
/-- The operations behind those that may run in any order: one by one. -/
theorem any_tail {m : Nat} (c : Dck ops m) : ∀ (fuel i : Nat) (L : Array Bool) (a : Act) (w : World), L.size = ops.size → m ≤ i → i ≤ ops.size → ops.size - i ≤ fuel → (∀ k, L.getD k false = decide (k < i)) → wpOps P ops Q' ((List.range ops.size).drop i) a w → wpAny P .any ops Q' fuel L a w := by
  intro fuel
  induction fuel with
  | zero =>
    intro i L a w hs hm hi hf hL hw
    have : i = ops.size := by omega
    subst this
    refine ⟨?_, by rw [List.drop_of_length_le (by simp)] at hw; simpa [wpOps] using hw⟩
    cases hr : Region.ready .any ops L with
    | nil => rfl
    | cons j r => have := ready_of hs (j := j) (by rw [hr]; simp); rw [hL] at this; simp at this; omega
  | succ fuel ih =>
    intro i L a w hs hm hi hf hL hw
    rcases Nat.lt_or_ge i ops.size with hlt | hge
    · have hd : (List.range ops.size).drop i = i :: (List.range ops.size).drop (i + 1) := by
        rw [List.drop_eq_getElem_cons (by simpa using hlt)]; simp
      rw [hd, wpOps_cons] at hw
      have hrdy : ∀ j ∈ Region.ready .any ops L, j = i := by
        intro j hj
        obtain ⟨h1, h2, o, h3, h4⟩ := ready_of hs hj
        rw [hL] at h2
        have hji : i ≤ j := by simpa using h2
        rcases Nat.lt_or_ge i j with h5 | h5
        · have := c.pre (L := L) h3 h4 (fun i' k h6 h7 => by
            rw [hL] at h6 ⊢
            have h8 : i' < i := by simpa using h6
            have := c.lt (Array.getElem?_eq_getElem (by omega : i' < ops.size)) h7
            simp; omega) (c.last j i h1 (by omega) h5)
          rw [hL] at this; simp at this
        · omega
      refine ⟨fun hr => ?_, fun j hj => ?_⟩
      · have := ready_nil c hs hr i hlt; rw [hL] at this; simp at this
      · rw [hrdy j hj]
        refine wpOp_mono (fun a' w' hw' => ih (i + 1) _ a' w' (by simpa using hs) (by omega) hlt (by omega) (fun k => ?_) hw') hw
        rw [setD (by omega), hL]
        by_cases e : k = i
        · simp [e]
        · simp [e]; omega
    · have hr : Region.ready .any ops L = [] := by
        cases hr : Region.ready .any ops L with
        | nil => rfl
        | cons j r => have := ready_of hs (j := j) (by rw [hr]; simp); rw [hL] at this; simp at this; omega
      have hq : Q' .normal a w := by rw [List.drop_of_length_le (by simpa using hge)] at hw; simpa [wpOps] using hw
      exact ⟨fun _ => hq, fun j hj => by rw [hr] at hj; cases hj⟩
def cnt (ops : Array Oper) (L : Array Bool) : Nat := ((List.range ops.size).filter fun i => !L.getD i false).length
theorem cnt_set {L : Array Bool} {i : Nat} (hs : L.size = ops.size) (hi : i < ops.size) (hL : L.getD i false = false) : cnt ops (L.setIfInBounds i true) < cnt ops L := by
  unfold cnt
  have : ∀ (xs : List Nat), (xs.filter fun j => !(L.setIfInBounds i true).getD j false).length ≤ (xs.filter fun j => !L.getD j false).length ∧ (i ∈ xs → (xs.filter fun j => !(L.setIfInBounds i true).getD j false).length < (xs.filter fun j => !L.getD j false).length) := by
    intro xs
    induction xs with
    | nil => simp
    | cons x xs ih =>
      simp only [List.filter_cons, setD (by omega : i < L.size)]
      simp only [setD (by omega : i < L.size)] at ih
      by_cases e : x = i
      · subst e
        simp only [hL, decide_true, Bool.true_or, Bool.not_true, Bool.not_false, Bool.false_eq_true, if_false, if_true, List.length_cons]
        exact ⟨by have := ih.1; omega, fun _ => by have := ih.1; omega⟩
      · have e2 : ¬ i = x := fun g => e g.symm
        simp only [e, decide_false, Bool.false_or, List.mem_cons, e2, false_or]
        cases hx : L.getD x false
        · simp only [Bool.not_false, if_true, List.length_cons]; exact ⟨by have := ih.1; omega, fun g => by have := ih.2 g; omega⟩
        · simp only [Bool.not_true, Bool.false_eq_true, if_false]; exact ⟨ih.1, ih.2⟩
  exact (this _).2 (List.mem_range.2 hi)
theorem cnt_lt (m : Nat) : ∀ (N : Nat), ((List.range N).filter fun i => !decide (i < m)).length = N - m := by
  intro N
  induction N with
  | zero => simp
  | succ N ih =>
    rw [List.range_succ, List.filter_append, List.length_append, ih]
    by_cases e : N < m
    · simp [e]; omega
    · simp [e]; omega
theorem W.draw {Q : Ex → Env → List Blk → Prop} {env : Env} {id : Nat} (hmx : P.follows .mixedOrders = true) (m : Nat) (hc : dchk ops m = true) (hw : WD P n ops h (Q .n) m 0 env) : W P n (.region id ops true) env h Q := by
  constructor; intro w S ι a r1 r2 r3 r4
  obtain ⟨pv, p1, p2⟩ := hw.ex
  simp only [Nat.zero_add] at p1 p2
  have c := dchk_ok hc
  have hlen : pv.length ≤ ops.size := by
    rcases Nat.lt_or_ge ops.size pv.length with g | g
    · obtain ⟨o, h1, _⟩ := p1 ops.size pv[ops.size] (List.getElem?_eq_getElem g)
      have := (Array.getElem?_eq_some_iff.1 h1).1; omega
    · exact g
  refine wp_region_any hmx ?_
  have claim : ∀ (fuel : Nat) (L : Array Bool) (a : Act) (w' : World) (S' : Nat → Nat) (ι' : Nat → Option Nat), L.size = ops.size → cnt ops L ≤ fuel → (∀ i k, L.getD i false = true → (bi ops i).testBit k = true → L.getD k false = true) → (∀ k, L.getD k false = true → k < pv.length) →
      HR w' S' ι' h → Pres w S ι h w' S' ι' h → ER w' S' ι' h (envL (fun k => L.getD k false) env pv 0) a.tmps → a.tmps.size = n → a.defers = [] → wpAny P .any ops (Post n w S ι h Q) fuel L a w' := by
    intro fuel
    induction fuel with
    | zero =>
      intro L a w' S' ι' hs hf hdc hlt k1 k2 k3 k4 k5
      have all : ∀ i, i < ops.size → L.getD i false = true := fun i hi => by
        cases hL : L.getD i false with
        | true => rfl
        | false => have := cnt_set hs hi hL; omega
      have hready : Region.ready .any ops L = [] := by
        cases hr : Region.ready .any ops L with
        | nil => rfl
        | cons j r => have := ready_of hs (j := j) (by rw [hr]; simp); rw [all j this.1] at this; simp at this
      have e := envL_true (fun k => L.getD k false) pv env 0 (fun k hk => by rw [Nat.zero_add]; exact all k (by omega))
      rw [e] at k3
      rcases p2 with ⟨_, hK⟩ | ⟨hm, hlt2, _⟩
      · exact ⟨hready, _, h, S', ι', .n, rfl, k4, k5, k1, k2, k3, hK⟩
      · have := hlt pv.length (all _ hlt2); omega
    | succ fuel ih =>
      intro L a w' S' ι' hs hf hdc hlt k1 k2 k3 k4 k5
      by_cases hall : ∀ k, k < pv.length → L.getD k false = true
      · have e := envL_true (fun k => L.getD k false) pv env 0 (fun k hk => by rw [Nat.zero_add]; exact hall k hk)
        rw [e] at k3
        rcases p2 with ⟨hN, hK⟩ | ⟨hm, hlt2, hWO⟩
        · have hready : Region.ready .any ops L = [] := by
            cases hr : Region.ready .any ops L with
            | nil => rfl
            | cons j r => have := ready_of hs (j := j) (by rw [hr]; simp); rw [hall j (by omega)] at this; simp at this
          have hq : Post n w S ι h Q .normal a w' := ⟨_, h, S', ι', .n, rfl, k4, k5, k1, k2, k3, hK⟩
          exact ⟨fun _ => hq, fun j hj => by rw [hready] at hj; cases hj⟩
        · have hLm : ∀ k, L.getD k false = decide (k < m) := fun k => by
            rw [← hm]
            by_cases g : k < pv.length
            · rw [hall k g]; simp [g]
            · cases hL : L.getD k false with
              | false => simp [g]
              | true => exact (g (hlt k hL)).elim
          refine any_tail c (fuel + 1) m L a w' hs (Nat.le_refl _) (by omega) ?_ hLm ?_
          · have : cnt ops L = ops.size - m := by
              unfold cnt
              rw [← cnt_lt m ops.size]
              congr 1
              exact List.filter_congr fun i _ => by rw [hLm]
            omega
          · rw [← hm]
            refine hWO.out w' S' ι' a k1 k3 k4 k5 _ fun w2 S2 ι2 a2 env2 h2 q1 q2 q3 q4 q5 q6 => ?_
            exact ⟨env2, h2, S2, ι2, .n, rfl, q4, q5, q1, k2.trans q2, q3, q6⟩
      · obtain ⟨k0, hk0⟩ : ∃ k, ¬ (k < pv.length → L.getD k false = true) := Classical.not_forall.1 hall
        have hk0l : k0 < pv.length := Classical.byContradiction fun g => hk0 fun g' => (g g').elim
        have hk0f : L.getD k0 false = false := by
          cases hL : L.getD k0 false with
          | false => rfl
          | true => exact (hk0 fun _ => hL).elim
        refine ⟨fun hr => ?_, fun i hi => ?_⟩
        · have := ready_nil c hs hr k0 (by omega); rw [hk0f] at this; cases this
        obtain ⟨hiN, hiL, o, hio, hpre⟩ := ready_of hs hi
        have hil : i < pv.length := by
          rcases Nat.lt_or_ge i pv.length with g | g
          · exact g
          · rcases p2 with ⟨hN, _⟩ | ⟨hm, _, _⟩
            · omega
            · have := c.pre (L := L) hio hpre hdc (c.last i k0 hiN (by omega) (by omega))
              rw [hk0f] at this; cases this
        obtain ⟨o', ho', hdst, hdn, hok⟩ := p1 i pv[i] (List.getElem?_eq_getElem hil)
        rw [hio] at ho'; injection ho' with ho'; subst ho'
        have hpv : pv[i]? = some pv[i] := List.getElem?_eq_getElem hil
        -- what the operation names reads as in the order of the text
        have huse : ER w' S' ι' h (rst (usesOf ops o) ((pv.take i).reverse ++ env)) a.tmps := by
          intro t v hv
          obtain ⟨hu, hv⟩ := rst_lookup hv
          refine k3 t v ?_
          rw [← hv]
          have e2 := envL_lt i pv env 0
          rw [Nat.sub_zero] at e2
          rw [← e2]
          refine envL_agree fun k x hk hx => ?_
          obtain ⟨ok, g1, g2, _, _⟩ := p1 k x hk
          by_cases e : k = i
          · subst e; rw [hiL]; simp
          · rcases c.sep i k o ok t hio g1 e (by rw [g2, hx]) (.inl hu) with g | g
            · have h1 := c.pre (L := L) hio hpre hdc g
              have h2 := c.lt hio g
              rw [h1]; simp [h2]
            · have h2 := c.lt g1 g
              cases hL : L.getD k false with
              | false => simp; omega
              | true => have := hdc k i hL g; rw [hiL] at this; cases this
        have hset : ∀ j, (L.setIfInBounds i true).getD j false = (decide (j = i) || L.getD j false) := fun j => setD (by omega)
        -- what comes behind it
        have next : ∀ (w2 : World) S2 ι2 (u : Value), HR w2 S2 ι2 h → Pres w' S' ι' h w2 S2 ι2 h → RV w2 S2 ι2 h pv[i].2 u → wpAny P .any ops (Post n w S ι h Q) fuel (L.setIfInBounds i true) (a.put o.dst u) w2 := by
          intro w2 S2 ι2 u q1 q2 q3
          refine ih _ _ w2 S2 ι2 (by simpa using hs) (by have := cnt_set hs hiN hiL; omega) (fun i' k g1 g2 => ?_) (fun k g => ?_) q1 (k2.trans q2) ?_ (by rw [put_size]; exact k4) (by rw [put_defers]; exact k5)
          · rw [hset] at g1 ⊢
            by_cases e : i' = i
            · subst e; rw [c.pre (L := L) hio hpre hdc g2]; simp
            · have : L.getD i' false = true := by simpa [e] using g1
              rw [hdc i' k this g2]; simp
          · rw [hset] at g
            by_cases e : k = i
            · omega
            · exact hlt k (by simpa [e] using g)
          · intro t v hv
            have hsz : i < L.size := by omega
            rw [hdst]
            simp only [Act.put, Array.size_setIfInBounds]
            by_cases e : t = pv[i].1
            · have hv2 : v = pv[i].2 := by
                rcases envL_lookup (fun k => (L.setIfInBounds i true).getD k false) t env _ pv rfl with ⟨g1, _⟩ | ⟨k, x, g1, g2, g3, g4, g5⟩
                · have := g1 i _ hpv e.symm; rw [hset] at this; simp at this
                · rw [g5] at hv; injection hv with hv; subst hv
                  have hki : k = i := by
                    rcases Nat.lt_trichotomy k i with g | g | g
                    · have := g4 i _ g hpv e.symm; rw [hset] at this; simp at this
                    · exact g
                    · rw [hset] at g3
                      have hne : k ≠ i := by omega
                      have hLk : L.getD k false = true := by simpa [hne] using g3
                      obtain ⟨ok, f1, f2, _, _⟩ := p1 k x g1
                      rcases c.sep i k o ok t hio f1 hne (by rw [f2, g2]) (.inr (by rw [hdst, e])) with f | f
                      · have := c.lt hio f; omega
                      · have := hdc k i hLk f; rw [hiL] at this; cases this
                  subst hki
                  rw [hpv] at g1; injection g1 with g1; rw [g1]
              subst hv2
              refine ⟨by rw [e, k4]; exact hdn, ?_⟩
              have : (a.tmps.setIfInBounds pv[i].1 u).getD t undef = u := by
                rw [e]; simp [Array.getD_eq_getD_getElem?, k4, hdn]
              rw [this]; exact q3
            · have hv2 : (envL (fun k => L.getD k false) env pv 0).lookup t = some v := by
                rw [← hv]
                refine (envL_agree fun k x g1 g2 => ?_).symm
                rw [hset]
                have : k ≠ i := fun g => by subst g; rw [hpv] at g1; injection g1 with g1; subst g1; exact e g2.symm
                simp [this]
              obtain ⟨g1, g2⟩ := k3 t v hv2
              refine ⟨g1, ?_⟩
              have : (a.tmps.setIfInBounds pv[i].1 u).getD t undef = a.tmps.getD t undef := by
                simp [Array.getD_eq_getD_getElem?, Ne.symm e]
              rw [this]; exact g2.mono q2
        unfold wpOp
        simp only [hio]
        rcases hok with ⟨hg, hok⟩ | ⟨hg, hv⟩
        · rw [if_pos (grd_ok hg rfl w' S' ι' a huse)]
          exact .inl (hok.out w' S' ι' a k1 huse k4 k5 _ _ fun w2 S2 ι2 u q1 q2 q3 => next w2 S2 ι2 u q1 q2 q3)
        · rw [if_neg (by rw [grd_ok hg rfl w' S' ι' a huse]; simp)]
          exact next w' S' ι' undef k1 (.refl ..) (by rw [hv]; exact ⟨#[], rfl, rfl, fun j x v h1 _ => by simp at h1⟩)
  obtain ⟨e1, e2⟩ := r1.ext (w' := { w with drawn := w.drawn + 1 }) (S' := S) (fun _ _ => rfl) (Nat.le_refl _) (fun _ _ => rfl) r1.low (fun b blk B g1 g2 g3 => (r1.own b blk B g1 g2 g3).1)
  have hrep : ∀ k, (Array.replicate ops.size false).getD k false = false := fun k => by simp only [Array.getD_eq_getD_getElem?, Array.getElem?_replicate]; split <;> rfl
  refine claim ops.size _ a _ S ι (by simp) ?_ (fun i k g => by rw [hrep] at g; cases g) (fun k g => by rw [hrep] at g; cases g) e1 e2 ?_ r3 r4
  · unfold cnt; exact Nat.le_trans (List.length_filter_le _ _) (by simp)
  · have : envL (fun k => (Array.replicate ops.size false).getD k false) env pv 0 = env := by
      have gen : ∀ (pv : List (Nat × V)) (i : Nat), envL (fun k => (Array.replicate ops.size false).getD k false) env pv i = env := by
        intro pv
        induction pv with
        | nil => intro i; rfl
        | cons x pv ih => intro i; simp only [envL]; rw [if_neg (by rw [hrep]; simp)]; exact ih (i + 1)
      exact gen pv 0
    rw [this]; exact r2.mono e2
variable {Q : Ex → Env → List Blk → Prop} {env E : Env} {id m i j d' : Nat} {y : Code}
theorem W.drs0 (hmx : P.follows .mixedOrders = true) (hc : dchk ops ops.size = true) (hw : WD P n ops h (fun env' h' => W P n y env' h' Q) ops.size 0 env) : W P n (.seq (.region id ops true) y) env h Q := W.seq (W.draw hmx _ hc hw)
theorem W.drs1 (hmx : P.follows .mixedOrders = true) (hc : dchk ops (ops.size - 1) = true) (hw : WD P n ops h (fun env' h' => W P n y env' h' Q) (ops.size - 1) 0 env) : W P n (.seq (.region id ops true) y) env h Q := W.seq (W.draw hmx _ hc hw)
theorem W.drs2 (hmx : P.follows .mixedOrders = true) (hc : dchk ops (ops.size - 2) = true) (hw : WD P n ops h (fun env' h' => W P n y env' h' Q) (ops.size - 2) 0 env) : W P n (.seq (.region id ops true) y) env h Q := W.seq (W.draw hmx _ hc hw)
variable {e' : Nat} {p p' : Op} {ty ty' : Nat} {ps ps' : String} {af af' : Array Edge} {g : Bool} {gd' : Option (Nat × Bool)} {dd : Option Nat}
theorem WD.gs (x : Bool) (hi : ops[i]? = some ⟨some e', p, ty, ps, af, some (j, g)⟩) (hj : ops[j]? = some ⟨some d', p', ty', ps', af', gd'⟩) (hx : E.lookup d' = some (.c (.t (.b x)))) (h1 : x = true → WD P n ops h K m i E) (h2 : x = false → WD P n ops h K m i E) : WD P n ops h K m i E := by
  cases x
  · exact h2 rfl
  · exact h1 rfl
end
end Go.YtamlleimfopmhaaMc

namespace Go.YtamlleimfopmhaaMc
section
variable {P : Program} {n : Nat} {o : Oper} {env : Env} {h h' : List Blk} {v : V}
theorem OpOk.slSd (D : Tab P) {t : Nat} {x : Operand} {lo : Option Operand} {s : List UInt8} {l : Nat} {i : TI} (ho : o.op = .slice t x lo none none) (ht : D.f t = some i) (hk : i.k = .str) (hx : oe env x = some (.c (.t (.s s)))) (hl : oi env 0 lo = some l) (h1 : l ≤ s.length) : OpOk P n o env h (.c (.t (.s (s.drop l)))) h := by
  have := OpOk.slS (P := P) (n := n) (h := h) D ho ht hk hx rfl hl h1 (Nat.le_refl _)
  rwa [List.take_length] at this
theorem OpOk.slSt (D : Tab P) {t : Nat} {x : Operand} {hi : Option Operand} {s : List UInt8} {r : Nat} {i : TI} (ho : o.op = .slice t x none hi none) (ht : D.f t = some i) (hk : i.k = .str) (hx : oe env x = some (.c (.t (.s s)))) (hl : oi env s.length hi = some r) (h1 : r ≤ s.length) : OpOk P n o env h (.c (.t (.s (s.take r)))) h := by
  have := OpOk.slS (P := P) (n := n) (h := h) D ho ht hk hx hl rfl (Nat.zero_le _) h1
  rwa [List.drop_zero] at this
theorem OpOk.slMd (D : Tab P) {α : Type} {t e : Nat} {x : Operand} {lo : Option Operand} {xs : List α} {enc : α → List T} {l : Nat} {i ie : TI} (ho : o.op = .slice t x lo none none) (ht : D.f t = some i) (hk : i.k = .sl e) (hte : D.f e = some ie) (hx : oe env x = some (.c (.t (.l (xs.map enc))))) (hs : ∀ y, (enc y).length = ie.size) (hl : oi env 0 lo = some l) (h1 : l ≤ xs.length) : OpOk P n o env h (.c (.t (.l ((xs.drop l).map enc)))) h := by
  have := OpOk.slF (P := P) (n := n) (h := h) D ho ht hk hte hx (fun el hel => by obtain ⟨y, _, rfl⟩ := List.mem_map.1 hel; exact hs y) rfl hl (by rw [List.length_map]; exact h1) (Nat.le_refl _)
  rwa [List.take_length, ← List.map_drop] at this
theorem OpOk.slMt (D : Tab P) {α : Type} {t e : Nat} {x : Operand} {hi : Option Operand} {xs : List α} {enc : α → List T} {r : Nat} {i ie : TI} (ho : o.op = .slice t x none hi none) (ht : D.f t = some i) (hk : i.k = .sl e) (hte : D.f e = some ie) (hx : oe env x = some (.c (.t (.l (xs.map enc))))) (hs : ∀ y, (enc y).length = ie.size) (hl : oi env (xs.map enc).length hi = some r) (h1 : r ≤ xs.length) : OpOk P n o env h (.c (.t (.l ((xs.take r).map enc)))) h := by
  have := OpOk.slF (P := P) (n := n) (h := h) D ho ht hk hte hx (fun el hel => by obtain ⟨y, _, rfl⟩ := List.mem_map.1 hel; exact hs y) hl rfl (Nat.zero_le _) (by rw [List.length_map]; exact h1)
  rwa [List.drop_zero, ← List.map_take] at this
theorem OpOk.ixSk (D : Tab P) {t : Nat} {x y : Operand} {s : List UInt8} {k : IntKind} {m : Nat} {i : TI} (ho : o.op = .index t x y) (ht : D.f t = some i) (hk : i.k = .str) (hx : oe env x = some (.c (.t (.s s)))) (hy : oe env y = some (.c (.t (.i k (m : Int))))) (hm : m < s.length) : OpOk P n o env h (.c (.t (.i .u8 (s[m].toNat : Nat)))) h :=
  .ixS D ho ht hk hx hy (by omega) (by simp [hm])
/-- The address of an element, by a number that is known to be in the list. -/
theorem OpOk.ixI (D : Tab P) {α : Type} {t e : Nat} {x y : Operand} {xs : List α} {enc : α → List T} {k : IntKind} {m : Int} {i ie : TI} (ho : o.op = .indexAddr t x y) (ht : D.f t = some i) (hk : i.k = .sl e) (hte : D.f e = some ie) (hx : oe env x = some (.c (.t (.l (xs.map enc))))) (hy : oe env y = some (.c (.t (.i k m))))
    (h0 : 0 ≤ m) (hm : m.toNat < xs.length) (hl : ∀ y, (enc y).length = ie.size) : OpOk P n o env h (.c (.fa (enc xs[m.toNat]))) h :=
  .ixF D ho ht hk hte hx hy h0 (by simp [hm]) (hl _)
end
/-- An operation, and what comes behind it. -/
structure OpK (P : Program) (n : Nat) (o : Oper) (env : Env) (h : List Blk) (k : V → List Blk → Prop) : Prop where
  out : ∃ v h1, OpOk P n o env h v h1 ∧ k v h1
section
variable {P : Program} {n : Nat} {ops : Array Oper} {env E : Env} {h h1 : List Blk} {K : Env → List Blk → Prop} {v : V} {i j d m : Nat} {rest : List Nat} 
variable {e' : Nat} {p : Op} {ty : Nat} {ps : String} {af : Array Edge} {gd : Option (Nat × Bool)} {o : Oper} {kk : V → List Blk → Prop}
theorem OpK.of (hok : OpOk P n o env h v h1) (hk : kk v h1) : OpK P n o env h kk := ⟨v, h1, hok, hk⟩
theorem WO.g (hi : ops[i]? = some ⟨some e', p, ty, ps, af, gd⟩) (hg : grd ops env gd = some true) (hd : e'.blt n = true) (hr : OpK P n ⟨some e', p, ty, ps, af, gd⟩ env h fun v h1 => WO P n ops rest ((e', v) :: env) h1 K) : WO P n ops (i :: rest) env h K := by
  obtain ⟨v, h1, a, b⟩ := hr.out; exact WO.o hi hg a hd b
theorem WO.g0 (hi : ops[i]? = some ⟨none, p, ty, ps, af, none⟩) (hr : OpK P n ⟨none, p, ty, ps, af, none⟩ env h fun _ h1 => WO P n ops rest env h1 K) : WO P n ops (i :: rest) env h K := by
  obtain ⟨v, h1, a, b⟩ := hr.out; exact WO.op0 hi a b
structure OpD (P : Program) (n : Nat) (o : Oper) (env : Env) (h : List Blk) (k : V → Prop) : Prop where
  out : ∃ v, OpOk P n o env h v h ∧ k v
theorem OpD.of {k : V → Prop} (hok : OpOk P n o env h v h) (hk : k v) : OpD P n o env h k := ⟨v, hok, hk⟩
theorem WD.g (hi : ops[i]? = some ⟨some e', p, ty, ps, af, gd⟩) (hg : grd ops (rst (usesOf ops ⟨some e', p, ty, ps, af, gd⟩) E) gd = some true) (hd : e'.blt n = true)
    (hr : OpD P n ⟨some e', p, ty, ps, af, gd⟩ (rst (usesOf ops ⟨some e', p, ty, ps, af, gd⟩) E) h fun v => WD P n ops h K m (i + 1) ((e', v) :: E)) : WD P n ops h K m i E := by
  obtain ⟨v, a, b⟩ := hr.out; exact WD.o hi hg a hd b
end
end Go.YtamlleimfopmhaaMc

namespace Go.YtamlleimfopmhaaMc
/-! ### Steps that are only reckoned -/
def cmpI (x y : Int) : BinOp → Option Bool
  | .eql => some (x == y)
  | .neq => some (x != y)
  | .lss => some (decide (x < y))
  | .leq => some (decide (x ≤ y))
  | .gtr => some (decide (x > y))
  | .geq => some (decide (x ≥ y))
  | _ => none
def stpR (D : Nat → Option TI) (env : Env) (h : List Blk) (o : Oper) : Option (V × List Blk) :=
  match o.op with
  | .move x => match oe env x with
    | some v => some (v, h)
    | none => none
  | .assign x => match oe env x with
    | some v => some (v, h)
    | none => none
  | .pick c x y => match oe env c with
    | some (.c (.t (.b true))) => match oe env x with
      | some v => some (v, h)
      | none => none
    | some (.c (.t (.b false))) => match oe env y with
      | some v => some (v, h)
      | none => none
    | _ => none
  | .box _ x => match oe env x with
    | some v => match v.cl h with
      | some cs => some (.c (.ptr h.length 0), h ++ [.box cs])
      | none => none
    | none => none
  | .alloc t => match D t with
    | some i => some (.c (.ptr h.length 0), h ++ [.box i.zero])
    | none => none
  | .fieldAddr t x f => match D t with
    | some ⟨.st fs, _, _, _⟩ => match fs[f]? with
      | some (off, _ + 1) => match oe env x with
        | some (.c (.ptr b p)) => match h[b]? with
          | some (.box _) => some (.c (.ptr b (p + off)), h)
          | _ => none
        | some (.c (.fa cs)) => some (.c (.fa (cs.drop off)), h)
        | _ => none
      | _ => none
    | _ => none
  | .load t x => match D t with
    | some i => match oe env x with
      | some (.c (.ptr b off)) => match h[b]? with
        | some (.box cs) => match ldv i (cs.drop off) with
          | some v => some (v, h)
          | none => none
        | _ => none
      | some (.c (.fa cs)) => match ldv i (cs.map C.t) with
        | some v => some (v, h)
        | none => none
      | _ => none
    | none => none
  | .unOp .not _ x => match oe env x with
    | some (.c (.t (.b a))) => some (.c (.t (.b (!a))), h)
    | _ => none
  | .binOp op t x y _ => match oe env x with
    | some (.c (.t (.i .i64 a))) => match oe env y with
      | some (.c (.t (.i .i64 b))) => match cmpI a b op with
        | some r => some (.c (.t (.b r)), h)
        | none => none
      | _ => none
    | some (.c (.t (.i .u8 a))) => match oe env y with
      | some (.c (.t (.i .u8 b))) => match cmpI a b op with
        | some r => some (.c (.t (.b r)), h)
        | none => none
      | _ => none
    | some (.c (.t (.s a))) => match oe env y with
      | some (.c (.t (.s b))) => match sbin a b op with
        | some r => some (.c (.t (.b r)), h)
        | none => none
      | _ => none
    | some (.c (.t (.b a))) => match D t with
      | some ⟨.bool, _, _, _⟩ => match oe env y with
        | some (.c (.t (.b b))) => match bbin a b op with
          | some r => some (.c (.t (.b r)), h)
          | none => none
        | _ => none
      | _ => none
    | _ => none
  | .extract x j => match oe env x with
    | some (.tu xs) => match xs[j]? with
      | some y => some (y.v, h)
      | none => none
    | _ => none
  | .build t ps => match D t with
    | some ⟨.st fs, _, _, z⟩ => if fs.all (·.2 != 0) then match oes env ps.toList with
      | some vs => match bldC fs z h vs with
        | some cs => some (.ag cs, h)
        | none => none
      | none => none
      else none
    | _ => none
  | .store t x y => match D t with
    | some i => match oe env x with
      | some (.c (.ptr b off)) => match h[b]? with
        | some (.box cs) => match oe env y with
          | some v => match v.cl h with
            | some xs => if xs.all (·.one h) && xs.length == i.size && (off + xs.length).ble cs.length then some (.c .u, h.set b (.box (wr cs off xs))) else none
            | none => none
          | none => none
        | _ => none
      | _ => none
    | none => none
  | .nilCheck x => match oe env x with
    | some (.c (.ptr b off)) => match h[b]? with
      | some (.box _) => some (.c (.ptr b off), h)
      | _ => none
    | _ => none
  | _ => none
theorem cmpI_ibin {k : IntKind} {x y : Int} {op : BinOp} {r : Bool} (hr : cmpI x y op = some r) : ibin k x y op = some (.b r) := by
  cases op <;> simp only [cmpI, Option.some.injEq, reduceCtorEq] at hr <;> subst hr <;> rfl
section
variable {P : Program} {n : Nat} {env : Env} {h h' : List Blk} {v : V} {o : Oper}
theorem stpR_ok (D : Tab P) (hs : stpR D.f env h o = some (v, h')) : OpOk P n o env h v h' := by
  unfold stpR at hs
  split at hs
  · rename_i x ho
    split at hs
    · rename_i v' hx; injection hs with hs; injection hs with e1 e2; subst e1; subst e2; exact .move ho hx
    · cases hs
  · rename_i x ho
    split at hs
    · rename_i v' hx; injection hs with hs; injection hs with e1 e2; subst e1; subst e2; exact .assign ho hx
    · cases hs
  · rename_i c x y ho
    split at hs
    · rename_i hc
      split at hs
      · rename_i v' hx; injection hs with hs; injection hs with e1 e2; subst e1; subst e2; exact .pick1 ho hc hx
      · cases hs
    · rename_i hc
      split at hs
      · rename_i v' hx; injection hs with hs; injection hs with e1 e2; subst e1; subst e2; exact .pick0 ho hc hx
      · cases hs
    · cases hs
  · rename_i t x ho
    split at hs
    · rename_i v' hx
      split at hs
      · rename_i cs hc; injection hs with hs; injection hs with e1 e2; subst e1; subst e2; exact .box ho hx hc
      · cases hs
    · cases hs
  · rename_i t ho
    split at hs
    · rename_i i ht; injection hs with hs; injection hs with e1 e2; subst e1; subst e2; exact .alloc D ho ht
    · cases hs
  · rename_i t x f ho
    split at hs
    · rename_i fs s1 s2 s3 ht
      split at hs
      · rename_i off sz hf
        split at hs
        · rename_i b p hx
          split at hs
          · rename_i cs hb; injection hs with hs; injection hs with e1 e2; subst e1; subst e2; exact .faB D ho ht rfl hf (by omega) hx hb
          · cases hs
        · rename_i cs hx; injection hs with hs; injection hs with e1 e2; subst e1; subst e2; exact .faF D ho ht rfl hf (by omega) hx
        · cases hs
      · cases hs
    · cases hs
  · rename_i t x ho
    split at hs
    · rename_i i ht
      split at hs
      · rename_i b off hx
        split at hs
        · rename_i cs hb
          split at hs
          · rename_i v' hv; injection hs with hs; injection hs with e1 e2; subst e1; subst e2; exact .ldB D ho ht hx hb hv
          · cases hs
        · cases hs
      · rename_i cs hx
        split at hs
        · rename_i v' hv; injection hs with hs; injection hs with e1 e2; subst e1; subst e2; exact .ldF D ho ht hx hv
        · cases hs
      · cases hs
    · cases hs
  · rename_i t x ho
    split at hs
    · rename_i a hx; injection hs with hs; injection hs with e1 e2; subst e1; subst e2; exact .not ho hx
    · cases hs
  · rename_i op t x y t' ho
    split at hs
    · rename_i a hx
      split at hs
      · rename_i b hy
        split at hs
        · rename_i r hr; injection hs with hs; injection hs with e1 e2; subst e1; subst e2; exact .ibin ho hx hy (cmpI_ibin hr)
        · cases hs
      · cases hs
    · rename_i a hx
      split at hs
      · rename_i b hy
        split at hs
        · rename_i r hr; injection hs with hs; injection hs with e1 e2; subst e1; subst e2; exact .ibin ho hx hy (cmpI_ibin hr)
        · cases hs
      · cases hs
    · rename_i a hx
      split at hs
      · rename_i b hy
        split at hs
        · rename_i r hr; injection hs with hs; injection hs with e1 e2; subst e1; subst e2; exact .sbin ho hx hy hr
        · cases hs
      · cases hs
    · rename_i a hx
      split at hs
      · rename_i s1 s2 s3 ht
        split at hs
        · rename_i b hy
          split at hs
          · rename_i r hr; injection hs with hs; injection hs with e1 e2; subst e1; subst e2; exact .bbin D ho ht rfl hx hy hr
          · cases hs
        · cases hs
      · cases hs
    · cases hs
  · rename_i x j ho
    split at hs
    · rename_i xs hx
      split at hs
      · rename_i y hy; injection hs with hs; injection hs with e1 e2; subst e1; subst e2; exact .extract ho hx hy
      · cases hs
    · cases hs
  · rename_i t ps ho
    split at hs
    · rename_i fs s1 s2 z ht
      split at hs
      · rename_i h0
        split at hs
        · rename_i vs hv
          split at hs
          · rename_i cs hc; injection hs with hs; injection hs with e1 e2; subst e1; subst e2; exact .build D ho ht rfl h0 hv hc
          · cases hs
        · cases hs
      · cases hs
    · cases hs
  · rename_i t x y ho
    split at hs
    · rename_i i ht
      split at hs
      · rename_i b off hx
        split at hs
        · rename_i cs hb
          split at hs
          · rename_i v' hy
            split at hs
            · rename_i xs hc
              split at hs
              · rename_i h0
                simp only [Bool.and_eq_true, beq_iff_eq, Nat.ble_eq] at h0
                injection hs with hs; injection hs with e1 e2; subst e1; subst e2
                exact .stB D ho ht hx hb hy hc h0.1.1 h0.1.2 h0.2
              · cases hs
            · cases hs
          · cases hs
        · cases hs
      · cases hs
    · cases hs
  · rename_i x ho
    split at hs
    · rename_i b off hx
      split at hs
      · rename_i cs hb; injection hs with hs; injection hs with e1 e2; subst e1; subst e2; exact .nilB ho hx hb
      · cases hs
    · cases hs
  · cases hs
/-- As many steps of a list as can be reckoned; at least one. -/
def stp1 (D : Nat → Option TI) (n : Nat) (ops : Array Oper) (i : Nat) (env : Env) (h : List Blk) : Option (Env × List Blk) :=
  match ops[i]? with
  | some o => match o.dst with
    | some d => if d.blt n then match grd ops env o.guard with
      | some true => match stpR D env h o with
        | some (v, h') => some ((d, v) :: env, h')
        | none => none
      | some false => some ((d, .tu []) :: env, h)
      | none => none
      else none
    | none => match o.guard with
      | none => match stpR D env h o with
        | some (_, h') => some (env, h')
        | none => none
      | some _ => none
  | none => none
def runR (D : Nat → Option TI) (n : Nat) (ops : Array Oper) : List Nat → Env → List Blk → List Nat × Env × List Blk
  | [], env, h => ([], env, h)
  | i :: is, env, h => match stp1 D n ops i env h with
    | some (env', h') => runR D n ops is env' h'
    | none => (i :: is, env, h)
theorem stp1_ok (D : Tab P) {ops : Array Oper} {i : Nat} {is : List Nat} {env' : Env} {K : Env → List Blk → Prop} (hs : stp1 D.f n ops i env h = some (env', h')) (hw : WO P n ops is env' h' K) : WO P n ops (i :: is) env h K := by
  unfold stp1 at hs
  split at hs
  · rename_i o hi
    split at hs
    · rename_i d hd
      obtain ⟨dst, op, ty, ps, af, gd⟩ := o
      simp only at hd hs; subst hd
      split at hs
      · rename_i hdn
        split at hs
        · rename_i hg
          split at hs
          · rename_i v h2 hst; injection hs with hs; injection hs with e1 e2; subst e1; subst e2
            exact WO.o hi hg (stpR_ok D hst) hdn hw
          · cases hs
        · rename_i hg; injection hs with hs; injection hs with e1 e2; subst e1; subst e2; exact WO.u hi hg hdn hw
        · cases hs
      · cases hs
    · rename_i hd
      split at hs
      · rename_i hg
        split at hs
        · rename_i v h2 hst
          obtain ⟨dst, op, ty, ps, af, gd⟩ := o
          simp only at hd hg; subst hd; subst hg
          injection hs with hs; injection hs with e1 e2; subst e1; subst e2; exact WO.op0 hi (stpR_ok D hst) hw
        · cases hs
      · cases hs
  · cases hs
theorem runR_ok (D : Tab P) {ops : Array Oper} {K : Env → List Blk → Prop} : ∀ {is is' : List Nat} {env env' : Env} {h h' : List Blk}, runR D.f n ops is env h = (is', env', h') → WO P n ops is' env' h' K → WO P n ops is env h K
  | [], is', env, env', h, h', hr, hw => by simp only [runR] at hr; injection hr with e1 e2; injection e2 with e2 e3; subst e1; subst e2; subst e3; exact hw
  | i :: is, is', env, env', h, h', hr, hw => by
    simp only [runR] at hr
    split at hr
    · rename_i env2 h2 hs; exact stp1_ok D hs (runR_ok D hr hw)
    · injection hr with e1 e2; injection e2 with e2 e3; subst e1; subst e2; subst e3; exact hw
theorem WO.r (D : Tab P) {ops : Array Oper} {i : Nat} {is is' : List Nat} {env' env2 : Env} {h2 : List Blk} {K : Env → List Blk → Prop} (h1 : stp1 D.f n ops i env h = some (env2, h2)) (hr : runR D.f n ops is env2 h2 = (is', env', h')) (hw : WO P n ops is' env' h' K) : WO P n ops (i :: is) env h K :=
  stp1_ok D h1 (runR_ok D hr hw)
end
end Go.YtamlleimfopmhaaMc

namespace Go.YtamlleimfopmhaaMc
/-! ### What kind of goal stands -/
section
variable {P : Program} {n m k : Nat} {c : Code} {env : Env} {h : List Blk} {Q : Ex → Env → List Blk → Prop} {ops : Array Oper} {is : List Nat} {K : Env → List Blk → Prop} {o : Oper} {kk : V → List Blk → Prop} {kd : V → Prop} {N : Env → List Blk → Prop} {e : Ex}
theorem W.id (x : W P n c env h Q) : W P n c env h Q := x
theorem WO.id (x : WO P n ops is env h K) : WO P n ops is env h K := x
theorem WD.id (x : WD P n ops h K m k env) : WD P n ops h K m k env := x
theorem OpK.id (x : OpK P n o env h kk) : OpK P n o env h kk := x
theorem OpD.id (x : OpD P n o env h kd) : OpD P n o env h kd := x
theorem Then.id (x : Then N Q e env h) : Then N Q e env h := x
theorem InBlk.id (x : InBlk k Q e env h) : InBlk k Q e env h := x
end
end Go.YtamlleimfopmhaaMc

namespace Go.YtamlleimfopmhaaMc
section
variable {P : Program} {n : Nat} {o : Oper} {env : Env} {h h' : List Blk} {v : V}
/-! ### New slices -/
theorem madeCells_get {z : Array Value} {m k : Nat} (hk : k < m) (hz : 0 < z.size) : (madeCells z m)[k]? = z[k % z.size]? := by
  have hlt : k % z.size < z.size := Nat.mod_lt _ hz
  simp [madeCells, hk, getElem!_pos z (k % z.size) hlt, Array.getElem?_eq_getElem hlt]
theorem OpOk.mks (D : Tab P) {t e : Nat} {x y : Operand} {m : Int} {k1 k2 : IntKind} {i ie : TI} (ho : o.op = .makeSlice t x y) (ht : D.f t = some i) (hk : i.k = .sl e) (hte : D.f e = some ie) (hx : oe env x = some (.c (.t (.i k1 m)))) (hy : oe env y = some (.c (.t (.i k2 m)))) (h0 : 0 ≤ m) (hz : 0 < ie.size) (hb : (ie.bytes : Int) * m ≤ 281474976710656 ∧ m ≤ 9223372036854775807) :
    OpOk P n o env h (.c (.sl h.length m.toNat 0 m.toNat)) (h ++ [.arr (List.replicate m.toNat ie.zero) ie.size]) := by
  refine .ofRun fun w S ι a r1 r2 => ?_
  have ex := (oe_ok r2 hx).i
  have ey := (oe_ok r2 hy).i
  have hu := (D.ok t i ht).und
  rw [hk] at hu
  have hu : P.underlying t = some (.slice e) := hu
  obtain ⟨q, z, q1, q2, q3, q4, q5, q6⟩ := (D.ok e ie hte).info
  have hr := run_make (P := P) w t e q z hu q1 q4 k1 k2 m m h0 (Int.le_refl _) (by rw [q3]; exact hb.1) hb.2
  have hsz : (w.alloc (.cells (madeCells z.cells (m.toNat * q.size)) e)).heap.size = w.heap.size + 1 := by
    show (w.heap.push _).size = _; simp
  have hnew : (w.alloc (.cells (madeCells z.cells (m.toNat * q.size)) e)).heap[w.heap.size]? = some (.cells (madeCells z.cells (m.toNat * q.size)) e) := by
    show (w.heap.push _)[w.heap.size]? = _; simp
  have hzl : ie.zero.length = ie.size := by have := (cvs_ok (w := w) (S := S) (ι := ι) (h := h) q5).1; simp only [Array.length_toList] at this; omega
  obtain ⟨k1, k2⟩ := r1.new (w' := w.alloc (.cells (madeCells z.cells (m.toNat * q.size)) e)) (S' := S) (fun B hB => by show (w.heap.push _)[B]? = _; rw [Array.getElem?_push]; simp [Nat.ne_of_lt hB]) (by omega) (fun _ _ => rfl) (fun B hB => by have := r1.low B hB; omega) (fun _ h => .inl h) (some w.heap.size) (fun B hB => by injection hB with hB; subst hB; exact ⟨Nat.le_refl _, by omega, r1.top⟩) (.arr (List.replicate m.toNat ie.zero) ie.size)
    (fun p => ⟨hz, fun el hel => by rw [List.eq_of_mem_replicate hel]; exact hzl, .inr ⟨_, _, e, rfl, hnew, by rw [List.length_replicate, size_madeCells, q2]; exact Nat.le_refl _, fun i el j c g1 g2 => by
      rw [List.getElem?_replicate] at g1
      split at g1
      · rename_i hi
        injection g1 with g1; subst g1
        have hj : j < ie.size := by rw [← hzl]; exact (List.getElem?_eq_some_iff.1 g2).1
        have hlt : i * ie.size + j < m.toNat * q.size := by
          rw [q2]
          have : (i + 1) * ie.size ≤ m.toNat * ie.size := Nat.mul_le_mul_right _ hi
          rw [Nat.add_mul, Nat.one_mul] at this; omega
        have hmod : (i * ie.size + j) % z.cells.size = j := by rw [q6, Nat.mul_comm, Nat.mul_add_mod, Nat.mod_eq_of_lt hj]
        refine ⟨z.cells[j]'(by omega), by rw [madeCells_get hlt (by omega), hmod]; exact Array.getElem?_eq_getElem _, ?_⟩
        exact (cvs_ok q5).2 j c _ g2 (by simp [q6, hj])
      · cases g1⟩⟩) (by simp)
  refine ⟨.slice (some ⟨w.heap.size, 0, none⟩) m.toNat m.toNat, _, S, _, by simp only [execOp, ho, ex, ey, Sem.run_bind, hr, Result.andThen_ok, Sem.run_pure], k1, k2, ⟨_, app_last .., by simp⟩, fun es' sz' hq => ?_⟩
  simp at hq; obtain ⟨rfl, rfl⟩ := hq
  refine ⟨by simp, fun _ => ⟨by omega, ?_⟩⟩
  rw [upd_eq]
  exact ⟨m.toNat, by simp, Nat.le_refl _, by rw [bsz_of hnew, size_madeCells, q2, Nat.zero_add]; exact Nat.le_refl _⟩
theorem wr_length : ∀ (xs cs : List C) (off : Nat), (wr cs off xs).length = cs.length
  | [], _, _ => rfl
  | x :: xs, cs, off => by rw [wr, wr_length xs]; simp
theorem wr_get : ∀ (xs cs : List C) (off k : Nat), (wr cs off xs)[k]? = if off ≤ k ∧ k < off + xs.length ∧ k < cs.length then xs[k - off]? else cs[k]?
  | [], cs, off, k => by rw [wr, if_neg (by simp; omega)]
  | x :: xs, cs, off, k => by
    rw [wr, wr_get xs]
    simp only [List.length_set, List.length_cons, List.getElem?_set]
    by_cases e0 : off = k
    · subst e0
      rw [if_neg (by omega), if_pos rfl]
      by_cases hk : off < cs.length
      · rw [if_pos hk, if_pos (by omega)]; simp
      · rw [if_neg hk, if_neg (by omega)]; simp; omega
    · by_cases e1 : off + 1 ≤ k ∧ k < off + 1 + xs.length ∧ k < cs.length
      · rw [if_pos e1, if_pos (by omega)]
        have : k - off = (k - (off + 1)) + 1 := by omega
        rw [this, List.getElem?_cons_succ]
      · rw [if_neg e1, if_neg e0, if_neg (by omega)]
/-- A store into an element of a slice of the call's own. -/
theorem OpOk.stA (D : Tab P) {t : Nat} {x y : Operand} {b k i j sz : Nat} {es : List (List C)} {el xs : List C} {ti : TI} (ho : o.op = .store t x y) (ht : D.f t = some ti) (hx : oe env x = some (.c (.ap b k i j))) (hb : h[b]? = some (.arr es sz)) (hk : k = es.length) (hel : es[i]? = some el) (hy : oe env y = some v) (hc : v.cl h = some xs) (h1 : xs.all (·.one h) = true) (hsz : xs.length = ti.size) (hin : j + xs.length ≤ sz) :
    OpOk P n o env h (.c .u) (h.set b (.arr (es.set i (wr el j xs)) sz)) := by
  refine .ofSkip fun w S ι a r1 r2 => ?_
  obtain ⟨_, hx⟩ := oe_ok r2 hx
  obtain ⟨_, hx⟩ := hx es sz hb
  obtain ⟨B, i1, hx⟩ := hx hk
  have hcl := cl_ok (oe_ok r2 hy) hc
  obtain ⟨hz, hs0, hA⟩ := r1.arr b es sz hb
  have hlt : i < es.length := (List.getElem?_eq_some_iff.1 hel).1
  rcases hA with ⟨rfl, _⟩ | ⟨B', vs, e, j1, j2, j3, j4⟩
  · simp at hel
  rw [j1] at i1; injection i1 with i1; subst i1
  have hbd : i * sz + sz ≤ vs.size := by
    have : (i + 1) * sz ≤ es.length * sz := Nat.mul_le_mul_right _ hlt
    rw [Nat.add_mul, Nat.one_mul] at this; omega
  have hxl : xs.length = (a.eval y).cells.size := by simpa using hcl.1
  have hell : el.length = sz := hs0 el (List.mem_of_getElem? hel)
  have hrun := run_storeCells_cells (P := P) B' (i * sz + j) (a.eval y).cells.toList 0 w (fun q hq => by rw [cell_of j2]; simp at hq ⊢; omega) (fun q hq => frozen_of j2) (hcl.one h1)
  simp only [Nat.add_zero] at hrun
  obtain ⟨vs2, m1, m2, m3⟩ := setCells_at (a.eval y).cells.toList (i * sz + j) w vs j2
  have hown := r1.own b _ B' hb trivial j1
  have hz2 : (w.setCells B' (i * sz + j) (a.eval y).cells.toList).heap.size = w.heap.size := setCells_size ..
  have := r1.chg (hkp := setCells_kp ..) (w' := w.setCells B' (i * sz + j) (a.eval y).cells.toList) (S' := S) (blk' := .arr (es.set i (wr el j xs)) sz) hb trivial (.inl j1) ⟨by rw [hz2]; exact hown.2, hown.1⟩ (fun B1 hne _ => setCells_ne (Ne.symm hne) ..) (by omega) (fun _ _ => rfl) (fun B1 hB1 => by rw [hz2]; exact r1.low B1 hB1) (fun B1 hB1 => .inl hB1)
    ⟨rfl, by simp, fun _ => ⟨j1, by rw [bsz_of m1, bsz_of j2, m2]⟩⟩ (fun p => by
      refine ⟨hz, fun e' he' => ?_, vs2, e, m1, by rw [m2, List.length_set]; exact j3, fun i' el' j' c g1 g2 => ?_⟩
      · rcases List.mem_or_eq_of_mem_set he' with he' | rfl
        · exact hs0 e' he'
        · rw [wr_length]; exact hell
      · rw [List.getElem?_set] at g1
        rw [m3]
        simp only [Array.length_toList, ← hxl, Array.getElem?_toList]
        by_cases e1 : i = i'
        · subst e1
          rw [if_pos rfl, if_pos hlt] at g1
          injection g1 with g1; subst g1
          rw [wr_get] at g2
          by_cases e2 : j ≤ j' ∧ j' < j + xs.length ∧ j' < el.length
          · rw [if_pos e2] at g2
            rw [if_pos ⟨by omega, by omega, by omega⟩]
            have hlt2 : j' - j < (a.eval y).cells.size := by omega
            refine ⟨_, by rw [show i * sz + j' - (i * sz + j) = j' - j by omega]; exact Array.getElem?_eq_getElem hlt2, ?_⟩
            exact (hcl.2 (j' - j) c _ g2 (by simp [hlt2])).mono p
          · rw [if_neg e2] at g2
            have hj' : j' < el.length := (List.getElem?_eq_some_iff.1 g2).1
            rw [if_neg (by omega)]
            obtain ⟨u, f1, f2⟩ := j4 i el j' c hel g2
            exact ⟨u, f1, f2.mono p⟩
        · rw [if_neg e1] at g1
          have hlen := hs0 el' (List.mem_of_getElem? g1)
          have hj' : j' < el'.length := (List.getElem?_eq_some_iff.1 g2).1
          have hne : ¬ (i * sz + j ≤ i' * sz + j' ∧ i' * sz + j' < i * sz + j + xs.length ∧ i' * sz + j' < vs.size) := by
            rintro ⟨l1, l2, _⟩
            rcases Nat.lt_or_gt_of_ne e1 with hl | hl
            · have : (i + 1) * sz ≤ i' * sz := Nat.mul_le_mul_right _ hl
              rw [Nat.add_mul, Nat.one_mul] at this; omega
            · have : (i' + 1) * sz ≤ i * sz := Nat.mul_le_mul_right _ hl
              rw [Nat.add_mul, Nat.one_mul] at this; omega
          rw [if_neg hne]
          obtain ⟨u, f1, f2⟩ := j4 i' el' j' c g1 g2
          exact ⟨u, f1, f2.mono p⟩)
  rw [upd_self j1] at this
  obtain ⟨k1, k2⟩ := this
  exact ⟨_, S, ι, by simp [execOp, ho, hx, Instr.storeAt, Instr.sureAddr, storeVar, (D.ok t ti ht).sizeOf, ← hxl, hsz, hrun], k1, k2⟩
/-! ### Values of structs, compared -/
inductive EK where
  | b
  | i (k : IntKind)
  | s
def T.ek : EK → T → Bool
  | .b, .b _ => true
  | .i k, .i k' _ => k == k'
  | .s, .s _ => true
  | _, _ => false
def T.eq : T → T → Bool
  | .b x, .b y => x == y
  | .i _ x, .i _ y => x == y
  | .s x, .s y => x == y
  | _, _ => false
def eqTs : List T → List T → Bool
  | [], [] => true
  | x :: xs, y :: ys => x.eq y && eqTs xs ys
  | _, _ => false
def eks : List EK → List T → Bool
  | [], [] => true
  | k :: ks, x :: xs => x.ek k && eks ks xs
  | _, _ => false
end
end Go.YtamlleimfopmhaaMc

namespace Go.YtamlleimfopmhaaMc
theorem eks_len : ∀ {ks : List EK} {xs : List T}, eks ks xs = true → xs.length = ks.length
  | [], [], _ => rfl
  | [], _ :: _, h => by simp [eks] at h
  | _ :: _, [], h => by simp [eks] at h
  | k :: ks, x :: xs, h => by simp only [eks, Bool.and_eq_true] at h; simp [eks_len h.2]
theorem eks_app : ∀ {k1 k2 : List EK} {xs : List T}, eks (k1 ++ k2) xs = true → eks k1 (xs.take k1.length) = true ∧ eks k2 (xs.drop k1.length) = true
  | [], k2, xs, h => ⟨by simp [eks], by simpa using h⟩
  | k :: k1, k2, [], h => by simp [eks] at h
  | k :: k1, k2, x :: xs, h => by
    simp only [List.cons_append, eks, Bool.and_eq_true] at h
    obtain ⟨a, b⟩ := eks_app h.2
    exact ⟨by simp [eks, h.1, a], by simpa using b⟩
theorem eqTs_split : ∀ (k : Nat) (xs ys : List T), xs.length = ys.length → eqTs xs ys = (eqTs (xs.take k) (ys.take k) && eqTs (xs.drop k) (ys.drop k))
  | 0, xs, ys, _ => by simp [eqTs]
  | k + 1, [], [], _ => by simp [eqTs]
  | k + 1, [], _ :: _, h => by simp at h
  | k + 1, _ :: _, [], h => by simp at h
  | k + 1, x :: xs, y :: ys, h => by
    simp only [List.take_succ_cons, List.drop_succ_cons, eqTs, Bool.and_assoc]
    rw [eqTs_split k xs ys (by simpa using h)]
def RTs (w : World) (S : Nat → Nat) (xs : List T) (us : List Value) : Prop := xs.length = us.length ∧ ∀ (j : Nat) x u, xs[j]? = some x → us[j]? = some u → RT w S x u
theorem RTs.take {w : World} {S : Nat → Nat} {xs : List T} {us : List Value} (r : RTs w S xs us) (k : Nat) : RTs w S (xs.take k) (us.take k) :=
  ⟨by simp [r.1], fun j x u h1 h2 => by
    rw [List.getElem?_take] at h1 h2
    split at h1
    · rename_i hj; rw [if_pos hj] at h2; exact r.2 j x u h1 h2
    · cases h1⟩
theorem RTs.drop {w : World} {S : Nat → Nat} {xs : List T} {us : List Value} (r : RTs w S xs us) (k : Nat) : RTs w S (xs.drop k) (us.drop k) :=
  ⟨by simp [r.1], fun j x u h1 h2 => r.2 (k + j) x u (by simpa using h1) (by simpa using h2)⟩
def vOf (b : Bool) (us : List Value) : Value := if b then .agg us.toArray else us.headD undef
section
variable {P : Program}
theorem run_part' {t : Nat} {b : Bool} {i : TypeInfo} (ha : ∀ w, (Go.isAgg t).run P w = .ok b w) (hi : P.info? t = some i) {k : Nat} (hs : i.size = k) (h1 : b = false → k = 1) {us : List Value} (hl : us.length = k) {U : Array Value} {o : Nat} (hU : ∀ j u, us[j]? = some u → U[o + j]? = some u) (w : World) :
    (part t U o).run P w = .ok (vOf b us) w := by
  unfold part
  cases b with
  | true =>
    have hsz : (Go.sizeOf t).run P w = .ok k w := by simp [Go.sizeOf, typeInfo, hi, hs]
    simp only [Sem.run_bind, ha w, Result.andThen_ok, if_true, hsz, Sem.run_pure, vOf]
    congr 2
    apply Array.ext_getElem?
    intro j
    rw [Array.getElem?_extract]
    simp only [List.getElem?_toArray]
    by_cases hj : j < us.length
    · have := hU j _ (List.getElem?_eq_getElem hj)
      have hlt := (Array.getElem?_eq_some_iff.1 this).1
      have hlast := hU (us.length - 1) _ (List.getElem?_eq_getElem (by omega))
      have hlt2 := (Array.getElem?_eq_some_iff.1 hlast).1
      rw [if_pos (by omega), this]; simp [hj]
    · rw [List.getElem?_eq_none (by omega)]
      split
      · omega
      · rfl
  | false =>
    have hk := h1 rfl
    match us, (hl.trans hk) with
    | [u], _ =>
      have := hU 0 u rfl
      simp only [Nat.add_zero] at this
      simp [ha w, this, vOf]
structure EqC (P : Program) (t : Nat) (ks : List EK) (m : Nat) (b : Bool) : Prop where
  agg : ∀ w, (Go.isAgg t).run P w = .ok b w
  one : b = false → ks.length = 1
  run : ∀ (d : Nat) (w : World) (S : Nat → Nat) (xs ys : List T) (us vs : List Value), eks ks xs = true → eks ks ys = true → RTs w S xs us → RTs w S ys vs → (Op.equalIn (d + m + 1) t (vOf b us) (vOf b vs)).run P w = .ok (eqTs xs ys) w
structure EqF (P : Program) (F : List Field) (o : Nat) (ks : List EK) (m : Nat) : Prop where
  run : ∀ (d : Nat) (w : World) (S : Nat → Nat) (xs ys : List T) (us vs : List Value) (U V : Array Value), eks ks xs = true → eks ks ys = true → RTs w S xs us → RTs w S ys vs → (∀ (j : Nat) u, us[j]? = some u → U[o + j]? = some u) → (∀ (j : Nat) u, vs[j]? = some u → V[o + j]? = some u) → (Op.eqFields (d + m + 1) U V F).run P w = .ok (eqTs xs ys) w
theorem EqC.b {t : Nat} (m : Nat) (hu : P.underlying t = some .bool) : EqC P t [.b] m false := by
  refine ⟨fun w => by simp [Go.isAgg, run_underlying hu], fun _ => rfl, fun d w S xs ys us vs h1 h2 r1 r2 => ?_⟩
  match xs, us, ys, vs, h1, h2, r1, r2 with
  | [.b x], [u], [.b y], [v], _, _, r1, r2 =>
    have e1 := r1.2 0 _ _ rfl rfl; have e2 := r2.2 0 _ _ rfl rfl
    cases e1; cases e2
    simpa [vOf, eqTs, T.eq] using run_equalIn_bool w (d + m) t x y hu
theorem EqC.i {t : Nat} {k : IntKind} (m : Nat) (hu : P.underlying t = some (.int k)) : EqC P t [.i k] m false := by
  refine ⟨fun w => by simp [Go.isAgg, run_underlying hu], fun _ => rfl, fun d w S xs ys us vs h1 h2 r1 r2 => ?_⟩
  obtain ⟨x, rfl⟩ : ∃ x, xs = [.i k x] := by
    match xs, h1 with
    | [.i k1 x], h1 => simp [eks, T.ek] at h1; exact ⟨x, by rw [h1]⟩
    | [.b _], h1 => simp [eks, T.ek] at h1
    | [.s _], h1 => simp [eks, T.ek] at h1
    | [.l _], h1 => simp [eks, T.ek] at h1
    | [], h1 => simp [eks] at h1
    | _ :: _ :: _, h1 => simp [eks] at h1
  obtain ⟨y, rfl⟩ : ∃ x, ys = [.i k x] := by
    match ys, h2 with
    | [.i k1 x], h1 => simp [eks, T.ek] at h1; exact ⟨x, by rw [h1]⟩
    | [.b _], h1 => simp [eks, T.ek] at h1
    | [.s _], h1 => simp [eks, T.ek] at h1
    | [.l _], h1 => simp [eks, T.ek] at h1
    | [], h1 => simp [eks] at h1
    | _ :: _ :: _, h1 => simp [eks] at h1
  match us, vs, r1, r2 with
  | [u], [v], r1, r2 =>
    have e1 := r1.2 0 _ _ rfl rfl; have e2 := r2.2 0 _ _ rfl rfl
    cases e1; cases e2
    simpa [vOf, eqTs, T.eq] using run_equalIn_int w (d + m) t k k x y hu
theorem EqC.s {t : Nat} (m : Nat) (hu : P.underlying t = some .string) : EqC P t [.s] m false := by
  refine ⟨fun w => by simp [Go.isAgg, run_underlying hu], fun _ => rfl, fun d w S xs ys us vs h1 h2 r1 r2 => ?_⟩
  match xs, us, ys, vs, h1, h2, r1, r2 with
  | [.s x], [u], [.s y], [v], h1, h2, r1, r2 =>
    have e1 := r1.2 0 _ _ rfl rfl; have e2 := r2.2 0 _ _ rfl rfl
    cases e1 with | s _ bx hx => cases e2 with | s _ bY hy =>
    have := run_equalIn_string w (d + m) t bx bY hu
    rw [toList_data, toList_data, hx, hy] at this
    simpa [vOf, eqTs, T.eq] using this
theorem EqC.st {t m : Nat} {F : Array Field} {ks : List EK} (hu : P.underlying t = some (.struct F)) (hh : P.stoodInHeld t = false) (hf : EqF P F.toList 0 ks m) : EqC P t ks (m + 1) true := by
  refine ⟨fun w => by simp [Go.isAgg, run_underlying hu], fun h => (by cases h), fun d w S xs ys us vs h1 h2 r1 r2 => ?_⟩
  have hfs : P.fieldsOf t = F := by simp [Program.fieldsOf, hu]
  simp only [vOf, if_true]
  rw [run_equalIn_struct w (d + (m + 1)) t _ _ (by rw [hfs]; exact hu) hh, hfs]
  exact hf.run d w S xs ys us vs us.toArray vs.toArray h1 h2 r1 r2 (fun j u h => by simpa using h) (fun j u h => by simpa using h)
theorem EqF.nil {o m : Nat} : EqF P [] o [] m := by
  refine ⟨fun d w S xs ys us vs U V h1 h2 _ _ _ _ => ?_⟩
  have e1 : xs = [] := List.length_eq_zero_iff.1 (eks_len h1)
  have e2 : ys = [] := List.length_eq_zero_iff.1 (eks_len h2)
  subst e1; subst e2
  simp [Op.eqFields, eqTs]
theorem EqF.cons {f : Field} {fs : List Field} {o m k : Nat} {b : Bool} {k1 k2 : List EK} (hn : f.name ≠ "_") (ho : f.offset = o) (hi : (P.info? f.type).map (·.size) = some k) (hs : k = k1.length) (hc : EqC P f.type k1 m b) (hf : EqF P fs (o + k1.length) k2 m) : EqF P (f :: fs) o (k1 ++ k2) m := by
  refine ⟨fun d w S xs ys us vs U V h1 h2 r1 r2 hU hV => ?_⟩
  obtain ⟨b1, b2, b3⟩ := hc
  obtain ⟨i, hi, hk⟩ := Option.map_eq_some_iff.1 hi
  obtain ⟨a1, a2⟩ := eks_app h1
  obtain ⟨c1, c2⟩ := eks_app h2
  have l1 : us.length = k1.length + k2.length := by rw [← r1.1, eks_len h1]; simp
  have l2 : vs.length = k1.length + k2.length := by rw [← r2.1, eks_len h2]; simp
  subst ho
  have p1 := run_part' (P := P) b1 hi (hk.trans hs) b2 (us := us.take k1.length) (by simp; omega) (U := U) (o := f.offset) (fun j u h => hU j u (by rw [List.getElem?_take] at h; split at h; exact h; cases h)) w
  have p2 := run_part' (P := P) b1 hi (hk.trans hs) b2 (us := vs.take k1.length) (by simp; omega) (U := V) (o := f.offset) (fun j u h => hV j u (by rw [List.getElem?_take] at h; split at h; exact h; cases h)) w
  have q := b3 d w S _ _ _ _ a1 c1 (r1.take k1.length) (r2.take k1.length)
  have q2 := hf.run d w S _ _ _ _ U V a2 c2 (r1.drop k1.length) (r2.drop k1.length) (fun j u h => by rw [Nat.add_assoc]; exact hU _ u (by simpa using h)) (fun j u h => by rw [Nat.add_assoc]; exact hV _ u (by simpa using h))
  rw [eqTs_split k1.length xs ys (by rw [eks_len h1, eks_len h2])]
  simp only [Op.eqFields, ne_eq, hn, not_false_eq_true, if_true, Sem.run_bind, p1, p2, Result.andThen_ok]
  rw [q]
  simp only [Result.andThen_ok]
  cases eqTs (xs.take k1.length) (ys.take k1.length) with
  | false => simp
  | true => simpa using q2
/-- The fields of a struct: offset, type, what it holds. -/
def consec : Nat → List (Nat × Nat × List EK) → Bool
  | _, [] => true
  | o, x :: xs => x.1 == o && consec (o + x.2.2.length) xs
inductive AllC (P : Program) (m : Nat) : List (Nat × Nat × List EK) → Prop
  | nil : AllC P m []
  | cons {o t : Nat} {ks : List EK} {b : Bool} {xs : List (Nat × Nat × List EK)} (hc : EqC P t ks m b) (hs : AllC P m xs) : AllC P m ((o, t, ks) :: xs)
theorem EqF.of {m : Nat} {L : List (Nat × Nat × List EK)} (hc : AllC P m L) : ∀ {F : List Field} {o : Nat}, F.map (fun f => (f.name == "_", f.offset, f.type, (P.info? f.type).map (·.size))) = L.map (fun x => (false, x.1, x.2.1, some x.2.2.length)) → consec o L = true → EqF P F o (L.flatMap (·.2.2)) m := by
  induction hc with
  | nil => intro F o hF _; simp at hF; subst hF; exact .nil
  | @cons o' t ks b xs hc hs ih =>
    intro F o hF hco
    cases F with
    | nil => simp at hF
    | cons f F =>
      simp only [List.map_cons, List.cons.injEq, Prod.mk.injEq] at hF
      simp only [consec, Bool.and_eq_true, beq_iff_eq] at hco
      obtain ⟨⟨h1, h2, h3, h4⟩, h5⟩ := hF
      obtain ⟨h6, h7⟩ := hco
      rw [List.flatMap_cons]
      exact .cons (by simpa using h1) (h2.trans h6) h4 rfl (by rw [h3]; exact hc) (ih h5 h7)
theorem EqC.st' {t m : Nat} {ks : List EK} (L : List (Nat × Nat × List EK)) (hu : P.underlying t = some (.struct (P.fieldsOf t))) (hh : P.stoodInHeld t = false) (hF : (P.fieldsOf t).toList.map (fun f => (f.name == "_", f.offset, f.type, (P.info? f.type).map (·.size))) = L.map (fun x => (false, x.1, x.2.1, some x.2.2.length))) (hco : consec 0 L = true) (hk : L.flatMap (·.2.2) = ks) (hc : AllC P m L) : EqC P t ks (m + 1) true := by
  subst hk; exact .st hu hh (.of hc hF hco)
variable {n : Nat} {o : Oper} {env : Env} {h h' : List Blk} {v : V}
def tc (cs : List T) : List C := cs.map .t
theorem ag_val {w : World} {S : Nat → Nat} {ι : Nat → Option Nat} {as : List T} {u : Value} (r : RV w S ι h (.ag (tc as)) u) : ∃ us : List Value, u = .agg us.toArray ∧ RTs w S as us := by
  obtain ⟨vs, rfl, h1, h2⟩ := r
  refine ⟨vs.toList, rfl, by simpa [tc] using h1, fun j x u g1 g2 => h2 j (.t x) u (by simp [tc, g1]) g2⟩
def neqB (op : BinOp) (r : Bool) : Option Bool := match op with | .eql => some r | .neq => some (!r) | _ => none
/-- Two structs, compared. -/
theorem OpOk.eqS {op : BinOp} {t t' m : Nat} {x y : Operand} {p1 p2 : List T} {ks : List EK} {r : Bool} (ho : o.op = .binOp op t x y t') (c : EqC P t ks m true) (hm : m < 9998) (hg : P.eqGuardType P.depth t = false) (hx : oe env x = some (.ag (tc p1))) (hy : oe env y = some (.ag (tc p2))) (hr : neqB op (eqTs p1 p2) = some r) (h1 : eks ks p1 = true) (h2 : eks ks p2 = true) : OpOk P n o env h (.c (.t (.b r))) h := by
  refine .val fun w S ι ac _ r2 => ?_
  obtain ⟨us, e1, q1⟩ := ag_val (oe_ok r2 hx)
  obtain ⟨vs, e2, q2⟩ := ag_val (oe_ok r2 hy)
  have q := c.run (9999 - m) w S _ _ _ _ h1 h2 q1 q2
  rw [show 9999 - m + m + 1 = 10000 by omega] at q
  simp only [vOf, if_true] at q
  refine ⟨_, ?_, RT.b _⟩
  cases op <;> simp only [neqB, Option.some.injEq, reduceCtorEq] at hr <;> subst hr
  · simp only [execOp, ho, e1, e2, Sem.run_bind, run_eqGuard_agg w _ t x y _ _ hg, Result.andThen_ok, run_eql_struct, q, Sem.run_pure]
  · simp only [execOp, ho, e1, e2, Sem.run_bind, run_eqGuard_agg w _ t x y _ _ hg, Result.andThen_ok, run_neq_struct, q, Sem.run_pure]
theorem OpOk.eqE {t t' m : Nat} {x y : Operand} {ks : List EK} (p1 p2 : List T) (ho : o.op = .binOp .eql t x y t') (c : EqC P t ks m true) (hm : m < 9998) (hg : P.eqGuardType P.depth t = false) (hx : oe env x = some (.ag (tc p1))) (hy : oe env y = some (.ag (tc p2))) (h1 : eks ks p1 = true) (h2 : eks ks p2 = true) : OpOk P n o env h (.c (.t (.b (eqTs p1 p2)))) h :=
  .eqS ho c hm hg hx hy rfl h1 h2
theorem OpOk.eqN {t t' m : Nat} {x y : Operand} {ks : List EK} (p1 p2 : List T) (ho : o.op = .binOp .neq t x y t') (c : EqC P t ks m true) (hm : m < 9998) (hg : P.eqGuardType P.depth t = false) (hx : oe env x = some (.ag (tc p1))) (hy : oe env y = some (.ag (tc p2))) (h1 : eks ks p1 = true) (h2 : eks ks p2 = true) : OpOk P n o env h (.c (.t (.b (!eqTs p1 p2)))) h :=
  .eqS ho c hm hg hx hy rfl h1 h2
end
end Go.YtamlleimfopmhaaMc

namespace Go.YtamlleimfopmhaaMc
/-! ### What comes in -/
inductive Sh where
  | b
  | i (k : IntKind)
  | s
  | l (es : List Sh)
inductive Fit : Sh → T → Prop
  | b (x : Bool) : Fit .b (.b x)
  | i (k : IntKind) (n : Int) (h : (Lit.int k n).wf = true) : Fit (.i k) (.i k n)
  | s (x : List UInt8) (h : x.length ≤ 9223372036854775807) : Fit .s (.s x)
  | l (ss : List Sh) (es : List (List T)) (hl : es.length ≤ 9223372036854775807) (hn : ∀ e ∈ es, e.length = ss.length) (h : ∀ e ∈ es, ∀ (j : Nat) sh t, ss[j]? = some sh → e[j]? = some t → Fit sh t) : Fit (.l ss) (.l es)
def Fits (ss : List Sh) (e : List T) : Prop := e.length = ss.length ∧ ∀ (j : Nat) sh t, ss[j]? = some sh → e[j]? = some t → Fit sh t
theorem Fits.nil {e : List T} (h : Fits [] e) : e = [] := List.length_eq_zero_iff.1 h.1
theorem Fits.cons {sh : Sh} {ss : List Sh} {e : List T} (h : Fits (sh :: ss) e) : ∃ t ts, e = t :: ts ∧ Fit sh t ∧ Fits ss ts := by
  cases e with
  | nil => have := h.1; simp at this
  | cons t ts => exact ⟨t, ts, rfl, h.2 0 sh t rfl rfl, by have := h.1; simpa using this, fun j sh t a b => h.2 (j + 1) sh t (by simpa using a) (by simpa using b)⟩
def inS (w : World) (B : Nat) : Nat := if B < w.heap.size then 2 else 0
structure Rd (P : Program) (t : Nat) (ss : List Sh) : Prop where
  size : P.cellsOf t = ss.length
  out : ∀ {H : Type} (enc : TypeId × Value → H) (w : World) (base : Nat) (spare : Nat → Bool) (held : Bool) (fuel : Nat) (cs : List Value) (x : DataW H × List MemPlace), DataW.trod enc P w base spare held fuel t cs = some x → ∃ ts, Fits ss ts ∧ RTs w (inS w) ts cs
structure RdF (P : Program) (F : List Field) (o : Nat) (ss : List Sh) : Prop where
  out : ∀ {H : Type} (enc : TypeId × Value → H) (w : World) (base : Nat) (spare : Nat → Bool) (held : Bool) (fuel : Nat) (cs : List Value), (∀ f ∈ F, ∃ x, DataW.trod enc P w base spare held fuel f.type ((cs.drop f.offset).take (P.cellsOf f.type)) = some x) → cs.length = o + ss.length → ∃ ts, Fits ss ts ∧ RTs w (inS w) ts (cs.drop o)
section
variable {P : Program}
theorem fits1 {w : World} {S : Nat → Nat} {sh : Sh} {t : T} {u : Value} (h : Fit sh t) (r : RT w S t u) : ∃ ts, Fits [sh] ts ∧ RTs w S ts [u] :=
  ⟨[t], ⟨rfl, fun j sh' t' a b => by cases j with | zero => simp at a b; subst a; subst b; exact h | succ j => simp at a⟩, rfl, fun j x u' a b => by cases j with | zero => simp at a b; subst a; subst b; exact r | succ j => simp at a⟩
theorem Rd.b {t : Nat} (hs : P.cellsOf t = 1) (hu : P.underlying t = some .bool) : Rd P t [.b] := ⟨hs, fun enc w base spare held fuel cs x h => by
  obtain ⟨b, rfl, _⟩ := DataW.trod_bool hu h
  exact fits1 (.b b) (.b b)⟩
theorem Rd.i {t : Nat} {k : IntKind} (hs : P.cellsOf t = 1) (hu : P.underlying t = some (.int k)) : Rd P t [.i k] := ⟨hs, fun enc w base spare held fuel cs x h => by
  obtain ⟨n, rfl, _, hw⟩ := DataW.trod_int hu h
  exact fits1 (.i k n hw) (.i k n)⟩
theorem Rd.s {t : Nat} (hs : P.cellsOf t = 1) (hu : P.underlying t = some .string) : Rd P t [.s] := ⟨hs, fun enc w base spare held fuel cs x h => by
  obtain ⟨s, rfl, _, hw⟩ := DataW.trod_string hu h
  exact fits1 (.s s.data.toList (by simpa [maxLen] using hw)) (.s _ s rfl)⟩
theorem gather {α : Type} {p : Nat → α → Prop} (n : Nat) (key : ∀ i, i < n → ∃ y, p i y) : ∃ ys : List α, ys.length = n ∧ ∀ (i : Nat) y, ys[i]? = some y → p i y := by
  induction n with
  | zero => exact ⟨[], rfl, fun i y hy => by simp at hy⟩
  | succ n ih =>
    obtain ⟨ys, h1, h2⟩ := ih (fun i hi => key i (by omega))
    obtain ⟨y, hy⟩ := key n (by omega)
    refine ⟨ys ++ [y], by simp [h1], fun i z hz => ?_⟩
    rw [List.getElem?_append] at hz
    split at hz
    · exact h2 i z hz
    · rename_i hi
      have : i = ys.length := by have := (List.getElem?_eq_some_iff.1 hz).1; simp at this; omega
      subst this
      simp at hz; subst hz; rw [h1]; exact hy
theorem Rd.l {t e : Nat} {ss : List Sh} (hs : P.cellsOf t = 1) (hu : P.underlying t = some (.slice e)) (he : Rd P e ss) (h0 : 0 < ss.length) : Rd P t [.l ss] := ⟨hs, fun enc w base spare held fuel cs x h => by
  rcases Go.Deep.open_slice hu h with ⟨rfl, _⟩ | ⟨a, len, cap, m, n, Dd, Pl, rfl, hb, hl, hm, hmm, _, hx⟩
  · exact fits1 (.l ss [] (by simp) (by simp) (by simp)) (RT.l [] none 0 0 (fun _ _ => undef) (by simp) (by simp) (.inl rfl) (by simp))
  · have hle : len ≤ m := by rw [hmm]; split <;> omega
    have key : ∀ i, i < len → ∃ y : List T × List Value, Fits ss y.1 ∧ RTs w (inS w) y.1 y.2 ∧ y.2.length = ss.length ∧ ∀ (j : Nat) u, y.2[j]? = some u → w.cell? (a.add (i * ss.length + j)) = some u := by
      intro i hi
      obtain ⟨cs', h1, h2⟩ := hx i (by omega)
      obtain ⟨ts, f1, f2⟩ := he.out enc w base spare held n cs' _ h2
      obtain ⟨_, hlen, hcell⟩ := World.cells?_some h1
      refine ⟨(ts, cs'), f1, f2, by rw [hlen, he.size], fun j u hu => ?_⟩
      have hj : j < P.cellsOf e := by rw [← hlen]; exact (List.getElem?_eq_some_iff.1 hu).1
      have := hcell j hj
      rw [Go.Deep.add_add, he.size] at this
      rw [this, hu]
    obtain ⟨ys, hlen, hys⟩ := gather len key
    subst hlen
    have hle' : ys.length ≤ 9223372036854775807 := by simp only [maxLen] at hm; omega
    have gete : ∀ (i : Nat) el, (ys.map (·.1))[i]? = some el → ∃ y, ys[i]? = some y ∧ y.1 = el := fun i el hi => by
      rw [List.getElem?_map] at hi; obtain ⟨y, g1, g2⟩ := Option.map_eq_some_iff.1 hi; exact ⟨y, g1, g2⟩
    have sp : ys ≠ [] → a.spot = none := by
      intro hne
      obtain ⟨y, hy⟩ : ∃ y, ys[0]? = some y := by cases ys with | nil => exact absurd rfl hne | cons y _ => exact ⟨y, rfl⟩
      obtain ⟨_, _, k3, k4⟩ := hys 0 y hy
      have := k4 0 (y.2[0]'(by omega)) (List.getElem?_eq_getElem _)
      simp only [Nat.zero_mul, Nat.add_zero, Addr.add, if_true] at this
      unfold World.cell? at this
      split at this
      · split at this
        · cases this
        · rename_i hsp; simpa using hsp
      · cases this
    refine fits1 (.l ss (ys.map (·.1)) (by simpa using hle') (fun el hel => ?_) (fun el hel j sh t' g1 g2 => ?_)) ?_
    · obtain ⟨i, hi⟩ := List.getElem?_of_mem hel
      obtain ⟨y, g1, rfl⟩ := gete i el hi
      exact (hys i y g1).1.1
    · obtain ⟨i, hi⟩ := List.getElem?_of_mem hel
      obtain ⟨y, e1, rfl⟩ := gete i el hi
      exact (hys i y e1).1.2 j sh t' g1 g2
    · have := RT.l (w := w) (S := inS w) (ys.map (·.1)) (some a) cap ss.length (fun i j => (((ys[i]?).getD ([], [])).2[j]?).getD undef) (by simpa using hl) (fun el hel => by
          obtain ⟨i, hi⟩ := List.getElem?_of_mem hel
          obtain ⟨y, g1, rfl⟩ := gete i el hi
          exact (hys i y g1).1.1) (by
          by_cases hne : ys = []
          · left; subst hne; rfl
          · right
            have hsp := sp hne
            obtain ⟨B, o, s⟩ := a
            simp only at hsp; subst hsp
            have rd : ∀ (i : Nat) y (j : Nat) u, ys[i]? = some y → y.2[j]? = some u → w.cell? ⟨B, o + i * ss.length + j, none⟩ = some u := fun i y j u g1 g2 => by
              have := (hys i y g1).2.2.2 j u g2
              rw [add_at] at this
              rw [Nat.add_assoc]; exact this
            refine ⟨B, o, rfl, ?_, fun i el j t' g1 g2 => ?_⟩
            · obtain ⟨y, hy⟩ : ∃ y, ys[0]? = some y := by cases ys with | nil => exact absurd rfl hne | cons y _ => exact ⟨y, rfl⟩
              have h3 := (hys 0 y hy).2.2.1
              have := rd 0 y 0 (y.2[0]'(by omega)) hy (List.getElem?_eq_getElem _)
              unfold World.cell? at this
              split at this
              · rename_i hh
                have := (Array.getElem?_eq_some_iff.1 hh).1
                unfold inS; rw [if_pos this]
              · cases this
            · obtain ⟨y, e1, rfl⟩ := gete i el g1
              have hj : j < y.2.length := by rw [← (hys i y e1).2.1.1]; exact (List.getElem?_eq_some_iff.1 g2).1
              rw [rd i y j _ e1 (List.getElem?_eq_getElem hj)]
              simp [e1, hj]) (fun i el j t' g1 g2 => by
          obtain ⟨y, e1, rfl⟩ := gete i el g1
          have hj : j < y.2.length := by rw [← (hys i y e1).2.1.1]; exact (List.getElem?_eq_some_iff.1 g2).1
          have := (hys i y e1).2.1.2 j t' _ g2 (List.getElem?_eq_getElem hj)
          simpa [e1, hj] using this)
      simpa using this⟩
theorem RdF.nil {o : Nat} : RdF P [] o [] := ⟨fun enc w base spare held fuel cs _ hl => ⟨[], ⟨rfl, fun j sh t h => by simp at h⟩, by simp at hl ⊢; omega, fun j x u h => by simp at h⟩⟩
theorem RdF.cons {f : Field} {F : List Field} {o : Nat} {s1 s2 : List Sh} (ho : f.offset = o) (hf : Rd P f.type s1) (hF : RdF P F (o + s1.length) s2) : RdF P (f :: F) o (s1 ++ s2) := ⟨fun enc w base spare held fuel cs hx hl => by
  obtain ⟨x, h1⟩ := hx f (by simp)
  rw [ho, hf.size] at h1
  obtain ⟨t1, a1, a2⟩ := hf.out enc w base spare held fuel _ x h1
  obtain ⟨t2, b1, b2⟩ := hF.out enc w base spare held fuel cs (fun g hg => hx g (by simp [hg])) (by rw [hl]; simp; omega)
  have l1 := a1.1
  have l2 := a2.1
  refine ⟨t1 ++ t2, ⟨by simp [a1.1, b1.1], fun j sh t g1 g2 => ?_⟩, by simp [a1.1, b1.1, hl], fun j x u g1 g2 => ?_⟩
  · rw [List.getElem?_append] at g1 g2
    rw [l1] at g2
    split at g1
    · rename_i hj; rw [if_pos hj] at g2; exact a1.2 j sh t g1 g2
    · rename_i hj; rw [if_neg hj] at g2; exact b1.2 _ sh t g1 g2
  · rw [List.getElem?_append] at g1
    split at g1
    · rename_i hj
      exact a2.2 j x u g1 (by rw [List.getElem?_take, if_pos (by omega)]; exact g2)
    · rename_i hj
      refine b2.2 _ x u g1 ?_
      rw [List.getElem?_drop] at g2 ⊢
      rw [show o + s1.length + (j - t1.length) = o + j by omega]; exact g2⟩
inductive AllR (P : Program) : List (Nat × Nat × List Sh) → Prop
  | nil : AllR P []
  | cons {o t : Nat} {ss : List Sh} {xs : List (Nat × Nat × List Sh)} (hc : Rd P t ss) (hs : AllR P xs) : AllR P ((o, t, ss) :: xs)
def conseR : Nat → List (Nat × Nat × List Sh) → Bool
  | _, [] => true
  | o, x :: xs => x.1 == o && conseR (o + x.2.2.length) xs
theorem RdF.of {L : List (Nat × Nat × List Sh)} (hc : AllR P L) : ∀ {F : List Field} {o : Nat}, F.map (fun f => (f.offset, f.type)) = L.map (fun x => (x.1, x.2.1)) → conseR o L = true → RdF P F o (L.flatMap (·.2.2)) := by
  induction hc with
  | nil => intro F o hF _; simp at hF; subst hF; exact .nil
  | @cons o' t ss xs hc hs ih =>
    intro F o hF hco
    cases F with
    | nil => simp at hF
    | cons f F =>
      simp only [List.map_cons, List.cons.injEq, Prod.mk.injEq] at hF
      simp only [conseR, Bool.and_eq_true, beq_iff_eq] at hco
      obtain ⟨⟨h1, h2⟩, h3⟩ := hF
      obtain ⟨h4, h5⟩ := hco
      rw [List.flatMap_cons]
      exact .cons (h1.trans h4) (by rw [h2]; exact hc) (ih h3 h5)
theorem Rd.st {t : Nat} {ss : List Sh} (L : List (Nat × Nat × List Sh)) (hs : P.cellsOf t = ss.length) (hu : P.underlying t = some (.struct (P.fieldsOf t))) (hF : (P.fieldsOf t).toList.map (fun f => (f.offset, f.type)) = L.map (fun x => (x.1, x.2.1))) (hco : conseR 0 L = true) (hk : L.flatMap (·.2.2) = ss) (hc : AllR P L) : Rd P t ss := ⟨hs, fun enc w base spare held fuel cs x h => by
  subst hk
  obtain ⟨xs, n, rfl, _, hlen, hxs, hf⟩ := DataW.trod_struct hu h
  have := (RdF.of hc hF hco).out enc w base spare held n cs (fun f hm => by
    obtain ⟨i, hi⟩ := List.getElem?_of_mem hm
    have h1 := hf i f (by simpa using hi)
    have h2 : i < xs.length := by rw [hxs]; simpa using (List.getElem?_eq_some_iff.1 hi).1
    exact ⟨xs[i], by rw [h1, List.getElem?_eq_getElem h2]⟩) (by rw [hlen, hs, Nat.zero_add])
  simpa using this⟩
end
end Go.YtamlleimfopmhaaMc

namespace Go.YtamlleimfopmhaaMc
open Go.RowKit
/-! ### From a function's contract to a law's row -/
section
variable {P : Program}
theorem start (W : World) : HR W (inS W) (fun _ => none) [] := by
  refine ⟨fun B hB => ?_, fun b blk B hq => by simp at hq, fun b b' blk blk' B hq => by simp at hq, fun b cs hq => by simp at hq, fun b es sz hq => by simp at hq⟩
  unfold inS at hB; split at hB
  · assumption
  · exact absurd rfl hB
theorem law_run {f : FuncId} {xs : List V} {x : Bool} (hp : Pu P f xs (.c (.t (.b x)))) (W : World) (us : Array Value) (hr : RVs W (inS W) (fun _ => none) [] xs us.toList) : Calls P f us W (fun e w' => e = .returned (.bool x) ∧ Below W.heap.size W w') := by
  refine (hp.2.out W (inS W) (fun _ => none) us (start W) hr).mono ?_
  rintro e w' ⟨y, u, S', ι', h', rfl, k1, k2, k3, rfl⟩
  have := k3.b
  subst this
  refine ⟨rfl, k2.kp.os, k2.kp.tape, k2.kp.output, k2.sz, fun k hk => (k2.st k ?_).2⟩
  unfold inS; rw [if_pos hk]; omega
theorem arg_c {H : Type} {enc : TypeId × Value → H} {W : World} {base : Nat} {spare : Nat → Bool} {held : Bool} {t : Nat} {sh : Sh} {v : Value} {d : DataW H} {p : List MemPlace} (hd : Rd P t [sh]) (hv : v.oneCell' = true) (h : DataW.Trod enc P W base spare held t v d p) : ∃ x, Fit sh x ∧ RV W (inS W) (fun _ => none) [] (.c (.t x)) v := by
  obtain ⟨fuel, h⟩ := h
  have hc : v.cells.toList = [v] := by cases v <;> first | rfl | simp [Value.oneCell'] at hv
  rw [hc] at h
  obtain ⟨ts, f1, f2⟩ := hd.out enc W base spare held fuel _ _ h
  obtain ⟨t, ts', rfl, g1, g2⟩ := f1.cons
  exact ⟨t, g1, f2.2 0 t v rfl rfl⟩
theorem arg_st {H : Type} {enc : TypeId × Value → H} {W : World} {base : Nat} {spare : Nat → Bool} {held : Bool} {t : Nat} {ss : List Sh} {cs : Array Value} {d : DataW H} {p : List MemPlace} (hd : Rd P t ss) (h : DataW.Trod enc P W base spare held t (.agg cs) d p) : ∃ ts, Fits ss ts ∧ RV W (inS W) (fun _ => none) [] (.ag (tc ts)) (.agg cs) := by
  obtain ⟨fuel, h⟩ := h
  obtain ⟨ts, f1, f2⟩ := hd.out enc W base spare held fuel _ _ h
  refine ⟨ts, f1, cs, rfl, by simpa [tc] using show ts.length = cs.toList.length from f2.1, fun j c u g1 g2 => ?_⟩
  simp only [tc, List.getElem?_map] at g1
  obtain ⟨x, g3, rfl⟩ := Option.map_eq_some_iff.1 g1
  exact f2.2 j x u g3 g2
theorem rvs_nil {W : World} {S : Nat → Nat} {ι : Nat → Option Nat} {h : List Blk} : RVs W S ι h [] [] := ⟨rfl, fun j x u g => by simp at g⟩
theorem rvs_cons {W : World} {S : Nat → Nat} {ι : Nat → Option Nat} {h : List Blk} {x : V} {u : Value} {xs : List V} {us : List Value} (r : RV W S ι h x u) (rs : RVs W S ι h xs us) : RVs W S ι h (x :: xs) (u :: us) := ⟨by simp [rs.1], fun j y z g1 g2 => by
  cases j with
  | zero => simp at g1 g2; subst g1; subst g2; exact r
  | succ j => exact rs.2 j y z (by simpa using g1) (by simpa using g2)⟩
/-- A list, element by element. -/
theorem list_of {α : Type} {enc : α → List T} {fit : α → Prop} {es : List (List T)} (h : ∀ e ∈ es, ∃ a, e = enc a ∧ fit a) : ∃ l : List α, es = l.map enc ∧ ∀ a ∈ l, fit a := by
  induction es with
  | nil => exact ⟨[], rfl, by simp⟩
  | cons e es ih =>
    obtain ⟨a, rfl, ha⟩ := h e (by simp)
    obtain ⟨l, rfl, hl⟩ := ih (fun e he => h e (by simp [he]))
    exact ⟨a :: l, rfl, fun b hb => by exact (List.mem_cons.1 hb).elim (fun e => e ▸ ha) (hl b)⟩
theorem Fit.inL {ss : List Sh} {x : T} (h : Fit (.l ss) x) : ∃ es, x = .l es ∧ es.length ≤ 9223372036854775807 ∧ ∀ e ∈ es, Fits ss e := by
  cases h with | l _ es hl hn h => exact ⟨es, rfl, hl, fun e he => ⟨hn e he, h e he⟩⟩
theorem Fit.inI {k : IntKind} {x : T} (h : Fit (.i k) x) : ∃ n, x = .i k n ∧ (Lit.int k n).wf = true := by
  cases h with | i _ n h => exact ⟨n, rfl, h⟩
theorem Fit.inS {x : T} (h : Fit .s x) : ∃ s, x = .s s ∧ s.length ≤ 9223372036854775807 := by
  cases h with | s s h => exact ⟨s, rfl, h⟩
theorem Fit.inB {x : T} (h : Fit .b x) : ∃ b, x = .b b := by
  cases h with | b b => exact ⟨b, rfl⟩
end
end Go.YtamlleimfopmhaaMc

namespace Go.YtamlleimfopmhaaMc
/-! ### A region whose order is open, in every order -/
structure WE (P : Program) (n : Nat) (ops : Array Oper) (fuel : Nat) (L : Array Bool) (env : Env) (h : List Blk) (K : Env → List Blk → Prop) : Prop where
  out : ∀ (w : World) (S : Nat → Nat) (ι : Nat → Option Nat) (a : Act), HR w S ι h → ER w S ι h env a.tmps → a.tmps.size = n → a.defers = [] → ∀ (Q' : Exit → Act → World → Prop),
    (∀ w' S' ι' a' env' h', HR w' S' ι' h' → Pres w S ι h w' S' ι' h' → ER w' S' ι' h' env' a'.tmps → a'.tmps.size = n → a'.defers = [] → K env' h' → Q' .normal a' w') → wpAny P .any ops Q' fuel L a w
/-- The same, the operation i first. -/
structure WI (P : Program) (n : Nat) (ops : Array Oper) (fuel : Nat) (L : Array Bool) (i : Nat) (env : Env) (h : List Blk) (K : Env → List Blk → Prop) : Prop where
  out : ∀ (w : World) (S : Nat → Nat) (ι : Nat → Option Nat) (a : Act), HR w S ι h → ER w S ι h env a.tmps → a.tmps.size = n → a.defers = [] → ∀ (Q' : Exit → Act → World → Prop),
    (∀ w' S' ι' a' env' h', HR w' S' ι' h' → Pres w S ι h w' S' ι' h' → ER w' S' ι' h' env' a'.tmps → a'.tmps.size = n → a'.defers = [] → K env' h' → Q' .normal a' w') → wpOp P ops Q' i (wpAny P .any ops Q' fuel (L.setIfInBounds i true)) a w
inductive WL (P : Program) (n : Nat) (ops : Array Oper) (fuel : Nat) (L : Array Bool) (env : Env) (h : List Blk) (K : Env → List Blk → Prop) : List Nat → Prop
  | nil : WL P n ops fuel L env h K []
  | cons {i : Nat} {is : List Nat} (hi : WI P n ops fuel L i env h K) (hs : WL P n ops fuel L env h K is) : WL P n ops fuel L env h K (i :: is)
section
variable {P : Program} {n fuel : Nat} {ops : Array Oper} {L : Array Bool} {env : Env} {h h1 : List Blk} {K : Env → List Blk → Prop} {v : V} {i j d d' : Nat} {is : List Nat}
theorem WE.step (hr : Region.ready .any ops L = i :: is) (hs : WL P n ops fuel L env h K (i :: is)) : WE P n ops (fuel + 1) L env h K := by
  constructor; intro w S ι a r1 r2 r3 r4 Q' hQ
  have key : ∀ {l : List Nat}, WL P n ops fuel L env h K l → ∀ j ∈ l, wpOp P ops Q' j (wpAny P .any ops Q' fuel (L.setIfInBounds j true)) a w := by
    intro l hl
    induction hl with
    | nil => intro j hj; cases hj
    | cons hi _ ih =>
      intro j hj
      rcases List.mem_cons.1 hj with rfl | hj
      · exact hi.out w S ι a r1 r2 r3 r4 Q' hQ
      · exact ih j hj
  refine ⟨fun e => (by rw [hr] at e; cases e), fun j hj => ?_⟩
  rw [hr] at hj
  exact key hs j hj
theorem WE.done (hr : Region.ready .any ops L = []) (hk : K env h) : WE P n ops fuel L env h K := by
  constructor; intro w S ι a r1 r2 r3 r4 Q' hQ
  have := hQ w S ι a env h r1 (.refl ..) r2 r3 r4 hk
  cases fuel with
  | zero => exact ⟨hr, this⟩
  | succ f => exact ⟨fun _ => this, fun j hj => by rw [hr] at hj; cases hj⟩
variable {e' : Nat} {p p' : Op} {ty ty' : Nat} {ps ps' : String} {af af' : Array Edge} {gd gd' : Option (Nat × Bool)} {g1 : Bool}
theorem WI.g (hi : ops[i]? = some ⟨some e', p, ty, ps, af, gd⟩) (hg : grd ops env gd = some true) (hd : e'.blt n = true) (hr : OpK P n ⟨some e', p, ty, ps, af, gd⟩ env h fun v h1 => WE P n ops fuel (L.setIfInBounds i true) ((e', v) :: env) h1 K) : WI P n ops fuel L i env h K := by
  constructor; intro w S ι a r1 r2 r3 r4 Q' hQ
  obtain ⟨v, h1, hok, hk⟩ := hr.out
  unfold wpOp
  simp only [hi]
  rw [if_pos (grd_ok hg rfl w S ι a r2)]
  refine .inl (hok.out w S ι a r1 r2 r3 r4 _ _ fun w' S' ι' u k1 k2 k3 => ?_)
  exact hk.out w' S' ι' _ k1 (pu_ok (d := some e') (r2.mono k2) (by rw [r3]; simpa [dok, Nat.blt_eq] using hd) k3) (by rw [put_size]; exact r3) (by rw [put_defers]; exact r4) Q' fun w'' S'' ι'' a' env' h' q1 q2 q3 q4 q5 q6 => hQ w'' S'' ι'' a' env' h' q1 (k2.trans q2) q3 q4 q5 q6
theorem WI.g0 (hi : ops[i]? = some ⟨none, p, ty, ps, af, none⟩) (hr : OpK P n ⟨none, p, ty, ps, af, none⟩ env h fun _ h1 => WE P n ops fuel (L.setIfInBounds i true) env h1 K) : WI P n ops fuel L i env h K := by
  constructor; intro w S ι a r1 r2 r3 r4 Q' hQ
  obtain ⟨v, h1, hok, hk⟩ := hr.out
  unfold wpOp
  simp only [hi]
  rw [if_pos (by simp [Region.wanted])]
  refine .inl (hok.out w S ι a r1 r2 r3 r4 _ _ fun w' S' ι' u k1 k2 k3 => ?_)
  exact hk.out w' S' ι' _ k1 (r2.mono k2) r3 r4 Q' fun w'' S'' ι'' a' env' h' q1 q2 q3 q4 q5 q6 => hQ w'' S'' ι'' a' env' h' q1 (k2.trans q2) q3 q4 q5 q6
theorem WI.u (hi : ops[i]? = some ⟨some e', p, ty, ps, af, gd⟩) (hg : grd ops env gd = some false) (hd : e'.blt n = true) (hr : WE P n ops fuel (L.setIfInBounds i true) ((e', .tu []) :: env) h K) : WI P n ops fuel L i env h K := by
  constructor; intro w S ι a r1 r2 r3 r4 Q' hQ
  unfold wpOp
  simp only [hi]
  rw [if_neg (by rw [grd_ok hg rfl w S ι a r2]; simp)]
  exact hr.out w S ι _ r1 (pu_ok (d := some e') r2 (by rw [r3]; simpa [dok, Nat.blt_eq] using hd) (v := .tu []) ⟨#[], rfl, rfl, fun j x v h1 _ => by simp at h1⟩) (by rw [put_size]; exact r3) (by rw [put_defers]; exact r4) Q' hQ
theorem WI.gs (x : Bool) (hi : ops[i]? = some ⟨some e', p, ty, ps, af, some (j, g1)⟩) (hj : ops[j]? = some ⟨some d', p', ty', ps', af', gd'⟩) (hx : env.lookup d' = some (.c (.t (.b x)))) (h1 : x = true → WI P n ops fuel L i env h K) (h2 : x = false → WI P n ops fuel L i env h K) : WI P n ops fuel L i env h K := by
  cases x
  · exact h2 rfl
  · exact h1 rfl
theorem W.drawn {id : Nat} {Q : Ex → Env → List Blk → Prop} (hmx : P.follows .mixedOrders = true) (hr : WE P n ops ops.size (Array.replicate ops.size false) env h (Q .n)) : W P n (.region id ops true) env h Q := by
  constructor; intro w S ι a r1 r2 r3 r4
  refine wp_region_any hmx ?_
  obtain ⟨e1, e2⟩ := r1.ext (w' := { w with drawn := w.drawn + 1 }) (S' := S) (fun _ _ => rfl) (Nat.le_refl _) (fun _ _ => rfl) r1.low (fun b blk B g1 g2 g3 => (r1.own b blk B g1 g2 g3).1)
  refine hr.out _ S ι a e1 (r2.mono e2) r3 r4 _ fun w' S' ι' a' env' h' k1 k2 k3 k4 k5 k6 => ?_
  exact ⟨env', h', S', ι', .n, rfl, k4, k5, k1, e2.trans k2, k3, k6⟩
theorem W.drws {id : Nat} {y : Code} {Q : Ex → Env → List Blk → Prop} (hmx : P.follows .mixedOrders = true) (hr : WE P n ops ops.size (Array.replicate ops.size false) env h (fun env' h' => W P n y env' h' Q)) : W P n (.seq (.region id ops true) y) env h Q := W.seq (W.drawn hmx hr)
theorem WE.id (x : WE P n ops fuel L env h K) : WE P n ops fuel L env h K := x
theorem WI.id (x : WI P n ops fuel L i env h K) : WI P n ops fuel L i env h K := x
theorem WL.id (x : WL P n ops fuel L env h K is) : WL P n ops fuel L env h K is := x
theorem WL.on (e : is = []) : WL P n ops fuel L env h K is := by subst e; exact .nil
theorem WL.oc {is' : List Nat} (e : is = i :: is') (hi : WI P n ops fuel L i env h K) (hs : WL P n ops fuel L env h K is') : WL P n ops fuel L env h K is := by subst e; exact .cons hi hs
/-- One step that is only reckoned. -/
theorem WI.r (D : Tab P) {env' : Env} (hs : stp1 D.f n ops i env h = some (env', h1)) (hr : WE P n ops fuel (L.setIfInBounds i true) env' h1 K) : WI P n ops fuel L i env h K := by
  unfold stp1 at hs
  split at hs
  · rename_i o hi
    split at hs
    · rename_i d hd
      obtain ⟨dst, op, ty, ps, af, gd⟩ := o
      simp only at hd hs; subst hd
      split at hs
      · rename_i hdn
        split at hs
        · rename_i hg
          split at hs
          · rename_i v h2 hst; injection hs with hs; injection hs with e1 e2; subst e1; subst e2
            exact WI.g hi hg hdn (OpK.of (stpR_ok D hst) hr)
          · cases hs
        · rename_i hg; injection hs with hs; injection hs with e1 e2; subst e1; subst e2; exact WI.u hi hg hdn hr
        · cases hs
      · cases hs
    · rename_i hd
      split at hs
      · rename_i hg
        split at hs
        · rename_i v h2 hst
          obtain ⟨dst, op, ty, ps, af, gd⟩ := o
          simp only at hd hg; subst hd; subst hg
          injection hs with hs; injection hs with e1 e2; subst e1; subst e2; exact WI.g0 hi (OpK.of (stpR_ok D hst) hr)
        · cases hs
      · cases hs
  · cases hs
end
end Go.YtamlleimfopmhaaMc
