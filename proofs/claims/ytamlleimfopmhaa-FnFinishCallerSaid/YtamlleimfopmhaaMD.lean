/- Lemmas of this claim: walks through code, values and memory, and the contracts of functions; under no condition beyond those that each states. -/
import Derived.Test.YtamlleimfopmhaaMB
import Derived.Laws.Shifts
set_option linter.unusedVariables false
set_option linter.unusedSimpArgs false
namespace Go.YtamlleimfopmhaaMc
/-! ### Views of memory: some of the blocks, by other numbers; what is left out stays as it is, or is not spoken of -/
def C.ren (ρ : Nat → Nat) : C → C
  | .sl b n off len => .sl (ρ b) n off len
  | .ptr b off => .ptr (ρ b) off
  | .ap b n i j => .ap (ρ b) n i j
  | .t x => .t x
  | .fa cs => .fa cs
  | .emp => .emp
  | .np => .np
  | .u => .u
  | .k v => .k v
def X.ren (ρ : Nat → Nat) : X → X
  | .c x => .c (x.ren ρ)
  | .ag cs => .ag (cs.map (C.ren ρ))
def V.ren (ρ : Nat → Nat) : V → V
  | .c x => .c (x.ren ρ)
  | .ag cs => .ag (cs.map (C.ren ρ))
  | .tu xs => .tu (xs.map (X.ren ρ))
def Blk.ren (ρ : Nat → Nat) : Blk → Blk
  | .box cs => .box (cs.map (C.ren ρ))
  | .arr es sz => .arr es sz
  | .dead => .dead
  | .abs => .abs
inductive VwC (h : List Blk) (K : List Nat) (z : Bool) : C → C → Prop
  | sl {b i n off len : Nat} (hk : K[i]? = some b) : VwC h K z (.sl b n off len) (.sl i n off len)
  | ptr {b i off : Nat} (hk : K[i]? = some b) : VwC h K z (.ptr b off) (.ptr i off)
  | ap {b i n j k : Nat} (hk : K[i]? = some b) : VwC h K z (.ap b n j k) (.ap i n j k)
  | fz {b off len sz : Nat} {es : List (List C)} {es' : List (List T)} (hz : z = true) (hm : K.contains b = false) (hb : h[b]? = some (.arr es sz)) (he : es = es'.map (·.map .t)) : VwC h K z (.sl b es.length off len) (.t (.l ((es'.drop off).take len)))
  | emp : VwC h K z .emp (.t (.l []))
  | id {c : C} (hl : c.low 0 = true) : VwC h K z c c
inductive VwL (h : List Blk) (K : List Nat) (z : Bool) : List C → List C → Prop
  | nil : VwL h K z [] []
  | cons {c c' : C} {cs cs' : List C} (hc : VwC h K z c c') (hs : VwL h K z cs cs') : VwL h K z (c :: cs) (c' :: cs')
inductive VwX (h : List Blk) (K : List Nat) (z : Bool) : X → X → Prop
  | c {x y : C} (hc : VwC h K z x y) : VwX h K z (.c x) (.c y)
  | ag {x y : List C} (hc : VwL h K z x y) : VwX h K z (.ag x) (.ag y)
inductive VwXs (h : List Blk) (K : List Nat) (z : Bool) : List X → List X → Prop
  | nil : VwXs h K z [] []
  | cons {c c' : X} {cs cs' : List X} (hc : VwX h K z c c') (hs : VwXs h K z cs cs') : VwXs h K z (c :: cs) (c' :: cs')
inductive VwB (h : List Blk) (K : List Nat) (z : Bool) : Blk → Blk → Prop
  | box {cs cs' : List C} (hc : VwL h K z cs cs') : VwB h K z (.box cs) (.box cs')
  | arr {es : List (List C)} {sz : Nat} (hl : ∀ el ∈ es, el.all (·.low 0) = true) : VwB h K z (.arr es sz) (.arr es sz)
  | dead : VwB h K z .dead .dead
  | abs : VwB h K z .abs .abs
/-- The blocks of a view, one by one. -/
inductive VwH (h : List Blk) (K : List Nat) (z : Bool) : List Nat → List Blk → Prop
  | nil : VwH h K z [] []
  | cons {b : Nat} {bs : List Nat} {blk blk' : Blk} {h0 : List Blk} (hb : h[b]? = some blk) (hv : VwB h K z blk blk') (hs : VwH h K z bs h0) : VwH h K z (b :: bs) (blk' :: h0)
theorem VwH.len {h : List Blk} {K : List Nat} {z : Bool} {bs : List Nat} {h0 : List Blk} (v : VwH h K z bs h0) : h0.length = bs.length := by
  induction v with
  | nil => rfl
  | cons _ _ _ ih => simp [ih]
theorem VwH.get {h : List Blk} {K : List Nat} {z : Bool} {bs : List Nat} {h0 : List Blk} (v : VwH h K z bs h0) : ∀ (i : Nat) blk', h0[i]? = some blk' → ∃ b blk, bs[i]? = some b ∧ h[b]? = some blk ∧ VwB h K z blk blk' := by
  induction v with
  | nil => intro i blk' g; simp at g
  | cons hb hv _ ih =>
    intro i blk' g
    cases i with
    | zero => simp only [List.getElem?_cons_zero, Option.some.injEq] at g; subst g; exact ⟨_, _, rfl, hb, hv⟩
    | succ i => exact ih i blk' (by simpa using g)
theorem VwH.at {h : List Blk} {K : List Nat} {z : Bool} {bs : List Nat} {h0 : List Blk} (v : VwH h K z bs h0) (i b : Nat) (hb : bs[i]? = some b) : ∃ blk blk', h[b]? = some blk ∧ h0[i]? = some blk' ∧ VwB h K z blk blk' := by
  have hi : i < h0.length := by rw [v.len]; exact (List.getElem?_eq_some_iff.1 hb).1
  obtain ⟨b', blk, h1, h2, h3⟩ := v.get i _ (List.getElem?_eq_getElem hi)
  rw [hb] at h1; injection h1 with h1; subst h1
  exact ⟨blk, _, h2, List.getElem?_eq_getElem hi, h3⟩
theorem VwB.al {h : List Blk} {K : List Nat} {z : Bool} {a b : Blk} (v : VwB h K z a b) : a.al ↔ b.al := by cases v <;> exact Iff.rfl
theorem VwB.ne {h : List Blk} {K : List Nat} {z : Bool} {a b : Blk} (v : VwB h K z a b) (ha : a ≠ .abs) : b ≠ .abs := by cases v <;> simp_all
theorem VwB.ne' {h : List Blk} {K : List Nat} {z : Bool} {a b : Blk} (v : VwB h K z a b) (hb : b ≠ .abs) : a ≠ .abs := by cases v <;> simp_all
theorem low_mono {c : C} {m : Nat} (h : c.low 0 = true) : c.low m = true := by cases c <;> first | rfl | simp [C.low] at h
section
variable {w : World} {S : Nat → Nat} {ι : Nat → Option Nat} {h h0 : List Blk} {K : List Nat} {z : Bool}
/-- Memory of blocks that a view leaves out. -/
def hid (ι : Nat → Option Nat) (h : List Blk) (K : List Nat) (B : Nat) : Prop := ∃ b blk, ¬ b ∈ K ∧ h[b]? = some blk ∧ blk.al ∧ ι b = some B
open Classical in
noncomputable def vS (k : Nat) (S : Nat → Nat) (ι : Nat → Option Nat) (h : List Blk) (K : List Nat) : Nat → Nat := fun B => if hid ι h K B then k else S B
def vι (ι : Nat → Option Nat) (K : List Nat) : Nat → Option Nat := fun i => (K[i]?).bind ι
def zk (z : Bool) : Nat := if z then 2 else 1
theorem vS_old (r : HR w S ι h) {k B : Nat} (hB : S B ≠ 0) : vS k S ι h K B = S B := if_neg fun ⟨b, blk, _, g1, g2, g3⟩ => hB (r.own b blk B g1 g2 g3).1
theorem vι_at {i b : Nat} (hk : K[i]? = some b) : vι ι K i = ι b := by simp [vι, hk]
theorem RC.view (r : HR w S ι h) (hH : VwH h K z K h0) {c c' : C} {u : Value} (hc : VwC h K z c c') (rc : RC w S ι h c u) : RC w (vS (zk z) S ι h K) (vι ι K) h0 c' u := by
  have m2 : ∀ B, S B = 2 → vS (zk z) S ι h K B = 2 ∧ w.heap[B]? = w.heap[B]? := fun B hB => ⟨by rw [vS_old r (by omega)]; exact hB, rfl⟩
  have exk : ∀ (i b : Nat), K[i]? = some b → ex h b → ex h0 i := fun i b hk e => by
    obtain ⟨blk, blk', g1, g2, g3⟩ := hH.at i b hk
    obtain ⟨blk0, e1, e2⟩ := e
    rw [g1] at e1; injection e1 with e1; subst e1
    exact ⟨blk', g2, g3.ne e2⟩
  have arrk : ∀ (i b : Nat) (es : List (List C)) (sz : Nat), K[i]? = some b → h0[i]? = some (.arr es sz) → h[b]? = some (.arr es sz) := fun i b es sz hk g => by
    obtain ⟨blk, blk', g1, g2, g3⟩ := hH.at i b hk
    rw [g] at g2; injection g2 with g2; subst g2
    cases g3; exact g1
  have boxk : ∀ (i b : Nat) (cs : List C), K[i]? = some b → h0[i]? = some (.box cs) → ∃ cs0, h[b]? = some (.box cs0) := fun i b cs hk g => by
    obtain ⟨blk, blk', g1, g2, g3⟩ := hH.at i b hk
    rw [g] at g2; injection g2 with g2; subst g2
    cases g3; exact ⟨_, g1⟩
  cases hc with
  | emp => exact RT.mono m2 (show RT w S (.l []) u from rc.nz)
  | sl hk =>
    obtain ⟨hex, rc⟩ := rc
    refine ⟨exk _ _ hk hex, fun es sz he => ?_⟩
    obtain ⟨a1, a2⟩ := rc es sz (arrk _ _ es sz hk he)
    refine ⟨a1, fun e => ?_⟩
    obtain ⟨b1, b2⟩ := a2 e
    refine ⟨b1, ?_⟩
    rw [vι_at hk]; exact b2
  | ptr hk =>
    obtain ⟨hex, rc⟩ := rc
    refine ⟨exk _ _ hk hex, fun cs he => ?_⟩
    obtain ⟨cs0, g⟩ := boxk _ _ cs hk he
    obtain ⟨B, g1, g2⟩ := rc cs0 g
    exact ⟨B, by rw [vι_at hk]; exact g1, g2⟩
  | ap hk =>
    obtain ⟨hex, rc⟩ := rc
    refine ⟨exk _ _ hk hex, fun es sz he => ?_⟩
    obtain ⟨a1, a2⟩ := rc es sz (arrk _ _ es sz hk he)
    refine ⟨a1, fun e => ?_⟩
    obtain ⟨B, b1, b2⟩ := a2 e
    exact ⟨B, by rw [vι_at hk]; exact b1, b2⟩
  | id hl =>
    cases c with
    | t x => exact RT.mono m2 rc
    | fa cs =>
      obtain ⟨B, o, g1, g2, g3⟩ := rc
      exact ⟨B, o, g1, (m2 B g2).1, fun j t hj => let ⟨u', k1, k2⟩ := g3 j t hj; ⟨u', k1, k2.mono m2⟩⟩
    | emp => exact rc
    | np => exact rc
    | u => trivial
    | k _ => exact rc
    | sl => simp [C.low] at hl
    | ptr => simp [C.low] at hl
    | ap => simp [C.low] at hl
  | @fz b off len sz es es' hz hm hb he =>
    subst hz
    have hm : ¬ b ∈ K := by simpa using hm
    obtain ⟨_, rc⟩ := rc
    obtain ⟨hle, rc⟩ := (rc es sz hb).2 rfl
    obtain ⟨z0, hlen, hA⟩ := r.arr b es sz hb
    have hll : ((es'.drop off).take len).length = len := by rw [he] at hle; simp at hle; simp; omega
    show RT w (vS 2 S ι h K) (.l ((es'.drop off).take len)) u
    cases hB : ι b with
    | none =>
      rw [hB] at rc; obtain ⟨A, rfl⟩ := rc
      rcases hA with ⟨h0, _⟩ | ⟨B, vs, e, j1, _⟩
      · have : es.length = 0 := by rw [h0]; rfl
        have : len = 0 := by omega
        subst this
        have e0 : (es'.drop off).take 0 = [] := by simp
        rw [e0]
        exact RT.l [] A 0 0 (fun _ _ => undef) (by simp) (by simp) (.inl rfl) (by simp)
      · rw [hB] at j1; cases j1
    | some B =>
      rw [hB] at rc
      obtain ⟨cap, rfl, hcap, _⟩ := rc
      have hB2 : vS 2 S ι h K B = 2 := if_pos ⟨b, _, hm, hb, trivial, hB⟩
      rcases hA with ⟨h0, _⟩ | ⟨B', vs, e, j1, j2, j3, j4⟩
      · have : es.length = 0 := by rw [h0]; rfl
        have : len = 0 := by omega
        subst this
        have e0 : (es'.drop off).take 0 = [] := by simp
        rw [e0]
        exact RT.l [] _ cap 0 (fun _ _ => undef) (by simp) (by simp) (.inl rfl) (by simp)
      · rw [hB] at j1; injection j1 with j1; subst j1
        rw [← hll] at hcap
        have hget : ∀ (i : Nat) el (j : Nat) t, ((es'.drop off).take len)[i]? = some el → el[j]? = some t → ∃ v, vs[(off + i) * sz + j]? = some v ∧ RT w S t v := fun i el j t g1 g2 => by
          rw [List.getElem?_take] at g1
          split at g1
          · rw [List.getElem?_drop] at g1
            exact j4 (off + i) (el.map .t) j (.t t) (by rw [he]; simp [g1]) (by simp [g2])
          · cases g1
        have := RT.l (w := w) (S := vS 2 S ι h K) ((es'.drop off).take len) (some ⟨B, off * sz, none⟩) cap sz (fun i j => (vs[(off + i) * sz + j]?).getD undef) hcap (fun el hel => by
          have h1 := List.mem_of_mem_drop (List.mem_of_mem_take hel)
          have := hlen (el.map .t) (by rw [he]; exact List.mem_map.2 ⟨el, h1, rfl⟩)
          simpa using this) (.inr ⟨B, off * sz, rfl, hB2, fun i el j t g1 g2 => by
            obtain ⟨v, k1, _⟩ := hget i el j t g1 g2
            rw [cell_of j2, k1, show off * sz + i * sz + j = (off + i) * sz + j by rw [Nat.add_mul], k1]; rfl⟩) (fun i el j t g1 g2 => by
            obtain ⟨v, k1, k2⟩ := hget i el j t g1 g2
            rw [k1]
            exact RT.mono m2 k2)
        rw [hll] at this
        exact this
theorem VwL.ok (r : HR w S ι h) (hH : VwH h K z K h0) : ∀ {cs cs' : List C} {us : List Value}, VwL h K z cs cs' → RCs w S ι h cs us → RCs w (vS (zk z) S ι h K) (vι ι K) h0 cs' us
  | _, _, us, .nil, hr => ⟨hr.1, fun j c u h1 => by simp at h1⟩
  | _, _, [], .cons hc hs, hr => by have := hr.1; simp at this
  | _, _, u :: us, .cons hc hs, hr => by
    have ih := VwL.ok r hH (us := us) hs ⟨by have := hr.1; simpa using this, fun j c v g1 g2 => hr.2 (j + 1) c v (by simpa using g1) (by simpa using g2)⟩
    refine ⟨by simpa using ih.1, fun j c v g1 g2 => ?_⟩
    cases j with
    | zero => simp at g1 g2; subst g1; subst g2; exact RC.view r hH hc (hr.2 0 _ _ rfl rfl)
    | succ j => exact ih.2 j c v (by simpa using g1) (by simpa using g2)
theorem VwX.ok (r : HR w S ι h) (hH : VwH h K z K h0) {x x' : X} {u : Value} (hx : VwX h K z x x') (rx : RX w S ι h x u) : RX w (vS (zk z) S ι h K) (vι ι K) h0 x' u := by
  cases hx with
  | c hc => exact RC.view r hH hc rx
  | ag hc => obtain ⟨vs, e, rx⟩ := rx; exact ⟨vs, e, hc.ok r hH rx⟩
theorem VwXs.len {xs xs' : List X} (hx : VwXs h K z xs xs') : xs.length = xs'.length := by
  induction hx with
  | nil => rfl
  | cons _ _ ih => simp [ih]
theorem VwXs.get {xs xs' : List X} (hx : VwXs h K z xs xs') : ∀ (j : Nat) x', xs'[j]? = some x' → ∃ x, xs[j]? = some x ∧ VwX h K z x x' := by
  induction hx with
  | nil => intro j x' g; simp at g
  | cons hc _ ih =>
    intro j x' g
    cases j with
    | zero => simp at g; subst g; exact ⟨_, rfl, hc⟩
    | succ j => simpa using ih j x' (by simpa using g)
theorem VwXs.ok (r : HR w S ι h) (hH : VwH h K z K h0) {xs xs' : List X} {u : Value} (hx : VwXs h K z xs xs') (rv : RV w S ι h (resV xs) u) : RV w (vS (zk z) S ι h K) (vι ι K) h0 (resV xs') u := by
  match xs, xs', hx with
  | [x], [y], .cons hc .nil =>
    have rx : RX w S ι h x u := by cases x <;> exact rv
    exact (hc.ok r hH rx).v
  | [], [], .nil => obtain ⟨vs, e, l, r⟩ := rv; exact ⟨vs, e, l, fun j x u g => by simp at g⟩
  | x :: x2 :: xs, y :: y2 :: ys, hx =>
    obtain ⟨vs, e, l, rr⟩ := rv
    refine ⟨vs, e, by rw [← hx.len]; exact l, fun j z u g1 g2 => ?_⟩
    obtain ⟨z0, k1, k2⟩ := hx.get j z g1
    exact k2.ok r hH (rr j z0 u k1 g2)
theorem HR.view (r : HR w S ι h) (hn : K.Nodup) (hH : VwH h K z K h0) : HR w (vS (zk z) S ι h K) (vι ι K) h0 := by
  have nd : ∀ (i j b : Nat), K[i]? = some b → K[j]? = some b → i = j := fun i j b h1 h2 => by
    have l1 := (List.getElem?_eq_some_iff.1 h1).1
    exact (List.getElem?_inj l1 hn).1 (by rw [h1, h2])
  refine ⟨fun B hB => ?_, fun i blk B hq hd hB => ?_, fun i j blk blk' B q1 q2 d1 d2 e1 e2 => ?_, fun i cs hq => ?_, fun i es sz hq => ?_⟩
  · by_cases ho : hid ι h K B
    · obtain ⟨b, blk, _, g1, g2, g3⟩ := ho; exact (r.own b blk B g1 g2 g3).2
    · exact r.low B (by simpa [vS, ho] using hB)
  · obtain ⟨b, blk0, g1, g2, g3⟩ := hH.get i blk hq
    rw [vι_at g1] at hB
    obtain ⟨a1, a2⟩ := r.own b blk0 B g2 (g3.al.2 hd) hB
    refine ⟨?_, a2⟩
    have : ¬ hid ι h K B := fun ⟨b', blk', k0, k1, k2, k3⟩ => by
      have := r.inj b b' blk0 blk' B g2 k1 (g3.al.2 hd) k2 hB k3
      subst this
      exact k0 (List.mem_of_getElem? g1)
    unfold vS; rw [if_neg this]; exact a1
  · obtain ⟨b, blk0, g1, g2, g3⟩ := hH.get i blk q1
    obtain ⟨b', blk0', k1, k2, k3⟩ := hH.get j blk' q2
    rw [vι_at g1] at e1; rw [vι_at k1] at e2
    have := r.inj b b' _ _ B g2 k2 (g3.al.2 d1) (k3.al.2 d2) e1 e2
    subst this
    exact nd i j b g1 k1
  · obtain ⟨b, blk0, g1, g2, g3⟩ := hH.get i _ hq
    cases g3 with
    | @box cs0 _ hc =>
    obtain ⟨B, vs, e, i1, i2, i3⟩ := r.box b cs0 g2
    exact ⟨B, vs, e, by rw [vι_at g1]; exact i1, i2, hc.ok r hH i3⟩
  · obtain ⟨b, blk0, g1, g2, g3⟩ := hH.get i _ hq
    cases g3 with
    | arr hl =>
    obtain ⟨z0, i0, i1⟩ := r.arr b es sz g2
    refine ⟨z0, i0, ?_⟩
    rw [vι_at g1]
    rcases i1 with i1 | ⟨B, vs, e, i1, i2, i3, i4⟩
    · exact .inl i1
    · refine .inr ⟨B, vs, e, i1, i2, i3, fun i el j c he1 he2 => ?_⟩
      obtain ⟨v, k1, k2⟩ := i4 i el j c he1 he2
      exact ⟨v, k1, RC.view r hH (.id (List.all_eq_true.1 (hl el (List.mem_of_getElem? he1)) c (List.mem_of_getElem? he2))) k2⟩
/-- At a function's end: the blocks that were there keep their numbers. -/
theorem Pres.view {w0 : World} {S0 : Nat → Nat} {ι0 : Nat → Option Nat} {g : List Blk} (p : Pres w0 S0 ι0 g w S ι h) (r : HR w S ι h) (hH : VwH h K z K h0) (hK : ∀ i, i < g.length → K[i]? = some i) : Pres w0 S0 ι0 g w (vS (zk z) S ι h K) (vι ι K) h0 := by
  have hlen : g.length ≤ h0.length := by
    rw [hH.len]
    rcases Nat.lt_or_ge K.length g.length with hl | hl
    · have := (List.getElem?_eq_some_iff.1 (hK K.length hl)).1; omega
    · exact hl
  refine ⟨fun B hB => ?_, p.sz, hlen, fun b e => ?_, fun b es' sz' hb hq => ?_, fun b cs' hb hq => ?_, p.kp⟩
  · obtain ⟨a1, a2⟩ := p.st B hB
    exact ⟨by rw [vS_old r (by omega)]; exact a1, a2⟩
  · obtain ⟨blk, blk', g1, g2, g3⟩ := hH.at b b (hK b (ex_lt e))
    obtain ⟨blk0, e1, e2⟩ := p.ex b e
    rw [g1] at e1; injection e1 with e1; subst e1
    exact ⟨blk', g2, g3.ne e2⟩
  · have hk := hK b (ex_lt hb)
    obtain ⟨blk, blk', g1, g2, g3⟩ := hH.at b b hk
    rw [hq] at g2; injection g2 with g2; subst g2
    cases g3
    obtain ⟨es, q1, q2, q3⟩ := p.arr b es' sz' hb g1
    exact ⟨es, q1, q2, fun e => by rw [vι_at hk]; exact q3 e⟩
  · have hk := hK b (ex_lt hb)
    obtain ⟨blk, blk', g1, g2, g3⟩ := hH.at b b hk
    rw [hq] at g2; injection g2 with g2; subst g2
    cases g3
    obtain ⟨cs, q1, q2⟩ := p.box b _ hb g1
    exact ⟨cs, q1, by rw [vι_at hk]; exact q2⟩
end
section
variable {P : Program} {g : List Blk}
/-- A function, by its body; of what it made, the blocks of K are handed over, the others stay as they are. -/
theorem Fn.ofv {fn : Func} {c : Code} {f : FuncId} {xs : List V} {Q' : V → List Blk → Prop} (D : Tab P) (hf : P.funcs[f]? = some fn) (hc : fn.body = some c) (hn : xs.length ≤ fn.ntmps)
    (hw : W P fn.ntmps c (args 0 xs) g (fun e env' h' => (e = .n ∨ e = .r) ∧ ∃ ys zs K h1, resXs D.f env' h' (fn.results.toList.map rvOf) = some ys ∧ K.Nodup ∧ (∀ i, i < g.length → K[i]? = some i) ∧ VwH h' K true K h1 ∧ VwXs h' K true ys zs ∧ Q' (resV zs) h1)) : Fn P f xs g Q' := by
  constructor; intro w S ι us r1 hr
  refine calls_of_wp hf hc ?_
  have hl : us.size ≤ fn.ntmps := by have := hr.1; simp at this; omega
  refine wp_mono (hw.out w S ι { tmps := us ++ Array.replicate (fn.ntmps - us.size) undef, defers := [] } r1 (args_ok xs us.toList 0 hr (fun j u hu => ?_)) (by simp; omega) rfl) ?_
  · have hj : j < us.size := by have := (List.getElem?_eq_some_iff.1 hu).1; simpa using this
    simp only [Nat.zero_add]
    rw [Array.getElem?_append_left hj]; simpa using hu
  · rintro e a' w' ⟨env', h', S', ι', e', rfl, k2, k3, k4, k5, k6, hen, ys, zs, K, h1, q1, q2, q3, q4, q5, q6⟩
    obtain ⟨u, g1, g2⟩ := results_ok D k4 k6 q1
    have : ∃ v, (results fn a'.tmps).run P w' = .ok v w' ∧ (∃ x u S' ι' h'', Ending.returned v = .returned u ∧ HR w' S' ι' h'' ∧ Pres w S ι g w' S' ι' h'' ∧ RV w' S' ι' h'' x u ∧ Q' x h'') :=
      ⟨u, g1, _, u, _, _, h1, rfl, k4.view q2 q4, k5.view k4 q4 q3, q5.ok k4 q4 g2, q6⟩
    rcases hen with rfl | rfl <;> exact ⟨k3, this⟩
/-- A function whose results, and what it leaves in memory, are known. -/
structure Po (P : Program) (f : FuncId) (xs : List V) (g : List Blk) (v : V) (h1 : List Blk) : Prop where
  cal : Callable P f
  fn : Fn P f xs g (fun r h' => r = v ∧ h' = h1)
/-- A function of whose results something is known. -/
structure Px (P : Program) (f : FuncId) (xs : List V) (g : List Blk) {α : Type} (p : α → Prop) (v : α → V) (h1 : α → List Blk) : Prop where
  cal : Callable P f
  fn : Fn P f xs g (fun r h' => ∃ a, p a ∧ r = v a ∧ h' = h1 a)
/-- What a body must come to. -/
def Ro (D : Tab P) (fn : Func) (g : List Blk) (v : V) (h1 : List Blk) (e : Ex) (env' : Env) (h' : List Blk) : Prop :=
  (e = .n ∨ e = .r) ∧ ∃ ys zs K h2, resXs D.f env' h' (fn.results.toList.map rvOf) = some ys ∧ K.Nodup ∧ (∀ i, i < g.length → K[i]? = some i) ∧ VwH h' K true K h2 ∧ VwXs h' K true ys zs ∧ resV zs = v ∧ h2 = h1
def Rx (D : Tab P) (fn : Func) (g : List Blk) {α : Type} (p : α → Prop) (v : α → V) (h1 : α → List Blk) (e : Ex) (env' : Env) (h' : List Blk) : Prop :=
  (e = .n ∨ e = .r) ∧ ∃ ys zs K h2, resXs D.f env' h' (fn.results.toList.map rvOf) = some ys ∧ K.Nodup ∧ (∀ i, i < g.length → K[i]? = some i) ∧ VwH h' K true K h2 ∧ VwXs h' K true ys zs ∧ ∃ a, p a ∧ resV zs = v a ∧ h2 = h1 a
theorem Po.of {fn : Func} {c : Code} {f : FuncId} {xs : List V} {v : V} {h1 : List Blk} (D : Tab P) (hf : P.funcs[f]? = some fn) (hc : fn.body = some c) (hn : xs.length.ble fn.ntmps = true) (hnm : (fn.name == "runtime.NumGoroutine") = false)
    (hw : W P fn.ntmps c (args 0 xs) g (Ro D fn g v h1)) : Po P f xs g v h1 :=
  ⟨.of hf (by rw [hc]; rfl) hnm, .ofv D hf hc (by simpa using hn) hw⟩
theorem Px.of {fn : Func} {c : Code} {f : FuncId} {xs : List V} {α : Type} {p : α → Prop} {v : α → V} {h1 : α → List Blk} (D : Tab P) (hf : P.funcs[f]? = some fn) (hc : fn.body = some c) (hn : xs.length.ble fn.ntmps = true) (hnm : (fn.name == "runtime.NumGoroutine") = false)
    (hw : W P fn.ntmps c (args 0 xs) g (Rx D fn g p v h1)) : Px P f xs g p v h1 :=
  ⟨.of hf (by rw [hc]; rfl) hnm, .ofv D hf hc (by simpa using hn) (hw.mono fun e env' h' ⟨q1, ys, zs, K, h2, a1, a2, a3, a4, a5, a, b1, b2, b3⟩ => ⟨q1, ys, zs, K, h2, a1, a2, a3, a4, a5, a, b1, b2, b3⟩)⟩
end
end Go.YtamlleimfopmhaaMc

namespace Go.YtamlleimfopmhaaMc
/-! ### Back from a view -/
def rf (K : List Nat) (n : Nat) (i : Nat) : Nat := match K[i]? with
  | some b => b
  | none => n + (i - K.length)
def setAll : List Blk → List Nat → List Blk → List Blk
  | h, b :: bs, blk :: blks => setAll (h.set b blk) bs blks
  | h, [], _ => h
  | h, _ :: _, [] => h
def unH (h : List Blk) (K : List Nat) (h1 : List Blk) : List Blk :=
  setAll h K (h1.map (Blk.ren (rf K h.length))) ++ (h1.drop K.length).map (Blk.ren (rf K h.length))
theorem setAll_len : ∀ (K : List Nat) (h bs : List Blk), (setAll h K bs).length = h.length
  | [], h, bs => by simp [setAll]
  | _ :: _, h, [] => by simp [setAll]
  | b :: K, h, blk :: bs => by rw [setAll, setAll_len K]; simp
theorem setAll_out : ∀ (K : List Nat) (h bs : List Blk) (b : Nat), ¬ b ∈ K → (setAll h K bs)[b]? = h[b]?
  | [], h, bs, b, _ => by simp [setAll]
  | _ :: _, h, [], b, _ => by simp [setAll]
  | k :: K, h, blk :: bs, b, hn => by
    rw [setAll, setAll_out K _ bs b (fun e => hn (List.mem_cons_of_mem _ e)), List.getElem?_set_ne (fun e => hn (by simp [e]))]
theorem setAll_in : ∀ (K : List Nat) (h bs : List Blk) (i b : Nat) (blk : Blk), K.Nodup → K[i]? = some b → bs[i]? = some blk → b < h.length → (setAll h K bs)[b]? = some blk
  | [], h, bs, i, b, blk, _, hk, _, _ => by simp at hk
  | _ :: _, h, [], i, b, blk, _, _, hb, _ => by simp at hb
  | k :: K, h, blk0 :: bs, i, b, blk, hn, hk, hb, hl => by
    rw [setAll]
    obtain ⟨n1, n2⟩ := List.nodup_cons.1 hn
    cases i with
    | zero =>
      simp at hk hb; subst hk; subst hb
      rw [setAll_out K _ bs k n1, List.getElem?_set_self hl]
    | succ i => exact setAll_in K _ bs i b blk n2 (by simpa using hk) (by simpa using hb) (by simpa using hl)
section
variable {h h1 : List Blk} {K : List Nat}
theorem unH_in {i b : Nat} {blk : Blk} (hn : K.Nodup) (hk : K[i]? = some b) (hb : h1[i]? = some blk) (hl : b < h.length) : (unH h K h1)[b]? = some (blk.ren (rf K h.length)) := by
  unfold unH
  rw [List.getElem?_append_left (by rw [setAll_len]; exact hl)]
  exact setAll_in K h _ i b _ hn hk (by simp [hb]) hl
theorem unH_out {b : Nat} (hk : ¬ b ∈ K) (hl : b < h.length) : (unH h K h1)[b]? = h[b]? := by
  unfold unH
  rw [List.getElem?_append_left (by rw [setAll_len]; exact hl)]
  exact setAll_out K h _ b hk
theorem unH_new {b : Nat} (hl : h.length ≤ b) : (unH h K h1)[b]? = (h1[K.length + (b - h.length)]?).map (Blk.ren (rf K h.length)) := by
  unfold unH
  rw [List.getElem?_append_right (by rw [setAll_len]; exact hl), setAll_len]
  simp
theorem unH_len (hk : K.length ≤ h1.length) : (unH h K h1).length = h.length + (h1.length - K.length) := by
  unfold unH; rw [List.length_append, setAll_len]; simp
end
/-- Where a block's memory is, behind a call. -/
def uι (ι ι' : Nat → Option Nat) (h : List Blk) (K : List Nat) : Nat → Option Nat := fun b => if b < h.length then (match K.idxOf? b with
  | some i => ι' i
  | none => ι b) else ι' (K.length + (b - h.length))
open Classical in
noncomputable def uS (S' : Nat → Nat) (ι : Nat → Option Nat) (h : List Blk) (K : List Nat) : Nat → Nat := fun B => if hid ι h K B then 0 else S' B
theorem idx_in {K : List Nat} {i b : Nat} (hn : K.Nodup) (hk : K[i]? = some b) : K.idxOf? b = some i := by
  induction K generalizing i with
  | nil => simp at hk
  | cons k K ih =>
    obtain ⟨n1, n2⟩ := List.nodup_cons.1 hn
    cases i with
    | zero => simp at hk; subst hk; simp [List.idxOf?_cons]
    | succ i =>
      have hk' : K[i]? = some b := by simpa using hk
      have hne : (k == b) = false := by
        simp only [beq_eq_false_iff_ne]; intro e; subst e; exact n1 (List.mem_of_getElem? hk')
      rw [List.idxOf?_cons]; simp [hne, ih n2 hk']
theorem idx_out {K : List Nat} {b : Nat} (hk : ¬ b ∈ K) : K.idxOf? b = none := by simpa [List.idxOf?_eq_none_iff] using hk
section
variable {w w' : World} {S S' : Nat → Nat} {ι ι' : Nat → Option Nat} {h h0 h1 : List Blk} {K : List Nat} {z : Bool}
theorem uι_in {i b : Nat} (hn : K.Nodup) (hk : K[i]? = some b) (hl : b < h.length) : uι ι ι' h K b = ι' i := by
  unfold uι; rw [if_pos hl, idx_in hn hk]
theorem uι_out {b : Nat} (hk : ¬ b ∈ K) (hl : b < h.length) : uι ι ι' h K b = ι b := by
  unfold uι; rw [if_pos hl, idx_out hk]
theorem uι_new {b : Nat} (hl : h.length ≤ b) : uι ι ι' h K b = ι' (K.length + (b - h.length)) := by
  unfold uι; rw [if_neg (by omega)]
theorem uι_rf {i : Nat} (hn : K.Nodup) (hl : ∀ (i b : Nat), K[i]? = some b → b < h.length) : uι ι ι' h K (rf K h.length i) = ι' i := by
  unfold rf
  cases hk : K[i]? with
  | some b => exact uι_in hn hk (hl i b hk)
  | none =>
    have : K.length ≤ i := List.getElem?_eq_none_iff.1 hk
    simp only []
    rw [uι_new (by omega)]
    congr 1; omega
theorem unH_rf {i : Nat} (hn : K.Nodup) (hl : ∀ (i b : Nat), K[i]? = some b → b < h.length) (hk : K.length ≤ h1.length) : (unH h K h1)[rf K h.length i]? = (h1[i]?).map (Blk.ren (rf K h.length)) := by
  unfold rf
  cases hk' : K[i]? with
  | some b =>
    have hi : i < h1.length := by have := (List.getElem?_eq_some_iff.1 hk').1; omega
    rw [List.getElem?_eq_getElem hi]
    exact unH_in hn hk' (List.getElem?_eq_getElem hi) (hl i b hk')
  | none =>
    have : K.length ≤ i := List.getElem?_eq_none_iff.1 hk'
    simp only []
    rw [unH_new (by omega)]
    congr 2; omega
/-- What may stand in a cell behind a call: nothing of what was lent. -/
def C.sf : C → Bool
  | .t (.l _) => false
  | .fa _ => false
  | _ => true
def okc (z : Bool) (c : C) : Bool := !z || c.sf
def Blk.okb (z : Bool) : Blk → Bool
  | .box cs => cs.all (okc z)
  | .arr es _ => !z || es.all (·.all C.sf)
  | _ => true
/-- Rows name no blocks. -/
def Blk.rl : Blk → Prop
  | .arr es _ => ∀ el ∈ es, el.all (·.low 0) = true
  | _ => True
structure Back (w : World) (S : Nat → Nat) (ι : Nat → Option Nat) (h h0 : List Blk) (K : List Nat) (z : Bool) (w' : World) (S' : Nat → Nat) (ι' : Nat → Option Nat) (h1 : List Blk) : Prop where
  r : HR w S ι h
  hn : K.Nodup
  hH : VwH h K z K h0
  r' : HR w' S' ι' h1
  p : Pres w (vS (zk z) S ι h K) (vι ι K) h0 w' S' ι' h1
  ok : ∀ blk ∈ h1, blk.okb z = true
  rl : ∀ blk ∈ h1, blk.rl
theorem Back.kl (q : Back w S ι h h0 K z w' S' ι' h1) : K.length ≤ h1.length := by have := q.p.len; rw [q.hH.len] at this; exact this
theorem Back.hl (q : Back w S ι h h0 K z w' S' ι' h1) (i b : Nat) (hk : K[i]? = some b) : b < h.length := by
  obtain ⟨blk, _, g, _, _⟩ := q.hH.at i b hk
  exact (List.getElem?_eq_some_iff.1 g).1
theorem Back.two (q : Back w S ι h h0 K z w' S' ι' h1) : ∀ B, S' B = 2 → ¬ hid ι h K B → uS S' ι h K B = 2 ∧ w'.heap[B]? = w'.heap[B]? := fun B hB hh => ⟨by unfold uS; rw [if_neg hh]; exact hB, rfl⟩
theorem Back.hidS (q : Back w S ι h h0 K z w' S' ι' h1) {B : Nat} (hh : hid ι h K B) : S' B = zk z := by
  have : vS (zk z) S ι h K B = zk z := if_pos hh
  rw [(q.p.st B (by rw [this]; cases z <;> simp [zk])).1, this]
theorem RT.sf {w1 w2 : World} {S1 S2 : Nat → Nat} {t : T} {u : Value} (hs : (C.t t).sf = true) (r : RT w1 S1 t u) : RT w2 S2 t u := by
  cases r with
  | b x => exact .b x
  | i k n => exact .i k n
  | s x ba hx => exact .s x ba hx
  | l => simp [C.sf] at hs
theorem Back.t (q : Back w S ι h h0 K z w' S' ι' h1) {t : T} {u : Value} (hc : okc z (.t t) = true) (r : RT w' S' t u) : RT w' (uS S' ι h K) t u := by
  cases z with
  | true => exact RT.sf (by simpa [okc] using hc) r
  | false =>
    refine RT.mono (fun B hB => q.two B hB fun hh => ?_) r
    have := q.hidS hh; simp [zk] at this; omega
theorem Back.c (q : Back w S ι h h0 K z w' S' ι' h1) {c : C} {u : Value} (hc : okc z c = true) (r : RC w' S' ι' h1 c u) : RC w' (uS S' ι h K) (uι ι ι' h K) (unH h K h1) (c.ren (rf K h.length)) u := by
  have exr : ∀ i, ex h1 i → ex (unH h K h1) (rf K h.length i) := fun i e => by
    obtain ⟨blk, g1, g2⟩ := e
    exact ⟨blk.ren (rf K h.length), by rw [unH_rf q.hn q.hl q.kl, g1]; rfl, by cases blk <;> simp_all [Blk.ren]⟩
  have arr : ∀ (i : Nat) (es : List (List C)) (sz : Nat), (unH h K h1)[rf K h.length i]? = some (.arr es sz) → h1[i]? = some (.arr es sz) := fun i es sz g => by
    rw [unH_rf q.hn q.hl q.kl] at g
    obtain ⟨blk, g1, g2⟩ := Option.map_eq_some_iff.1 g
    cases blk <;> simp [Blk.ren] at g2
    obtain ⟨rfl, rfl⟩ := g2; exact g1
  have box : ∀ (i : Nat) (cs : List C), (unH h K h1)[rf K h.length i]? = some (.box cs) → ∃ cs0, h1[i]? = some (.box cs0) := fun i cs g => by
    rw [unH_rf q.hn q.hl q.kl] at g
    obtain ⟨blk, g1, g2⟩ := Option.map_eq_some_iff.1 g
    cases blk <;> simp [Blk.ren] at g2
    exact ⟨_, g1⟩
  cases c with
  | t x => exact q.t hc r
  | emp => exact r
  | np => exact r
  | u => trivial
  | k _ => exact r
  | fa cs =>
    obtain ⟨B, o, g1, g2, g3⟩ := r
    cases z with
    | true => simp [okc, C.sf] at hc
    | false =>
      have hh : ¬ hid ι h K B := fun hh => by have := q.hidS hh; simp [zk] at this; omega
      exact ⟨B, o, g1, (q.two B g2 hh).1, fun j t hj => let ⟨u', k1, k2⟩ := g3 j t hj; ⟨u', k1, q.t (by simp [okc]) k2⟩⟩
  | sl b n off len =>
    obtain ⟨e, r⟩ := r
    refine ⟨exr b e, fun es sz g => ?_⟩
    obtain ⟨a1, a2⟩ := r es sz (arr b es sz g)
    refine ⟨a1, fun e => ?_⟩
    obtain ⟨b1, b2⟩ := a2 e
    exact ⟨b1, by rw [uι_rf q.hn q.hl]; exact b2⟩
  | ptr b off =>
    obtain ⟨e, r⟩ := r
    refine ⟨exr b e, fun cs g => ?_⟩
    obtain ⟨cs0, g⟩ := box b cs g
    obtain ⟨B, g1, g2⟩ := r cs0 g
    exact ⟨B, by rw [uι_rf q.hn q.hl]; exact g1, g2⟩
  | ap b n i j =>
    obtain ⟨e, r⟩ := r
    refine ⟨exr b e, fun es sz g => ?_⟩
    obtain ⟨a1, a2⟩ := r es sz (arr b es sz g)
    refine ⟨a1, fun e => ?_⟩
    obtain ⟨B, b1, b2⟩ := a2 e
    exact ⟨B, by rw [uι_rf q.hn q.hl]; exact b1, b2⟩
theorem Back.cs (q : Back w S ι h h0 K z w' S' ι' h1) {cs : List C} {us : List Value} (hc : cs.all (okc z) = true) (r : RCs w' S' ι' h1 cs us) : RCs w' (uS S' ι h K) (uι ι ι' h K) (unH h K h1) (cs.map (C.ren (rf K h.length))) us :=
  ⟨by simpa using r.1, fun j c u g1 g2 => by
    rw [List.getElem?_map] at g1
    obtain ⟨c', e1, rfl⟩ := Option.map_eq_some_iff.1 g1
    exact q.c (List.all_eq_true.1 hc c' (List.mem_of_getElem? e1)) (r.2 j c' u e1 g2)⟩
theorem ren_low {c : C} {ρ : Nat → Nat} (hl : c.low 0 = true) : c.ren ρ = c := by cases c <;> first | rfl | simp [C.low] at hl
/-- What was known stays known. -/
theorem Back.pres (q : Back w S ι h h0 K z w' S' ι' h1) : Pres w S ι h w' (uS S' ι h K) (uι ι ι' h K) (unH h K h1) := by
  have len := unH_len (h := h) q.kl
  refine ⟨fun B hB => ?_, q.p.sz, by omega, fun b e => ?_, fun b es' sz' hb hq => ?_, fun b cs' hb hq => ?_, q.p.kp⟩
  · have hh : ¬ hid ι h K B := fun ⟨b, blk, _, g1, g2, g3⟩ => hB (q.r.own b blk B g1 g2 g3).1
    have hv : vS (zk z) S ι h K B = S B := if_neg hh
    obtain ⟨a1, a2⟩ := q.p.st B (by rw [hv]; exact hB)
    exact ⟨by unfold uS; rw [if_neg hh, a1, hv], a2⟩
  · have hb := ex_lt e
    by_cases hk : b ∈ K
    · obtain ⟨i, hi⟩ := List.getElem?_of_mem hk
      obtain ⟨blk, blk', g1, g2, g3⟩ := q.hH.at i b hi
      obtain ⟨blk0, e1, e2⟩ := e
      rw [g1] at e1; injection e1 with e1; subst e1
      obtain ⟨blk1, k1, k2⟩ := q.p.ex i ⟨blk', g2, g3.ne e2⟩
      exact ⟨blk1.ren (rf K h.length), unH_in q.hn hi k1 hb, by cases blk1 <;> simp_all [Blk.ren]⟩
    · obtain ⟨blk, g1, g2⟩ := e
      exact ⟨blk, by rw [unH_out hk hb]; exact g1, g2⟩
  · have hl := ex_lt hb
    by_cases hk : b ∈ K
    · obtain ⟨i, hi⟩ := List.getElem?_of_mem hk
      obtain ⟨blk, blk', g1, g2, g3⟩ := q.hH.at i b hi
      have hi1 : i < h1.length := by have := (List.getElem?_eq_some_iff.1 hi).1; have := q.kl; omega
      rw [unH_in q.hn hi (List.getElem?_eq_getElem hi1) hl] at hq
      injection hq with hq
      have hq1 : h1[i]? = some (.arr es' sz') := by
        rw [List.getElem?_eq_getElem hi1]
        cases hbl : h1[i] <;> rw [hbl] at hq <;> simp [Blk.ren] at hq
        rw [hq.1, hq.2]
      have hne : blk ≠ .abs := by obtain ⟨blk0, e1, e2⟩ := hb; rw [g1] at e1; injection e1 with e1; subst e1; exact e2
      obtain ⟨es, m1, m2, m3⟩ := q.p.arr i es' sz' ⟨blk', g2, g3.ne hne⟩ hq1
      rw [m1] at g2; injection g2 with g2; subst g2
      cases g3
      refine ⟨es, g1, m2, fun e => ?_⟩
      obtain ⟨n1, n2⟩ := m3 e
      rw [vι_at hi] at n1 n2
      exact ⟨by rw [uι_in q.hn hi hl]; exact n1, n2⟩
    · rw [unH_out hk hl] at hq
      refine ⟨es', hq, Nat.le_refl _, fun _ => ⟨uι_out hk hl, fun B hB => ?_⟩⟩
      have hh : hid ι h K B := ⟨b, _, hk, hq, trivial, hB⟩
      have hv : vS (zk z) S ι h K B = zk z := if_pos hh
      unfold bsz; rw [(q.p.st B (by rw [hv]; cases z <;> simp [zk])).2]
  · have hl := ex_lt hb
    by_cases hk : b ∈ K
    · obtain ⟨i, hi⟩ := List.getElem?_of_mem hk
      obtain ⟨blk, blk', g1, g2, g3⟩ := q.hH.at i b hi
      have hi1 : i < h1.length := by have := (List.getElem?_eq_some_iff.1 hi).1; have := q.kl; omega
      rw [unH_in q.hn hi (List.getElem?_eq_getElem hi1) hl] at hq
      injection hq with hq
      obtain ⟨cs1, hq1⟩ : ∃ cs1, h1[i]? = some (.box cs1) := by
        rw [List.getElem?_eq_getElem hi1]
        cases hbl : h1[i] <;> rw [hbl] at hq <;> simp [Blk.ren] at hq
        exact ⟨_, rfl⟩
      have hne : blk ≠ .abs := by obtain ⟨blk0, e1, e2⟩ := hb; rw [g1] at e1; injection e1 with e1; subst e1; exact e2
      obtain ⟨cs, m1, m2⟩ := q.p.box i cs1 ⟨blk', g2, g3.ne hne⟩ hq1
      rw [m1] at g2; injection g2 with g2; subst g2
      cases g3
      refine ⟨_, g1, ?_⟩
      rw [vι_at hi] at m2
      rw [uι_in q.hn hi hl]; exact m2
    · rw [unH_out hk hl] at hq
      exact ⟨cs', hq, uι_out hk hl⟩
theorem Back.hr (q : Back w S ι h h0 K z w' S' ι' h1) : HR w' (uS S' ι h K) (uι ι ι' h K) (unH h K h1) := by
  have len := unH_len (h := h) q.kl
  have P0 := q.pres
  -- a block is one that the call had, or one that it had not
  have split : ∀ (b : Nat) blk, (unH h K h1)[b]? = some blk → (∃ i blk1, h1[i]? = some blk1 ∧ blk = blk1.ren (rf K h.length) ∧ uι ι ι' h K b = ι' i ∧ b = rf K h.length i) ∨ (¬ b ∈ K ∧ b < h.length ∧ h[b]? = some blk ∧ uι ι ι' h K b = ι b) := fun b blk hq => by
    by_cases hl : b < h.length
    · by_cases hk : b ∈ K
      · obtain ⟨i, hi⟩ := List.getElem?_of_mem hk
        have hi1 : i < h1.length := by have := (List.getElem?_eq_some_iff.1 hi).1; have := q.kl; omega
        rw [unH_in q.hn hi (List.getElem?_eq_getElem hi1) hl] at hq
        injection hq with hq
        exact .inl ⟨i, _, List.getElem?_eq_getElem hi1, hq.symm, uι_in q.hn hi hl, by simp [rf, hi]⟩
      · rw [unH_out hk hl] at hq
        exact .inr ⟨hk, hl, hq, uι_out hk hl⟩
    · rw [unH_new (by omega)] at hq
      obtain ⟨blk1, g1, g2⟩ := Option.map_eq_some_iff.1 hq
      refine .inl ⟨_, blk1, g1, g2.symm, uι_new (by omega), ?_⟩
      have : K[K.length + (b - h.length)]? = none := List.getElem?_eq_none (by omega)
      simp [rf, this]; omega
  have hidk : ∀ {B : Nat}, hid ι h K B → S' B ≠ 0 := fun hh => by rw [q.hidS hh]; cases z <;> simp [zk]
  have alr : ∀ {blk : Blk} {ρ : Nat → Nat}, (blk.ren ρ).al → blk.al := fun {blk} {ρ} h => by cases blk <;> exact h
  refine ⟨fun B hB => ?_, fun b blk B hq hd hB => ?_, fun b b' blk blk' B q1 q2 d1 d2 e1 e2 => ?_, fun b cs hq => ?_, fun b es sz hq => ?_⟩
  · by_cases hh : hid ι h K B
    · exact absurd (if_pos hh) hB
    · exact q.r'.low B (by unfold uS at hB; rwa [if_neg hh] at hB)
  · rcases split b blk hq with ⟨i, blk1, g1, g2, g3, _⟩ | ⟨g1, g2, g3, g4⟩
    · rw [g3] at hB
      obtain ⟨a1, a2⟩ := q.r'.own i blk1 B g1 (alr (g2 ▸ hd)) hB
      refine ⟨?_, a2⟩
      unfold uS; split
      · rfl
      · exact a1
    · rw [g4] at hB
      have hh : hid ι h K B := ⟨b, blk, g1, g3, hd, hB⟩
      exact ⟨if_pos hh, Nat.lt_of_lt_of_le (q.r.own b blk B g3 hd hB).2 q.p.sz⟩
  · rcases split b blk q1 with ⟨i, blk1, g1, g2, g3, g5⟩ | ⟨g1, g2, g3, g4⟩ <;> rcases split b' blk' q2 with ⟨i', blk1', k1, k2, k3, k5⟩ | ⟨k1, k2, k3, k4⟩
    · rw [g3] at e1; rw [k3] at e2
      have := q.r'.inj i i' _ _ B g1 k1 (alr (g2 ▸ d1)) (alr (k2 ▸ d2)) e1 e2
      rw [g5, k5, this]
    · rw [g3] at e1; rw [k4] at e2
      have hh : hid ι h K B := ⟨b', blk', k1, k3, d2, e2⟩
      exact absurd (q.r'.own i blk1 B g1 (alr (g2 ▸ d1)) e1).1 (hidk hh)
    · rw [g4] at e1; rw [k3] at e2
      have hh : hid ι h K B := ⟨b, blk, g1, g3, d1, e1⟩
      exact absurd (q.r'.own i' blk1' B k1 (alr (k2 ▸ d2)) e2).1 (hidk hh)
    · rw [g4] at e1; rw [k4] at e2
      exact q.r.inj b b' blk blk' B g3 k3 d1 d2 e1 e2
  · rcases split b _ hq with ⟨i, blk1, g1, g2, g3, _⟩ | ⟨g1, g2, g3, g4⟩
    · cases blk1 <;> simp [Blk.ren] at g2
      subst g2
      obtain ⟨B, vs, e, i1, i2, i3⟩ := q.r'.box i _ g1
      have hok := q.ok _ (List.mem_of_getElem? g1)
      exact ⟨B, vs, e, by rw [g3]; exact i1, i2, q.cs hok i3⟩
    · obtain ⟨B, vs, e, i1, i2, i3⟩ := q.r.box b cs g3
      have hh : hid ι h K B := ⟨b, _, g1, g3, trivial, i1⟩
      have hv : vS (zk z) S ι h K B = zk z := if_pos hh
      exact ⟨B, vs, e, by rw [g4]; exact i1, by rw [(q.p.st B (by rw [hv]; cases z <;> simp [zk])).2]; exact i2, i3.mono P0⟩
  · rcases split b _ hq with ⟨i, blk1, g1, g2, g3, _⟩ | ⟨g1, g2, g3, g4⟩
    · cases blk1 <;> simp [Blk.ren] at g2
      obtain ⟨rfl, rfl⟩ := g2
      have hok := q.ok _ (List.mem_of_getElem? g1)
      have hrl := q.rl _ (List.mem_of_getElem? g1)
      obtain ⟨z0, i0, i1⟩ := q.r'.arr i es sz g1
      refine ⟨z0, i0, ?_⟩
      rw [g3]
      rcases i1 with i1 | ⟨B, vs, e, i1, i2, i3, i4⟩
      · exact .inl i1
      · refine .inr ⟨B, vs, e, i1, i2, i3, fun i el j c he1 he2 => ?_⟩
        obtain ⟨v, k1, k2⟩ := i4 i el j c he1 he2
        have hm1 := List.mem_of_getElem? he1
        have hm2 := List.mem_of_getElem? he2
        have hlow : c.low 0 = true := List.all_eq_true.1 (hrl el hm1) c hm2
        have hc : okc z c = true := by
          simp only [Blk.okb, Bool.or_eq_true, Bool.not_eq_true'] at hok
          rcases hok with hz | hz
          · simp [okc, hz]
          · simp only [okc, Bool.or_eq_true]; exact .inr (List.all_eq_true.1 (List.all_eq_true.1 hz el hm1) c hm2)
        have := q.c hc k2
        rw [ren_low hlow] at this
        exact ⟨v, k1, this⟩
    · obtain ⟨z0, i0, i1⟩ := q.r.arr b es sz g3
      refine ⟨z0, i0, ?_⟩
      rw [g4]
      rcases i1 with i1 | ⟨B, vs, e, i1, i2, i3, i4⟩
      · exact .inl i1
      · have hh : hid ι h K B := ⟨b, _, g1, g3, trivial, i1⟩
        have hv : vS (zk z) S ι h K B = zk z := if_pos hh
        refine .inr ⟨B, vs, e, i1, by rw [(q.p.st B (by rw [hv]; cases z <;> simp [zk])).2]; exact i2, i3, fun i el j c he1 he2 => ?_⟩
        obtain ⟨v, k1, k2⟩ := i4 i el j c he1 he2
        exact ⟨v, k1, k2.mono P0⟩
def X.okx (z : Bool) : X → Bool
  | .c x => okc z x
  | .ag cs => cs.all (okc z)
def V.okv (z : Bool) : V → Bool
  | .c x => okc z x
  | .ag cs => cs.all (okc z)
  | .tu xs => xs.all (X.okx z)
theorem Back.x (q : Back w S ι h h0 K z w' S' ι' h1) {x : X} {u : Value} (hc : x.okx z = true) (r : RX w' S' ι' h1 x u) : RX w' (uS S' ι h K) (uι ι ι' h K) (unH h K h1) (x.ren (rf K h.length)) u := by
  cases x with
  | c x => exact q.c hc r
  | ag cs => obtain ⟨vs, e, r⟩ := r; exact ⟨vs, e, q.cs hc r⟩
theorem Back.v (q : Back w S ι h h0 K z w' S' ι' h1) {x : V} {u : Value} (hc : x.okv z = true) (r : RV w' S' ι' h1 x u) : RV w' (uS S' ι h K) (uι ι ι' h K) (unH h K h1) (x.ren (rf K h.length)) u := by
  cases x with
  | c x => exact q.c hc r
  | ag cs => obtain ⟨vs, e, r⟩ := r; exact ⟨vs, e, q.cs hc r⟩
  | tu xs =>
    obtain ⟨vs, e, l, r⟩ := r
    refine ⟨vs, e, by simpa using l, fun j x u g1 g2 => ?_⟩
    rw [List.getElem?_map] at g1
    obtain ⟨x', e1, rfl⟩ := Option.map_eq_some_iff.1 g1
    exact q.x (List.all_eq_true.1 hc x' (List.mem_of_getElem? e1)) (r j x' u e1 g2)
end
end Go.YtamlleimfopmhaaMc

namespace Go.YtamlleimfopmhaaMc
/-! ### Calls that are handed blocks, and hand some back -/
inductive VwV (h : List Blk) (K : List Nat) (z : Bool) : V → V → Prop
  | c {x y : C} (hc : VwC h K z x y) : VwV h K z (.c x) (.c y)
  | ag {x y : List C} (hc : VwL h K z x y) : VwV h K z (.ag x) (.ag y)
inductive VwVs (h : List Blk) (K : List Nat) (z : Bool) : List V → List V → Prop
  | nil : VwVs h K z [] []
  | cons {v v' : V} {vs vs' : List V} (hv : VwV h K z v v') (hs : VwVs h K z vs vs') : VwVs h K z (v :: vs) (v' :: vs')
/-- Rows name no blocks. -/
inductive RlH : List Blk → Prop
  | nil : RlH []
  | box {cs : List C} {bs : List Blk} (hs : RlH bs) : RlH (.box cs :: bs)
  | arr {es : List (List C)} {sz : Nat} {bs : List Blk} (hl : ∀ el ∈ es, el.all (·.low 0) = true) (hs : RlH bs) : RlH (.arr es sz :: bs)
  | dead {bs : List Blk} (hs : RlH bs) : RlH (.dead :: bs)
theorem RlH.ok {bs : List Blk} (h : RlH bs) : ∀ blk ∈ bs, blk.rl := by
  induction h with
  | nil => intro blk hb; cases hb
  | box _ ih => intro blk hb; rcases List.mem_cons.1 hb with rfl | hb; trivial; exact ih blk hb
  | arr hl _ ih => intro blk hb; rcases List.mem_cons.1 hb with rfl | hb; exact hl; exact ih blk hb
  | dead _ ih => intro blk hb; rcases List.mem_cons.1 hb with rfl | hb; trivial; exact ih blk hb
section
variable {w : World} {S : Nat → Nat} {ι : Nat → Option Nat} {h h0 : List Blk} {K : List Nat} {z : Bool}
theorem VwV.ok (r : HR w S ι h) (hH : VwH h K z K h0) {v v' : V} {u : Value} (hv : VwV h K z v v') (rv : RV w S ι h v u) : RV w (vS (zk z) S ι h K) (vι ι K) h0 v' u := by
  cases hv with
  | c hc => exact RC.view r hH hc rv
  | ag hc => obtain ⟨vs, e, rv⟩ := rv; exact ⟨vs, e, hc.ok r hH rv⟩
theorem VwVs.ok (r : HR w S ι h) (hH : VwH h K z K h0) {xs ys : List V} (hv : VwVs h K z xs ys) : ∀ {us : List Value}, RVs w S ι h xs us → RVs w (vS (zk z) S ι h K) (vι ι K) h0 ys us := by
  induction hv with
  | nil => intro us hr; exact ⟨hr.1, fun j x u g => by simp at g⟩
  | cons hv _ ih =>
    intro us hr
    cases us with
    | nil => have := hr.1; simp at this
    | cons u us =>
      have i2 := ih (us := us) ⟨by have := hr.1; simpa using this, fun j x u g1 g2 => hr.2 (j + 1) x u (by simpa using g1) (by simpa using g2)⟩
      refine ⟨by simpa using i2.1, fun j x u g1 g2 => ?_⟩
      cases j with
      | zero => simp at g1 g2; subst g1; subst g2; exact hv.ok r hH (hr.2 0 _ _ rfl rfl)
      | succ j => exact i2.2 j x u (by simpa using g1) (by simpa using g2)
end
/-- An operation of whose result something is known. -/
structure OpA (P : Program) (n : Nat) (o : Oper) (env : Env) (h : List Blk) {α : Type} (p : α → Prop) (v : α → V) (h1 : α → List Blk) : Prop where
  out : ∀ (w : World) (S : Nat → Nat) (ι : Nat → Option Nat) (a : Act), HR w S ι h → ER w S ι h env a.tmps → a.tmps.size = n → a.defers = [] → ∀ (N : Act → World → Prop) (Q' : Exit → Act → World → Prop),
    (∀ x w' S' ι' u, p x → HR w' S' ι' (h1 x) → Pres w S ι h w' S' ι' (h1 x) → RV w' S' ι' (h1 x) (v x) u → N (a.put o.dst u) w') → o.wp P a w N Q'
section
variable {P : Program} {n : Nat} {o : Oper} {env : Env} {h : List Blk} {v : V}
theorem call_all {f : FuncId} {xs : Array Operand} {ts : Array Nat} {us vs : List V} {g : List Blk} {K : List Nat} {z : Bool} {Qr : V → List Blk → Prop} (ho : o.op = .call { callee := .value (.func f), args := xs, argTypes := ts }) (hcal : Callable P f) (hF : Fn P f vs g Qr)
    (hx : oel env xs.toList = some us) (hv : VwVs h K z us vs) (hn : K.Nodup) (hg : VwH h K z K g) (hq : ∀ r h1, Qr r h1 → r.okv z = true ∧ h1.all (Blk.okb z) = true ∧ RlH h1)
    (w : World) (S : Nat → Nat) (ι : Nat → Option Nat) (a : Act) (r1 : HR w S ι h) (r2 : ER w S ι h env a.tmps) (N : Act → World → Prop) (Q' : Exit → Act → World → Prop)
    (hN : ∀ r h1 w' S' ι' u, Qr r h1 → HR w' S' ι' (unH h K h1) → Pres w S ι h w' S' ι' (unH h K h1) → RV w' S' ι' (unH h K h1) (r.ren (rf K h.length)) u → N (a.put o.dst u) w') : o.wp P a w N Q' := by
  have hrun : (execOp a.eval o).run P w = .ok (.enter f (xs.map a.eval)) w := by
    simp only [execOp, ho, resolve, Act.eval, Deferred.ofValue, Sem.run_bind, Sem.run_pure, Result.andThen_ok, invoke]
    rw [hcal]; simp
  unfold Oper.wp
  rw [hrun, Oper.upon_enter]
  have hargs := oel_ok r2 hx
  have hargs := hv.ok r1 hg (us := (xs.map a.eval).toList) (by simpa using hargs)
  refine (hF.out w _ _ (xs.map a.eval) (r1.view hn hg) hargs).mono ?_
  rintro e w' ⟨x, u, S', ι', h1, rfl, k1, k2, k3, k4⟩
  obtain ⟨c1, c2, c3⟩ := hq x h1 k4
  have q : Back w S ι h g K z w' S' ι' h1 := ⟨r1, hn, hg, k1, k2, List.all_eq_true.1 c2, c3.ok⟩
  exact hN x h1 w' _ _ u k4 q.hr q.pres (q.v c1 k3)
theorem OpOk.callO {f : FuncId} {xs : Array Operand} {ts : Array Nat} {us vs : List V} {g h1 : List Blk} {K : List Nat} {z : Bool} {r : V} (hF : Po P f vs g r h1) (ho : o.op = .call { callee := .value (.func f), args := xs, argTypes := ts })
    (hx : oel env xs.toList = some us) (hv : VwVs h K z us vs) (hn : K.Nodup) (hg : VwH h K z K g) (hq : r.okv z = true ∧ h1.all (Blk.okb z) = true) (hr : RlH h1) : OpOk P n o env h (r.ren (rf K h.length)) (unH h K h1) := by
  constructor; intro w S ι a r1 r2 r3 r4 N Q' hN
  refine call_all ho hF.cal hF.fn hx hv hn hg (fun r' h1' e => by obtain ⟨rfl, rfl⟩ := e; exact ⟨hq.1, hq.2, hr⟩) w S ι a r1 r2 N Q' ?_
  rintro r' h1' w' S' ι' u ⟨rfl, rfl⟩ k1 k2 k3
  exact hN w' S' ι' u k1 k2 k3
theorem OpA.call {f : FuncId} {xs : Array Operand} {ts : Array Nat} {us vs : List V} {g : List Blk} {K : List Nat} {z : Bool} {α : Type} {p : α → Prop} {r : α → V} {h1 : α → List Blk} (hF : Px P f vs g p r h1) (ho : o.op = .call { callee := .value (.func f), args := xs, argTypes := ts })
    (hx : oel env xs.toList = some us) (hv : VwVs h K z us vs) (hn : K.Nodup) (hg : VwH h K z K g) (hq : ∀ x, (r x).okv z = true ∧ (h1 x).all (Blk.okb z) = true) (hr : ∀ x, RlH (h1 x)) : OpA P n o env h p (fun x => (r x).ren (rf K h.length)) (fun x => unH h K (h1 x)) := by
  constructor; intro w S ι a r1 r2 r3 r4 N Q' hN
  refine call_all ho hF.cal hF.fn hx hv hn hg (fun r' h1' e => by obtain ⟨x, _, rfl, rfl⟩ := e; exact ⟨(hq x).1, (hq x).2, hr x⟩) w S ι a r1 r2 N Q' ?_
  rintro r' h1' w' S' ι' u ⟨x, hp, rfl, rfl⟩ k1 k2 k3
  exact hN x w' S' ι' u hp k1 k2 k3
end
section
variable {P : Program} {n : Nat} {ops : Array Oper} {env : Env} {h : List Blk} {K : Env → List Blk → Prop} {i : Nat} {rest : List Nat} {α : Type} {p : α → Prop} {v : α → V} {h1 : α → List Blk}
variable {e' : Nat} {po : Op} {ty : Nat} {ps : String} {af : Array Edge} {gd : Option (Nat × Bool)}
theorem WO.a (hi : ops[i]? = some ⟨some e', po, ty, ps, af, gd⟩) (hg : grd ops env gd = some true) (hd : e'.blt n = true) (hok : OpA P n ⟨some e', po, ty, ps, af, gd⟩ env h p v h1) (hr : ∀ x, p x → WO P n ops rest ((e', v x) :: env) (h1 x) K) : WO P n ops (i :: rest) env h K := by
  constructor; intro w S ι a r1 r2 r3 r4 Q' hQ
  simp only [wpOps, hi, grd_ok hg (o := ⟨some e', po, ty, ps, af, gd⟩) rfl w S ι a r2, if_true]
  refine .inl (hok.out w S ι a r1 r2 r3 r4 _ _ fun x w' S' ι' u hp k1 k2 k3 => ?_)
  refine (hr x hp).out w' S' ι' _ k1 (pu_ok (d := some e') (r2.mono k2) (by rw [r3]; simpa [dok, Nat.blt_eq] using hd) k3) (by rw [put_size]; exact r3) (by rw [put_defers]; exact r4) Q' fun w'' S'' ι'' a' env' h' q1 q2 q3 q4 q5 q6 => hQ w'' S'' ι'' a' env' h' q1 (k2.trans q2) q3 q4 q5 q6
theorem WO.a0 (hi : ops[i]? = some ⟨none, po, ty, ps, af, none⟩) (hok : OpA P n ⟨none, po, ty, ps, af, none⟩ env h p v h1) (hr : ∀ x, p x → WO P n ops rest env (h1 x) K) : WO P n ops (i :: rest) env h K := by
  constructor; intro w S ι a r1 r2 r3 r4 Q' hQ
  simp only [wpOps, hi, Region.wanted, if_true]
  refine .inl (hok.out w S ι a r1 r2 r3 r4 _ _ fun x w' S' ι' u hp k1 k2 k3 => ?_)
  refine (hr x hp).out w' S' ι' _ k1 (r2.mono k2) r3 r4 Q' fun w'' S'' ι'' a' env' h' q1 q2 q3 q4 q5 q6 => hQ w'' S'' ι'' a' env' h' q1 (k2.trans q2) q3 q4 q5 q6
variable {fuel : Nat} {L : Array Bool}
theorem WI.a (hi : ops[i]? = some ⟨some e', po, ty, ps, af, gd⟩) (hg : grd ops env gd = some true) (hd : e'.blt n = true) (hok : OpA P n ⟨some e', po, ty, ps, af, gd⟩ env h p v h1) (hr : ∀ x, p x → WE P n ops fuel (L.setIfInBounds i true) ((e', v x) :: env) (h1 x) K) : WI P n ops fuel L i env h K := by
  constructor; intro w S ι a r1 r2 r3 r4 Q' hQ
  unfold wpOp
  simp only [hi]
  rw [if_pos (grd_ok hg rfl w S ι a r2)]
  refine .inl (hok.out w S ι a r1 r2 r3 r4 _ _ fun x w' S' ι' u hp k1 k2 k3 => ?_)
  exact (hr x hp).out w' S' ι' _ k1 (pu_ok (d := some e') (r2.mono k2) (by rw [r3]; simpa [dok, Nat.blt_eq] using hd) k3) (by rw [put_size]; exact r3) (by rw [put_defers]; exact r4) Q' fun w'' S'' ι'' a' env' h' q1 q2 q3 q4 q5 q6 => hQ w'' S'' ι'' a' env' h' q1 (k2.trans q2) q3 q4 q5 q6
theorem WI.a0 (hi : ops[i]? = some ⟨none, po, ty, ps, af, none⟩) (hok : OpA P n ⟨none, po, ty, ps, af, none⟩ env h p v h1) (hr : ∀ x, p x → WE P n ops fuel (L.setIfInBounds i true) env (h1 x) K) : WI P n ops fuel L i env h K := by
  constructor; intro w S ι a r1 r2 r3 r4 Q' hQ
  unfold wpOp
  simp only [hi]
  rw [if_pos (by simp [Region.wanted])]
  refine .inl (hok.out w S ι a r1 r2 r3 r4 _ _ fun x w' S' ι' u hp k1 k2 k3 => ?_)
  exact (hr x hp).out w' S' ι' _ k1 (r2.mono k2) r3 r4 Q' fun w'' S'' ι'' a' env' h' q1 q2 q3 q4 q5 q6 => hQ w'' S'' ι'' a' env' h' q1 (k2.trans q2) q3 q4 q5 q6
end
/-! ### Rows of data -/
abbrev Rs {α : Type} (e : α → List T) (xs : List α) : List (List C) := (xs.map e).map (·.map C.t)
theorem rs_low {α : Type} (e : α → List T) (xs : List α) (m : Nat) : ∀ el ∈ Rs e xs, el.all (·.low m) = true := by
  intro el hel
  obtain ⟨ts, _, rfl⟩ := List.mem_map.1 hel
  simp [C.low]
theorem rs_app {α : Type} (e : α → List T) (xs ys : List α) : Rs e xs ++ Rs e ys = Rs e (xs ++ ys) := by simp [Rs]
theorem rs_len {α : Type} (e : α → List T) (xs : List α) : (Rs e xs).length = xs.length := by simp [Rs]
theorem rs_get {α : Type} (e : α → List T) (xs : List α) (k : Nat) (h : k < xs.length) : (Rs e xs)[k]? = some ((e xs[k]).map C.t) := by simp [Rs, h]
theorem rs_set {α : Type} (e : α → List T) (xs : List α) (k : Nat) (x : α) : (Rs e xs).set k ((e x).map C.t) = Rs e (xs.set k x) := by simp [Rs]
end Go.YtamlleimfopmhaaMc

namespace Go.YtamlleimfopmhaaMc
/-! ### Slices written out -/
def chunk (n sz : Nat) (cs : List C) : List (List C) := (List.range n).map fun i => (cs.drop (i * sz)).take sz
def plc (n sz : Nat) : List (Nat × Nat) := (List.range n).map fun i => (i * sz, sz)
theorem bldC_len {fs : List (Nat × Nat)} {h : List Blk} : ∀ {vs : List (Nat × V)} {cs cs' : List C}, bldC fs cs h vs = some cs' → cs'.length = cs.length
  | [], cs, cs', hb => by simp only [bldC] at hb; injection hb with hb; rw [hb]
  | (i, v) :: vs, cs, cs', hb => by
    simp only [bldC] at hb
    split at hb
    · split at hb
      · rw [bldC_len hb, wr_length]
      · cases hb
    · cases hb
theorem flat_len {z : List C} : ∀ (n : Nat), (List.replicate n z).flatten.length = n * z.length := fun n => by simp
theorem flat_get {z : List C} : ∀ (n k : Nat), k < n * z.length → (List.replicate n z).flatten[k]? = z[k % z.length]?
  | 0, k, h => by simp at h
  | n + 1, k, h => by
    rw [List.replicate_succ, List.flatten_cons, List.getElem?_append]
    split
    · rename_i hk; rw [Nat.mod_eq_of_lt hk]
    · rename_i hk
      rw [Nat.add_mul, Nat.one_mul] at h
      rw [flat_get n _ (by omega)]
      congr 1
      rw [Nat.mod_eq_sub_mod (a := k) (by omega)]
section
variable {P : Program} {n : Nat} {o : Oper} {env : Env} {h h' : List Blk} {v : V}
theorem OpOk.bldS (D : Tab P) {t e len : Nat} {ps : Array (Nat × Operand)} {vs : List (Nat × V)} {i ie : TI} {cs : List C} (ho : o.op = .buildSlice t len ps) (ht : D.f t = some i) (hk : i.k = .sl e) (hte : D.f e = some ie) (hz : 0 < ie.size) (hl : 0 < len) (h24 : len * ie.size ≤ 16777216)
    (hv : oes env ps.toList = some vs) (hb : bldC (plc len ie.size) (List.replicate len ie.zero).flatten h vs = some cs) : OpOk P n o env h (.c (.sl h.length len 0 len)) (h ++ [.arr (chunk len ie.size cs) ie.size]) := by
  refine .ofRun fun w S ι a r1 r2 => ?_
  have hu := (D.ok t i ht).und
  rw [hk] at hu
  have hu : P.underlying t = some (.slice e) := hu
  obtain ⟨q, z, q1, q2, q3, q4, q5, q6⟩ := (D.ok e ie hte).info
  obtain ⟨l1, l2⟩ := oes_ok r2 hv
  have hsz : (Go.sizeOf e).run P w = .ok ie.size w := (D.ok e ie hte).sizeOf
  have hzl : ie.zero.length = ie.size := by have := (cvs_ok (w := w) (S := S) (ι := ι) (h := h) q5).1; simp only [Array.length_toList] at this; omega
  have hpos : 0 < len * ie.size := Nat.mul_pos hl hz
  have hrc0 : RCs w S ι h (List.replicate len ie.zero).flatten ((Array.range (len * ie.size)).map (fun k => z.cells[k % z.cells.size]!)).toList := by
    refine ⟨by rw [flat_len]; simp [hzl], fun j c u g1 g2 => ?_⟩
    have hj : j < len * ie.size := by have := (List.getElem?_eq_some_iff.1 g1).1; rw [flat_len, hzl] at this; exact this
    rw [flat_get _ _ (by rw [hzl]; exact hj), hzl] at g1
    have hlt : j % ie.size < z.cells.size := by rw [q6]; exact Nat.mod_lt _ hz
    simp only [Array.toList_map, List.getElem?_map, Array.toList_range, List.getElem?_range hj, Option.map_some, Option.some.injEq] at g2
    rw [q6, getElem!_pos z.cells (j % ie.size) hlt] at g2
    subst g2
    exact (cvs_ok q5).2 (j % ie.size) c _ g1 (by simp [hlt])
  obtain ⟨vs', g1, g2⟩ := fill_ok (w := w) (S := S) (ι := ι) (h := h) (fs := plc len ie.size) (place := fun i => some (i * ie.size, ie.size)) (fun i x hx => by
    unfold plc at hx
    rw [List.getElem?_map] at hx
    obtain ⟨y, a1, rfl⟩ := Option.map_eq_some_iff.1 hx
    rw [List.getElem?_range (by have := (List.getElem?_eq_some_iff.1 a1).1; simpa using this)] at a1
    injection a1 with a1; rw [a1]) vs (ps.toList.map fun p => (p.1, a.eval p.2)) _ cs _ (by simp [l1]) l2 hrc0 hb
  have hlen : cs.length = len * ie.size := by rw [bldC_len hb, flat_len, hzl]
  have hvs : vs'.size = len * ie.size := by have := g2.1; simp at this; omega
  have hnz : ¬ (16777216 < len * ie.size) := by omega
  have hne : ¬ (len * ie.size = 0) := by omega
  have e1 : (ps.map fun x => (x.1, a.eval x.2)).toList = ps.toList.map fun p => (p.1, a.eval p.2) := by simp
  have g1' : Instr.fill (fun i => some (i * ie.size, ie.size)) ((Array.range (len * ie.size)).map (fun k => z.cells[k % z.cells.size]!)) (ps.map fun (x : Nat × Operand) => (x.1, a.eval x.2)).toList = some vs' := by rw [e1]; exact g1
  have hnew : ({ w with heap := w.heap.push (.cells vs' e) } : World).heap[w.heap.size]? = some (.cells vs' e) := by
    show (w.heap.push _)[w.heap.size]? = _; simp
  have hs2 : ({ w with heap := w.heap.push (.cells vs' e) } : World).heap.size = w.heap.size + 1 := by simp
  have hel : ∀ (i : Nat) el, (chunk len ie.size cs)[i]? = some el → i < len ∧ el = (cs.drop (i * ie.size)).take ie.size := fun i el hi => by
    unfold chunk at hi
    rw [List.getElem?_map] at hi
    obtain ⟨y, a1, rfl⟩ := Option.map_eq_some_iff.1 hi
    have hlt : i < len := by have := (List.getElem?_eq_some_iff.1 a1).1; simpa using this
    rw [List.getElem?_range hlt] at a1
    injection a1 with a1; exact ⟨hlt, by rw [a1]⟩
  have hmul : ∀ i, i < len → i * ie.size + ie.size ≤ len * ie.size := fun i hi => by
    have : (i + 1) * ie.size ≤ len * ie.size := Nat.mul_le_mul_right _ hi
    rwa [Nat.add_mul, Nat.one_mul] at this
  obtain ⟨k1, k2⟩ := r1.new (w' := { w with heap := w.heap.push (.cells vs' e) }) (S' := S) (fun B hB => heap_push_lt hB) (by omega) (fun _ _ => rfl) (fun B hB => by have := r1.low B hB; omega) (fun _ h => .inl h) (some w.heap.size) (fun B hB => by injection hB with hB; subst hB; exact ⟨Nat.le_refl _, by omega, r1.top⟩) (.arr (chunk len ie.size cs) ie.size)
    (fun p => ⟨hz, fun el hel' => by
      obtain ⟨i, hi⟩ := List.getElem?_of_mem hel'
      obtain ⟨a1, rfl⟩ := hel i el hi
      have := hmul i a1
      simp; omega, .inr ⟨_, _, e, rfl, hnew, by rw [hvs]; simp [chunk], fun i el j c a1 a2 => by
      obtain ⟨b1, rfl⟩ := hel i el a1
      rw [List.getElem?_take] at a2
      split at a2
      · rw [List.getElem?_drop] at a2
        have hlt : i * ie.size + j < vs'.size := by have := (List.getElem?_eq_some_iff.1 a2).1; omega
        exact ⟨vs'[i * ie.size + j], Array.getElem?_eq_getElem hlt, (g2.2 _ c _ a2 (by simp [hlt])).mono p⟩
      · cases a2⟩⟩) (by simp)
  refine ⟨.slice (some ⟨w.heap.size, 0, none⟩) len len, _, S, _, ?_, k1, k2, ⟨_, app_last .., by simp⟩, fun es' sz' hq => ?_⟩
  · have hzv : ∀ w, (zeroValue e).run P w = .ok z w := fun w => by simp [zeroValue, typeInfo, q1, q4]
    simp only [execOp, ho, Instr.buildSlice, Sem.run_bind, run_underlying hu, Result.andThen_ok, hsz]
    simp [hnz, hne, hzv, g1, newRow]
  · simp at hq; obtain ⟨rfl, rfl⟩ := hq
    refine ⟨by simp [chunk], fun _ => ⟨by omega, ?_⟩⟩
    rw [upd_eq]
    exact ⟨len, by simp, Nat.le_refl _, by rw [bsz_of hnew, hvs, Nat.zero_add]; exact Nat.le_refl _⟩
theorem OpOk.bldE (D : Tab P) {t e : Nat} {i ie : TI} (ho : o.op = .buildSlice t 0 #[]) (ht : D.f t = some i) (hk : i.k = .sl e) (hte : D.f e = some ie) : OpOk P n o env h (.c .emp) h := by
  refine .ofRun fun w S ι a r1 r2 => ?_
  have hu := (D.ok t i ht).und
  rw [hk] at hu
  have hu : P.underlying t = some (.slice e) := hu
  have hsz : (Go.sizeOf e).run P w = .ok ie.size w := (D.ok e ie hte).sizeOf
  obtain ⟨e1, e2⟩ := r1.ext (w' := { w with heap := w.heap.push (.cells #[] e) }) (S' := S) (fun B hB => heap_push_lt (hB.elim (r1.low B) fun ⟨b, blk, g1, g2, g3⟩ => (r1.own b blk B g1 g2 g3).2)) (by simp) (fun _ _ => rfl) (fun B hB => by have := r1.low B hB; simp; omega) (fun b blk B g1 g2 g3 => (r1.own b blk B g1 g2 g3).1)
  refine ⟨.slice (some ⟨w.heap.size, 0, none⟩) 0 0, _, S, ι, ?_, e1, e2, ⟨_, rfl⟩⟩
  simp [execOp, ho, Instr.buildSlice, run_underlying hu, hsz, Instr.fill, newRow, Array.range_zero']
/-- A slice with room and no elements. -/
theorem OpOk.mk0 (D : Tab P) {t e : Nat} {x y : Operand} {m : Int} {k1 k2 : IntKind} {i ie : TI} (ho : o.op = .makeSlice t x y) (ht : D.f t = some i) (hk : i.k = .sl e) (hte : D.f e = some ie) (hx : oe env x = some (.c (.t (.i k1 0)))) (hy : oe env y = some (.c (.t (.i k2 m)))) (h0 : 0 ≤ m) (hz : 0 < ie.size) (hb : (ie.bytes : Int) * m ≤ 281474976710656 ∧ m ≤ 9223372036854775807) :
    OpOk P n o env h (.c (.sl h.length 0 0 0)) (h ++ [.arr [] ie.size]) := by
  refine .ofRun fun w S ι a r1 r2 => ?_
  have ex := (oe_ok r2 hx).i
  have ey := (oe_ok r2 hy).i
  have hu := (D.ok t i ht).und
  rw [hk] at hu
  have hu : P.underlying t = some (.slice e) := hu
  obtain ⟨q, z, q1, q2, q3, q4, q5, q6⟩ := (D.ok e ie hte).info
  have hr := run_make (P := P) w t e q z hu q1 q4 k1 k2 0 m (Int.le_refl _) h0 (by rw [q3]; exact hb.1) hb.2
  have hsz : (w.alloc (.cells (madeCells z.cells (m.toNat * q.size)) e)).heap.size = w.heap.size + 1 := by
    show (w.heap.push _).size = _; simp
  have hnew : (w.alloc (.cells (madeCells z.cells (m.toNat * q.size)) e)).heap[w.heap.size]? = some (.cells (madeCells z.cells (m.toNat * q.size)) e) := by
    show (w.heap.push _)[w.heap.size]? = _; simp
  obtain ⟨k1, k2⟩ := r1.new (w' := w.alloc (.cells (madeCells z.cells (m.toNat * q.size)) e)) (S' := S) (fun B hB => by show (w.heap.push _)[B]? = _; rw [Array.getElem?_push]; simp [Nat.ne_of_lt hB]) (by omega) (fun _ _ => rfl) (fun B hB => by have := r1.low B hB; omega) (fun _ h => .inl h) (some w.heap.size) (fun B hB => by injection hB with hB; subst hB; exact ⟨Nat.le_refl _, by omega, r1.top⟩) (.arr [] ie.size)
    (fun p => ⟨hz, fun el hel => (by cases hel), .inr ⟨_, _, e, rfl, hnew, by simp, fun i el j c g1 g2 => by simp at g1⟩⟩) (by simp)
  refine ⟨.slice (some ⟨w.heap.size, 0, none⟩) (0 : Int).toNat m.toNat, _, S, _, by simp only [execOp, ho, ex, ey, Sem.run_bind, hr, Result.andThen_ok, Sem.run_pure], k1, k2, ⟨_, app_last .., by simp⟩, fun es' sz' hq => ?_⟩
  simp at hq; obtain ⟨rfl, rfl⟩ := hq
  refine ⟨by simp, fun _ => ⟨by simp, ?_⟩⟩
  rw [upd_eq]
  exact ⟨m.toNat, by simp, by simp, by rw [bsz_of hnew, size_madeCells, q2, Nat.zero_add]; exact Nat.le_refl _⟩
end
end Go.YtamlleimfopmhaaMc

namespace Go.YtamlleimfopmhaaMc
/-! ### An operation beside more memory -/
theorem VwH.of {h : List Blk} {K : List Nat} {z : Bool} : ∀ {bs : List Nat} {h0 : List Blk}, h0.length = bs.length → (∀ (i : Nat) b blk0, bs[i]? = some b → h0[i]? = some blk0 → ∃ blk, h[b]? = some blk ∧ VwB h K z blk blk0) → VwH h K z bs h0
  | [], [], _, _ => .nil
  | [], _ :: _, hl, _ => by simp at hl
  | _ :: _, [], hl, _ => by simp at hl
  | b :: bs, blk0 :: h0, hl, H => by
    obtain ⟨blk, h1, h2⟩ := H 0 b blk0 rfl rfl
    exact .cons h1 h2 (VwH.of (by simpa using hl) fun i b blk0 g1 g2 => H (i + 1) b blk0 (by simpa using g1) (by simpa using g2))
theorem rng {m b : Nat} (h : b < m) : (List.range m)[b]? = some b := by simp [h]
theorem VwC.low {h : List Blk} {m : Nat} {c : C} (hl : c.low m = true) : VwC h (List.range m) false c c := by
  cases c with
  | sl b n off len => exact .sl (rng (by simpa [C.low] using hl))
  | ptr b off => exact .ptr (rng (by simpa [C.low] using hl))
  | ap b n i j => exact .ap (rng (by simpa [C.low] using hl))
  | _ => exact .id rfl
theorem VwL.low {h : List Blk} {m : Nat} : ∀ {cs : List C}, cs.all (·.low m) = true → VwL h (List.range m) false cs cs
  | [], _ => .nil
  | c :: cs, hl => by
    simp only [List.all_cons, Bool.and_eq_true] at hl
    exact .cons (.low hl.1) (VwL.low hl.2)
theorem VwB.low {h : List Blk} {m : Nat} {blk : Blk} (hl : blk.low m = true) (hr : blk.rl) : VwB h (List.range m) false blk blk := by
  cases blk with
  | box cs => exact .box (.low (by simpa [Blk.low] using hl))
  | arr es sz => exact .arr hr
  | dead => exact .dead
  | abs => exact .abs
theorem nodup_range (m : Nat) : (List.range m).Nodup := List.nodup_range
theorem okx_f (x : X) : x.okx false = true := by cases x <;> simp [X.okx, okc]
theorem okv_f (v : V) : v.okv false = true := by cases v <;> simp [V.okv, okc, okx_f]
theorem okb_f (b : Blk) : b.okb false = true := by cases b <;> simp [Blk.okb, okc]
section
variable {w : World} {S : Nat → Nat} {ι : Nat → Option Nat} {h ex : List Blk}
theorem base_view (hb : ∀ blk ∈ h, blk.low h.length = true ∧ blk.rl) : VwH (h ++ ex) (List.range h.length) false (List.range h.length) h :=
  .of (by simp) fun i b blk0 g1 g2 => by
    have hi : i < h.length := (List.getElem?_eq_some_iff.1 g2).1
    rw [rng hi] at g1; injection g1 with g1; subst g1
    obtain ⟨a1, a2⟩ := hb _ (List.mem_of_getElem? g2)
    exact ⟨blk0, by rw [List.getElem?_append_left hi]; exact g2, .low a1 a2⟩
theorem RV.base (r : HR w S ι (h ++ ex)) (hb : ∀ blk ∈ h, blk.low h.length = true ∧ blk.rl) {v : V} {u : Value} (hl : v.low h.length = true) (rv : RV w S ι (h ++ ex) v u) : RV w (vS 1 S ι (h ++ ex) (List.range h.length)) (vι ι (List.range h.length)) h v u := by
  have hH := base_view (ex := ex) hb
  cases v with
  | c x => exact RC.view (z := false) r hH (.low hl) rv
  | ag cs => obtain ⟨vs, e, rv⟩ := rv; exact ⟨vs, e, (VwL.low hl).ok (z := false) r hH rv⟩
  | tu xs =>
    obtain ⟨vs, e, l, rr⟩ := rv
    refine ⟨vs, e, l, fun j x u g1 g2 => ?_⟩
    have hx : x.low h.length = true := List.all_eq_true.1 hl x (List.mem_of_getElem? g1)
    have := rr j x u g1 g2
    cases x with
    | c x => exact RC.view (z := false) r hH (.low hx) this
    | ag cs => obtain ⟨vs, e, rv⟩ := this; exact ⟨vs, e, (VwL.low hx).ok (z := false) r hH rv⟩
end
section
variable {P : Program} {n : Nat} {o : Oper} {env : Env} {h h1 ex : List Blk} {v : V}
theorem OpOk.frm (hok : OpOk P n o env h v h1) (he : ∀ t v, env.lookup t = some v → v.low h.length = true) (hb : ∀ blk ∈ h, blk.low h.length = true ∧ blk.rl) (h1ok : ∀ blk ∈ h1, blk.rl) :
    OpOk P n o env (h ++ ex) (v.ren (rf (List.range h.length) (h ++ ex).length)) (unH (h ++ ex) (List.range h.length) h1) := by
  constructor; intro w S ι a r1 r2 r3 r4 N Q' hN
  have hH := base_view (ex := ex) hb
  refine hok.out w _ _ a (r1.view (nodup_range _) hH) (fun t x hx => ⟨(r2 t x hx).1, RV.base r1 hb (he t x hx) (r2 t x hx).2⟩) r3 r4 N Q' fun w' S' ι' u k1 k2 k3 => ?_
  have q : Back w S ι (h ++ ex) h (List.range h.length) false w' S' ι' h1 := ⟨r1, nodup_range _, hH, k1, k2, fun blk _ => okb_f blk, h1ok⟩
  exact hN w' _ _ u q.hr q.pres (q.v (okv_f v) k3)
end
theorem rf_low {m n b : Nat} (h : b < m) : rf (List.range m) n b = b := by unfold rf; rw [rng h]
theorem rf_new {m n b : Nat} (h : m ≤ b) : rf (List.range m) n b = n + (b - m) := by
  unfold rf; rw [List.getElem?_eq_none (by simpa using h)]; simp
theorem C.ren_id {c : C} {m : Nat} {ρ : Nat → Nat} (hl : c.low m = true) (hρ : ∀ b, b < m → ρ b = b) : c.ren ρ = c := by
  cases c <;> simp only [C.low, decide_eq_true_eq] at hl <;> simp only [C.ren] <;> rw [hρ _ hl]
theorem map_ren_id {cs : List C} {m : Nat} {ρ : Nat → Nat} (hl : cs.all (·.low m) = true) (hρ : ∀ b, b < m → ρ b = b) : cs.map (C.ren ρ) = cs := by
  have : cs.map (C.ren ρ) = cs.map id := List.map_congr_left fun c hc => C.ren_id (List.all_eq_true.1 hl c hc) hρ
  simpa using this
theorem X.ren_id {x : X} {m : Nat} {ρ : Nat → Nat} (hl : x.low m = true) (hρ : ∀ b, b < m → ρ b = b) : x.ren ρ = x := by
  cases x with
  | c x => simp only [X.ren]; rw [C.ren_id hl hρ]
  | ag cs => simp only [X.ren]; rw [map_ren_id hl hρ]
theorem V.ren_id {v : V} {m : Nat} {ρ : Nat → Nat} (hl : v.low m = true) (hρ : ∀ b, b < m → ρ b = b) : v.ren ρ = v := by
  cases v with
  | c x => simp only [V.ren]; rw [C.ren_id hl hρ]
  | ag cs => simp only [V.ren]; rw [map_ren_id hl hρ]
  | tu xs =>
    simp only [V.ren]
    have : xs.map (X.ren ρ) = xs.map id := List.map_congr_left fun x hx => X.ren_id (List.all_eq_true.1 hl x hx) hρ
    rw [this]; simp
theorem Blk.ren_id {b : Blk} {m : Nat} {ρ : Nat → Nat} (hl : b.low m = true) (hρ : ∀ b, b < m → ρ b = b) : b.ren ρ = b := by
  cases b with
  | box cs => simp only [Blk.ren]; rw [map_ren_id (by simpa [Blk.low] using hl) hρ]
  | _ => rfl
theorem unH_frm {h ex ys : List Blk} (hb : ∀ blk ∈ h, blk.low h.length = true) (hy : ∀ blk ∈ ys, blk.low h.length = true) : unH (h ++ ex) (List.range h.length) (h ++ ys) = h ++ ex ++ ys := by
  apply List.ext_getElem?; intro b
  have hρ : ∀ b, b < h.length → rf (List.range h.length) (h ++ ex).length b = b := fun b hb => rf_low hb
  rcases Nat.lt_or_ge b h.length with h1 | h1
  · rw [unH_in (nodup_range _) (rng h1) (blk := h[b]) (by rw [List.getElem?_append_left h1]; exact List.getElem?_eq_getElem h1) (by simp; omega), Blk.ren_id (hb _ (List.getElem_mem h1)) hρ, List.append_assoc, List.getElem?_append_left h1, List.getElem?_eq_getElem h1]
  · rcases Nat.lt_or_ge b (h ++ ex).length with h2 | h2
    · rw [unH_out (by simpa using h1) h2, List.getElem?_append_left h2]
    · rw [unH_new h2, List.length_range, List.getElem?_append_right (by omega), List.getElem?_append_right h2]
      rw [show h.length + (b - (h ++ ex).length) - h.length = b - (h ++ ex).length by omega]
      cases hq : ys[b - (h ++ ex).length]? with
      | none => rfl
      | some blk => simp only [Option.map_some]; rw [Blk.ren_id (hy _ (List.mem_of_getElem? hq)) hρ]
/-! ### A new block, put where its place was kept -/
def mvf (m b : Nat) : Nat → Nat := fun k => if k = m then b else k
section
variable {w : World} {S : Nat → Nat} {ι : Nat → Option Nat} {g : List Blk} {blk : Blk} {b : Nat}
theorem mv_get (hb : g[b]? = some .abs) {k : Nat} (hk : k ≠ b) (hl : k ≤ g.length) : (g.set b blk)[mvf g.length b k]? = (g ++ [blk])[k]? := by
  have hlt : b < g.length := (List.getElem?_eq_some_iff.1 hb).1
  unfold mvf
  by_cases e : k = g.length
  · subst e; rw [if_pos rfl, List.getElem?_set_self hlt]; simp
  · rw [if_neg e, List.getElem?_set_ne (Ne.symm hk), List.getElem?_append_left (by omega)]
theorem mv_ι (hb : g[b]? = some .abs) {k : Nat} (hk : k ≠ b) : upd ι b (ι g.length) (mvf g.length b k) = ι k := by
  unfold mvf upd
  by_cases e : k = g.length
  · subst e; rw [if_pos rfl, if_pos rfl]
  · rw [if_neg e, if_neg hk]
theorem ex_ne (hb : g[b]? = some .abs) {k : Nat} (e : ex (g ++ [blk]) k) : k ≠ b := fun h => by
  subst h
  obtain ⟨x, e1, e2⟩ := e
  rw [List.getElem?_append_left (List.getElem?_eq_some_iff.1 hb).1, hb] at e1
  injection e1 with e1; exact e2 e1.symm
theorem ex_le {k : Nat} (e : ex (g ++ [blk]) k) : k ≤ g.length := by have := ex_lt e; simp at this; omega
theorem RC.mv (hb : g[b]? = some .abs) {c : C} {u : Value} (r : RC w S ι (g ++ [blk]) c u) : RC w S (upd ι b (ι g.length)) (g.set b blk) (c.ren (mvf g.length b)) u := by
  cases c with
  | sl k n off len =>
    obtain ⟨e, r⟩ := r
    have h1 := ex_ne hb e
    refine ⟨by obtain ⟨x, e1, e2⟩ := e; exact ⟨x, by rw [mv_get hb h1 (ex_le ⟨x, e1, e2⟩)]; exact e1, e2⟩, fun es sz hq => ?_⟩
    rw [mv_get hb h1 (ex_le e)] at hq
    rw [mv_ι hb h1]; exact r es sz hq
  | ptr k off =>
    obtain ⟨e, r⟩ := r
    have h1 := ex_ne hb e
    refine ⟨by obtain ⟨x, e1, e2⟩ := e; exact ⟨x, by rw [mv_get hb h1 (ex_le ⟨x, e1, e2⟩)]; exact e1, e2⟩, fun es hq => ?_⟩
    rw [mv_get hb h1 (ex_le e)] at hq
    rw [mv_ι hb h1]; exact r es hq
  | ap k n i j =>
    obtain ⟨e, r⟩ := r
    have h1 := ex_ne hb e
    refine ⟨by obtain ⟨x, e1, e2⟩ := e; exact ⟨x, by rw [mv_get hb h1 (ex_le ⟨x, e1, e2⟩)]; exact e1, e2⟩, fun es sz hq => ?_⟩
    rw [mv_get hb h1 (ex_le e)] at hq
    rw [mv_ι hb h1]; exact r es sz hq
  | t x => exact r
  | fa cs => exact r
  | emp => exact r
  | np => exact r
  | u => trivial
  | k v => exact r
theorem mv_id {c : C} (hl : c.low g.length = true) : c.ren (mvf g.length b) = c := C.ren_id hl fun k hk => by unfold mvf; rw [if_neg (by omega)]
theorem RV.mv (hb : g[b]? = some .abs) {v : V} {u : Value} (r : RV w S ι (g ++ [blk]) v u) : RV w S (upd ι b (ι g.length)) (g.set b blk) (v.ren (mvf g.length b)) u := by
  have cs' : ∀ {cs : List C} {us : List Value}, RCs w S ι (g ++ [blk]) cs us → RCs w S (upd ι b (ι g.length)) (g.set b blk) (cs.map (C.ren (mvf g.length b))) us := fun r => ⟨by simpa using r.1, fun j c u g1 g2 => by
    rw [List.getElem?_map] at g1
    obtain ⟨c', e1, rfl⟩ := Option.map_eq_some_iff.1 g1
    exact RC.mv hb (r.2 j c' u e1 g2)⟩
  cases v with
  | c x => exact RC.mv hb r
  | ag cs => obtain ⟨vs, e, r⟩ := r; exact ⟨vs, e, cs' r⟩
  | tu xs =>
    obtain ⟨vs, e, l, r⟩ := r
    refine ⟨vs, e, by simpa using l, fun j x u g1 g2 => ?_⟩
    rw [List.getElem?_map] at g1
    obtain ⟨x', e1, rfl⟩ := Option.map_eq_some_iff.1 g1
    have := r j x' u e1 g2
    cases x' with
    | c x => exact RC.mv hb this
    | ag cs => obtain ⟨vs, e, r⟩ := this; exact ⟨vs, e, cs' r⟩
theorem HR.mv (r : HR w S ι (g ++ [blk])) (hb : g[b]? = some .abs) (hl : ∀ x ∈ g ++ [blk], x.low g.length = true) : HR w S (upd ι b (ι g.length)) (g.set b blk) := by
  have hlt : b < g.length := (List.getElem?_eq_some_iff.1 hb).1
  -- where a block comes from
  have src : ∀ (k : Nat) x, (g.set b blk)[k]? = some x → ∃ k0, (g ++ [blk])[k0]? = some x ∧ upd ι b (ι g.length) k = ι k0 ∧ k = mvf g.length b k0 ∧ k0 ≤ g.length ∧ k0 ≠ b := fun k x hq => by
    by_cases e : k = b
    · subst e
      rw [List.getElem?_set_self hlt] at hq
      exact ⟨g.length, by simpa using hq, by simp [upd], by simp [mvf], Nat.le_refl _, by omega⟩
    · rw [List.getElem?_set_ne (Ne.symm e)] at hq
      have hk := (List.getElem?_eq_some_iff.1 hq).1
      exact ⟨k, by rw [List.getElem?_append_left hk]; exact hq, by simp [upd, e], by simp [mvf]; omega, by omega, e⟩
  have id' : ∀ (k0 : Nat) x (cs : List C), (g ++ [blk])[k0]? = some x → x = .box cs → cs.map (C.ren (mvf g.length b)) = cs := fun k0 x cs hq e => by
    subst e
    have := hl _ (List.mem_of_getElem? hq)
    exact map_ren_id (m := g.length) (by simpa [Blk.low] using this) fun k hk => by unfold mvf; rw [if_neg (by omega)]
  refine ⟨r.low, fun k x B hq hd hB => ?_, fun k k' x x' B q1 q2 d1 d2 e1 e2 => ?_, fun k cs hq => ?_, fun k es sz hq => ?_⟩
  · obtain ⟨k0, g1, g2, g3, _⟩ := src k x hq
    rw [g2] at hB
    exact r.own k0 x B g1 hd hB
  · obtain ⟨k0, g1, g2, g3, g4, g5⟩ := src k x q1
    obtain ⟨k0', m1, m2, m3, m4, m5⟩ := src k' x' q2
    rw [g2] at e1; rw [m2] at e2
    have := r.inj k0 k0' x x' B g1 m1 d1 d2 e1 e2
    rw [g3, m3, this]
  · obtain ⟨k0, g1, g2, g3, _⟩ := src k _ hq
    obtain ⟨B, vs, e, i1, i2, i3⟩ := r.box k0 cs g1
    refine ⟨B, vs, e, by rw [g2]; exact i1, i2, ?_⟩
    have := id' k0 _ cs g1 rfl
    rw [← this]
    exact ⟨by simpa using i3.1, fun j c u h1 h2 => by
      rw [List.getElem?_map] at h1
      obtain ⟨c', e1, rfl⟩ := Option.map_eq_some_iff.1 h1
      exact RC.mv hb (i3.2 j c' u e1 h2)⟩
  · obtain ⟨k0, g1, g2, g3, _⟩ := src k _ hq
    obtain ⟨z, i0, i1⟩ := r.arr k0 es sz g1
    refine ⟨z, i0, ?_⟩
    rw [g2]
    rcases i1 with i1 | ⟨B, vs, e, i1, i2, i3, i4⟩
    · exact .inl i1
    · refine .inr ⟨B, vs, e, i1, i2, i3, fun i el j c he1 he2 => ?_⟩
      obtain ⟨v, k1, k2⟩ := i4 i el j c he1 he2
      have hlow := hl _ (List.mem_of_getElem? g1)
      simp only [Blk.low, List.all_eq_true] at hlow
      have := RC.mv hb k2
      rw [mv_id (hlow el (List.mem_of_getElem? he1) c (List.mem_of_getElem? he2))] at this
      exact ⟨v, k1, this⟩
theorem Pres.mv {w0 : World} {S0 : Nat → Nat} {ι0 : Nat → Option Nat} {h : List Blk} (p : Pres w0 S0 ι0 h w S ι (g ++ [blk])) (hb : g[b]? = some .abs) (hn : h.length ≤ b) : Pres w0 S0 ι0 h w S (upd ι b (ι g.length)) (g.set b blk) := by
  have hlt : b < g.length := (List.getElem?_eq_some_iff.1 hb).1
  have key : ∀ k, k < h.length → (g.set b blk)[k]? = (g ++ [blk])[k]? ∧ upd ι b (ι g.length) k = ι k := fun k hk =>
    ⟨by rw [List.getElem?_set_ne (by omega), List.getElem?_append_left (by omega)], by unfold upd; rw [if_neg (by omega)]⟩
  refine ⟨p.st, p.sz, by have := p.len; simp at this ⊢; omega, fun k e => ?_, fun k es' sz' hk hq => ?_, fun k cs' hk hq => ?_, p.kp⟩
  · obtain ⟨x, e1, e2⟩ := p.ex k e
    exact ⟨x, by rw [(key k (ex_lt e)).1]; exact e1, e2⟩
  · rw [(key k (ex_lt hk)).1] at hq
    obtain ⟨es, q1, q2, q3⟩ := p.arr k es' sz' hk hq
    exact ⟨es, q1, q2, fun e => by rw [(key k (ex_lt hk)).2]; exact q3 e⟩
  · rw [(key k (ex_lt hk)).1] at hq
    obtain ⟨cs, q1, q2⟩ := p.box k cs' hk hq
    exact ⟨cs, q1, by rw [(key k (ex_lt hk)).2]; exact q2⟩
end
end Go.YtamlleimfopmhaaMc

namespace Go.YtamlleimfopmhaaMc
/-! ### Regions whose order is open, in which blocks are made -/
def lowE (m : Nat) (env : Env) : Bool := env.all fun x => x.2.low m
theorem lowE_ok {m : Nat} {env : Env} (h : lowE m env = true) (t : Nat) (v : V) (hv : env.lookup t = some v) : v.low m = true := by
  induction env with
  | nil => cases hv
  | cons x env ih =>
    simp only [lowE, List.all_cons, Bool.and_eq_true] at h
    obtain ⟨k, y⟩ := x
    rw [List.lookup_cons] at hv
    by_cases e : (t == k) = true
    · rw [e] at hv; injection hv with hv; subst hv; exact h.1
    · rw [Bool.not_eq_true] at e; rw [e] at hv; exact ih h.2 hv
/-- A heap whose rows name no blocks, and whose boxes name only its own. -/
inductive LH (m : Nat) : List Blk → Prop
  | nil : LH m []
  | box {cs : List C} {bs : List Blk} (hl : cs.all (·.low m) = true) (hs : LH m bs) : LH m (.box cs :: bs)
  | arr {es : List (List C)} {sz : Nat} {bs : List Blk} (hl : ∀ el ∈ es, el.all (·.low 0) = true) (hs : LH m bs) : LH m (.arr es sz :: bs)
  | dead {bs : List Blk} (hs : LH m bs) : LH m (.dead :: bs)
theorem LH.ok {m : Nat} {bs : List Blk} (h : LH m bs) : ∀ blk ∈ bs, blk.low m = true ∧ blk.rl := by
  induction h with
  | nil => intro blk hb; cases hb
  | box hl _ ih =>
    intro blk hb; rcases List.mem_cons.1 hb with rfl | hb
    · exact ⟨by simpa [Blk.low] using hl, trivial⟩
    · exact ih blk hb
  | arr hl _ ih =>
    intro blk hb; rcases List.mem_cons.1 hb with rfl | hb
    · refine ⟨?_, hl⟩
      simp only [Blk.low, List.all_eq_true]
      intro el he c hc
      exact low_mono (List.all_eq_true.1 (hl el he) c hc)
    · exact ih blk hb
  | dead _ ih =>
    intro blk hb; rcases List.mem_cons.1 hb with rfl | hb
    · exact ⟨rfl, trivial⟩
    · exact ih blk hb
inductive WM (P : Program) (n : Nat) (ops : Array Oper) (h : List Blk) (K : Env → List Blk → Prop) (m : Nat) : Nat → Env → List Blk → Prop
  | done {i : Nat} {E : Env} {bs : List Blk} (hi : ops.size.ble i = true) (hk : K E (h ++ bs)) : WM P n ops h K m i E bs
  | o {i e' : Nat} {E : Env} {bs : List Blk} {v : V} {p : Op} {ty : Nat} {ps : String} {af : Array Edge} {gd : Option (Nat × Bool)} (hi : ops[i]? = some ⟨some e', p, ty, ps, af, gd⟩) (hg : grd ops (rst (usesOf ops ⟨some e', p, ty, ps, af, gd⟩) E) gd = some true)
      (hl : lowE h.length (rst (usesOf ops ⟨some e', p, ty, ps, af, gd⟩) E) = true) (hv : v.low h.length = true) (hok : OpOk P n ⟨some e', p, ty, ps, af, gd⟩ (rst (usesOf ops ⟨some e', p, ty, ps, af, gd⟩) E) h v h) (hd : e'.blt n = true) (hr : WM P n ops h K m (i + 1) ((e', v) :: E) bs) : WM P n ops h K m i E bs
  | p {i e' : Nat} {E : Env} {bs : List Blk} {v : V} {p : Op} {ty : Nat} {ps : String} {af : Array Edge} {gd : Option (Nat × Bool)} (hi : ops[i]? = some ⟨some e', p, ty, ps, af, gd⟩) (hg : grd ops (rst (usesOf ops ⟨some e', p, ty, ps, af, gd⟩) E) gd = some true)
      (hok : ∀ g, OpOk P n ⟨some e', p, ty, ps, af, gd⟩ (rst (usesOf ops ⟨some e', p, ty, ps, af, gd⟩) E) g v g) (hd : e'.blt n = true) (hr : WM P n ops h K m (i + 1) ((e', v) :: E) bs) : WM P n ops h K m i E bs
  | u {i e' : Nat} {E : Env} {bs : List Blk} {p : Op} {ty : Nat} {ps : String} {af : Array Edge} {gd : Option (Nat × Bool)} (hi : ops[i]? = some ⟨some e', p, ty, ps, af, gd⟩) (hg : grd ops (rst (usesOf ops ⟨some e', p, ty, ps, af, gd⟩) E) gd = some false)
      (hd : e'.blt n = true) (hr : WM P n ops h K m (i + 1) ((e', .tu []) :: E) bs) : WM P n ops h K m i E bs
  | a {i e' : Nat} {E : Env} {bs : List Blk} {v : V} {blk : Blk} {p : Op} {ty : Nat} {ps : String} {af : Array Edge} {gd : Option (Nat × Bool)} (hi : ops[i]? = some ⟨some e', p, ty, ps, af, gd⟩) (hg : grd ops (rst (usesOf ops ⟨some e', p, ty, ps, af, gd⟩) E) gd = some true)
      (hl : lowE h.length (rst (usesOf ops ⟨some e', p, ty, ps, af, gd⟩) E) = true) (hv : v.low (h.length + 1) = true) (hb : LH h.length [blk]) (hok : OpOk P n ⟨some e', p, ty, ps, af, gd⟩ (rst (usesOf ops ⟨some e', p, ty, ps, af, gd⟩) E) h v (h ++ [blk])) (hd : e'.blt n = true)
      (hr : WM P n ops h K m (i + 1) ((e', v.ren (mvf h.length (h.length + bs.length))) :: E) (bs ++ [blk])) : WM P n ops h K m i E bs
  | t {i : Nat} {E : Env} {bs : List Blk} (him : i = m) (hw : WO P n ops ((List.range ops.size).drop i) E (h ++ bs) K) (hlt : i.blt ops.size = true) : WM P n ops h K m i E bs
section
variable {P : Program} {n : Nat} {ops : Array Oper} {h : List Blk} {K : Env → List Blk → Prop}
/-- A value, from memory that was there, or whatever the memory is. -/
def AnyOk (P : Program) (n : Nat) (o : Oper) (E : Env) (h : List Blk) (x : V) : Prop :=
  (lowE h.length E = true ∧ x.low h.length = true ∧ OpOk P n o E h x h) ∨ ∀ g, OpOk P n o E g x g
/-- What stands for an operation: a value, nothing, or a block and a value. -/
def OkM (P : Program) (n : Nat) (ops : Array Oper) (h : List Blk) (mk : List (Nat × Blk)) (b0 : Nat) (j : Nat) (o : Oper) (E : Env) (x : V) : Prop :=
  (grd ops (rst (usesOf ops o) E) o.guard = some true ∧ AnyOk P n o (rst (usesOf ops o) E) h x ∧ ∀ (p : Nat) (blk : Blk), mk[p]? ≠ some (j, blk)) ∨
  (grd ops (rst (usesOf ops o) E) o.guard = some false ∧ x = .tu [] ∧ ∀ (p : Nat) (blk : Blk), mk[p]? ≠ some (j, blk)) ∨
  (∃ p blk v, mk[p]? = some (j, blk) ∧ grd ops (rst (usesOf ops o) E) o.guard = some true ∧ lowE h.length (rst (usesOf ops o) E) = true ∧ v.low (h.length + 1) = true ∧ LH h.length [blk] ∧ OpOk P n o (rst (usesOf ops o) E) h v (h ++ [blk]) ∧ x = v.ren (mvf h.length (h.length + (b0 + p))))
theorem WM.ex {m i : Nat} {E : Env} {bs : List Blk} (hw : WM P n ops h K m i E bs) : ∃ (pv : List (Nat × V)) (mk : List (Nat × Blk)),
    (∀ k x, pv[k]? = some x → ∃ o, ops[i + k]? = some o ∧ o.dst = some x.1 ∧ x.1 < n ∧ OkM P n ops h mk bs.length (i + k) o ((pv.take k).reverse ++ E) x.2) ∧
    (∀ (p j : Nat) (blk : Blk), mk[p]? = some (j, blk) → i ≤ j ∧ j < i + pv.length) ∧ (∀ (p p' j : Nat) (b b' : Blk), mk[p]? = some (j, b) → mk[p']? = some (j, b') → p = p') ∧ (∀ (p j : Nat) (blk : Blk), mk[p]? = some (j, blk) → LH h.length [blk]) ∧
    ((ops.size ≤ i + pv.length ∧ K (pv.reverse ++ E) (h ++ (bs ++ mk.map (·.2)))) ∨ (i + pv.length = m ∧ i + pv.length < ops.size ∧ WO P n ops ((List.range ops.size).drop (i + pv.length)) (pv.reverse ++ E) (h ++ (bs ++ mk.map (·.2))) K)) := by
  induction hw with
  | done hi hk => exact ⟨[], [], fun k x h => by simp at h, fun p j blk h => by simp at h, fun p p' j b b' h => by simp at h, fun p j blk h => by simp at h, .inl ⟨by simpa using hi, by simpa using hk⟩⟩
  | t him hw hlt => exact ⟨[], [], fun k x h => by simp at h, fun p j blk h => by simp at h, fun p p' j b b' h => by simp at h, fun p j blk h => by simp at h, .inr ⟨him, by simpa [Nat.blt_eq] using hlt, by simpa using hw⟩⟩
  | @o i e' E bs v p ty ps af gd hi hg hl hv hok hd _ ih =>
    obtain ⟨pv, mk, h1, h2, h3, h5, h4⟩ := ih
    refine ⟨(e', v) :: pv, mk, fun k x hk => ?_, fun p j blk hp => ?_, h3, h5, ?_⟩
    · cases k with
      | zero =>
        simp only [List.getElem?_cons_zero, Option.some.injEq] at hk; subst hk
        exact ⟨_, hi, rfl, by simpa [Nat.blt_eq] using hd, .inl ⟨hg, .inl ⟨hl, hv, hok⟩, fun p blk e => by have := (h2 p _ blk e).1; omega⟩⟩
      | succ k =>
        obtain ⟨o, a, b, c, d⟩ := h1 k x (by simpa using hk)
        refine ⟨o, by rw [← a]; congr 1; omega, b, c, ?_⟩
        rw [show i + 1 + k = i + (k + 1) by omega] at d
        simpa using d
    · have := h2 p j blk hp; simp only [List.length_cons]; omega
    · rw [List.length_cons, show i + (pv.length + 1) = i + 1 + pv.length by omega]; simpa using h4
  | @p i e' E bs v p ty ps af gd hi hg hok hd _ ih =>
    obtain ⟨pv, mk, h1, h2, h3, h5, h4⟩ := ih
    refine ⟨(e', v) :: pv, mk, fun k x hk => ?_, fun p j blk hp => ?_, h3, h5, ?_⟩
    · cases k with
      | zero =>
        simp only [List.getElem?_cons_zero, Option.some.injEq] at hk; subst hk
        exact ⟨_, hi, rfl, by simpa [Nat.blt_eq] using hd, .inl ⟨hg, .inr hok, fun p blk e => by have := (h2 p _ blk e).1; omega⟩⟩
      | succ k =>
        obtain ⟨o, a, b, c, d⟩ := h1 k x (by simpa using hk)
        refine ⟨o, by rw [← a]; congr 1; omega, b, c, ?_⟩
        rw [show i + 1 + k = i + (k + 1) by omega] at d
        simpa using d
    · have := h2 p j blk hp; simp only [List.length_cons]; omega
    · rw [List.length_cons, show i + (pv.length + 1) = i + 1 + pv.length by omega]; simpa using h4
  | @u i e' E bs p ty ps af gd hi hg hd _ ih =>
    obtain ⟨pv, mk, h1, h2, h3, h5, h4⟩ := ih
    refine ⟨(e', .tu []) :: pv, mk, fun k x hk => ?_, fun p j blk hp => ?_, h3, h5, ?_⟩
    · cases k with
      | zero =>
        simp only [List.getElem?_cons_zero, Option.some.injEq] at hk; subst hk
        exact ⟨_, hi, rfl, by simpa [Nat.blt_eq] using hd, .inr (.inl ⟨hg, rfl, fun p blk e => by have := (h2 p _ blk e).1; omega⟩)⟩
      | succ k =>
        obtain ⟨o, a, b, c, d⟩ := h1 k x (by simpa using hk)
        refine ⟨o, by rw [← a]; congr 1; omega, b, c, ?_⟩
        rw [show i + 1 + k = i + (k + 1) by omega] at d
        simpa using d
    · have := h2 p j blk hp; simp only [List.length_cons]; omega
    · rw [List.length_cons, show i + (pv.length + 1) = i + 1 + pv.length by omega]; simpa using h4
  | @a i e' E bs v blk p ty ps af gd hi hg hl hv hb hok hd _ ih =>
    obtain ⟨pv, mk, h1, h2, h3, h5, h4⟩ := ih
    refine ⟨(e', v.ren (mvf h.length (h.length + bs.length))) :: pv, (i, blk) :: mk, fun k x hk => ?_, fun p j blk' hp => ?_, fun p p' j b b' hp hp' => ?_, fun p j blk' hp => ?_, ?_⟩
    · cases k with
      | zero =>
        simp only [List.getElem?_cons_zero, Option.some.injEq] at hk; subst hk
        exact ⟨_, hi, rfl, by simpa [Nat.blt_eq] using hd, .inr (.inr ⟨0, blk, v, rfl, hg, hl, hv, hb, hok, rfl⟩)⟩
      | succ k =>
        obtain ⟨o, a, b, c, d⟩ := h1 k x (by simpa using hk)
        refine ⟨o, by rw [← a]; congr 1; omega, b, c, ?_⟩
        rw [show i + 1 + k = i + (k + 1) by omega] at d
        have cons : ∀ {Y : Prop}, (∀ (p : Nat) (blk' : Blk), mk[p]? ≠ some (i + (k + 1), blk')) → ∀ (p : Nat) (blk' : Blk), ((i, blk) :: mk)[p]? ≠ some (i + (k + 1), blk') := fun hh p blk' e => by
          cases p with
          | zero => simp at e
          | succ p => exact hh p blk' (by simpa using e)
        rcases d with ⟨d1, d2, d5⟩ | ⟨d1, d2, d3⟩ | ⟨p', blk', v', d1, d2, d3, d4, d5, d6, d7⟩
        · exact .inl ⟨by simpa using d1, by simpa using d2, cons (Y := True) d5⟩
        · exact .inr (.inl ⟨by simpa using d1, d2, cons (Y := True) d3⟩)
        · refine .inr (.inr ⟨p' + 1, blk', v', by simpa using d1, by simpa using d2, by simpa using d3, d4, d5, by simpa using d6, ?_⟩)
          rw [d7, List.length_append]; simp only [List.length_singleton]
          rw [show h.length + (bs.length + 1 + p') = h.length + (bs.length + (p' + 1)) by omega]
    · cases p with
      | zero => simp at hp; obtain ⟨rfl, rfl⟩ := hp; simp only [List.length_cons]; omega
      | succ p => have := h2 p j blk' (by simpa using hp); simp only [List.length_cons]; omega
    · cases p with
      | zero =>
        cases p' with
        | zero => rfl
        | succ p' => simp at hp hp'; obtain ⟨rfl, rfl⟩ := hp; exact absurd (h2 p' _ _ hp').1 (by omega)
      | succ p =>
        cases p' with
        | zero => simp at hp hp'; obtain ⟨rfl, rfl⟩ := hp'; exact absurd (h2 p _ _ hp).1 (by omega)
        | succ p' => rw [h3 p p' j b b' (by simpa using hp) (by simpa using hp')]
    · cases p with
      | zero => simp at hp; obtain ⟨rfl, rfl⟩ := hp; exact hb
      | succ p => exact h5 p j blk' (by simpa using hp)
    · rw [List.length_cons, show i + (pv.length + 1) = i + 1 + pv.length by omega]; simpa using h4
end
end Go.YtamlleimfopmhaaMc

namespace Go.YtamlleimfopmhaaMc
section
variable {P : Program} {n : Nat} {ops : Array Oper} {h : List Blk}
theorem RC.low {w : World} {S : Nat → Nat} {ι : Nat → Option Nat} {g : List Blk} {c : C} {u : Value} (r : RC w S ι g c u) : c.low g.length = true := by
  cases c with
  | sl b n off len => simpa [C.low] using ex_lt r.1
  | ptr b off => simpa [C.low] using ex_lt r.1
  | ap b n i j => simpa [C.low] using ex_lt r.1
  | _ => rfl
theorem RCs.low {w : World} {S : Nat → Nat} {ι : Nat → Option Nat} {g : List Blk} {cs : List C} {us : List Value} (r : RCs w S ι g cs us) : cs.all (·.low g.length) = true := by
  rw [List.all_eq_true]; intro c hc
  obtain ⟨j, hj⟩ := List.getElem?_of_mem hc
  have hlt : j < us.length := by rw [← r.1]; exact (List.getElem?_eq_some_iff.1 hj).1
  exact (r.2 j c _ hj (List.getElem?_eq_getElem hlt)).low
theorem RV.low {w : World} {S : Nat → Nat} {ι : Nat → Option Nat} {g : List Blk} {v : V} {u : Value} (r : RV w S ι g v u) : v.low g.length = true := by
  cases v with
  | c x => exact RC.low r
  | ag cs => obtain ⟨vs, _, r⟩ := r; exact r.low
  | tu xs =>
    obtain ⟨vs, _, l, r⟩ := r
    simp only [V.low, List.all_eq_true]
    intro x hx
    obtain ⟨j, hj⟩ := List.getElem?_of_mem hx
    have hlt : j < vs.size := by rw [← l]; exact (List.getElem?_eq_some_iff.1 hj).1
    have := r j x _ hj (Array.getElem?_eq_getElem hlt)
    cases x with
    | c x => exact RC.low this
    | ag cs => obtain ⟨us, _, r⟩ := this; exact r.low
theorem HR.abs {w : World} {S : Nat → Nat} {ι : Nat → Option Nat} {g : List Blk} (r : HR w S ι g) (m : Nat) : HR w S ι (g ++ List.replicate m .abs) ∧ Pres w S ι g w S ι (g ++ List.replicate m .abs) := by
  have old : ∀ (b : Nat) blk, (g ++ List.replicate m Blk.abs)[b]? = some blk → blk ≠ .abs → g[b]? = some blk := fun b blk hq hn => by
    rw [List.getElem?_append] at hq
    split at hq
    · exact hq
    · rw [List.getElem?_replicate] at hq
      split at hq
      · injection hq with hq; exact (hn hq.symm).elim
      · cases hq
  have p : Pres w S ι g w S ι (g ++ List.replicate m .abs) := ⟨fun _ _ => ⟨rfl, rfl⟩, Nat.le_refl _, by simp, fun b e => by
    obtain ⟨x, e1, e2⟩ := e; exact ⟨x, by rw [List.getElem?_append_left (ex_lt ⟨x, e1, e2⟩)]; exact e1, e2⟩, fun b es' sz' _ hq => ⟨es', old b _ hq (by simp), Nat.le_refl _, fun _ => ⟨rfl, fun _ _ => rfl⟩⟩, fun b cs' _ hq => ⟨cs', old b _ hq (by simp), rfl⟩, ⟨rfl, rfl, rfl⟩⟩
  refine ⟨⟨r.low, fun b blk B hq hd => r.own b blk B (old b blk hq (by intro e; subst e; exact hd)) hd, fun b b' blk blk' B q1 q2 d1 d2 => r.inj b b' blk blk' B (old b blk q1 (by intro e; subst e; exact d1)) (old b' blk' q2 (by intro e; subst e; exact d2)) d1 d2, fun b cs hq => ?_, fun b es sz hq => ?_⟩, p⟩
  · obtain ⟨B, vs, e, i1, i2, i3⟩ := r.box b cs (old b _ hq (by simp))
    exact ⟨B, vs, e, i1, i2, i3.mono p⟩
  · obtain ⟨z, i0, i1⟩ := r.arr b es sz (old b _ hq (by simp))
    refine ⟨z, i0, i1.imp id fun ⟨B, vs, e, i1, i2, i3, i4⟩ => ⟨B, vs, e, i1, i2, i3, fun i el j c h1 h2 => let ⟨v, a, b⟩ := i4 i el j c h1 h2; ⟨v, a, b.mono p⟩⟩⟩
def hM (h : List Blk) (L : Nat → Bool) (mk : List (Nat × Blk)) : List Blk := h ++ mk.map fun x => if L x.1 then x.2 else .abs
theorem hM_set {L L' : Nat → Bool} {mk : List (Nat × Blk)} {p i : Nat} {blk : Blk} (hp : mk[p]? = some (i, blk)) (h3 : ∀ (p p' j : Nat) (b b' : Blk), mk[p]? = some (j, b) → mk[p']? = some (j, b') → p = p') (hL : ∀ j, j ≠ i → L' j = L j) (hi : L' i = true) : (hM h L mk).set (h.length + p) blk = hM h L' mk := by
  apply List.ext_getElem?; intro k
  have hpl : p < mk.length := (List.getElem?_eq_some_iff.1 hp).1
  unfold hM
  by_cases e : h.length + p = k
  · subst e
    rw [List.getElem?_set_self (by simp; omega), List.getElem?_append_right (by omega)]
    simp [hp, hi]
  · rw [List.getElem?_set_ne e]
    rcases Nat.lt_or_ge k h.length with h1 | h1
    · rw [List.getElem?_append_left h1, List.getElem?_append_left h1]
    · rw [List.getElem?_append_right h1, List.getElem?_append_right h1, List.getElem?_map, List.getElem?_map]
      cases hq : mk[k - h.length]? with
      | none => rfl
      | some x =>
        obtain ⟨j, b⟩ := x
        have : j ≠ i := fun e2 => by subst e2; have := h3 _ _ _ _ _ hq hp; omega
        simp only [Option.map_some]; rw [hL j this]
theorem hM_same {L L' : Nat → Bool} {mk : List (Nat × Blk)} (hL : ∀ (p j : Nat) (blk : Blk), mk[p]? = some (j, blk) → L' j = L j) : hM h L mk = hM h L' mk := by
  unfold hM; congr 1
  apply List.map_congr_left
  intro x hx
  obtain ⟨p, hp⟩ := List.getElem?_of_mem hx
  rw [hL p x.1 x.2 hp]
theorem hM_all {L : Nat → Bool} {mk : List (Nat × Blk)} (hL : ∀ (p j : Nat) (blk : Blk), mk[p]? = some (j, blk) → L j = true) : hM h L mk = h ++ mk.map (·.2) := by
  unfold hM; congr 1
  apply List.map_congr_left
  intro x hx
  obtain ⟨p, hp⟩ := List.getElem?_of_mem hx
  rw [hL p x.1 x.2 hp]; rfl
/-- Blocks are pushed behind, and moved to their place. -/
theorem V.mv2 {v : V} {m k b : Nat} (hv : v.low (m + 1) = true) (hk : m ≤ k) : (v.ren (rf (List.range m) k)).ren (mvf k b) = v.ren (mvf m b) := by
  have cc : ∀ {c : C}, c.low (m + 1) = true → (c.ren (rf (List.range m) k)).ren (mvf k b) = c.ren (mvf m b) := fun {c} hc => by
    have key : ∀ x, x < m + 1 → mvf k b (rf (List.range m) k x) = mvf m b x := fun x hx => by
      by_cases e : x = m
      · subst e; rw [rf_new (Nat.le_refl _)]; simp [mvf]
      · rw [rf_low (by omega)]; unfold mvf; rw [if_neg (by omega), if_neg e]
    cases c <;> simp only [C.low, decide_eq_true_eq] at hc <;> simp only [C.ren] <;> rw [key _ hc]
  have cs : ∀ {cs : List C}, cs.all (·.low (m + 1)) = true → (cs.map (C.ren (rf (List.range m) k))).map (C.ren (mvf k b)) = cs.map (C.ren (mvf m b)) := fun {cs} hc => by
    rw [List.map_map]
    exact List.map_congr_left fun c hm => cc (List.all_eq_true.1 hc c hm)
  cases v with
  | c x => simp only [V.ren]; rw [cc hv]
  | ag x => simp only [V.ren]; rw [cs hv]
  | tu xs =>
    simp only [V.ren]; rw [List.map_map]
    congr 1
    refine List.map_congr_left fun x hm => ?_
    have hx : x.low (m + 1) = true := List.all_eq_true.1 hv x hm
    cases x with
    | c x => simp only [Function.comp, X.ren]; rw [cc hx]
    | ag x => simp only [Function.comp, X.ren]; rw [cs hx]
theorem AnyOk.at {o : Oper} {E : Env} {x : V} (hh : LH h.length h) (ex : List Blk) (ha : AnyOk P n o E h x) : OpOk P n o E (h ++ ex) x (h ++ ex) := by
  rcases ha with ⟨hl, hv, hok⟩ | hok
  · have hrl : ∀ blk ∈ h, blk.rl := fun blk hb => (hh.ok blk hb).2
    have hlow : ∀ blk ∈ h, blk.low h.length = true := fun blk hb => (hh.ok blk hb).1
    have f := hok.frm (ex := ex) (lowE_ok hl) (hh.ok) hrl
    have eu := unH_frm (h := h) (ex := ex) (ys := []) hlow (by simp)
    rw [List.append_nil, List.append_nil] at eu
    rw [eu, V.ren_id hv (fun b hb => rf_low hb)] at f
    exact f
  · exact hok _
theorem W.drawM {Q : Ex → Env → List Blk → Prop} {env : Env} {id : Nat} (hmx : P.follows .mixedOrders = true) (m : Nat) (hc : dchk ops m = true) (hh : LH h.length h) (hw : WM P n ops h (Q .n) m 0 env []) : W P n (.region id ops true) env h Q := by
  constructor; intro w S ι a r1 r2 r3 r4
  obtain ⟨pv, mk, p1, m1, m2, m3, p2⟩ := hw.ex
  simp only [Nat.zero_add, List.length_nil, List.nil_append] at p1 p2 m1
  have c := dchk_ok hc
  have hlen : pv.length ≤ ops.size := by
    rcases Nat.lt_or_ge ops.size pv.length with g | g
    · obtain ⟨o, h1, _⟩ := p1 ops.size pv[ops.size] (List.getElem?_eq_getElem g)
      have := (Array.getElem?_eq_some_iff.1 h1).1; omega
    · exact g
  have hrl : ∀ blk ∈ h, blk.rl := fun blk hb => (hh.ok blk hb).2
  have hlow : ∀ blk ∈ h, blk.low h.length = true := fun blk hb => (hh.ok blk hb).1
  have mlow : ∀ (p j : Nat) (blk : Blk), mk[p]? = some (j, blk) → blk.low h.length = true ∧ blk.rl := fun p j blk hp => (m3 p j blk hp).ok blk (by simp)
  refine wp_region_any hmx ?_
  have claim : ∀ (fuel : Nat) (L : Array Bool) (a : Act) (w' : World) (S' : Nat → Nat) (ι' : Nat → Option Nat), L.size = ops.size → cnt ops L ≤ fuel → (∀ i k, L.getD i false = true → (bi ops i).testBit k = true → L.getD k false = true) → (∀ k, L.getD k false = true → k < pv.length) →
      HR w' S' ι' (hM h (fun k => L.getD k false) mk) → Pres w S ι h w' S' ι' (hM h (fun k => L.getD k false) mk) → ER w' S' ι' (hM h (fun k => L.getD k false) mk) (envL (fun k => L.getD k false) env pv 0) a.tmps → a.tmps.size = n → a.defers = [] → wpAny P .any ops (Post n w S ι h Q) fuel L a w' := by
    intro fuel
    induction fuel with
    | zero =>
      intro L a w' S' ι' hs hf hdc hlt k1 k2 k3 k4 k5
      have all : ∀ i, i < ops.size → L.getD i false = true := fun i hi => by
        cases hL : L.getD i false with
        | true => rfl
        | false => have := cnt_set hs hi hL; omega
      have hready : Region.ready .any ops L = [] := by
        cases hr : Region.ready .any ops L with
        | nil => rfl
        | cons j r => have := ready_of hs (j := j) (by rw [hr]; simp); rw [all j this.1] at this; simp at this
      have e := envL_true (fun k => L.getD k false) pv env 0 (fun k hk => by rw [Nat.zero_add]; exact all k (by omega))
      have eh := hM_all (h := h) (L := fun k => L.getD k false) (mk := mk) (fun p j blk hp => all j (by have := (m1 p j blk hp).2; omega))
      rw [eh] at k1 k2 k3
      rw [e] at k3
      rcases p2 with ⟨_, hK⟩ | ⟨hm, hlt2, _⟩
      · exact ⟨hready, _, _, S', ι', .n, rfl, k4, k5, k1, k2, k3, hK⟩
      · have := hlt pv.length (all _ hlt2); omega
    | succ fuel ih =>
      intro L a w' S' ι' hs hf hdc hlt k1 k2 k3 k4 k5
      by_cases hall : ∀ k, k < pv.length → L.getD k false = true
      · have e := envL_true (fun k => L.getD k false) pv env 0 (fun k hk => by rw [Nat.zero_add]; exact hall k hk)
        have eh := hM_all (h := h) (L := fun k => L.getD k false) (mk := mk) (fun p j blk hp => hall j (m1 p j blk hp).2)
        rw [eh] at k1 k2 k3
        rw [e] at k3
        rcases p2 with ⟨hN, hK⟩ | ⟨hm, hlt2, hWO⟩
        · have hready : Region.ready .any ops L = [] := by
            cases hr : Region.ready .any ops L with
            | nil => rfl
            | cons j r => have := ready_of hs (j := j) (by rw [hr]; simp); rw [hall j (by omega)] at this; simp at this
          have hq : Post n w S ι h Q .normal a w' := ⟨_, _, S', ι', .n, rfl, k4, k5, k1, k2, k3, hK⟩
          exact ⟨fun _ => hq, fun j hj => by rw [hready] at hj; cases hj⟩
        · have hLm : ∀ k, L.getD k false = decide (k < m) := fun k => by
            rw [← hm]
            by_cases g : k < pv.length
            · rw [hall k g]; simp [g]
            · cases hL : L.getD k false with
              | false => simp [g]
              | true => exact (g (hlt k hL)).elim
          refine any_tail c (fuel + 1) m L a w' hs (Nat.le_refl _) (by omega) ?_ hLm ?_
          · have : cnt ops L = ops.size - m := by
              unfold cnt
              rw [← cnt_lt m ops.size]
              congr 1
              exact List.filter_congr fun i _ => by rw [hLm]
            omega
          · rw [← hm]
            refine hWO.out w' S' ι' a k1 k3 k4 k5 _ fun w2 S2 ι2 a2 env2 h2 q1 q2 q3 q4 q5 q6 => ?_
            exact ⟨env2, h2, S2, ι2, .n, rfl, q4, q5, q1, k2.trans q2, q3, q6⟩
      · obtain ⟨k0, hk0⟩ : ∃ k, ¬ (k < pv.length → L.getD k false = true) := Classical.not_forall.1 hall
        have hk0l : k0 < pv.length := Classical.byContradiction fun g => hk0 fun g' => (g g').elim
        have hk0f : L.getD k0 false = false := by
          cases hL : L.getD k0 false with
          | false => rfl
          | true => exact (hk0 fun _ => hL).elim
        refine ⟨fun hr => ?_, fun i hi => ?_⟩
        · have := ready_nil c hs hr k0 (by omega); rw [hk0f] at this; cases this
        obtain ⟨hiN, hiL, o, hio, hpre⟩ := ready_of hs hi
        have hil : i < pv.length := by
          rcases Nat.lt_or_ge i pv.length with g | g
          · exact g
          · rcases p2 with ⟨hN, _⟩ | ⟨hm, _, _⟩
            · omega
            · have := c.pre (L := L) hio hpre hdc (c.last i k0 hiN (by omega) (by omega))
              rw [hk0f] at this; cases this
        obtain ⟨o', ho', hdst, hdn, hok⟩ := p1 i pv[i] (List.getElem?_eq_getElem hil)
        rw [hio] at ho'; injection ho' with ho'; subst ho'
        have hpv : pv[i]? = some pv[i] := List.getElem?_eq_getElem hil
        have huse : ER w' S' ι' (hM h (fun k => L.getD k false) mk) (rst (usesOf ops o) ((pv.take i).reverse ++ env)) a.tmps := by
          intro t v hv
          obtain ⟨hu, hv⟩ := rst_lookup hv
          refine k3 t v ?_
          rw [← hv]
          have e2 := envL_lt i pv env 0
          rw [Nat.sub_zero] at e2
          rw [← e2]
          refine envL_agree fun k x hk hx => ?_
          obtain ⟨ok, g1, g2, _, _⟩ := p1 k x hk
          by_cases e : k = i
          · subst e; rw [hiL]; simp
          · rcases c.sep i k o ok t hio g1 e (by rw [g2, hx]) (.inl hu) with g | g
            · have h1 := c.pre (L := L) hio hpre hdc g
              have h2 := c.lt hio g
              rw [h1]; simp [h2]
            · have h2 := c.lt g1 g
              cases hL : L.getD k false with
              | false => simp; omega
              | true => have := hdc k i hL g; rw [hiL] at this; cases this
        have hset : ∀ j, (L.setIfInBounds i true).getD j false = (decide (j = i) || L.getD j false) := fun j => setD (by omega)
        have hset' : ∀ j, j ≠ i → (fun k => (L.setIfInBounds i true).getD k false) j = (fun k => L.getD k false) j := fun j hj => by simp only [hset]; simp [hj]
        have hseti : (fun k => (L.setIfInBounds i true).getD k false) i = true := by simp only [hset]; simp
        -- what comes behind it
        have next : ∀ (w2 : World) S2 ι2 (u : Value), HR w2 S2 ι2 (hM h (fun k => (L.setIfInBounds i true).getD k false) mk) → Pres w S ι h w2 S2 ι2 (hM h (fun k => (L.setIfInBounds i true).getD k false) mk) →
            (∀ t v, (envL (fun k => L.getD k false) env pv 0).lookup t = some v → RV w2 S2 ι2 (hM h (fun k => (L.setIfInBounds i true).getD k false) mk) v (a.tmps.getD t undef)) →
            RV w2 S2 ι2 (hM h (fun k => (L.setIfInBounds i true).getD k false) mk) pv[i].2 u → wpAny P .any ops (Post n w S ι h Q) fuel (L.setIfInBounds i true) (a.put o.dst u) w2 := by
          intro w2 S2 ι2 u q1 q2 qe q3
          refine ih _ _ w2 S2 ι2 (by simpa using hs) (by have := cnt_set hs hiN hiL; omega) (fun i' k g1 g2 => ?_) (fun k g => ?_) q1 q2 ?_ (by rw [put_size]; exact k4) (by rw [put_defers]; exact k5)
          · rw [hset] at g1 ⊢
            by_cases e : i' = i
            · subst e; rw [c.pre (L := L) hio hpre hdc g2]; simp
            · have : L.getD i' false = true := by simpa [e] using g1
              rw [hdc i' k this g2]; simp
          · rw [hset] at g
            by_cases e : k = i
            · omega
            · exact hlt k (by simpa [e] using g)
          · intro t v hv
            have hsz : i < L.size := by omega
            rw [hdst]
            simp only [Act.put, Array.size_setIfInBounds]
            by_cases e : t = pv[i].1
            · have hv2 : v = pv[i].2 := by
                rcases envL_lookup (fun k => (L.setIfInBounds i true).getD k false) t env _ pv rfl with ⟨g1, _⟩ | ⟨k, x, g1, g2, g3, g4, g5⟩
                · have := g1 i _ hpv e.symm; rw [hset] at this; simp at this
                · rw [g5] at hv; injection hv with hv; subst hv
                  have hki : k = i := by
                    rcases Nat.lt_trichotomy k i with g | g | g
                    · have := g4 i _ g hpv e.symm; rw [hset] at this; simp at this
                    · exact g
                    · rw [hset] at g3
                      have hne : k ≠ i := by omega
                      have hLk : L.getD k false = true := by simpa [hne] using g3
                      obtain ⟨ok, f1, f2, _, _⟩ := p1 k x g1
                      rcases c.sep i k o ok t hio f1 hne (by rw [f2, g2]) (.inr (by rw [hdst, e])) with f | f
                      · have := c.lt hio f; omega
                      · have := hdc k i hLk f; rw [hiL] at this; cases this
                  subst hki
                  rw [hpv] at g1; injection g1 with g1; rw [g1]
              subst hv2
              refine ⟨by rw [e, k4]; exact hdn, ?_⟩
              have : (a.tmps.setIfInBounds pv[i].1 u).getD t undef = u := by
                rw [e]; simp [Array.getD_eq_getD_getElem?, k4, hdn]
              rw [this]; exact q3
            · have hv2 : (envL (fun k => L.getD k false) env pv 0).lookup t = some v := by
                rw [← hv]
                refine (envL_agree fun k x g1 g2 => ?_).symm
                rw [hset]
                have : k ≠ i := fun g => by subst g; rw [hpv] at g1; injection g1 with g1; subst g1; exact e g2.symm
                simp [this]
              refine ⟨(k3 t v hv2).1, ?_⟩
              have : (a.tmps.setIfInBounds pv[i].1 u).getD t undef = a.tmps.getD t undef := by
                simp [Array.getD_eq_getD_getElem?, Ne.symm e]
              rw [this]; exact qe t v hv2
        unfold wpOp
        simp only [hio]
        rcases hok with ⟨hg, hany, hno⟩ | ⟨hg, hv, hno⟩ | ⟨p, blk, v, hp, hg, hl, hv, hb, hok, hx⟩
        · rw [if_pos (grd_ok hg rfl w' S' ι' a huse)]
          have hsame : hM h (fun k => L.getD k false) mk = hM h (fun k => (L.setIfInBounds i true).getD k false) mk := hM_same fun p j blk hp => hset' j fun e => hno p blk (by rw [← e]; exact hp)
          have f := hany.at hh (mk.map fun x => if (fun k => L.getD k false) x.1 then x.2 else .abs)
          refine .inl (f.out w' S' ι' a k1 huse k4 k5 _ _ fun w2 S2 ι2 u q1 q2 q3 => ?_)
          have q1' : HR w2 S2 ι2 (hM h (fun k => L.getD k false) mk) := q1
          have q2' : Pres w' S' ι' (hM h (fun k => L.getD k false) mk) w2 S2 ι2 (hM h (fun k => L.getD k false) mk) := q2
          have q3' : RV w2 S2 ι2 (hM h (fun k => L.getD k false) mk) pv[i].2 u := q3
          refine next w2 S2 ι2 u (hsame ▸ q1') (hsame ▸ (k2.trans q2')) (fun t v hv => ?_) (hsame ▸ q3')
          exact hsame ▸ ((k3 t v hv).2.mono q2')
        · rw [if_neg (by rw [grd_ok hg rfl w' S' ι' a huse]; simp)]
          have hsame : hM h (fun k => L.getD k false) mk = hM h (fun k => (L.setIfInBounds i true).getD k false) mk := hM_same fun p j blk hp => hset' j fun e => hno p blk (by rw [← e]; exact hp)
          exact next w' S' ι' undef (hsame ▸ k1) (hsame ▸ k2) (fun t v hv => hsame ▸ (k3 t v hv).2) (by rw [hv]; exact ⟨#[], rfl, rfl, fun j x v h1 _ => by simp at h1⟩)
        · rw [if_pos (grd_ok hg rfl w' S' ι' a huse)]
          obtain ⟨bl, br⟩ := hb.ok blk (by simp)
          have f := hok.frm (ex := mk.map fun x => if (fun k => L.getD k false) x.1 then x.2 else .abs) (lowE_ok hl) (hh.ok) (fun x hx => by
            rcases List.mem_append.1 hx with hx | hx
            · exact hrl x hx
            · rw [List.mem_singleton.1 hx]; exact br)
          have eu := unH_frm (h := h) (ex := mk.map fun x => if (fun k => L.getD k false) x.1 then x.2 else .abs) (ys := [blk]) hlow (by simpa using bl)
          rw [eu] at f
          refine .inl (f.out w' S' ι' a k1 huse k4 k5 _ _ fun w2 S2 ι2 u q1 q2 q3 => ?_)
          have q1' : HR w2 S2 ι2 (hM h (fun k => L.getD k false) mk ++ [blk]) := q1
          have q2' : Pres w' S' ι' (hM h (fun k => L.getD k false) mk) w2 S2 ι2 (hM h (fun k => L.getD k false) mk ++ [blk]) := q2
          have q3' : RV w2 S2 ι2 (hM h (fun k => L.getD k false) mk ++ [blk]) (v.ren (rf (List.range h.length) (hM h (fun k => L.getD k false) mk).length)) u := q3
          have habs : (hM h (fun k => L.getD k false) mk)[h.length + p]? = some .abs := by
            unfold hM
            rw [List.getElem?_append_right (by omega), List.getElem?_map]
            have hiL' : L[i]?.getD false = false := by simpa [Array.getD_eq_getD_getElem?] using hiL
            simp [hp, hiL']
          have hsz : h.length ≤ (hM h (fun k => L.getD k false) mk).length := by unfold hM; simp
          have hall2 : ∀ x ∈ hM h (fun k => L.getD k false) mk ++ [blk], x.low (hM h (fun k => L.getD k false) mk).length = true := fun x hx => by
            have up : ∀ y : Blk, y.low h.length = true → y.low (hM h (fun k => L.getD k false) mk).length = true := fun y hy => by
              have cu : ∀ c : C, c.low h.length = true → c.low (hM h (fun k => L.getD k false) mk).length = true := fun c hc => by
                cases c <;> simp only [C.low, decide_eq_true_eq] at hc ⊢ <;> omega
              cases y with
              | box cs => simp only [Blk.low, List.all_eq_true] at hy ⊢; exact fun c hc => cu c (hy c hc)
              | arr es sz => simp only [Blk.low, List.all_eq_true] at hy ⊢; exact fun el he c hc => cu c (hy el he c hc)
              | dead => rfl
              | abs => rfl
            rcases List.mem_append.1 hx with hx | hx
            · unfold hM at hx
              rcases List.mem_append.1 hx with hx | hx
              · exact up x (hlow x hx)
              · obtain ⟨y, hy, rfl⟩ := List.mem_map.1 hx
                obtain ⟨p', hp'⟩ := List.getElem?_of_mem hy
                split
                · exact up _ (mlow p' y.1 y.2 hp').1
                · rfl
            · rw [List.mem_singleton.1 hx]; exact up _ bl
          have es := hM_set (h := h) (L := fun k => L.getD k false) (L' := fun k => (L.setIfInBounds i true).getD k false) hp m2 hset' hseti
          have r1' := q1'.mv habs hall2
          have r2' := (k2.trans q2').mv habs (by omega)
          have r3' := q3'.mv habs
          rw [V.mv2 hv hsz] at r3'
          rw [es] at r1' r2' r3'
          refine next w2 S2 _ u r1' r2' (fun t x hx' => ?_) (by rw [hx]; simpa using r3')
          have g1 := ((k3 t x hx').2.mono q2').mv habs
          rw [es] at g1
          have hxlow : x.low (hM h (fun k => L.getD k false) mk).length = true := (k3 t x hx').2.low
          rw [V.ren_id hxlow (fun b hb => by unfold mvf; rw [if_neg (by omega)])] at g1
          exact g1
  obtain ⟨e1, e2⟩ := r1.ext (w' := { w with drawn := w.drawn + 1 }) (S' := S) (fun _ _ => rfl) (Nat.le_refl _) (fun _ _ => rfl) r1.low (fun b blk B g1 g2 g3 => (r1.own b blk B g1 g2 g3).1)
  obtain ⟨f1, f2⟩ := e1.abs (mk.length)
  have e0 : h ++ List.replicate mk.length Blk.abs = hM h (fun k => (Array.replicate ops.size false).getD k false) mk := by
    unfold hM; congr 1
    apply List.ext_getElem?; intro k
    rw [List.getElem?_map, List.getElem?_replicate]
    by_cases hk : k < mk.length
    · rw [if_pos hk, List.getElem?_eq_getElem hk]
      simp only [Option.map_some, Array.getD_eq_getD_getElem?, Array.getElem?_replicate]
      split <;> simp_all
    · rw [if_neg hk, List.getElem?_eq_none (by omega)]; rfl
  rw [e0] at f1 f2
  have hrep : ∀ k, (Array.replicate ops.size false).getD k false = false := fun k => by simp only [Array.getD_eq_getD_getElem?, Array.getElem?_replicate]; split <;> rfl
  refine claim ops.size _ a _ S ι (by simp) ?_ (fun i k g => by rw [hrep] at g; cases g) (fun k g => by rw [hrep] at g; cases g) f1 (e2.trans f2) ?_ r3 r4
  · unfold cnt; exact Nat.le_trans (List.length_filter_le _ _) (by simp)
  · have : envL (fun k => (Array.replicate ops.size false).getD k false) env pv 0 = env := by
      have gen : ∀ (pv : List (Nat × V)) (i : Nat), envL (fun k => (Array.replicate ops.size false).getD k false) env pv i = env := by
        intro pv
        induction pv with
        | nil => intro i; rfl
        | cons x pv ih => intro i; simp only [envL]; rw [if_neg (by rw [hrep]; simp)]; exact ih (i + 1)
      exact gen pv 0
    rw [this]; exact (r2.mono e2).mono f2
variable {Q : Ex → Env → List Blk → Prop} {env E : Env} {rid m i j d' : Nat} {y : Code} {bs : List Blk}
theorem W.dms0 (hmx : P.follows .mixedOrders = true) (hc : dchk ops ops.size = true) (hh : LH h.length h) (hw : WM P n ops h (fun env' h' => W P n y env' h' Q) ops.size 0 env []) : W P n (.seq (.region rid ops true) y) env h Q := W.seq (W.drawM hmx _ hc hh hw)
theorem W.dms1 (hmx : P.follows .mixedOrders = true) (hc : dchk ops (ops.size - 1) = true) (hh : LH h.length h) (hw : WM P n ops h (fun env' h' => W P n y env' h' Q) (ops.size - 1) 0 env []) : W P n (.seq (.region rid ops true) y) env h Q := W.seq (W.drawM hmx _ hc hh hw)
theorem W.dms2 (hmx : P.follows .mixedOrders = true) (hc : dchk ops (ops.size - 2) = true) (hh : LH h.length h) (hw : WM P n ops h (fun env' h' => W P n y env' h' Q) (ops.size - 2) 0 env []) : W P n (.seq (.region rid ops true) y) env h Q := W.seq (W.drawM hmx _ hc hh hw)
variable {e' : Nat} {p p' : Op} {ty ty' : Nat} {ps ps' : String} {af af' : Array Edge} {gg : Bool} {gd gd' : Option (Nat × Bool)} {K : Env → List Blk → Prop}
theorem WM.gs (x : Bool) (hi : ops[i]? = some ⟨some e', p, ty, ps, af, some (j, gg)⟩) (hj : ops[j]? = some ⟨some d', p', ty', ps', af', gd'⟩) (hx : E.lookup d' = some (.c (.t (.b x)))) (h1 : x = true → WM P n ops h K m i E bs) (h2 : x = false → WM P n ops h K m i E bs) : WM P n ops h K m i E bs := by
  cases x
  · exact h2 rfl
  · exact h1 rfl
theorem WM.id (x : WM P n ops h K m i E bs) : WM P n ops h K m i E bs := x
/-- A step that gives a value, or makes a block. -/
structure OpM (P : Program) (n : Nat) (o : Oper) (env : Env) (h : List Blk) (bs : List Blk) (k : V → List Blk → Prop) : Prop where
  out : (∃ v, OpOk P n o env h v h ∧ v.low h.length = true ∧ k v bs) ∨ ∃ v blk, OpOk P n o env h v (h ++ [blk]) ∧ v.low (h.length + 1) = true ∧ LH h.length [blk] ∧ k (v.ren (mvf h.length (h.length + bs.length))) (bs ++ [blk])
theorem OpM.v {o : Oper} {v : V} {k : V → List Blk → Prop} (hok : OpOk P n o env h v h) (hv : v.low h.length = true) (hk : k v bs) : OpM P n o env h bs k := ⟨.inl ⟨v, hok, hv, hk⟩⟩
theorem OpM.b {o : Oper} {v : V} {blk : Blk} {k : V → List Blk → Prop} (hok : OpOk P n o env h v (h ++ [blk])) (hv : v.low (h.length + 1) = true) (hb : LH h.length [blk]) (hk : k (v.ren (mvf h.length (h.length + bs.length))) (bs ++ [blk])) : OpM P n o env h bs k := ⟨.inr ⟨v, blk, hok, hv, hb, hk⟩⟩
theorem OpM.id {o : Oper} {k : V → List Blk → Prop} (x : OpM P n o env h bs k) : OpM P n o env h bs k := x
theorem WM.g (hi : ops[i]? = some ⟨some e', p, ty, ps, af, gd⟩) (hg : grd ops (rst (usesOf ops ⟨some e', p, ty, ps, af, gd⟩) E) gd = some true) (hl : lowE h.length (rst (usesOf ops ⟨some e', p, ty, ps, af, gd⟩) E) = true) (hd : e'.blt n = true)
    (hr : OpM P n ⟨some e', p, ty, ps, af, gd⟩ (rst (usesOf ops ⟨some e', p, ty, ps, af, gd⟩) E) h bs fun v bs' => WM P n ops h K m (i + 1) ((e', v) :: E) bs') : WM P n ops h K m i E bs := by
  obtain ⟨v, a, b, c⟩ | ⟨v, blk, a, b, c, d⟩ := hr.out
  · exact .o hi hg hl b a hd c
  · exact .a hi hg hl b c a hd d
end
end Go.YtamlleimfopmhaaMc

namespace Go.YtamlleimfopmhaaMc
theorem kp {K : List Nat} {n : Nat} (h : K.take n = List.range n) : ∀ i, i < n → K[i]? = some i := fun i hi => by
  have : (K.take n)[i]? = some i := by rw [h]; simp [hi]
  rwa [List.getElem?_take, if_pos hi] at this
theorem VwC.full {α : Type} {e : α → List T} {l : List α} {h : List Blk} {K : List Nat} {b sz n : Nat} {z : Bool} {es : List (List C)} (hz : z = true) (hm : K.contains b = false) (hb : h[b]? = some (.arr es sz)) (he : es = Rs e l) (hn : n = l.length) : VwC h K z (.sl b n 0 n) (.t (.l (l.map e))) := by
  subst hn
  have := VwC.fz (off := 0) (len := l.length) hz hm hb he
  have hl : es.length = l.length := by rw [he]; simp
  rw [hl, List.drop_zero, List.take_of_length_le (by simp)] at this
  exact this
section
variable {P : Program} {n : Nat} {o : Oper} {env : Env} {h : List Blk}
/-- Copies of data, and what data appended to data is. -/
theorem OpOk.cpF (D : Tab P) {x y : Operand} {sT xT e e' : Nat} {i i' ie : TI} {es : List (List T)} (ho : o.op = .call { callee := .builtin .append, args := #[x, y], argTypes := #[sT, xT] }) (ht : D.f sT = some i) (hk : i.k = .sl e) (ht' : D.f xT = some i') (hk' : i'.k = .sl e') (hte : D.f e = some ie)
    (hx : oe env x = some (.c .emp)) (hy : oe env y = some (.c (.t (.l es)))) (hz : 0 < ie.size) (hs : ∀ el ∈ es, el.length = ie.size) (hb : es.length * ie.bytes ≤ 140737488355328) (hlt : es.length ≤ 9223372036854775807) : OpOk P n o env h (.c (.t (.l es))) h :=
  .appF D ho ht hk ht' hk' hte hx hy rfl hz hs hb hlt
theorem OpOk.cpM (D : Tab P) {α : Type} {x y : Operand} {sT xT e e' : Nat} {i i' ie : TI} {xs : List α} {enc : α → List T} (ho : o.op = .call { callee := .builtin .append, args := #[x, y], argTypes := #[sT, xT] }) (ht : D.f sT = some i) (hk : i.k = .sl e) (ht' : D.f xT = some i') (hk' : i'.k = .sl e') (hte : D.f e = some ie)
    (hx : oe env x = some (.c .emp)) (hy : oe env y = some (.c (.t (.l (xs.map enc))))) (hz : 0 < ie.size) (hs : ∀ y, (enc y).length = ie.size) (hl : xs.length ≤ 1048576) (hb : 1048576 * ie.bytes ≤ 140737488355328) : OpOk P n o env h (.c (.t (.l (xs.map enc)))) h :=
  .cpF D ho ht hk ht' hk' hte hx hy hz (fun el hel => by obtain ⟨y, _, rfl⟩ := List.mem_map.1 hel; exact hs y) (by rw [List.length_map]; exact Nat.le_trans (Nat.mul_le_mul_right _ hl) hb) (by rw [List.length_map]; omega)
/-- The same; the block is the call's own. -/
theorem OpOk.cpO (D : Tab P) {α : Type} {x y : Operand} {sT xT e e' : Nat} {i i' ie : TI} {xs : List α} {enc : α → List T} (ho : o.op = .call { callee := .builtin .append, args := #[x, y], argTypes := #[sT, xT] }) (ht : D.f sT = some i) (hk : i.k = .sl e) (ht' : D.f xT = some i') (hk' : i'.k = .sl e') (hte : D.f e = some ie)
    (hx : oe env x = some (.c .emp)) (hy : oe env y = some (.c (.t (.l (xs.map enc))))) (hz : 0 < ie.size) (hs : ∀ y, (enc y).length = ie.size) (hl : xs.length ≤ 1048576) (hb : 1048576 * ie.bytes ≤ 140737488355328) : OpOk P n o env h (.c (.sl h.length xs.length 0 xs.length)) (h ++ [.arr (Rs enc xs) ie.size]) := by
  have := OpOk.appN (P := P) (n := n) (h := h) D ho ht hk ht' hk' hte hx hy (es := Rs enc xs) rfl hz (fun el hel => by
    obtain ⟨ts, h1, rfl⟩ := List.mem_map.1 hel
    obtain ⟨y, _, rfl⟩ := List.mem_map.1 h1
    rw [List.length_map]; exact hs y) (by rw [rs_len]; exact Nat.le_trans (Nat.mul_le_mul_right _ hl) hb) (by rw [rs_len]; omega)
  rwa [rs_len] at this
/-- One more, behind what is the call's own. -/
theorem OpOk.apO (D : Tab P) {α : Type} {x y : Operand} {sT xT e e' b b2 q q2 : Nat} {i i' ie : TI} {xs ys : List α} {enc : α → List T} {sz : Nat} {es2 : List (List C)} {sz2 : Nat} (ho : o.op = .call { callee := .builtin .append, args := #[x, y], argTypes := #[sT, xT] }) (ht : D.f sT = some i) (hk : i.k = .sl e) (ht' : D.f xT = some i') (hk' : i'.k = .sl e') (hte : D.f e = some ie)
    (hx : oe env x = some (.c (.sl b q 0 q))) (hbb : h[b]? = some (.arr (Rs enc xs) sz)) (hq : q = xs.length) (hsz : sz = ie.size) (hy : oe env y = some (.c (.sl b2 q2 0 q2))) (hb2 : h[b2]? = some (.arr es2 sz2)) (he2 : es2 = Rs enc ys) (hq2 : q2 = ys.length) (hs : ∀ y, (enc y).length = ie.size) (hl : xs.length + ys.length ≤ 1048576) (hb : 1048576 * ie.bytes ≤ 140737488355328) :
    OpOk P n o env h (.c (.sl b (xs ++ ys).length 0 (xs ++ ys).length)) (h.set b (.arr (Rs enc (xs ++ ys)) sz)) := by
  subst he2
  have := OpOk.appA (P := P) (n := n) (h := h) D ho ht hk ht' hk' hte hx hbb (by rw [rs_len]; exact hq) hsz hy (es := Rs enc ys) (by simp only [srcE, hb2]; rw [if_pos (by rw [rs_len]; exact hq2), List.drop_zero, List.take_of_length_le (by rw [rs_len]; omega)]) (fun el hel => by
    obtain ⟨ts, h1, rfl⟩ := List.mem_map.1 hel
    obtain ⟨y, _, rfl⟩ := List.mem_map.1 h1
    rw [List.length_map]; exact hs y) (by simp [Rs, C.one]) (by rw [rs_len, hq]; exact Nat.le_trans (Nat.mul_le_mul_right _ hl) hb) (by rw [rs_len]; omega)
  rw [rs_len, rs_app, hq] at this
  rwa [List.length_append]
/-- The same, to a slice without room. -/
theorem OpOk.apE (D : Tab P) {α : Type} {x y : Operand} {sT xT e e' b2 q2 : Nat} {i i' ie : TI} {ys : List α} {enc : α → List T} {es2 : List (List C)} {sz2 : Nat} (ho : o.op = .call { callee := .builtin .append, args := #[x, y], argTypes := #[sT, xT] }) (ht : D.f sT = some i) (hk : i.k = .sl e) (ht' : D.f xT = some i') (hk' : i'.k = .sl e') (hte : D.f e = some ie)
    (hx : oe env x = some (.c .emp)) (hy : oe env y = some (.c (.sl b2 q2 0 q2))) (hb2 : h[b2]? = some (.arr es2 sz2)) (he2 : es2 = Rs enc ys) (hq2 : q2 = ys.length) (hz : 0 < ie.size) (hs : ∀ y, (enc y).length = ie.size) (hl : ys.length ≤ 1048576) (hb : 1048576 * ie.bytes ≤ 140737488355328) :
    OpOk P n o env h (.c (.sl h.length ys.length 0 ys.length)) (h ++ [.arr (Rs enc ys) ie.size]) := by
  subst he2
  have := OpOk.appN (P := P) (n := n) (h := h) D ho ht hk ht' hk' hte hx hy (es := Rs enc ys) (by simp only [srcE, hb2]; rw [if_pos (by rw [rs_len]; exact hq2), List.drop_zero, List.take_of_length_le (by rw [rs_len]; omega)]) hz (fun el hel => by
    obtain ⟨ts, h1, rfl⟩ := List.mem_map.1 hel
    obtain ⟨y, _, rfl⟩ := List.mem_map.1 h1
    rw [List.length_map]; exact hs y) (by rw [rs_len]; exact Nat.le_trans (Nat.mul_le_mul_right _ hl) hb) (by rw [rs_len]; omega)
  rwa [rs_len] at this
/-- Data behind what is the call's own. -/
theorem OpOk.apM (D : Tab P) {α : Type} {x y : Operand} {sT xT e e' b q : Nat} {i i' ie : TI} {xs ys : List α} {enc : α → List T} {sz : Nat} (ho : o.op = .call { callee := .builtin .append, args := #[x, y], argTypes := #[sT, xT] }) (ht : D.f sT = some i) (hk : i.k = .sl e) (ht' : D.f xT = some i') (hk' : i'.k = .sl e') (hte : D.f e = some ie)
    (hx : oe env x = some (.c (.sl b q 0 q))) (hbb : h[b]? = some (.arr (Rs enc xs) sz)) (hq : q = xs.length) (hsz : sz = ie.size) (hy : oe env y = some (.c (.t (.l (ys.map enc))))) (hs : ∀ y, (enc y).length = ie.size) (hl : xs.length + ys.length ≤ 1048576) (hb : 1048576 * ie.bytes ≤ 140737488355328) :
    OpOk P n o env h (.c (.sl b (xs ++ ys).length 0 (xs ++ ys).length)) (h.set b (.arr (Rs enc (xs ++ ys)) sz)) := by
  have := OpOk.appA (P := P) (n := n) (h := h) D ho ht hk ht' hk' hte hx hbb (by rw [rs_len]; exact hq) hsz hy (es := Rs enc ys) rfl (fun el hel => by
    obtain ⟨ts, h1, rfl⟩ := List.mem_map.1 hel
    obtain ⟨y, _, rfl⟩ := List.mem_map.1 h1
    rw [List.length_map]; exact hs y) (by simp [Rs, C.one]) (by rw [rs_len, hq]; exact Nat.le_trans (Nat.mul_le_mul_right _ hl) hb) (by rw [rs_len]; omega)
  rw [rs_len, rs_app, hq] at this
  rwa [List.length_append]
end
end Go.YtamlleimfopmhaaMc

namespace Go.YtamlleimfopmhaaMc
/-- A slice without room, taken as a block of no elements. -/
theorem W.gh {P : Program} {n : Nat} {env : Env} {h : List Blk} {Q : Ex → Env → List Blk → Prop} {c : Code} (t sz : Nat) (hz : 0 < sz) (he : env.lookup t = some (.c .emp)) (hw : W P n c ((t, .c (.sl h.length 0 0 0)) :: env) (h ++ [.arr [] sz]) Q) : W P n c env h Q := by
  constructor; intro w S ι a r1 r2 r3 r4
  obtain ⟨k1, k2⟩ := r1.new (w' := w) (S' := S) (fun _ _ => rfl) (Nat.le_refl _) (fun _ _ => rfl) r1.low (fun _ h => .inl h) none (fun B hB => by cases hB) (.arr [] sz) (fun p => ⟨hz, by simp, .inl ⟨rfl, rfl⟩⟩) (by simp)
  refine wp_mono (hw.out w S _ a k1 (fun t' v hv => ?_) r3 r4) fun e a' u q => q.pres k2
  rw [List.lookup_cons] at hv
  by_cases e : t' = t
  · subst e
    simp only [beq_self_eq_true] at hv; injection hv with hv; subst hv
    obtain ⟨l, A, hA⟩ := r2 t' _ he
    refine ⟨l, ⟨_, app_last .., by simp⟩, fun es' sz' hq => ?_⟩
    simp at hq; obtain ⟨rfl, rfl⟩ := hq
    exact ⟨Nat.le_refl _, fun _ => ⟨by simp, by rw [upd_eq]; exact ⟨A, hA⟩⟩⟩
  · have e' : (t' == t) = false := by simpa using e
    rw [e'] at hv
    exact ⟨(r2 t' v hv).1, (r2 t' v hv).2.mono k2⟩
section
variable {P : Program} {n : Nat} {o : Oper} {env : Env} {h : List Blk} {v : V}
/-- A call of a function that is a value. -/
theorem OpOk.callV {f : FuncId} {t : Nat} {xs : Array Operand} {ts : Array Nat} {vs : List V} (hF : Pu P f vs v) (ho : o.op = .call { callee := .value (.tmp t), args := xs, argTypes := ts }) (hf : env.lookup t = some (.c (.k (.func (.func f) #[] #[])))) (hx : oel env xs.toList = some vs) (hp : vs.all V.pur = true) (hv : v.pur = true) : OpOk P n o env h v h := by
  constructor; intro w S ι a r1 r2 r3 r4 N Q' hN
  have e : a.eval (.tmp t) = .func (.func f) #[] #[] := (r2 t _ hf).2
  have := (OpOk.call (P := P) (n := n) (o := { o with op := .call { callee := .value (.func f), args := xs, argTypes := ts } }) (env := env) (h := h) rfl hF hx hp hv).out w S ι a r1 r2 r3 r4 N Q' hN
  have e2 : (execOp a.eval o).run P w = (execOp a.eval { o with op := .call { callee := .value (.func f), args := xs, argTypes := ts } }).run P w := by
    simp only [execOp, ho, resolve, e, Sem.run_bind]
    rfl
  unfold Oper.wp at this ⊢
  rw [e2]
  exact this
/-- Conversions that change no number. -/
theorem OpOk.cvI (D : Tab P) {t t' : Nat} {x : Operand} {k k' : IntKind} {a : Int} {i i' : TI} (ho : o.op = .convert t t' x) (ht : D.f t = some i) (ht' : D.f t' = some i') (hk : i.k = .int k) (hk' : i'.k = .int k') (hx : oe env x = some (.c (.t (.i k a)))) (hw : k'.wrap a = a) : OpOk P n o env h (.c (.t (.i k' a))) h := by
  have := OpOk.i2i (P := P) (n := n) (h := h) D ho ht ht' hk hk' hx
  rwa [hw] at this
theorem wrap_u64 {a : Int} (h0 : 0 ≤ a) (h1 : a ≤ 18446744073709551615) : IntKind.u64.wrap a = a := by simp [IntKind.wrap, IntKind.bits, IntKind.signed]; omega
theorem wrap_i64 {a : Int} (h0 : -9223372036854775808 ≤ a) (h1 : a ≤ 9223372036854775807) : IntKind.i64.wrap a = a := by simp [IntKind.wrap, IntKind.bits, IntKind.signed]; omega
theorem wrap_u8 {a : Int} (h0 : 0 ≤ a) (h1 : a ≤ 255) : IntKind.u8.wrap a = a := by simp [IntKind.wrap, IntKind.bits, IntKind.signed]; omega
theorem OpOk.shr {t t' : Nat} {x y : Operand} {k k2 : IntKind} {a b : Int} (ho : o.op = .binOp .shr t x y t') (hx : oe env x = some (.c (.t (.i k a)))) (hy : oe env y = some (.c (.t (.i k2 b)))) (h0 : 0 ≤ b) : OpOk P n o env h (.c (.t (.i k (a / 2 ^ (Min.min b.toNat k.bits))))) h := by
  refine .val fun w S ι ac _ r2 => ?_
  have e1 := (oe_ok r2 hx).i
  have e2 := (oe_ok r2 hy).i
  refine ⟨_, ?_, RT.i _ _⟩
  simp [execOp, ho, e1, e2, eqGuard, binOp, shift_shr_any _ _ _ _ h0]
/-- A slice written out, of data: it stays as it is. -/
theorem OpOk.bldF (D : Tab P) {α : Type} (xs : List α) (enc : α → List T) {t e len : Nat} {ps : Array (Nat × Operand)} {vs : List (Nat × V)} {i ie : TI} {cs : List C} (ho : o.op = .buildSlice t len ps) (ht : D.f t = some i) (hk : i.k = .sl e) (hte : D.f e = some ie) (hz : 0 < ie.size) (hl : 0 < len) (h24 : len * ie.size ≤ 16777216)
    (hv : oes env ps.toList = some vs) (hb : bldC (plc len ie.size) (List.replicate len ie.zero).flatten h vs = some cs) (hc : chunk len ie.size cs = Rs enc xs) : OpOk P n o env h (.c (.t (.l (xs.map enc)))) h := by
  have b := OpOk.bldS (P := P) (n := n) (h := h) D ho ht hk hte hz hl h24 hv hb
  constructor; intro w S ι a r1 r2 r3 r4 N Q' hN
  refine b.out w S ι a r1 r2 r3 r4 N Q' fun w' S' ι' u k1 k2 k3 => ?_
  have hg : ∀ m, (Blk.arr (chunk len ie.size cs) ie.size).low m = true := fun m => by
    rw [hc]; simp [Blk.low, Rs, C.low]
  have hlow : ((h ++ [Blk.arr (chunk len ie.size cs) ie.size]).take h.length).all (·.low h.length) = true := by
    rw [List.take_left']
    · rw [List.all_eq_true]
      intro blk hb
      obtain ⟨j, hj⟩ := List.getElem?_of_mem hb
      have k := r1
      cases blk with
      | box cs2 =>
        obtain ⟨B, vs2, e2, _, _, i3⟩ := k.box j cs2 hj
        simp only [Blk.low]
        rw [List.all_eq_true]; intro c hc2
        obtain ⟨p, hp⟩ := List.getElem?_of_mem hc2
        have hlt : p < vs2.toList.length := by rw [← i3.1]; exact (List.getElem?_eq_some_iff.1 hp).1
        have := i3.2 p c _ hp (List.getElem?_eq_getElem hlt)
        cases c with
        | sl b n off len => simpa [C.low] using ex_lt this.1
        | ptr b off => simpa [C.low] using ex_lt this.1
        | ap b n i j => simpa [C.low] using ex_lt this.1
        | _ => rfl
      | arr es2 sz2 =>
        obtain ⟨z0, hs0, hA⟩ := k.arr j es2 sz2 hj
        simp only [Blk.low]
        rw [List.all_eq_true]; intro el hel
        rw [List.all_eq_true]; intro c hc2
        obtain ⟨q, hq⟩ := List.getElem?_of_mem hel
        obtain ⟨p, hp⟩ := List.getElem?_of_mem hc2
        rcases hA with ⟨rfl, _⟩ | ⟨B, vs2, e2, _, _, _, i4⟩
        · simp at hel
        obtain ⟨v2, _, this⟩ := i4 q el p c hq hp
        cases c with
        | sl b n off len => simpa [C.low] using ex_lt this.1
        | ptr b off => simpa [C.low] using ex_lt this.1
        | ap b n i j => simpa [C.low] using ex_lt this.1
        | _ => rfl
      | dead => rfl
      | abs => rfl
    · rfl
  have ht2 : (h ++ [Blk.arr (chunk len ie.size cs) ie.size]).take h.length = h := List.take_left' rfl
  have f1 := k1.frz hlow
  have f2 := RC.frz k1 hlow (c := .sl h.length len 0 len) (c' := .t (.l (xs.map enc))) (by
    have hlen : len = xs.length := by
      have := congrArg List.length hc
      simpa [chunk] using this
    have := FrzC.sl (h := h ++ [Blk.arr (chunk len ie.size cs) ie.size]) (m := h.length) (b := h.length) (off := 0) (len := len) (by simp) (app_last ..) hc
    rw [show (chunk len ie.size cs).length = len by simp [chunk]] at this
    rw [List.drop_zero, List.take_of_length_le (by simp; omega)] at this
    exact this) k3
  have p2 := k2.frz k1 (Nat.le_refl _) hlow
  rw [ht2] at f1 f2 p2
  exact hN w' _ ι' u f1.1 p2 f2
end
end Go.YtamlleimfopmhaaMc

namespace Go.YtamlleimfopmhaaMc
section
variable {P : Program} {n : Nat} {o : Oper} {env : Env} {h : List Blk} {v : V}
/-- Half of a number. -/
theorem OpOk.shrN (m : Nat) {t t' : Nat} {x y : Operand} {k k2 : IntKind} {a : Int} (ho : o.op = .binOp .shr t x y t') (hx : oe env x = some (.c (.t (.i k a)))) (hy : oe env y = some (.c (.t (.i k2 1)))) (ha : a = (m : Int)) : OpOk P n o env h (.c (.t (.i k ((m / 2 : Nat) : Int)))) h := by
  have := OpOk.shr (P := P) (n := n) (h := h) ho hx hy (by omega)
  have e : a / 2 ^ (Min.min (1 : Int).toNat k.bits) = ((m / 2 : Nat) : Int) := by
    have : Min.min (1 : Int).toNat k.bits = 1 := by cases k <;> rfl
    rw [this, ha]; simp
  rwa [e] at this
theorem RCs.field {w : World} {S : Nat → Nat} {ι : Nat → Option Nat} {cs : List C} {vs : Array Value} {off : Nat} {c : C} (r : RCs w S ι h cs vs.toList) (hc : cs[off]? = some c) : RC w S ι h c (vs.getD off undef) := by
  have hlt : off < vs.size := by have := r.1; simp at this; have := (List.getElem?_eq_some_iff.1 hc).1; omega
  have e : vs.getD off undef = vs[off] := by simp [Array.getD_eq_getD_getElem?, hlt]
  rw [e]
  exact r.2 off c _ hc (by simp [hlt])
/-- A field of one cell. -/
theorem OpOk.fld (D : Tab P) {t f : Nat} {x : Operand} {cs : List C} {off : Nat} {c : C} {fs : List (Nat × Nat)} {i : TI} (ft : Nat) (ho : o.op = .field t x f) (ht : D.f t = some i) (hk : i.k = .st fs) (hf : fs[f]? = some (off, 1)) (hft : ((P.fieldsOf t)[f]?).map (fun f => f.type) = some ft) {j : TI} (hj : D.f ft = some j) (ha : j.agg = false) (ho' : ∀ y, j.k = y → y = .oth → False) (hx : oe env x = some (.ag cs)) (hc : cs[off]? = some c) : OpOk P n o env h (.c c) h := by
  refine .val fun w S ι a r1 r2 => ?_
  obtain ⟨vs, e, r⟩ := oe_ok r2 hx
  have hu := (D.ok t i ht).und
  rw [hk] at hu
  obtain ⟨F, hu, hF⟩ := hu
  subst hF
  rw [List.getElem?_map] at hf
  obtain ⟨fd, g1, g2⟩ := Option.map_eq_some_iff.1 hf
  injection g2 with g2 g3
  have g1' : F[f]? = some fd := by simpa using g1
  have hfs : P.fieldsOf t = F := by simp [Program.fieldsOf, hu]
  rw [hfs, g1'] at hft
  have hty : fd.type = ft := by simpa using hft
  have hag := (D.ok ft j hj).isAgg (w := w) ho'
  rw [ha] at hag
  refine ⟨vs.getD off undef, ?_, r.field hc⟩
  have hlt : off < vs.size := by have := r.1; simp at this; have := (List.getElem?_eq_some_iff.1 hc).1; omega
  simp [execOp, ho, Instr.field, run_underlying hu, g1', e, asAgg, part, hty, hag, g2, Array.getD_eq_getD_getElem?, hlt]
end
theorem VwC.slx {h : List Blk} {K : List Nat} {z : Bool} {b n off len : Nat} (hk : K[K.idxOf b]? = some b) : VwC h K z (.sl b n off len) (.sl (K.idxOf b) n off len) := .sl hk
theorem VwC.ptrx {h : List Blk} {K : List Nat} {z : Bool} {b off : Nat} (hk : K[K.idxOf b]? = some b) : VwC h K z (.ptr b off) (.ptr (K.idxOf b) off) := .ptr hk
section
variable {P : Program} {n : Nat} {o : Oper} {env : Env} {h : List Blk} {v : V}
theorem OpOk.mk0e (D : Tab P) {α : Type} (enc : α → List T) {t e : Nat} {x y : Operand} {m : Int} {k1 k2 : IntKind} {i ie : TI} (ho : o.op = .makeSlice t x y) (ht : D.f t = some i) (hk : i.k = .sl e) (hte : D.f e = some ie) (hx : oe env x = some (.c (.t (.i k1 0)))) (hy : oe env y = some (.c (.t (.i k2 m)))) (h0 : 0 ≤ m) (hz : 0 < ie.size) (hb : (ie.bytes : Int) * m ≤ 281474976710656 ∧ m ≤ 9223372036854775807) :
    OpOk P n o env h (.c (.sl h.length ([] : List α).length 0 ([] : List α).length)) (h ++ [.arr (Rs enc []) ie.size]) := .mk0 D ho ht hk hte hx hy h0 hz hb
end
theorem W.ghe {α : Type} (enc : α → List T) {P : Program} {n : Nat} {env : Env} {h : List Blk} {Q : Ex → Env → List Blk → Prop} {c : Code} (t sz : Nat) (hz : 0 < sz) (he : env.lookup t = some (.c .emp)) (hw : W P n c ((t, .c (.sl h.length ([] : List α).length 0 ([] : List α).length)) :: env) (h ++ [.arr (Rs enc []) sz]) Q) : W P n c env h Q := .gh t sz hz he hw
section
variable {P : Program} {D : Tab P} {fn : Func} {g h1 h' : List Blk} {e : Ex} {env' : Env}
theorem Ro.c1 {x : C} {ys : List X} (he : e = .n ∨ e = .r) (K : List Nat) (hr : resXs D.f env' h' (fn.results.toList.map rvOf) = some ys) (hn : K.Nodup) (hk : ∀ i, i < g.length → K[i]? = some i) (hH : VwH h' K true K h1) (hX : VwXs h' K true ys [.c x]) : Ro D fn g (.c x) h1 e env' h' :=
  ⟨he, ys, _, K, h1, hr, hn, hk, hH, hX, rfl, rfl⟩
theorem Ro.a1 {cs : List C} {ys : List X} (he : e = .n ∨ e = .r) (K : List Nat) (hr : resXs D.f env' h' (fn.results.toList.map rvOf) = some ys) (hn : K.Nodup) (hk : ∀ i, i < g.length → K[i]? = some i) (hH : VwH h' K true K h1) (hX : VwXs h' K true ys [.ag cs]) : Ro D fn g (.ag cs) h1 e env' h' :=
  ⟨he, ys, _, K, h1, hr, hn, hk, hH, hX, rfl, rfl⟩
theorem Ro.t1 {zs : List X} {ys : List X} (he : e = .n ∨ e = .r) (K : List Nat) (hr : resXs D.f env' h' (fn.results.toList.map rvOf) = some ys) (hn : K.Nodup) (hk : ∀ i, i < g.length → K[i]? = some i) (hH : VwH h' K true K h1) (hX : VwXs h' K true ys zs) (hz : resV zs = .tu zs) : Ro D fn g (.tu zs) h1 e env' h' :=
  ⟨he, ys, _, K, h1, hr, hn, hk, hH, hX, hz, rfl⟩
theorem Rx.of {α : Type} {p : α → Prop} {v : α → V} {h1 : α → List Blk} (a : α) (hp : p a) (h : Ro D fn g (v a) (h1 a) e env' h') : Rx D fn g p v h1 e env' h' := by
  obtain ⟨q, ys, zs, K, h2, a1, a2, a3, a4, a5, a6, a7⟩ := h
  exact ⟨q, ys, zs, K, h2, a1, a2, a3, a4, a5, a, hp, a6, a7⟩
end
/-! ### Which way a region of open order is gone through -/
/-- Every operation ahead of the m-th gives a value, and makes no variable. -/
def vck (ops : Array Oper) (m : Nat) : Bool := (List.range m).all fun i => match ops[i]? with
  | some o => o.dst.isSome && (match o.op with
    | .alloc _ => false
    | .box _ _ => false
    | _ => true)
  | none => true
def vck2 (ops : Array Oper) (m : Nat) : Bool := (List.range m).all fun i => match ops[i]? with
  | some o => o.dst.isSome
  | none => true
section
variable {P : Program} {n : Nat} {ops : Array Oper} {h : List Blk} {Q : Ex → Env → List Blk → Prop} {env : Env} {id : Nat} {y : Code}
theorem W.dv0 (hmx : P.follows .mixedOrders = true) (hv : vck ops ops.size = true) (hc : dchk ops ops.size = true) (hw : WD P n ops h (fun env' h' => W P n y env' h' Q) ops.size 0 env) : W P n (.seq (.region id ops true) y) env h Q := .drs0 hmx hc hw
theorem W.dv1 (hmx : P.follows .mixedOrders = true) (hv : vck ops (ops.size - 1) = true) (hc : dchk ops (ops.size - 1) = true) (hw : WD P n ops h (fun env' h' => W P n y env' h' Q) (ops.size - 1) 0 env) : W P n (.seq (.region id ops true) y) env h Q := .drs1 hmx hc hw
theorem W.dv2 (hmx : P.follows .mixedOrders = true) (hv : vck ops (ops.size - 2) = true) (hc : dchk ops (ops.size - 2) = true) (hw : WD P n ops h (fun env' h' => W P n y env' h' Q) (ops.size - 2) 0 env) : W P n (.seq (.region id ops true) y) env h Q := .drs2 hmx hc hw
theorem W.dm0 (hmx : P.follows .mixedOrders = true) (hv : vck2 ops ops.size = true) (hc : dchk ops ops.size = true) (hh : LH h.length h) (hw : WM P n ops h (fun env' h' => W P n y env' h' Q) ops.size 0 env []) : W P n (.seq (.region id ops true) y) env h Q := .dms0 hmx hc hh hw
theorem W.dm1 (hmx : P.follows .mixedOrders = true) (hv : vck2 ops (ops.size - 1) = true) (hc : dchk ops (ops.size - 1) = true) (hh : LH h.length h) (hw : WM P n ops h (fun env' h' => W P n y env' h' Q) (ops.size - 1) 0 env []) : W P n (.seq (.region id ops true) y) env h Q := .dms1 hmx hc hh hw
theorem W.dm2 (hmx : P.follows .mixedOrders = true) (hv : vck2 ops (ops.size - 2) = true) (hc : dchk ops (ops.size - 2) = true) (hh : LH h.length h) (hw : WM P n ops h (fun env' h' => W P n y env' h' Q) (ops.size - 2) 0 env []) : W P n (.seq (.region id ops true) y) env h Q := .dms2 hmx hc hh hw
end
end Go.YtamlleimfopmhaaMc

namespace Go.YtamlleimfopmhaaMc
theorem LH.lows {m : Nat} {bs : List Blk} (h : LH m bs) : bs.all (·.low m) = true := List.all_eq_true.2 fun b hb => (h.ok b hb).1
theorem FrzC.fulln {α : Type} {e : α → List T} (l : List α) {h : List Blk} {m b sz n : Nat} {es : List (List C)} (hn : n = l.length) (hm : m.ble b = true) (hb : h[b]? = some (.arr es sz)) (he : es = (l.map e).map (·.map .t)) : FrzC h m (.sl b n 0 n) (.t (.l (l.map e))) := by
  subst hn
  have := FrzC.sl (off := 0) (len := l.length) hm hb he
  have hn : es.length = l.length := by rw [he]; simp
  rw [hn, List.drop_zero, List.take_of_length_le (by simp)] at this
  exact this
end Go.YtamlleimfopmhaaMc

namespace Go.YtamlleimfopmhaaMc
/-! ### A region of open order with stores, beside which one value may be taken at any time -/
def LA (N m : Nat) : Array Bool := ((List.range N).map fun k => Nat.blt k m).toArray
def LB (N f m : Nat) : Array Bool := ((List.range N).map fun k => Nat.blt k m && !Nat.beq k f).toArray
def dropE (d : Nat) : Env → Env
  | [] => []
  | (t, v) :: E => bif t == d then dropE d E else (t, v) :: dropE d E
theorem dropE_lookup {d t : Nat} {v : V} : ∀ {E : Env}, (dropE d E).lookup t = some v → t ≠ d ∧ E.lookup t = some v
  | [], h => by cases h
  | (u, x) :: E, h => by
    unfold dropE at h
    by_cases e : u = d
    · simp only [e, beq_self_eq_true, cond_true] at h
      obtain ⟨h1, h2⟩ := dropE_lookup h
      refine ⟨h1, ?_⟩
      rw [List.lookup_cons]
      have : (t == u) = false := by rw [e]; simpa using h1
      rw [this]; exact h2
    · have : (u == d) = false := by simpa using e
      simp only [this, cond_false] at h
      rw [List.lookup_cons] at h ⊢
      cases g : t == u with
      | true =>
        rw [g] at h
        have : t = u := by simpa using g
        exact ⟨by omega, h⟩
      | false => rw [g] at h; exact dropE_lookup h
def dchkF (ops : Array Oper) (f m d : Nat) : Bool :=
  dchk ops ops.size && decide (f < m) && decide (m ≤ ops.size) && (match ops[f]? with | some o => o.dst == some d | none => false) &&
  (let b := bm ops.toList
   (List.range ops.size).all fun i => decide (i < m) || (List.range m).all fun k => k == f || (b.getD i 0).testBit k)
theorem dchkF_ok {ops : Array Oper} {f m d : Nat} (hc : dchkF ops f m d = true) : Dck ops ops.size ∧ f < m ∧ m ≤ ops.size ∧ ops[f]?.bind (·.dst) = some d ∧ ∀ i k, i < ops.size → m ≤ i → k < m → k ≠ f → (bi ops i).testBit k = true := by
  unfold dchkF at hc
  simp only [Bool.and_eq_true, decide_eq_true_eq] at hc
  obtain ⟨⟨⟨⟨c1, c2⟩, c3⟩, c4⟩, c5⟩ := hc
  refine ⟨dchk_ok c1, c2, c3, ?_, fun i k hi hm hk hn => ?_⟩
  · cases ho : ops[f]? with
    | none => rw [ho] at c4; cases c4
    | some o => rw [ho] at c4; simpa using c4
  · have := List.all_eq_true.1 c5 i (List.mem_range.2 hi)
    have h1 : ¬ i < m := by omega
    simp only [h1, decide_false, Bool.false_or] at this
    have := List.all_eq_true.1 this k (List.mem_range.2 hk)
    simpa [hn, bi] using this
theorem arr_of {N : Nat} {g : Nat → Bool} {L : Array Bool} (hs : L.size = N) (hL : ∀ k, k < N → L.getD k false = g k) : L = ((List.range N).map g).toArray := by
  apply Array.ext
  · simp [hs]
  · intro i h1 h2
    have := hL i (by omega)
    simp only [Array.getD_eq_getD_getElem?, Array.getElem?_eq_getElem h1, Option.getD_some] at this
    simp [this]
theorem blt_dec (k m : Nat) : Nat.blt k m = decide (k < m) := by
  by_cases g : k < m
  · simp [g, Nat.blt_eq]
  · rw [decide_eq_false g]
    cases e : Nat.blt k m with
    | false => rfl
    | true => exact (g (Nat.blt_eq ▸ e)).elim
theorem beq_dec (k m : Nat) : Nat.beq k m = decide (k = m) := by
  by_cases g : k = m
  · subst g; simp
  · rw [decide_eq_false g]
    cases e : Nat.beq k m with
    | false => rfl
    | true => exact (g (Nat.eq_of_beq_eq_true e)).elim
theorem LA_of {N m : Nat} {L : Array Bool} (hs : L.size = N) (hL : ∀ k, k < N → L.getD k false = decide (k < m)) : L = LA N m := arr_of hs fun k hk => by
  rw [hL k hk]; exact (blt_dec k m).symm
theorem LB_of {N f m : Nat} {L : Array Bool} (hs : L.size = N) (hL : ∀ k, k < N → L.getD k false = (decide (k < m) && !decide (k = f))) : L = LB N f m := arr_of hs fun k hk => by
  rw [hL k hk, blt_dec, beq_dec]
structure TF (P : Program) (n : Nat) (ops : Array Oper) (f m d : Nat) (K : Env → List Blk → Prop) (E : Env) (h : List Blk) : Prop where
  a : WE P n ops (ops.size - m) (LA ops.size m) E h K
  b : WE P n ops (ops.size - m + 1) (LB ops.size f m) (dropE d E) h K
inductive WF (P : Program) (n : Nat) (ops : Array Oper) (h : List Blk) (K : Env → List Blk → Prop) (f m : Nat) : Nat → Env → List Blk → Prop
  | done {i : Nat} {E : Env} {bs : List Blk} (him : i = m) (hk : K E (h ++ bs)) : WF P n ops h K f m i E bs
  | o {i e' : Nat} {E : Env} {bs : List Blk} {v : V} {p : Op} {ty : Nat} {ps : String} {af : Array Edge} {gd : Option (Nat × Bool)} (hi : ops[i]? = some ⟨some e', p, ty, ps, af, gd⟩) (hg : grd ops (rst (usesOf ops ⟨some e', p, ty, ps, af, gd⟩) E) gd = some true)
      (hl : lowE h.length (rst (usesOf ops ⟨some e', p, ty, ps, af, gd⟩) E) = true) (hv : v.low h.length = true) (hok : OpOk P n ⟨some e', p, ty, ps, af, gd⟩ (rst (usesOf ops ⟨some e', p, ty, ps, af, gd⟩) E) h v h) (hd : e'.blt n = true) (hr : WF P n ops h K f m (i + 1) ((e', v) :: E) bs) : WF P n ops h K f m i E bs
  | p {i e' : Nat} {E : Env} {bs : List Blk} {v : V} {p : Op} {ty : Nat} {ps : String} {af : Array Edge} {gd : Option (Nat × Bool)} (hi : ops[i]? = some ⟨some e', p, ty, ps, af, gd⟩) (hg : grd ops (rst (usesOf ops ⟨some e', p, ty, ps, af, gd⟩) E) gd = some true)
      (hok : ∀ g, OpOk P n ⟨some e', p, ty, ps, af, gd⟩ (rst (usesOf ops ⟨some e', p, ty, ps, af, gd⟩) E) g v g) (hd : e'.blt n = true) (hr : WF P n ops h K f m (i + 1) ((e', v) :: E) bs) : WF P n ops h K f m i E bs
  | u {i e' : Nat} {E : Env} {bs : List Blk} {p : Op} {ty : Nat} {ps : String} {af : Array Edge} {gd : Option (Nat × Bool)} (hi : ops[i]? = some ⟨some e', p, ty, ps, af, gd⟩) (hg : grd ops (rst (usesOf ops ⟨some e', p, ty, ps, af, gd⟩) E) gd = some false)
      (hd : e'.blt n = true) (hr : WF P n ops h K f m (i + 1) ((e', .tu []) :: E) bs) : WF P n ops h K f m i E bs
  | a {i e' : Nat} {E : Env} {bs : List Blk} {v : V} {blk : Blk} {p : Op} {ty : Nat} {ps : String} {af : Array Edge} {gd : Option (Nat × Bool)} (hif : Nat.beq i f = false) (hi : ops[i]? = some ⟨some e', p, ty, ps, af, gd⟩) (hg : grd ops (rst (usesOf ops ⟨some e', p, ty, ps, af, gd⟩) E) gd = some true)
      (hl : lowE h.length (rst (usesOf ops ⟨some e', p, ty, ps, af, gd⟩) E) = true) (hv : v.low (h.length + 1) = true) (hb : LH h.length [blk]) (hok : OpOk P n ⟨some e', p, ty, ps, af, gd⟩ (rst (usesOf ops ⟨some e', p, ty, ps, af, gd⟩) E) h v (h ++ [blk])) (hd : e'.blt n = true)
      (hr : WF P n ops h K f m (i + 1) ((e', v.ren (mvf h.length (h.length + bs.length))) :: E) (bs ++ [blk])) : WF P n ops h K f m i E bs
section
variable {P : Program} {n : Nat} {ops : Array Oper} {h : List Blk} {K : Env → List Blk → Prop}
theorem cnt_eq {L : Array Bool} {i : Nat} (hs : L.size = ops.size) (hi : i < ops.size) (hL : L.getD i false = false) : cnt ops (L.setIfInBounds i true) + 1 = cnt ops L := by
  unfold cnt
  have : ∀ (xs : List Nat), (xs.filter fun j => !(L.setIfInBounds i true).getD j false).length + xs.count i = (xs.filter fun j => !L.getD j false).length := by
    intro xs
    induction xs with
    | nil => rfl
    | cons x xs ih =>
      simp only [List.filter_cons, setD (by omega : i < L.size), List.count_cons]
      simp only [setD (by omega : i < L.size)] at ih
      by_cases e : x = i
      · subst e
        rw [hL]
        simp only [decide_true, Bool.true_or, Bool.not_true, Bool.false_eq_true, if_false, beq_self_eq_true, if_true, Bool.not_false, List.length_cons]
        omega
      · have e2 : (x == i) = false := by simpa using e
        simp only [e, decide_false, Bool.false_or, e2, Bool.false_eq_true, if_false, Nat.add_zero]
        cases L.getD x false
        · simp only [Bool.not_false, if_true, List.length_cons]; omega
        · simp only [Bool.not_true, Bool.false_eq_true, if_false]; exact ih
  have h1 := this (List.range ops.size)
  have h2 : (List.range ops.size).count i = 1 := by
    rw [List.nodup_range.count, if_pos (List.mem_range.2 hi)]
  omega
theorem cnt_LA {m : Nat} : cnt ops (LA ops.size m) = ops.size - m := by
  unfold cnt
  rw [← cnt_lt m ops.size]
  congr 1
  refine List.filter_congr fun i hi => ?_
  have hi := List.mem_range.1 hi
  unfold LA
  simp only [Array.getD_eq_getD_getElem?, List.getElem?_toArray, List.getElem?_map, List.getElem?_range hi, Option.map_some, Option.getD_some]
  rw [blt_dec]
theorem WF.ex {f m i : Nat} {E : Env} {bs : List Blk} (hw : WF P n ops h K f m i E bs) : ∃ (pv : List (Nat × V)) (mk : List (Nat × Blk)),
    (∀ k x, pv[k]? = some x → ∃ o, ops[i + k]? = some o ∧ o.dst = some x.1 ∧ x.1 < n ∧ OkM P n ops h mk bs.length (i + k) o ((pv.take k).reverse ++ E) x.2) ∧
    (∀ (p j : Nat) (blk : Blk), mk[p]? = some (j, blk) → i ≤ j ∧ j < i + pv.length) ∧ (∀ (p p' j : Nat) (b b' : Blk), mk[p]? = some (j, b) → mk[p']? = some (j, b') → p = p') ∧ (∀ (p j : Nat) (blk : Blk), mk[p]? = some (j, blk) → LH h.length [blk]) ∧
    (∀ (p : Nat) (blk : Blk), mk[p]? ≠ some (f, blk)) ∧ i + pv.length = m ∧ K (pv.reverse ++ E) (h ++ (bs ++ mk.map (·.2))) := by
  induction hw with
  | done him hk => exact ⟨[], [], fun k x h => by simp at h, fun p j blk h => by simp at h, fun p p' j b b' h => by simp at h, fun p j blk h => by simp at h, fun p blk h => by simp at h, by simpa using him, by simpa using hk⟩
  | @o i e' E bs v p ty ps af gd hi hg hl hv hok hd _ ih =>
    obtain ⟨pv, mk, h1, h2, h3, h5, h6, h7, h4⟩ := ih
    refine ⟨(e', v) :: pv, mk, fun k x hk => ?_, fun p j blk hp => ?_, h3, h5, h6, by simp only [List.length_cons]; omega, ?_⟩
    · cases k with
      | zero =>
        simp only [List.getElem?_cons_zero, Option.some.injEq] at hk; subst hk
        exact ⟨_, hi, rfl, by simpa [Nat.blt_eq] using hd, .inl ⟨hg, .inl ⟨hl, hv, hok⟩, fun p blk e => by have := (h2 p _ blk e).1; omega⟩⟩
      | succ k =>
        obtain ⟨o, a, b, c, d⟩ := h1 k x (by simpa using hk)
        refine ⟨o, by rw [← a]; congr 1; omega, b, c, ?_⟩
        rw [show i + 1 + k = i + (k + 1) by omega] at d
        simpa using d
    · have := h2 p j blk hp; simp only [List.length_cons]; omega
    · simpa using h4
  | @p i e' E bs v p ty ps af gd hi hg hok hd _ ih =>
    obtain ⟨pv, mk, h1, h2, h3, h5, h6, h7, h4⟩ := ih
    refine ⟨(e', v) :: pv, mk, fun k x hk => ?_, fun p j blk hp => ?_, h3, h5, h6, by simp only [List.length_cons]; omega, ?_⟩
    · cases k with
      | zero =>
        simp only [List.getElem?_cons_zero, Option.some.injEq] at hk; subst hk
        exact ⟨_, hi, rfl, by simpa [Nat.blt_eq] using hd, .inl ⟨hg, .inr hok, fun p blk e => by have := (h2 p _ blk e).1; omega⟩⟩
      | succ k =>
        obtain ⟨o, a, b, c, d⟩ := h1 k x (by simpa using hk)
        refine ⟨o, by rw [← a]; congr 1; omega, b, c, ?_⟩
        rw [show i + 1 + k = i + (k + 1) by omega] at d
        simpa using d
    · have := h2 p j blk hp; simp only [List.length_cons]; omega
    · simpa using h4
  | @u i e' E bs p ty ps af gd hi hg hd _ ih =>
    obtain ⟨pv, mk, h1, h2, h3, h5, h6, h7, h4⟩ := ih
    refine ⟨(e', .tu []) :: pv, mk, fun k x hk => ?_, fun p j blk hp => ?_, h3, h5, h6, by simp only [List.length_cons]; omega, ?_⟩
    · cases k with
      | zero =>
        simp only [List.getElem?_cons_zero, Option.some.injEq] at hk; subst hk
        exact ⟨_, hi, rfl, by simpa [Nat.blt_eq] using hd, .inr (.inl ⟨hg, rfl, fun p blk e => by have := (h2 p _ blk e).1; omega⟩)⟩
      | succ k =>
        obtain ⟨o, a, b, c, d⟩ := h1 k x (by simpa using hk)
        refine ⟨o, by rw [← a]; congr 1; omega, b, c, ?_⟩
        rw [show i + 1 + k = i + (k + 1) by omega] at d
        simpa using d
    · have := h2 p j blk hp; simp only [List.length_cons]; omega
    · simpa using h4
  | @a i e' E bs v blk p ty ps af gd hif hi hg hl hv hb hok hd _ ih =>
    obtain ⟨pv, mk, h1, h2, h3, h5, h6, h7, h4⟩ := ih
    refine ⟨(e', v.ren (mvf h.length (h.length + bs.length))) :: pv, (i, blk) :: mk, fun k x hk => ?_, fun p j blk' hp => ?_, fun p p' j b b' hp hp' => ?_, fun p j blk' hp => ?_, fun p blk' e => ?_, by simp only [List.length_cons]; omega, ?_⟩
    · cases k with
      | zero =>
        simp only [List.getElem?_cons_zero, Option.some.injEq] at hk; subst hk
        exact ⟨_, hi, rfl, by simpa [Nat.blt_eq] using hd, .inr (.inr ⟨0, blk, v, rfl, hg, hl, hv, hb, hok, rfl⟩)⟩
      | succ k =>
        obtain ⟨o, a, b, c, d⟩ := h1 k x (by simpa using hk)
        refine ⟨o, by rw [← a]; congr 1; omega, b, c, ?_⟩
        rw [show i + 1 + k = i + (k + 1) by omega] at d
        have cons : ∀ {Y : Prop}, (∀ (p : Nat) (blk' : Blk), mk[p]? ≠ some (i + (k + 1), blk')) → ∀ (p : Nat) (blk' : Blk), ((i, blk) :: mk)[p]? ≠ some (i + (k + 1), blk') := fun hh p blk' e => by
          cases p with
          | zero => simp at e
          | succ p => exact hh p blk' (by simpa using e)
        rcases d with ⟨d1, d2, d5⟩ | ⟨d1, d2, d3⟩ | ⟨p', blk', v', d1, d2, d3, d4, d5, d6, d7⟩
        · exact .inl ⟨by simpa using d1, by simpa using d2, cons (Y := True) d5⟩
        · exact .inr (.inl ⟨by simpa using d1, d2, cons (Y := True) d3⟩)
        · refine .inr (.inr ⟨p' + 1, blk', v', by simpa using d1, by simpa using d2, by simpa using d3, d4, d5, by simpa using d6, ?_⟩)
          rw [d7, List.length_append]; simp only [List.length_singleton]
          rw [show h.length + (bs.length + 1 + p') = h.length + (bs.length + (p' + 1)) by omega]
    · cases p with
      | zero => simp at hp; obtain ⟨rfl, rfl⟩ := hp; simp only [List.length_cons]; omega
      | succ p => have := h2 p j blk' (by simpa using hp); simp only [List.length_cons]; omega
    · cases p with
      | zero =>
        cases p' with
        | zero => rfl
        | succ p' => simp at hp hp'; obtain ⟨rfl, rfl⟩ := hp; exact absurd (h2 p' _ _ hp').1 (by omega)
      | succ p =>
        cases p' with
        | zero => simp at hp hp'; obtain ⟨rfl, rfl⟩ := hp'; exact absurd (h2 p _ _ hp).1 (by omega)
        | succ p' => rw [h3 p p' j b b' (by simpa using hp) (by simpa using hp')]
    · cases p with
      | zero => simp at hp; obtain ⟨rfl, rfl⟩ := hp; exact hb
      | succ p => exact h5 p j blk' (by simpa using hp)
    · cases p with
      | zero => simp at e; have := Nat.ne_of_beq_eq_false hif; exact this e.1
      | succ p => exact h6 p blk' (by simpa using e)
    · simpa using h4
theorem W.drawF {Q : Ex → Env → List Blk → Prop} {env : Env} {id : Nat} (hmx : P.follows .mixedOrders = true) (f m d : Nat) (hc : dchkF ops f m d = true) (hh : LH h.length h) (hw : WF P n ops h (TF P n ops f m d (Q .n)) f m 0 env []) : W P n (.region id ops true) env h Q := by
  constructor; intro w S ι a r1 r2 r3 r4
  obtain ⟨pv, mk, p1, m1, m2, m3, mf, pm, p2⟩ := hw.ex
  simp only [Nat.zero_add, List.length_nil, List.nil_append] at p1 p2 m1 pm
  obtain ⟨c, hfm, hmN, hfd, hlast⟩ := dchkF_ok hc
  have hlen : pv.length ≤ ops.size := by omega
  have hrl : ∀ blk ∈ h, blk.rl := fun blk hb => (hh.ok blk hb).2
  have hlow : ∀ blk ∈ h, blk.low h.length = true := fun blk hb => (hh.ok blk hb).1
  have mlow : ∀ (p j : Nat) (blk : Blk), mk[p]? = some (j, blk) → blk.low h.length = true ∧ blk.rl := fun p j blk hp => (m3 p j blk hp).ok blk (by simp)
  refine wp_region_any hmx ?_
  have claim : ∀ (fuel : Nat) (L : Array Bool) (a : Act) (w' : World) (S' : Nat → Nat) (ι' : Nat → Option Nat), L.size = ops.size → cnt ops L = fuel → (∀ i k, L.getD i false = true → (bi ops i).testBit k = true → L.getD k false = true) → (∀ k, L.getD k false = true → k < pv.length) →
      HR w' S' ι' (hM h (fun k => L.getD k false) mk) → Pres w S ι h w' S' ι' (hM h (fun k => L.getD k false) mk) → ER w' S' ι' (hM h (fun k => L.getD k false) mk) (envL (fun k => L.getD k false) env pv 0) a.tmps → a.tmps.size = n → a.defers = [] → wpAny P .any ops (Post n w S ι h Q) fuel L a w' := by
    intro fuel
    induction fuel with
    | zero =>
      intro L a w' S' ι' hs hf hdc hlt k1 k2 k3 k4 k5
      have all : ∀ i, i < ops.size → L.getD i false = true := fun i hi => by
        cases hL : L.getD i false with
        | true => rfl
        | false => have := cnt_set hs hi hL; omega
      have hLA : L = LA ops.size m := LA_of hs fun k hk => by
        have hk2 : k < m := by have := hlt k (all k hk); omega
        rw [all k hk]; simp [hk2]
      have e := envL_true (fun k => L.getD k false) pv env 0 (fun k hk => by rw [Nat.zero_add]; exact all k (by omega))
      have eh := hM_all (h := h) (L := fun k => L.getD k false) (mk := mk) (fun p j blk hp => all j (by have := (m1 p j blk hp).2; omega))
      rw [eh] at k1 k2 k3
      rw [e] at k3
      have hz : ops.size - m = 0 := by
        have h1 : cnt ops (LA ops.size m) = ops.size - m := cnt_LA
        rw [← hLA] at h1; omega
      have := p2.a.out w' S' ι' a k1 k3 k4 k5 (Post n w S ι h Q) fun w2 S2 ι2 a2 env2 h2 q1 q2 q3 q4 q5 q6 => ⟨env2, h2, S2, ι2, .n, rfl, q4, q5, q1, k2.trans q2, q3, q6⟩
      rw [hz] at this
      rw [hLA]; exact this
    | succ fuel ih =>
      intro L a w' S' ι' hs hf hdc hlt k1 k2 k3 k4 k5
      by_cases hall : ∀ k, k < m → k ≠ f → L.getD k false = true
      · cases hLf : L.getD f false with
        | true =>
          have hall2 : ∀ k, k < pv.length → L.getD k false = true := fun k hk => by
            by_cases e : k = f
            · rw [e, hLf]
            · exact hall k (by omega) e
          have hLA : L = LA ops.size m := LA_of hs fun k hk => by
            by_cases g : k < m
            · rw [hall2 k (by omega)]; simp [g]
            · cases hL : L.getD k false with
              | false => simp [g]
              | true => have := hlt k hL; omega
          have e := envL_true (fun k => L.getD k false) pv env 0 (fun k hk => by rw [Nat.zero_add]; exact hall2 k hk)
          have eh := hM_all (h := h) (L := fun k => L.getD k false) (mk := mk) (fun p j blk hp => hall2 j (m1 p j blk hp).2)
          rw [eh] at k1 k2 k3
          rw [e] at k3
          have hz : ops.size - m = fuel + 1 := by
            have h1 : cnt ops (LA ops.size m) = ops.size - m := cnt_LA
            rw [← hLA] at h1; omega
          have := p2.a.out w' S' ι' a k1 k3 k4 k5 (Post n w S ι h Q) fun w2 S2 ι2 a2 env2 h2 q1 q2 q3 q4 q5 q6 => ⟨env2, h2, S2, ι2, .n, rfl, q4, q5, q1, k2.trans q2, q3, q6⟩
          rw [hz] at this
          rw [hLA]; exact this
        | false =>
          have hLB : L = LB ops.size f m := LB_of hs fun k hk => by
            by_cases e : k = f
            · subst e; rw [hLf]; simp
            · by_cases g : k < m
              · rw [hall k g e]; simp [g, e]
              · cases hL : L.getD k false with
                | false => simp [g]
                | true => have := hlt k hL; omega
          have eh := hM_all (h := h) (L := fun k => L.getD k false) (mk := mk) (fun p j blk hp => hall j (by have := (m1 p j blk hp).2; omega) (fun e => mf p blk (by rw [← e]; exact hp)))
          rw [eh] at k1 k2 k3
          have hz : ops.size - m + 1 = fuel + 1 := by
            have h1 : cnt ops (L.setIfInBounds f true) + 1 = cnt ops L := cnt_eq hs (by omega) hLf
            have h2 : L.setIfInBounds f true = LA ops.size m := LA_of (by simpa using hs) fun k hk => by
              rw [setD (by omega)]
              by_cases e : k = f
              · subst e; simp [hfm]
              · by_cases g : k < m
                · rw [hall k g e]; simp [g]
                · cases hL : L.getD k false with
                  | false => simp [g, e]
                  | true => have := hlt k hL; omega
            have h3 : cnt ops (LA ops.size m) = ops.size - m := cnt_LA
            rw [← h2] at h3; omega
          have k3' : ER w' S' ι' (h ++ mk.map (·.2)) (dropE d (pv.reverse ++ env)) a.tmps := by
            intro t v hv
            obtain ⟨hne, hv⟩ := dropE_lookup hv
            refine k3 t v ?_
            rw [← hv]
            have e2 := envL_true (fun _ => true) pv env 0 (fun _ _ => rfl)
            rw [← e2]
            refine envL_agree fun k x hk hx => ?_
            have hkl : k < pv.length := (List.getElem?_eq_some_iff.1 hk).1
            obtain ⟨ok, g1, g2, _, _⟩ := p1 k x hk
            by_cases e : k = f
            · subst e; rw [g1] at hfd; simp only [Option.bind_some] at hfd; rw [g2] at hfd; injection hfd with hfd; omega
            · exact hall k (by omega) e
          have := p2.b.out w' S' ι' a k1 k3' k4 k5 (Post n w S ι h Q) fun w2 S2 ι2 a2 env2 h2 q1 q2 q3 q4 q5 q6 => ⟨env2, h2, S2, ι2, .n, rfl, q4, q5, q1, k2.trans q2, q3, q6⟩
          rw [hz] at this
          rw [hLB]; exact this
      · obtain ⟨k0, hk0⟩ : ∃ k, ¬ (k < m → k ≠ f → L.getD k false = true) := Classical.not_forall.1 hall
        have hk0l : k0 < m := Classical.byContradiction fun g => hk0 fun g' => (g g').elim
        have hk0n : k0 ≠ f := fun g => hk0 fun _ g' => (g' g).elim
        have hk0f : L.getD k0 false = false := by
          cases hL : L.getD k0 false with
          | false => rfl
          | true => exact (hk0 fun _ _ => hL).elim
        refine ⟨fun hr => ?_, fun i hi => ?_⟩
        · have := ready_nil c hs hr k0 (by omega); rw [hk0f] at this; cases this
        obtain ⟨hiN, hiL, o, hio, hpre⟩ := ready_of hs hi
        have hil : i < pv.length := by
          rcases Nat.lt_or_ge i pv.length with g | g
          · exact g
          · have := c.pre (L := L) hio hpre hdc (hlast i k0 hiN (by omega) hk0l hk0n)
            rw [hk0f] at this; cases this
        obtain ⟨o', ho', hdst, hdn, hok⟩ := p1 i pv[i] (List.getElem?_eq_getElem hil)
        rw [hio] at ho'; injection ho' with ho'; subst ho'
        have hpv : pv[i]? = some pv[i] := List.getElem?_eq_getElem hil
        have huse : ER w' S' ι' (hM h (fun k => L.getD k false) mk) (rst (usesOf ops o) ((pv.take i).reverse ++ env)) a.tmps := by
          intro t v hv
          obtain ⟨hu, hv⟩ := rst_lookup hv
          refine k3 t v ?_
          rw [← hv]
          have e2 := envL_lt i pv env 0
          rw [Nat.sub_zero] at e2
          rw [← e2]
          refine envL_agree fun k x hk hx => ?_
          obtain ⟨ok, g1, g2, _, _⟩ := p1 k x hk
          by_cases e : k = i
          · subst e; rw [hiL]; simp
          · rcases c.sep i k o ok t hio g1 e (by rw [g2, hx]) (.inl hu) with g | g
            · have h1 := c.pre (L := L) hio hpre hdc g
              have h2 := c.lt hio g
              rw [h1]; simp [h2]
            · have h2 := c.lt g1 g
              cases hL : L.getD k false with
              | false => simp; omega
              | true => have := hdc k i hL g; rw [hiL] at this; cases this
        have hset : ∀ j, (L.setIfInBounds i true).getD j false = (decide (j = i) || L.getD j false) := fun j => setD (by omega)
        have hset' : ∀ j, j ≠ i → (fun k => (L.setIfInBounds i true).getD k false) j = (fun k => L.getD k false) j := fun j hj => by simp only [hset]; simp [hj]
        have hseti : (fun k => (L.setIfInBounds i true).getD k false) i = true := by simp only [hset]; simp
        -- what comes behind it
        have next : ∀ (w2 : World) S2 ι2 (u : Value), HR w2 S2 ι2 (hM h (fun k => (L.setIfInBounds i true).getD k false) mk) → Pres w S ι h w2 S2 ι2 (hM h (fun k => (L.setIfInBounds i true).getD k false) mk) →
            (∀ t v, (envL (fun k => L.getD k false) env pv 0).lookup t = some v → RV w2 S2 ι2 (hM h (fun k => (L.setIfInBounds i true).getD k false) mk) v (a.tmps.getD t undef)) →
            RV w2 S2 ι2 (hM h (fun k => (L.setIfInBounds i true).getD k false) mk) pv[i].2 u → wpAny P .any ops (Post n w S ι h Q) fuel (L.setIfInBounds i true) (a.put o.dst u) w2 := by
          intro w2 S2 ι2 u q1 q2 qe q3
          refine ih _ _ w2 S2 ι2 (by simpa using hs) (by have := cnt_eq hs hiN hiL; omega) (fun i' k g1 g2 => ?_) (fun k g => ?_) q1 q2 ?_ (by rw [put_size]; exact k4) (by rw [put_defers]; exact k5)
          · rw [hset] at g1 ⊢
            by_cases e : i' = i
            · subst e; rw [c.pre (L := L) hio hpre hdc g2]; simp
            · have : L.getD i' false = true := by simpa [e] using g1
              rw [hdc i' k this g2]; simp
          · rw [hset] at g
            by_cases e : k = i
            · omega
            · exact hlt k (by simpa [e] using g)
          · intro t v hv
            have hsz : i < L.size := by omega
            rw [hdst]
            simp only [Act.put, Array.size_setIfInBounds]
            by_cases e : t = pv[i].1
            · have hv2 : v = pv[i].2 := by
                rcases envL_lookup (fun k => (L.setIfInBounds i true).getD k false) t env _ pv rfl with ⟨g1, _⟩ | ⟨k, x, g1, g2, g3, g4, g5⟩
                · have := g1 i _ hpv e.symm; rw [hset] at this; simp at this
                · rw [g5] at hv; injection hv with hv; subst hv
                  have hki : k = i := by
                    rcases Nat.lt_trichotomy k i with g | g | g
                    · have := g4 i _ g hpv e.symm; rw [hset] at this; simp at this
                    · exact g
                    · rw [hset] at g3
                      have hne : k ≠ i := by omega
                      have hLk : L.getD k false = true := by simpa [hne] using g3
                      obtain ⟨ok, f1, f2, _, _⟩ := p1 k x g1
                      rcases c.sep i k o ok t hio f1 hne (by rw [f2, g2]) (.inr (by rw [hdst, e])) with f | f
                      · have := c.lt hio f; omega
                      · have := hdc k i hLk f; rw [hiL] at this; cases this
                  subst hki
                  rw [hpv] at g1; injection g1 with g1; rw [g1]
              subst hv2
              refine ⟨by rw [e, k4]; exact hdn, ?_⟩
              have : (a.tmps.setIfInBounds pv[i].1 u).getD t undef = u := by
                rw [e]; simp [Array.getD_eq_getD_getElem?, k4, hdn]
              rw [this]; exact q3
            · have hv2 : (envL (fun k => L.getD k false) env pv 0).lookup t = some v := by
                rw [← hv]
                refine (envL_agree fun k x g1 g2 => ?_).symm
                rw [hset]
                have : k ≠ i := fun g => by subst g; rw [hpv] at g1; injection g1 with g1; subst g1; exact e g2.symm
                simp [this]
              refine ⟨(k3 t v hv2).1, ?_⟩
              have : (a.tmps.setIfInBounds pv[i].1 u).getD t undef = a.tmps.getD t undef := by
                simp [Array.getD_eq_getD_getElem?, Ne.symm e]
              rw [this]; exact qe t v hv2
        unfold wpOp
        simp only [hio]
        rcases hok with ⟨hg, hany, hno⟩ | ⟨hg, hv, hno⟩ | ⟨p, blk, v, hp, hg, hl, hv, hb, hok, hx⟩
        · rw [if_pos (grd_ok hg rfl w' S' ι' a huse)]
          have hsame : hM h (fun k => L.getD k false) mk = hM h (fun k => (L.setIfInBounds i true).getD k false) mk := hM_same fun p j blk hp => hset' j fun e => hno p blk (by rw [← e]; exact hp)
          have f := hany.at hh (mk.map fun x => if (fun k => L.getD k false) x.1 then x.2 else .abs)
          refine .inl (f.out w' S' ι' a k1 huse k4 k5 _ _ fun w2 S2 ι2 u q1 q2 q3 => ?_)
          have q1' : HR w2 S2 ι2 (hM h (fun k => L.getD k false) mk) := q1
          have q2' : Pres w' S' ι' (hM h (fun k => L.getD k false) mk) w2 S2 ι2 (hM h (fun k => L.getD k false) mk) := q2
          have q3' : RV w2 S2 ι2 (hM h (fun k => L.getD k false) mk) pv[i].2 u := q3
          refine next w2 S2 ι2 u (hsame ▸ q1') (hsame ▸ (k2.trans q2')) (fun t v hv => ?_) (hsame ▸ q3')
          exact hsame ▸ ((k3 t v hv).2.mono q2')
        · rw [if_neg (by rw [grd_ok hg rfl w' S' ι' a huse]; simp)]
          have hsame : hM h (fun k => L.getD k false) mk = hM h (fun k => (L.setIfInBounds i true).getD k false) mk := hM_same fun p j blk hp => hset' j fun e => hno p blk (by rw [← e]; exact hp)
          exact next w' S' ι' undef (hsame ▸ k1) (hsame ▸ k2) (fun t v hv => hsame ▸ (k3 t v hv).2) (by rw [hv]; exact ⟨#[], rfl, rfl, fun j x v h1 _ => by simp at h1⟩)
        · rw [if_pos (grd_ok hg rfl w' S' ι' a huse)]
          obtain ⟨bl, br⟩ := hb.ok blk (by simp)
          have f := hok.frm (ex := mk.map fun x => if (fun k => L.getD k false) x.1 then x.2 else .abs) (lowE_ok hl) (hh.ok) (fun x hx => by
            rcases List.mem_append.1 hx with hx | hx
            · exact hrl x hx
            · rw [List.mem_singleton.1 hx]; exact br)
          have eu := unH_frm (h := h) (ex := mk.map fun x => if (fun k => L.getD k false) x.1 then x.2 else .abs) (ys := [blk]) hlow (by simpa using bl)
          rw [eu] at f
          refine .inl (f.out w' S' ι' a k1 huse k4 k5 _ _ fun w2 S2 ι2 u q1 q2 q3 => ?_)
          have q1' : HR w2 S2 ι2 (hM h (fun k => L.getD k false) mk ++ [blk]) := q1
          have q2' : Pres w' S' ι' (hM h (fun k => L.getD k false) mk) w2 S2 ι2 (hM h (fun k => L.getD k false) mk ++ [blk]) := q2
          have q3' : RV w2 S2 ι2 (hM h (fun k => L.getD k false) mk ++ [blk]) (v.ren (rf (List.range h.length) (hM h (fun k => L.getD k false) mk).length)) u := q3
          have habs : (hM h (fun k => L.getD k false) mk)[h.length + p]? = some .abs := by
            unfold hM
            rw [List.getElem?_append_right (by omega), List.getElem?_map]
            have hiL' : L[i]?.getD false = false := by simpa [Array.getD_eq_getD_getElem?] using hiL
            simp [hp, hiL']
          have hsz : h.length ≤ (hM h (fun k => L.getD k false) mk).length := by unfold hM; simp
          have hall2 : ∀ x ∈ hM h (fun k => L.getD k false) mk ++ [blk], x.low (hM h (fun k => L.getD k false) mk).length = true := fun x hx => by
            have up : ∀ y : Blk, y.low h.length = true → y.low (hM h (fun k => L.getD k false) mk).length = true := fun y hy => by
              have cu : ∀ c : C, c.low h.length = true → c.low (hM h (fun k => L.getD k false) mk).length = true := fun c hc => by
                cases c <;> simp only [C.low, decide_eq_true_eq] at hc ⊢ <;> omega
              cases y with
              | box cs => simp only [Blk.low, List.all_eq_true] at hy ⊢; exact fun c hc => cu c (hy c hc)
              | arr es sz => simp only [Blk.low, List.all_eq_true] at hy ⊢; exact fun el he c hc => cu c (hy el he c hc)
              | dead => rfl
              | abs => rfl
            rcases List.mem_append.1 hx with hx | hx
            · unfold hM at hx
              rcases List.mem_append.1 hx with hx | hx
              · exact up x (hlow x hx)
              · obtain ⟨y, hy, rfl⟩ := List.mem_map.1 hx
                obtain ⟨p', hp'⟩ := List.getElem?_of_mem hy
                split
                · exact up _ (mlow p' y.1 y.2 hp').1
                · rfl
            · rw [List.mem_singleton.1 hx]; exact up _ bl
          have es := hM_set (h := h) (L := fun k => L.getD k false) (L' := fun k => (L.setIfInBounds i true).getD k false) hp m2 hset' hseti
          have r1' := q1'.mv habs hall2
          have r2' := (k2.trans q2').mv habs (by omega)
          have r3' := q3'.mv habs
          rw [V.mv2 hv hsz] at r3'
          rw [es] at r1' r2' r3'
          refine next w2 S2 _ u r1' r2' (fun t x hx' => ?_) (by rw [hx]; simpa using r3')
          have g1 := ((k3 t x hx').2.mono q2').mv habs
          rw [es] at g1
          have hxlow : x.low (hM h (fun k => L.getD k false) mk).length = true := (k3 t x hx').2.low
          rw [V.ren_id hxlow (fun b hb => by unfold mvf; rw [if_neg (by omega)])] at g1
          exact g1
  obtain ⟨e1, e2⟩ := r1.ext (w' := { w with drawn := w.drawn + 1 }) (S' := S) (fun _ _ => rfl) (Nat.le_refl _) (fun _ _ => rfl) r1.low (fun b blk B g1 g2 g3 => (r1.own b blk B g1 g2 g3).1)
  obtain ⟨f1, f2⟩ := e1.abs (mk.length)
  have e0 : h ++ List.replicate mk.length Blk.abs = hM h (fun k => (Array.replicate ops.size false).getD k false) mk := by
    unfold hM; congr 1
    apply List.ext_getElem?; intro k
    rw [List.getElem?_map, List.getElem?_replicate]
    by_cases hk : k < mk.length
    · rw [if_pos hk, List.getElem?_eq_getElem hk]
      simp only [Option.map_some, Array.getD_eq_getD_getElem?, Array.getElem?_replicate]
      split <;> simp_all
    · rw [if_neg hk, List.getElem?_eq_none (by omega)]; rfl
  rw [e0] at f1 f2
  have hrep : ∀ k, (Array.replicate ops.size false).getD k false = false := fun k => by simp only [Array.getD_eq_getD_getElem?, Array.getElem?_replicate]; split <;> rfl
  refine claim ops.size _ a _ S ι (by simp) ?_ (fun i k g => by rw [hrep] at g; cases g) (fun k g => by rw [hrep] at g; cases g) f1 (e2.trans f2) ?_ r3 r4
  · unfold cnt
    rw [List.filter_eq_self.2 (fun i _ => by rw [hrep]; rfl)]; simp
  · have : envL (fun k => (Array.replicate ops.size false).getD k false) env pv 0 = env := by
      have gen : ∀ (pv : List (Nat × V)) (i : Nat), envL (fun k => (Array.replicate ops.size false).getD k false) env pv i = env := by
        intro pv
        induction pv with
        | nil => intro i; rfl
        | cons x pv ih => intro i; simp only [envL]; rw [if_neg (by rw [hrep]; simp)]; exact ih (i + 1)
      exact gen pv 0
    rw [this]; exact (r2.mono e2).mono f2
variable {Q : Ex → Env → List Blk → Prop} {env E : Env} {rid i j d' e' f m d : Nat} {y : Code} {bs : List Blk}
theorem W.df (f m d : Nat) (hmx : P.follows .mixedOrders = true) (hc : dchkF ops f m d = true) (hh : LH h.length h) (hw : WF P n ops h (TF P n ops f m d (fun env' h' => W P n y env' h' Q)) f m 0 env []) : W P n (.seq (.region rid ops true) y) env h Q := W.seq (W.drawF hmx f m d hc hh hw)
variable {p p' : Op} {ty ty' : Nat} {ps ps' : String} {af af' : Array Edge} {gg : Bool} {gd gd' : Option (Nat × Bool)}
theorem WF.gs (x : Bool) (hi : ops[i]? = some ⟨some e', p, ty, ps, af, some (j, gg)⟩) (hj : ops[j]? = some ⟨some d', p', ty', ps', af', gd'⟩) (hx : E.lookup d' = some (.c (.t (.b x)))) (h1 : x = true → WF P n ops h K f m i E bs) (h2 : x = false → WF P n ops h K f m i E bs) : WF P n ops h K f m i E bs := by
  cases x
  · exact h2 rfl
  · exact h1 rfl
theorem WF.id (x : WF P n ops h K f m i E bs) : WF P n ops h K f m i E bs := x
theorem WF.g (hif : Nat.beq i f = false) (hi : ops[i]? = some ⟨some e', p, ty, ps, af, gd⟩) (hg : grd ops (rst (usesOf ops ⟨some e', p, ty, ps, af, gd⟩) E) gd = some true) (hl : lowE h.length (rst (usesOf ops ⟨some e', p, ty, ps, af, gd⟩) E) = true) (hd : e'.blt n = true)
    (hr : OpM P n ⟨some e', p, ty, ps, af, gd⟩ (rst (usesOf ops ⟨some e', p, ty, ps, af, gd⟩) E) h bs fun v bs' => WF P n ops h K f m (i + 1) ((e', v) :: E) bs') : WF P n ops h K f m i E bs := by
  obtain ⟨v, a, b, c⟩ | ⟨v, blk, a, b, c, d⟩ := hr.out
  · exact .o hi hg hl b a hd c
  · exact .a hif hi hg hl b c a hd d
theorem WF.v {v : V} (hi : ops[i]? = some ⟨some e', p, ty, ps, af, gd⟩) (hg : grd ops (rst (usesOf ops ⟨some e', p, ty, ps, af, gd⟩) E) gd = some true) (hl : lowE h.length (rst (usesOf ops ⟨some e', p, ty, ps, af, gd⟩) E) = true) (hd : e'.blt n = true)
    (hok : OpOk P n ⟨some e', p, ty, ps, af, gd⟩ (rst (usesOf ops ⟨some e', p, ty, ps, af, gd⟩) E) h v h) (hv : v.low h.length = true) (hr : WF P n ops h K f m (i + 1) ((e', v) :: E) bs) : WF P n ops h K f m i E bs := .o hi hg hl hv hok hd hr
theorem TF.of {E' : Env} (he : dropE d E = E') (a : WE P n ops (ops.size - m) (LA ops.size m) E h K) (b : WE P n ops (ops.size - m + 1) (LB ops.size f m) E' h K) : TF P n ops f m d K E h := ⟨a, he ▸ b⟩
theorem WE.fu {fuel fuel' : Nat} {L L' : Array Bool} (e : fuel = fuel') (eL : L = L') (x : WE P n ops fuel' L' env h K) : WE P n ops fuel L env h K := by subst e; subst eL; exact x
end
end Go.YtamlleimfopmhaaMc
