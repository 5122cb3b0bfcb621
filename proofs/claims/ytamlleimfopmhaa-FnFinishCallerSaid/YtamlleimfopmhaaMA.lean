/- Lemmas of this claim: walks through code, values and memory, and the contracts of functions; under no condition beyond those that each states. -/
import Derived.Orders
import Derived.Below
import Derived.KernelRfl
import Derived.Deep.LoopGhost
import Derived.Laws.Entries
import Derived.Laws.Cells
import Derived.Laws.IdiomCopy
import Derived.Laws.Append
set_option linter.unusedVariables false
set_option linter.unusedSimpArgs false
namespace Go.YtamlleimfopmhaaMc
/-- Data without places: what an immutable value reads as. A slice is its elements, each a row of cells. -/
inductive T where
  | b (x : Bool)
  | i (k : IntKind) (n : Int)
  | s (x : List UInt8)
  | l (es : List (List T))
  deriving Inhabited
/-- One cell: data; a slice of a block of the call's own; an address in such a block; an address in memory that stays; a slice without room; nil; nothing known. -/
inductive C where
  | t (x : T)
  | sl (b n off len : Nat)
  | ptr (b off : Nat)
  | ap (b n i j : Nat)
  | fa (cs : List T)
  | emp
  | np
  | u
  | k (v : Value)
  deriving Inhabited
inductive X where
  | c (x : C)
  | ag (cs : List C)
  deriving Inhabited
inductive V where
  | c (x : C)
  | ag (cs : List C)
  | tu (vs : List X)
  deriving Inhabited
def X.v : X → V | .c x => .c x | .ag cs => .ag cs
inductive Blk where
  | box (cs : List C)
  | arr (es : List (List C)) (sz : Nat)
  | dead
  | abs
  deriving Inhabited
/-- A block that has been made. -/
def ex (h : List Blk) (b : Nat) : Prop := ∃ blk, h[b]? = some blk ∧ blk ≠ .abs
theorem ex_lt {h : List Blk} {b : Nat} (e : ex h b) : b < h.length := by obtain ⟨_, e, _⟩ := e; exact (List.getElem?_eq_some_iff.1 e).1
/-- A block that is the call's own. -/
def Blk.al : Blk → Prop
  | .box _ => True
  | .arr _ _ => True
  | _ => False

inductive RT (w : World) (S : Nat → Nat) : T → Value → Prop
  | b (x : Bool) : RT w S (.b x) (.bool x)
  | i (k : IntKind) (n : Int) : RT w S (.i k n) (.int k n)
  | s (x : List UInt8) (ba : ByteArray) (hx : ba.data.toList = x) : RT w S (.s x) (.string ba)
  | l (es : List (List T)) (a : Option Addr) (cap sz : Nat) (g : Nat → Nat → Value) (hcap : es.length ≤ cap) (hsz : ∀ e ∈ es, e.length = sz)
      (h0 : es = [] ∨ ∃ B o, a = some ⟨B, o, none⟩ ∧ S B = 2 ∧ ∀ i e j t, es[i]? = some e → e[j]? = some t → w.cell? ⟨B, o + i * sz + j, none⟩ = some (g i j))
      (hg : ∀ i e j t, es[i]? = some e → e[j]? = some t → RT w S t (g i j)) : RT w S (.l es) (.slice a es.length cap)

theorem cell_congr {w w' : World} {B : Nat} (h : w'.heap[B]? = w.heap[B]?) (o : Nat) : w'.cell? ⟨B, o, none⟩ = w.cell? ⟨B, o, none⟩ := by
  simp [World.cell?, h]

theorem RT.mono {w w' : World} {S S' : Nat → Nat} (h : ∀ B, S B = 2 → S' B = 2 ∧ w'.heap[B]? = w.heap[B]?) {t : T} {v : Value} (r : RT w S t v) : RT w' S' t v := by
  induction r with
  | b x => exact .b x
  | i k n => exact .i k n
  | s x ba hx => exact .s x ba hx
  | l es a cap sz g hcap hsz h0 hg ih =>
    refine .l es a cap sz g hcap hsz ?_ ih
    rcases h0 with h0 | ⟨B, o, ha, hS, hc⟩
    · exact .inl h0
    · exact .inr ⟨B, o, ha, (h B hS).1, fun i e j t he ht => by rw [cell_congr (h B hS).2]; exact hc i e j t he ht⟩

def bsz (w : World) (B : Nat) : Nat := match w.heap[B]? with | some (.cells vs _ _) => vs.size | _ => 0

def RC (w : World) (S : Nat → Nat) (ι : Nat → Option Nat) (h : List Blk) : C → Value → Prop
  | .t x, v => RT w S x v
  | .sl b n off len, v => ex h b ∧ ∀ es sz, h[b]? = some (.arr es sz) → n ≤ es.length ∧ (n = es.length → off + len ≤ n ∧ match ι b with
      | none => ∃ a, v = .slice a 0 0
      | some B => ∃ cap, v = .slice (some ⟨B, off * sz, none⟩) len cap ∧ len ≤ cap ∧ (off + cap) * sz ≤ bsz w B)
  | .ptr b off, v => ex h b ∧ ∀ cs, h[b]? = some (.box cs) → ∃ B, ι b = some B ∧ v = .pointer (some ⟨B, off, none⟩)
  | .ap b n i j, v => ex h b ∧ ∀ es sz, h[b]? = some (.arr es sz) → n ≤ es.length ∧ (n = es.length → ∃ B, ι b = some B ∧ v = .pointer (some ⟨B, i * sz + j, none⟩))
  | .fa cs, v => ∃ B o, v = .pointer (some ⟨B, o, none⟩) ∧ S B = 2 ∧ ∀ j t, cs[j]? = some t → ∃ u, w.cell? ⟨B, o + j, none⟩ = some u ∧ RT w S t u
  | .emp, v => ∃ a, v = .slice a 0 0
  | .np, v => v = .pointer none
  | .u, _ => True
  | .k x, v => v = x

/-- The streams are as they were. -/
structure Kp (w w' : World) : Prop where
  os : w'.os = w.os
  tape : w'.tape = w.tape
  output : w'.output = w.output
theorem Kp.trans {a b c : World} (h : Kp a b) (k : Kp b c) : Kp a c := ⟨k.os.trans h.os, k.tape.trans h.tape, k.output.trans h.output⟩
/-- Going from one state to another, what is known of values stays known. -/
structure Pres (w : World) (S : Nat → Nat) (ι : Nat → Option Nat) (h : List Blk) (w' : World) (S' : Nat → Nat) (ι' : Nat → Option Nat) (h' : List Blk) : Prop where
  st : ∀ B, S B ≠ 0 → S' B = S B ∧ w'.heap[B]? = w.heap[B]?
  sz : w.heap.size ≤ w'.heap.size
  len : h.length ≤ h'.length
  ex : ∀ b, ex h b → ex h' b
  arr : ∀ b es' sz', YtamlleimfopmhaaMc.ex h b → h'[b]? = some (.arr es' sz') → ∃ es, h[b]? = some (.arr es sz') ∧ es.length ≤ es'.length ∧ (es.length = es'.length → ι' b = ι b ∧ ∀ B, ι b = some B → bsz w' B = bsz w B)
  box : ∀ b cs', YtamlleimfopmhaaMc.ex h b → h'[b]? = some (.box cs') → ∃ cs, h[b]? = some (.box cs) ∧ ι' b = ι b
  kp : Kp w w'

theorem Pres.refl (w : World) (S : Nat → Nat) (ι : Nat → Option Nat) (h : List Blk) : Pres w S ι h w S ι h :=
  ⟨fun _ _ => ⟨rfl, rfl⟩, Nat.le_refl _, Nat.le_refl _, fun _ e => e, fun _ es' _ _ hb => ⟨es', hb, Nat.le_refl _, fun _ => ⟨rfl, fun _ _ => rfl⟩⟩, fun _ cs' _ hb => ⟨cs', hb, rfl⟩, ⟨rfl, rfl, rfl⟩⟩

theorem Pres.trans {w w' w'' : World} {S S' S'' : Nat → Nat} {ι ι' ι'' : Nat → Option Nat} {h h' h'' : List Blk} (p : Pres w S ι h w' S' ι' h') (q : Pres w' S' ι' h' w'' S'' ι'' h'') : Pres w S ι h w'' S'' ι'' h'' where
  st := fun B hB => have h1 := p.st B hB; have h2 := q.st B (by rw [h1.1]; exact hB); ⟨h2.1.trans h1.1, h2.2.trans h1.2⟩
  sz := Nat.le_trans p.sz q.sz
  len := Nat.le_trans p.len q.len
  ex := fun b e => q.ex b (p.ex b e)
  arr := by
    intro b es'' sz hb hq
    obtain ⟨es', h1, h2, h3⟩ := q.arr b es'' sz (p.ex b hb) hq
    obtain ⟨es, g1, g2, g3⟩ := p.arr b es' sz hb h1
    refine ⟨es, g1, Nat.le_trans g2 h2, fun he => ?_⟩
    have e1 : es.length = es'.length := by omega
    have e2 : es'.length = es''.length := by omega
    obtain ⟨a1, a2⟩ := g3 e1
    obtain ⟨b1, b2⟩ := h3 e2
    exact ⟨b1.trans a1, fun B hB => (b2 B (a1.trans hB)).trans (a2 B hB)⟩
  box := by
    intro b cs'' hb hq
    obtain ⟨cs', h1, h2⟩ := q.box b cs'' (p.ex b hb) hq
    obtain ⟨cs, g1, g2⟩ := p.box b cs' hb h1
    exact ⟨cs, g1, h2.trans g2⟩
  kp := p.kp.trans q.kp

theorem Pres.two {w w' : World} {S S' : Nat → Nat} {ι ι' : Nat → Option Nat} {h h' : List Blk} (p : Pres w S ι h w' S' ι' h') : ∀ B, S B = 2 → S' B = 2 ∧ w'.heap[B]? = w.heap[B]? := fun B hB => have h1 := p.st B (by omega); ⟨by omega, h1.2⟩
theorem RC.mono {w w' : World} {S S' : Nat → Nat} {ι ι' : Nat → Option Nat} {h h' : List Blk} (p : Pres w S ι h w' S' ι' h') {c : C} {v : Value} (r : RC w S ι h c v) : RC w' S' ι' h' c v := by
  cases c with
  | t x => exact RT.mono p.two r
  | sl b n off len =>
    obtain ⟨hb, r⟩ := r
    refine ⟨p.ex b hb, fun es' sz he => ?_⟩
    obtain ⟨es, g1, g2, g3⟩ := p.arr b es' sz hb he
    obtain ⟨r1, r2⟩ := r es sz g1
    refine ⟨Nat.le_trans r1 g2, fun hn => ?_⟩
    have e1 : n = es.length := by omega
    obtain ⟨a1, a2⟩ := g3 (by omega)
    obtain ⟨b1, b2⟩ := r2 e1
    refine ⟨b1, ?_⟩
    rw [a1]
    cases hι : ι b with
    | none => rw [hι] at b2; exact b2
    | some B =>
      rw [hι] at b2
      obtain ⟨cap, c1, c2, c3⟩ := b2
      exact ⟨cap, c1, c2, by rw [a2 B hι]; exact c3⟩
  | ptr b off =>
    obtain ⟨hb, r⟩ := r
    refine ⟨p.ex b hb, fun cs' hc => ?_⟩
    obtain ⟨cs, g1, g2⟩ := p.box b cs' hb hc
    obtain ⟨B, r1, r2⟩ := r cs g1
    exact ⟨B, g2.trans r1, r2⟩
  | ap b n i j =>
    obtain ⟨hb, r⟩ := r
    refine ⟨p.ex b hb, fun es' sz he => ?_⟩
    obtain ⟨es, g1, g2, g3⟩ := p.arr b es' sz hb he
    obtain ⟨r1, r2⟩ := r es sz g1
    refine ⟨Nat.le_trans r1 g2, fun hn => ?_⟩
    obtain ⟨a1, a2⟩ := g3 (by omega)
    obtain ⟨B, b1, b2⟩ := r2 (by omega)
    exact ⟨B, a1.trans b1, b2⟩
  | fa cs =>
    obtain ⟨B, o, h1, h2, h3⟩ := r
    refine ⟨B, o, h1, (p.two B h2).1, fun j t hj => ?_⟩
    obtain ⟨u, k1, k2⟩ := h3 j t hj
    exact ⟨u, by rw [cell_congr (p.two B h2).2]; exact k1, k2.mono p.two⟩
  | emp => exact r
  | np => exact r
  | u => trivial
  | k x => exact r

def RCs (w : World) (S : Nat → Nat) (ι : Nat → Option Nat) (h : List Blk) (cs : List C) (vs : List Value) : Prop :=
  cs.length = vs.length ∧ ∀ (j : Nat) c v, cs[j]? = some c → vs[j]? = some v → RC w S ι h c v
def RX (w : World) (S : Nat → Nat) (ι : Nat → Option Nat) (h : List Blk) : X → Value → Prop
  | .c x, v => RC w S ι h x v
  | .ag cs, v => ∃ vs, v = .agg vs ∧ RCs w S ι h cs vs.toList
def RV (w : World) (S : Nat → Nat) (ι : Nat → Option Nat) (h : List Blk) : V → Value → Prop
  | .c x, v => RC w S ι h x v
  | .ag cs, v => ∃ vs, v = .agg vs ∧ RCs w S ι h cs vs.toList
  | .tu xs, v => ∃ vs, v = .tuple vs ∧ xs.length = vs.size ∧ ∀ (j : Nat) x v, xs[j]? = some x → vs[j]? = some v → RX w S ι h x v
theorem RCs.mono {w w' : World} {S S' : Nat → Nat} {ι ι' : Nat → Option Nat} {h h' : List Blk} (p : Pres w S ι h w' S' ι' h') {cs : List C} {vs : List Value} (r : RCs w S ι h cs vs) : RCs w' S' ι' h' cs vs :=
  ⟨r.1, fun j c v hc hv => (r.2 j c v hc hv).mono p⟩
theorem RX.mono {w w' : World} {S S' : Nat → Nat} {ι ι' : Nat → Option Nat} {h h' : List Blk} (p : Pres w S ι h w' S' ι' h') {x : X} {v : Value} (r : RX w S ι h x v) : RX w' S' ι' h' x v := by
  cases x with
  | c x => exact RC.mono p r
  | ag cs => obtain ⟨vs, h1, h2⟩ := r; exact ⟨vs, h1, h2.mono p⟩
theorem RV.mono {w w' : World} {S S' : Nat → Nat} {ι ι' : Nat → Option Nat} {h h' : List Blk} (p : Pres w S ι h w' S' ι' h') {x : V} {v : Value} (r : RV w S ι h x v) : RV w' S' ι' h' x v := by
  cases x with
  | c x => exact RC.mono p r
  | ag cs => obtain ⟨vs, h1, h2⟩ := r; exact ⟨vs, h1, h2.mono p⟩
  | tu xs => obtain ⟨vs, h1, h2, h3⟩ := r; exact ⟨vs, h1, h2, fun j x v hx hv => (h3 j x v hx hv).mono p⟩
theorem RX.v {w : World} {S : Nat → Nat} {ι : Nat → Option Nat} {h : List Blk} {x : X} {v : Value} (r : RX w S ι h x v) : RV w S ι h x.v v := by
  cases x <;> exact r

/-- The heap: the blocks of the call's own, apart from each other and from all that stays. -/
structure HR (w : World) (S : Nat → Nat) (ι : Nat → Option Nat) (h : List Blk) : Prop where
  low : ∀ B, S B ≠ 0 → B < w.heap.size
  own : ∀ b blk B, h[b]? = some blk → blk.al → ι b = some B → S B = 0 ∧ B < w.heap.size
  inj : ∀ b b' blk blk' B, h[b]? = some blk → h[b']? = some blk' → blk.al → blk'.al → ι b = some B → ι b' = some B → b = b'
  box : ∀ b cs, h[b]? = some (.box cs) → ∃ B vs e, ι b = some B ∧ w.heap[B]? = some (.cells vs e (0, 0)) ∧ RCs w S ι h cs vs.toList
  arr : ∀ b es sz, h[b]? = some (.arr es sz) → 0 < sz ∧ (∀ e ∈ es, e.length = sz) ∧ ((es = [] ∧ ι b = none) ∨ ∃ B vs e, ι b = some B ∧ w.heap[B]? = some (.cells vs e (0, 0)) ∧
    es.length * sz ≤ vs.size ∧ ∀ i el j c, es[i]? = some el → el[j]? = some c → ∃ v, vs[i * sz + j]? = some v ∧ RC w S ι h c v)

/-- What is known of temporaries. -/
abbrev Env := List (Nat × V)
def ER (w : World) (S : Nat → Nat) (ι : Nat → Option Nat) (h : List Blk) (env : Env) (tmps : Array Value) : Prop :=
  ∀ t v, env.lookup t = some v → t < tmps.size ∧ RV w S ι h v (tmps.getD t undef)
theorem ER.mono {w w' : World} {S S' : Nat → Nat} {ι ι' : Nat → Option Nat} {h h' : List Blk} (p : Pres w S ι h w' S' ι' h') {env : Env} {tmps : Array Value} (r : ER w S ι h env tmps) : ER w' S' ι' h' env tmps :=
  fun t v he => ⟨(r t v he).1, (r t v he).2.mono p⟩

/-! ### Worlds -/
theorem heap_push_lt {w : World} {o : Obj} {B : Nat} (h : B < w.heap.size) : ({ w with heap := w.heap.push o } : World).heap[B]? = w.heap[B]? := by
  show (w.heap.push o)[B]? = _
  rw [Array.getElem?_push]; simp [Nat.ne_of_lt h]
theorem heap_push_new {w : World} {o : Obj} : ({ w with heap := w.heap.push o } : World).heap[w.heap.size]? = some o := by
  show (w.heap.push o)[w.heap.size]? = _
  simp
theorem setCell_ne {w : World} {B B' off : Nat} {v : Value} (h : B ≠ B') : (w.setCell ⟨B, off, none⟩ v).heap[B']? = w.heap[B']? := by
  simp only [World.setCell, Array.getElem?_modify]
  rw [if_neg h]
theorem setCell_eq {w : World} {B off : Nat} {v : Value} {vs : Array Value} {e : TypeId} {fz : Nat × Nat} (h : w.heap[B]? = some (.cells vs e fz)) :
    (w.setCell ⟨B, off, none⟩ v).heap[B]? = some (.cells (vs.setIfInBounds off v) e fz) := by
  simp only [World.setCell, Array.getElem?_modify]
  rw [if_pos trivial, h]; rfl
theorem setCell_size {w : World} {a : Addr} {v : Value} : (w.setCell a v).heap.size = w.heap.size := by
  simp [World.setCell]
theorem cell_of {w : World} {B o : Nat} {vs : Array Value} {e : TypeId} {fz : Nat × Nat} (h : w.heap[B]? = some (.cells vs e fz)) : w.cell? ⟨B, o, none⟩ = vs[o]? := by
  simp [World.cell?, h]
theorem frozen_of {w : World} {B o : Nat} {vs : Array Value} {e : TypeId} (h : w.heap[B]? = some (.cells vs e (0, 0))) : w.frozen? ⟨B, o, none⟩ = false := by
  simp [World.frozen?, h]
theorem bsz_of {w : World} {B : Nat} {vs : Array Value} {e : TypeId} {fz : Nat × Nat} (h : w.heap[B]? = some (.cells vs e fz)) : bsz w B = vs.size := by
  simp [bsz, h]

/-! ### The heap's laws -/
/-- More memory, of which nothing is known but, where S' says so, that it stays. -/
theorem HR.ext {w w' : World} {S S' : Nat → Nat} {ι : Nat → Option Nat} {h : List Blk} (r : HR w S ι h) (he : ∀ B, (S B ≠ 0 ∨ ∃ b blk, h[b]? = some blk ∧ blk.al ∧ ι b = some B) → w'.heap[B]? = w.heap[B]?) (hz : w.heap.size ≤ w'.heap.size)
    (h1 : ∀ B, S B ≠ 0 → S' B = S B) (h2 : ∀ B, S' B ≠ 0 → B < w'.heap.size) (h3 : ∀ b blk B, h[b]? = some blk → blk.al → ι b = some B → S' B = 0) (hkp : Kp w w' := by exact ⟨rfl, rfl, rfl⟩) : HR w' S' ι h ∧ Pres w S ι h w' S' ι h := by
  have p : Pres w S ι h w' S' ι h := by
    refine ⟨fun B hB => ⟨h1 B hB, he B (.inl hB)⟩, hz, Nat.le_refl _, fun _ e => e, fun b es' sz hb hq => ⟨es', hq, Nat.le_refl _, fun _ => ⟨rfl, fun B hB => ?_⟩⟩, fun b cs hb hq => ⟨cs, hq, rfl⟩, hkp⟩
    unfold bsz; rw [he B (.inr ⟨b, _, hq, trivial, hB⟩)]
  refine ⟨⟨h2, fun b blk B hb hd hB => ?_, r.inj, fun b cs hb => ?_, fun b es sz hb => ?_⟩, p⟩
  · exact ⟨h3 b blk B hb hd hB, Nat.lt_of_lt_of_le (r.own b blk B hb hd hB).2 hz⟩
  · obtain ⟨B, vs, e, i1, i2, i3⟩ := r.box b cs hb
    exact ⟨B, vs, e, i1, by rw [he B (.inr ⟨b, _, hb, trivial, i1⟩)]; exact i2, i3.mono p⟩
  · obtain ⟨z, i0, i1⟩ := r.arr b es sz hb
    refine ⟨z, i0, ?_⟩
    rcases i1 with i1 | ⟨B, vs, e, i1, i2, i3, i4⟩
    · exact .inl i1
    · refine .inr ⟨B, vs, e, i1, by rw [he B (.inr ⟨b, _, hb, trivial, i1⟩)]; exact i2, i3, fun i el j c he1 he2 => ?_⟩
      obtain ⟨v, k1, k2⟩ := i4 i el j c he1 he2
      exact ⟨v, k1, k2.mono p⟩

def upd (ι : Nat → Option Nat) (b : Nat) (x : Option Nat) : Nat → Option Nat := fun k => if k = b then x else ι k
theorem upd_eq (ι : Nat → Option Nat) (b : Nat) (x : Option Nat) : upd ι b x b = x := by simp [upd]
theorem upd_ne {ι : Nat → Option Nat} {b k : Nat} (x : Option Nat) (h : k ≠ b) : upd ι b x k = ι k := by simp [upd, h]

@[reducible] def NewOk (w' : World) (S' : Nat → Nat) (ι' : Nat → Option Nat) (h' : List Blk) (x : Option Nat) : Blk → Prop
  | .box cs => ∃ B vs e, x = some B ∧ w'.heap[B]? = some (.cells vs e (0, 0)) ∧ RCs w' S' ι' h' cs vs.toList
  | .arr es sz => 0 < sz ∧ (∀ e ∈ es, e.length = sz) ∧ ((es = [] ∧ x = none) ∨ ∃ B vs e, x = some B ∧ w'.heap[B]? = some (.cells vs e (0, 0)) ∧
          es.length * sz ≤ vs.size ∧ ∀ i el j c, es[i]? = some el → el[j]? = some c → ∃ v, vs[i * sz + j]? = some v ∧ RC w' S' ι' h' c v)
  | _ => True
/-- A new block, at a number that was not made yet. -/
theorem HR.newAt {w w' : World} {S S' : Nat → Nat} {ι : Nat → Option Nat} {h h' : List Blk} {b0 : Nat} (r : HR w S ι h) (he : ∀ B, B < w.heap.size → w'.heap[B]? = w.heap[B]?) (hz : w.heap.size ≤ w'.heap.size)
    (h1 : ∀ B, S B ≠ 0 → S' B = S B) (h2 : ∀ B, S' B ≠ 0 → B < w'.heap.size) (h3 : ∀ B, S' B ≠ 0 → S B ≠ 0 ∨ w.heap.size ≤ B) (x : Option Nat) (hx : ∀ B, x = some B → w.heap.size ≤ B ∧ B < w'.heap.size ∧ S' B = 0) (blk : Blk)
    (n0 : ¬ ex h b0) (n1 : h'[b0]? = some blk) (n2 : ∀ k, k ≠ b0 → h'[k]? = h[k]?) (n3 : h.length ≤ h'.length)
    (hb : Pres w S ι h w' S' (upd ι b0 x) h' → NewOk w' S' (upd ι b0 x) h' x blk) (hna : blk ≠ .abs) (hkp : Kp w w' := by exact ⟨rfl, rfl, rfl⟩) :
    HR w' S' (upd ι b0 x) h' ∧ Pres w S ι h w' S' (upd ι b0 x) h' := by
  have ne : ∀ b, ex h b → b ≠ b0 := fun b e e' => n0 (e' ▸ e)
  have p : Pres w S ι h w' S' (upd ι b0 x) h' := by
    refine ⟨fun B hB => ⟨h1 B hB, he B (r.low B hB)⟩, hz, n3, fun b e => ?_, fun b es' sz hb hq => ?_, fun b cs hb hq => ?_, hkp⟩
    · obtain ⟨blk', k1, k2⟩ := e; exact ⟨blk', by rw [n2 b (ne b ⟨blk', k1, k2⟩)]; exact k1, k2⟩
    · rw [n2 b (ne b hb)] at hq
      refine ⟨es', hq, Nat.le_refl _, fun _ => ⟨upd_ne x (ne b hb), fun B hB => ?_⟩⟩
      unfold bsz; rw [he B (r.own b _ B hq trivial hB).2]
    · rw [n2 b (ne b hb)] at hq
      exact ⟨cs, hq, upd_ne x (ne b hb)⟩
  have old : ∀ (b : Nat) blk', h'[b]? = some blk' → (b ≠ b0 ∧ h[b]? = some blk') ∨ (b = b0 ∧ blk' = blk) := fun b blk' hq => by
    by_cases e : b = b0
    · subst e; rw [n1] at hq; exact .inr ⟨rfl, by injection hq with hq; exact hq.symm⟩
    · rw [n2 b e] at hq; exact .inl ⟨e, hq⟩
  refine ⟨⟨h2, fun b blk' B hq hd hB => ?_, fun b b' blk1 blk2 B q1 q2 d1 d2 e1 e2 => ?_, fun b cs hq => ?_, fun b es sz hq => ?_⟩, p⟩
  · rcases old b blk' hq with ⟨hlt, hq⟩ | ⟨rfl, rfl⟩
    · rw [upd_ne x hlt] at hB
      obtain ⟨a1, a2⟩ := r.own b blk' B hq hd hB
      refine ⟨?_, Nat.lt_of_lt_of_le a2 hz⟩
      by_cases hS : S' B = 0
      · exact hS
      · rcases h3 B hS with h | h <;> omega
    · rw [upd_eq] at hB
      exact ⟨(hx B hB).2.2, (hx B hB).2.1⟩
  · rcases old b blk1 q1 with ⟨l1, m1⟩ | ⟨l1, m1⟩ <;> rcases old b' blk2 q2 with ⟨l2, m2⟩ | ⟨l2, m2⟩
    · rw [upd_ne x l1] at e1; rw [upd_ne x l2] at e2
      exact r.inj b b' blk1 blk2 B m1 m2 d1 d2 e1 e2
    · rw [upd_ne x l1] at e1; rw [l2, upd_eq] at e2
      have := (r.own b blk1 B m1 d1 e1).2; have := (hx B e2).1; omega
    · rw [l1, upd_eq] at e1; rw [upd_ne x l2] at e2
      have := (r.own b' blk2 B m2 d2 e2).2; have := (hx B e1).1; omega
    · rw [l1, l2]
  · rcases old b _ hq with ⟨hlt, hq⟩ | ⟨rfl, hq'⟩
    · obtain ⟨B, vs, e, i1, i2, i3⟩ := r.box b cs hq
      exact ⟨B, vs, e, (upd_ne x hlt).trans i1, by rw [he B (r.own b _ B hq trivial i1).2]; exact i2, i3.mono p⟩
    · subst hq'
      obtain ⟨B, vs, e, i1, i2, i3⟩ := hb p
      exact ⟨B, vs, e, (upd_eq ..).trans i1, i2, i3⟩
  · rcases old b _ hq with ⟨hlt, hq⟩ | ⟨rfl, hq'⟩
    · obtain ⟨z, i0, i1⟩ := r.arr b es sz hq
      refine ⟨z, i0, ?_⟩
      rcases i1 with ⟨i1, i2⟩ | ⟨B, vs, e, i1, i2, i3, i4⟩
      · exact .inl ⟨i1, (upd_ne x hlt).trans i2⟩
      · refine .inr ⟨B, vs, e, (upd_ne x hlt).trans i1, by rw [he B (r.own b _ B hq trivial i1).2]; exact i2, i3, fun i el j c he1 he2 => ?_⟩
        obtain ⟨v, k1, k2⟩ := i4 i el j c he1 he2
        exact ⟨v, k1, k2.mono p⟩
    · subst hq'
      obtain ⟨z, i0, i1⟩ := hb p
      refine ⟨z, i0, ?_⟩
      rcases i1 with ⟨i1, i2⟩ | ⟨B, vs, e, i1, i2⟩
      · exact .inl ⟨i1, (upd_eq ..).trans i2⟩
      · exact .inr ⟨B, vs, e, (upd_eq ..).trans i1, i2⟩
theorem not_ex_len (h : List Blk) : ¬ ex h h.length := fun e => Nat.lt_irrefl _ (ex_lt e)
theorem app_last (h : List Blk) (blk : Blk) : (h ++ [blk])[h.length]? = some blk := by simp
theorem app_ne {h : List Blk} {blk : Blk} (k : Nat) (hk : k ≠ h.length) : (h ++ [blk])[k]? = h[k]? := by
  rcases Nat.lt_or_ge k h.length with hlt | hge
  · rw [List.getElem?_append_left hlt]
  · rw [List.getElem?_append_right hge, List.getElem?_eq_none (by simp; omega), List.getElem?_eq_none hge]
/-- A new block. -/
theorem HR.new {w w' : World} {S S' : Nat → Nat} {ι : Nat → Option Nat} {h : List Blk} (r : HR w S ι h) (he : ∀ B, B < w.heap.size → w'.heap[B]? = w.heap[B]?) (hz : w.heap.size ≤ w'.heap.size)
    (h1 : ∀ B, S B ≠ 0 → S' B = S B) (h2 : ∀ B, S' B ≠ 0 → B < w'.heap.size) (h3 : ∀ B, S' B ≠ 0 → S B ≠ 0 ∨ w.heap.size ≤ B) (x : Option Nat) (hx : ∀ B, x = some B → w.heap.size ≤ B ∧ B < w'.heap.size ∧ S' B = 0) (blk : Blk)
    (hb : Pres w S ι h w' S' (upd ι h.length x) (h ++ [blk]) → NewOk w' S' (upd ι h.length x) (h ++ [blk]) x blk) (hna : blk ≠ .abs) (hkp : Kp w w' := by exact ⟨rfl, rfl, rfl⟩) :
    HR w' S' (upd ι h.length x) (h ++ [blk]) ∧ Pres w S ι h w' S' (upd ι h.length x) (h ++ [blk]) :=
  r.newAt he hz h1 h2 h3 x hx blk (not_ex_len h) (app_last h blk) (fun k hk => app_ne k hk) (by simp) hb hna hkp
end Go.YtamlleimfopmhaaMc

namespace Go.YtamlleimfopmhaaMc
theorem set_get {h : List Blk} {b b' : Nat} {blk blk' : Blk} (hq : (h.set b blk)[b']? = some blk') : (b' = b ∧ blk' = blk ∧ b < h.length) ∨ (b' ≠ b ∧ h[b']? = some blk') := by
  rw [List.getElem?_set] at hq
  by_cases e : b = b'
  · rw [if_pos e] at hq
    split at hq
    · exact .inl ⟨e.symm, by simpa using hq.symm, by omega⟩
    · cases hq
  · rw [if_neg e] at hq; exact .inr ⟨fun h => e h.symm, hq⟩
/-- A block that is written, or grows. -/
theorem HR.chg {w w' : World} {S S' : Nat → Nat} {ι : Nat → Option Nat} {h : List Blk} (r : HR w S ι h) {b B : Nat} {blk0 blk' : Blk} (hb : h[b]? = some blk0) (hd : blk0.al)
    (hB : ι b = some B ∨ w.heap.size ≤ B) (hB' : B < w'.heap.size ∧ S' B = 0) (he : ∀ B', B' ≠ B → B' < w.heap.size → w'.heap[B']? = w.heap[B']?) (hz : w.heap.size ≤ w'.heap.size)
    (h1 : ∀ B, S B ≠ 0 → S' B = S B) (h2 : ∀ B, S' B ≠ 0 → B < w'.heap.size) (h3 : ∀ B, S' B ≠ 0 → S B ≠ 0 ∨ w.heap.size ≤ B)
    (hk : match blk0, blk' with
      | .box _, .box _ => ι b = some B
      | .arr es sz, .arr es' sz' => sz' = sz ∧ es.length ≤ es'.length ∧ (es.length = es'.length → ι b = some B ∧ bsz w' B = bsz w B)
      | _, .dead => True
      | _, _ => False)
    (hn : Pres w S ι h w' S' (upd ι b (some B)) (h.set b blk') → match blk' with
      | .box cs => ∃ vs e, w'.heap[B]? = some (.cells vs e (0, 0)) ∧ RCs w' S' (upd ι b (some B)) (h.set b blk') cs vs.toList
      | .arr es sz => 0 < sz ∧ (∀ e ∈ es, e.length = sz) ∧ ∃ vs e, w'.heap[B]? = some (.cells vs e (0, 0)) ∧
          es.length * sz ≤ vs.size ∧ ∀ i el j c, es[i]? = some el → el[j]? = some c → ∃ v, vs[i * sz + j]? = some v ∧ RC w' S' (upd ι b (some B)) (h.set b blk') c v
      | _ => True) (hkp : Kp w w' := by exact ⟨rfl, rfl, rfl⟩) :
    HR w' S' (upd ι b (some B)) (h.set b blk') ∧ Pres w S ι h w' S' (upd ι b (some B)) (h.set b blk') := by
  have hbl : b < h.length := by
    rcases Nat.lt_or_ge b h.length with h' | h'
    · exact h'
    · rw [List.getElem?_eq_none h'] at hb; cases hb
  have hna : blk' ≠ .abs := by
    intro e; subst e; cases blk0 <;> exact hk
  have nSB : S B = 0 := by
    by_cases hS : S B = 0
    · exact hS
    · rw [← h1 B hS]; exact hB'.2
  have oth : ∀ b' blk1 B1, b' ≠ b → h[b']? = some blk1 → blk1.al → ι b' = some B1 → B1 ≠ B := by
    intro b' blk1 B1 hne hq hd1 h1 heq
    subst heq
    rcases hB with hB | hB
    · exact hne (r.inj b' b blk1 blk0 B1 hq hb hd1 hd h1 hB)
    · have := (r.own b' blk1 B1 hq hd1 h1).2; omega
  have p : Pres w S ι h w' S' (upd ι b (some B)) (h.set b blk') := by
    refine ⟨fun B1 hS => ⟨h1 B1 hS, he B1 (fun e => hS (e ▸ nSB)) (r.low B1 hS)⟩, hz, by simp, fun k e => ?_, fun b' es' sz' hlt hq => ?_, fun b' cs hlt hq => ?_, hkp⟩
    · obtain ⟨blk2, k1, k2⟩ := e
      by_cases hkb : b = k
      · subst hkb; exact ⟨blk', by simp [hbl], hna⟩
      · exact ⟨blk2, by rw [List.getElem?_set, if_neg hkb]; exact k1, k2⟩
    · rcases set_get hq with ⟨rfl, rfl, _⟩ | ⟨hne, hq⟩
      · cases blk0 with
        | arr es sz =>
          obtain ⟨k1, k2, k3⟩ := hk
          subst k1
          exact ⟨es, hb, k2, fun e => ⟨by rw [upd_eq, (k3 e).1], fun B1 hB1 => by rw [(k3 e).1] at hB1; injection hB1 with hB1; subst hB1; exact (k3 e).2⟩⟩
        | box cs => exact hk.elim
        | dead => exact hk.elim
        | abs => exact hk.elim
      · refine ⟨es', hq, Nat.le_refl _, fun _ => ⟨upd_ne _ hne, fun B1 hB1 => ?_⟩⟩
        unfold bsz; rw [he B1 (oth b' _ B1 hne hq trivial hB1) (r.own b' _ B1 hq trivial hB1).2]
    · rcases set_get hq with ⟨rfl, rfl, _⟩ | ⟨hne, hq⟩
      · cases blk0 with
        | box cs0 => exact ⟨cs0, hb, by rw [upd_eq]; exact hk.symm⟩
        | arr es sz => exact hk.elim
        | dead => exact hk.elim
        | abs => exact hk.elim
      · exact ⟨cs, hq, upd_ne _ hne⟩
  have n := hn p
  refine ⟨⟨h2, fun b' blk1 B1 hq hd1 hB1 => ?_, fun b1 b2 blk1 blk2 B1 q1 q2 d1 d2 e1 e2 => ?_, fun b' cs hq => ?_, fun b' es sz hq => ?_⟩, p⟩
  · rcases set_get hq with ⟨rfl, rfl, _⟩ | ⟨hne, hq⟩
    · rw [upd_eq] at hB1; injection hB1 with hB1; subst hB1; exact ⟨hB'.2, hB'.1⟩
    · rw [upd_ne _ hne] at hB1
      obtain ⟨a1, a2⟩ := r.own b' blk1 B1 hq hd1 hB1
      refine ⟨?_, Nat.lt_of_lt_of_le a2 hz⟩
      by_cases hS : S' B1 = 0
      · exact hS
      · rcases h3 B1 hS with h | h <;> omega
  · rcases set_get q1 with ⟨l1, m1, _⟩ | ⟨l1, m1⟩ <;> rcases set_get q2 with ⟨l2, m2, _⟩ | ⟨l2, m2⟩
    · rw [l1, l2]
    · rw [l1, upd_eq] at e1; rw [upd_ne _ l2] at e2; injection e1 with e1
      exact absurd e1.symm (oth b2 blk2 B1 l2 m2 d2 e2)
    · rw [l2, upd_eq] at e2; rw [upd_ne _ l1] at e1; injection e2 with e2
      exact absurd e2.symm (oth b1 blk1 B1 l1 m1 d1 e1)
    · rw [upd_ne _ l1] at e1; rw [upd_ne _ l2] at e2
      exact r.inj b1 b2 blk1 blk2 B1 m1 m2 d1 d2 e1 e2
  · rcases set_get hq with ⟨rfl, rfl, _⟩ | ⟨hne, hq⟩
    · obtain ⟨vs, e, n1, n2⟩ := n
      exact ⟨B, vs, e, upd_eq .., n1, n2⟩
    · obtain ⟨B1, vs, e, i1, i2, i3⟩ := r.box b' cs hq
      exact ⟨B1, vs, e, (upd_ne _ hne).trans i1, by rw [he B1 (oth b' _ B1 hne hq trivial i1) (r.own b' _ B1 hq trivial i1).2]; exact i2, i3.mono p⟩
  · rcases set_get hq with ⟨rfl, rfl, _⟩ | ⟨hne, hq⟩
    · obtain ⟨z, z1, vs, e, n1, n2⟩ := n
      exact ⟨z, z1, .inr ⟨B, vs, e, upd_eq .., n1, n2⟩⟩
    · obtain ⟨z, i0, i1⟩ := r.arr b' es sz hq
      refine ⟨z, i0, ?_⟩
      rcases i1 with ⟨i1, i2⟩ | ⟨B1, vs, e, i1, i2, i3, i4⟩
      · exact .inl ⟨i1, (upd_ne _ hne).trans i2⟩
      · refine .inr ⟨B1, vs, e, (upd_ne _ hne).trans i1, by rw [he B1 (oth b' _ B1 hne hq trivial i1) (r.own b' _ B1 hq trivial i1).2]; exact i2, i3, fun i el j c he1 he2 => ?_⟩
        obtain ⟨v, k1, k2⟩ := i4 i el j c he1 he2
        exact ⟨v, k1, k2.mono p⟩
end Go.YtamlleimfopmhaaMc

namespace Go.YtamlleimfopmhaaMc
/-! ### Constants and operands -/
def cv : Value → Option C
  | .bool x => some (.t (.b x))
  | .int k n => some (.t (.i k n))
  | .string s => some (.t (.s s.data.toList))
  | .slice none 0 0 => some .emp
  | .pointer none => some .np
  | _ => none
def cvs : List Value → Option (List C)
  | [] => some []
  | v :: vs => match cv v, cvs vs with
    | some c, some cs => some (c :: cs)
    | _, _ => none
def cvV : Value → Option V
  | .agg vs => (cvs vs.toList).map .ag
  | v => (cv v).map .c
def oe (env : Env) : Operand → Option V
  | .tmp t => env.lookup t
  | .const v => cvV v
  | .func f => some (.c (.k (.func (.func f) #[] #[])))
  | _ => none
section
variable {w : World} {S : Nat → Nat} {ι : Nat → Option Nat} {h : List Blk}
theorem cv_ok {v : Value} {c : C} (hc : cv v = some c) : RC w S ι h c v := by
  unfold cv at hc
  split at hc <;> first | cases hc | (injection hc with hc; subst hc)
  · exact .b _
  · exact .i _ _
  · exact .s _ _ rfl
  · exact ⟨none, rfl⟩
  · exact rfl
theorem cvs_ok : ∀ {vs : List Value} {cs : List C}, cvs vs = some cs → RCs w S ι h cs vs
  | [], cs, hc => by
    simp only [cvs] at hc; injection hc with hc; subst hc
    exact ⟨rfl, fun j c v h1 h2 => by simp at h1⟩
  | v :: vs, cs, hc => by
    simp only [cvs] at hc
    split at hc
    · rename_i c cs' h1 h2
      injection hc with hc; subst hc
      obtain ⟨l1, l2⟩ := cvs_ok h2
      refine ⟨by simp [l1], fun j c' v' e1 e2 => ?_⟩
      cases j with
      | zero => simp only [List.getElem?_cons_zero, Option.some.injEq] at e1 e2; subst e1; subst e2; exact cv_ok h1
      | succ j => simp only [List.getElem?_cons_succ] at e1 e2; exact l2 j c' v' e1 e2
    · cases hc
theorem cvV_ok {v : Value} {x : V} (hc : cvV v = some x) : RV w S ι h x v := by
  unfold cvV at hc
  split at hc
  · rename_i vs
    obtain ⟨cs, h1, rfl⟩ := Option.map_eq_some_iff.1 hc
    exact ⟨vs, rfl, cvs_ok h1⟩
  · obtain ⟨c, h1, rfl⟩ := Option.map_eq_some_iff.1 hc
    exact cv_ok h1
theorem oe_ok {env : Env} {a : Act} (r : ER w S ι h env a.tmps) {x : Operand} {v : V} (hx : oe env x = some v) : RV w S ι h v (a.eval x) := by
  cases x with
  | tmp t => exact (r t v hx).2
  | const c => exact cvV_ok hx
  | global g => cases hx
  | func f => injection hx with hx; subst hx; rfl
end
/-! ### Putting a value into a temporary -/
def pu (env : Env) : Option Tmp → V → Env
  | some d, v => (d, v) :: env
  | none, _ => env
def dok (n : Nat) : Option Tmp → Bool
  | some d => d < n
  | none => true
theorem pu_ok {w : World} {S : Nat → Nat} {ι : Nat → Option Nat} {h : List Blk} {env : Env} {a : Act} (r : ER w S ι h env a.tmps) {d : Option Tmp} (hd : dok a.tmps.size d = true) {v : V} {u : Value} (hv : RV w S ι h v u) :
    ER w S ι h (pu env d v) (a.put d u).tmps := by
  cases d with
  | none => exact r
  | some d =>
    have hd : d < a.tmps.size := by simpa [dok] using hd
    intro t x hx
    simp only [pu, List.lookup_cons] at hx
    simp only [Act.put, Array.size_setIfInBounds]
    by_cases e : t = d
    · subst e
      simp only [beq_self_eq_true] at hx
      injection hx with hx; subst hx
      refine ⟨hd, ?_⟩
      simpa [Array.getD_eq_getD_getElem?, hd] using hv
    · have e' : (t == d) = false := by simpa using e
      rw [e'] at hx
      obtain ⟨h1, h2⟩ := r t x hx
      refine ⟨h1, ?_⟩
      have : (a.tmps.setIfInBounds d u).getD t undef = a.tmps.getD t undef := by
        simp [Array.getD_eq_getD_getElem?, Ne.symm e]
      rw [this]; exact h2
theorem put_size (a : Act) (d : Option Tmp) (u : Value) : (a.put d u).tmps.size = a.tmps.size := by
  cases d <;> simp [Act.put]
theorem put_defers (a : Act) (d : Option Tmp) (u : Value) : (a.put d u).defers = a.defers := by
  cases d <;> rfl

/-! ### What a piece of code does -/
inductive Ex where
  | n
  | x (id : Nat)
  | r
def Ex.e : Ex → Exit
  | .n => .normal
  | .x id => .exit id
  | .r => .ret
def Post (n : Nat) (w : World) (S : Nat → Nat) (ι : Nat → Option Nat) (h : List Blk) (Q : Ex → Env → List Blk → Prop) : Exit → Act → World → Prop := fun e a' w' =>
  ∃ env' h' S' ι' e', e = Ex.e e' ∧ a'.tmps.size = n ∧ a'.defers = [] ∧ HR w' S' ι' h' ∧ Pres w S ι h w' S' ι' h' ∧ ER w' S' ι' h' env' a'.tmps ∧ Q e' env' h'
theorem Post.pres {n : Nat} {w w' : World} {S S' : Nat → Nat} {ι ι' : Nat → Option Nat} {h h' : List Blk} {Q : Ex → Env → List Blk → Prop} (p : Pres w S ι h w' S' ι' h') {e : Exit} {a : Act} {u : World} (q : Post n w' S' ι' h' Q e a u) : Post n w S ι h Q e a u := by
  obtain ⟨env', h'', S'', ι'', e', h1, h2, h3, h4, h5, h6⟩ := q
  exact ⟨env', h'', S'', ι'', e', h1, h2, h3, h4, p.trans h5, h6⟩
structure W (P : Program) (n : Nat) (c : Code) (env : Env) (h : List Blk) (Q : Ex → Env → List Blk → Prop) : Prop where
  out : ∀ (w : World) (S : Nat → Nat) (ι : Nat → Option Nat) (a : Act), HR w S ι h → ER w S ι h env a.tmps → a.tmps.size = n → a.defers = [] → c.wp P (Post n w S ι h Q) a w
section
variable {P : Program} {n : Nat} {env : Env} {h : List Blk} {Q : Ex → Env → List Blk → Prop}
theorem W.mono {c : Code} {Q' : Ex → Env → List Blk → Prop} (hq : ∀ e env' h', Q e env' h' → Q' e env' h') (hw : W P n c env h Q) : W P n c env h Q' := by
  constructor; intro w S ι a h1 h2 h3 h4
  refine wp_mono (hw.out w S ι a h1 h2 h3 h4) ?_
  rintro e a' w' ⟨env', h', S', ι', e', k1, k2, k3, k4, k5, k6, k7⟩
  exact ⟨env', h', S', ι', e', k1, k2, k3, k4, k5, k6, hq _ _ _ k7⟩
theorem W.skip (hq : Q .n env h) : W P n .skip env h Q :=
  ⟨fun _ S ι _ h1 h2 h3 h4 => wp_skip ⟨env, h, S, ι, .n, rfl, h3, h4, h1, .refl .., h2, hq⟩⟩
theorem W.ret (hq : Q .r env h) : W P n .ret env h Q :=
  ⟨fun _ S ι _ h1 h2 h3 h4 => wp_ret ⟨env, h, S, ι, .r, rfl, h3, h4, h1, .refl .., h2, hq⟩⟩
theorem W.exit {id : Nat} (hq : Q (.x id) env h) : W P n (.exit id) env h Q :=
  ⟨fun _ S ι _ h1 h2 h3 h4 => wp_exit ⟨env, h, S, ι, .x id, rfl, h3, h4, h1, .refl .., h2, hq⟩⟩
/-- What follows in a sequence. -/
def Then (N : Env → List Blk → Prop) (Q : Ex → Env → List Blk → Prop) : Ex → Env → List Blk → Prop
  | .n, env, h => N env h
  | e, env, h => Q e env h
theorem W.seq {x y : Code} (hw : W P n x env h (Then (fun env' h' => W P n y env' h' Q) Q)) : W P n (.seq x y) env h Q := by
  constructor; intro w S ι a h1 h2 h3 h4
  refine wp_seq (wp_mono (hw.out w S ι a h1 h2 h3 h4) ?_)
  rintro e a' w' ⟨env', h', S', ι', e', rfl, k2, k3, k4, k5, k6, k7⟩
  cases e' with
  | n => exact wp_mono (W.out k7 w' S' ι' a' k4 k6 k2 k3) fun e a u q => q.pres k5
  | x id => exact ⟨env', h', S', ι', .x id, rfl, k2, k3, k4, k5, k6, k7⟩
  | r => exact ⟨env', h', S', ι', .r, rfl, k2, k3, k4, k5, k6, k7⟩
theorem W.cond {c : Operand} {x y : Code} {t : Bool} (hc : oe env c = some (.c (.t (.b t)))) (h1 : t = true → W P n x env h Q) (h2 : t = false → W P n y env h Q) : W P n (.cond c x y) env h Q := by
  constructor; intro w S ι a r1 r2 r3 r4
  have he := oe_ok r2 hc
  have he' : a.eval c = .bool t := by
    generalize a.eval c = v at he
    cases he; rfl
  exact wp_cond_split he' (fun e => (h1 e).out w S ι a r1 r2 r3 r4) (fun e => (h2 e).out w S ι a r1 r2 r3 r4)
def InBlk (id : Nat) (Q : Ex → Env → List Blk → Prop) : Ex → Env → List Blk → Prop
  | .x j, env, h => if j = id then Q .n env h else Q (.x j) env h
  | e, env, h => Q e env h
theorem W.block {id : Nat} {c : Code} (hw : W P n c env h (InBlk id Q)) : W P n (.block id c) env h Q := by
  constructor; intro w S ι a h1 h2 h3 h4
  refine wp_block (wp_mono (hw.out w S ι a h1 h2 h3 h4) ?_)
  rintro e a' w' ⟨env', h', S', ι', e', rfl, k2, k3, k4, k5, k6, k7⟩
  cases e' with
  | n => exact ⟨env', h', S', ι', .n, rfl, k2, k3, k4, k5, k6, k7⟩
  | x j =>
    simp only [Ex.e, Exit.inBlock, InBlk] at k7 ⊢
    by_cases hj : j = id
    · rw [if_pos hj] at k7 ⊢
      exact ⟨env', h', S', ι', .n, rfl, k2, k3, k4, k5, k6, k7⟩
    · rw [if_neg hj] at k7 ⊢
      exact ⟨env', h', S', ι', .x j, rfl, k2, k3, k4, k5, k6, k7⟩
  | r => exact ⟨env', h', S', ι', .r, rfl, k2, k3, k4, k5, k6, k7⟩
/-- Forgetting: fewer temporaries, and blocks behind the m-th that nothing kept refers to. -/
def C.low (m : Nat) : C → Bool
  | .sl b .. | .ptr b _ | .ap b .. => b < m
  | _ => true
def X.low (m : Nat) : X → Bool
  | .c x => x.low m
  | .ag cs => cs.all (·.low m)
def V.low (m : Nat) : V → Bool
  | .c x => x.low m
  | .ag cs => cs.all (·.low m)
  | .tu xs => xs.all (·.low m)
def Blk.low (m : Nat) : Blk → Bool
  | .box cs => cs.all (·.low m)
  | .arr es _ => es.all fun el => el.all (·.low m)
  | _ => true
section
variable {w : World} {S : Nat → Nat} {ι : Nat → Option Nat} {h : List Blk} {m : Nat}
theorem RC.take {c : C} {v : Value} (hl : c.low m = true) (r : RC w S ι h c v) : RC w S ι (h.take m) c v := by
  have key : ∀ b, b < m → ex h b → ex (h.take m) b := fun b h1 h2 => by obtain ⟨blk, k1, k2⟩ := h2; exact ⟨blk, by rw [List.getElem?_take, if_pos h1]; exact k1, k2⟩
  have get : ∀ b blk, (h.take m)[b]? = some blk → h[b]? = some blk := fun b blk hq => by
    rw [List.getElem?_take] at hq
    split at hq
    · exact hq
    · cases hq
  cases c with
  | t x => exact r
  | sl b n off len => exact ⟨key b (by simpa [C.low] using hl) r.1, fun es sz hq => r.2 es sz (get b _ hq)⟩
  | ptr b off => exact ⟨key b (by simpa [C.low] using hl) r.1, fun cs hq => r.2 cs (get b _ hq)⟩
  | ap b n i j => exact ⟨key b (by simpa [C.low] using hl) r.1, fun es sz hq => r.2 es sz (get b _ hq)⟩
  | fa cs => exact r
  | emp => exact r
  | np => exact r
  | u => trivial
  | k x => exact r
theorem RCs.take {cs : List C} {vs : List Value} (hl : cs.all (·.low m) = true) (r : RCs w S ι h cs vs) : RCs w S ι (h.take m) cs vs :=
  ⟨r.1, fun j c v hc hv => (r.2 j c v hc hv).take (List.all_eq_true.1 hl c (List.mem_of_getElem? hc))⟩
theorem RX.take {x : X} {v : Value} (hl : x.low m = true) (r : RX w S ι h x v) : RX w S ι (h.take m) x v := by
  cases x with
  | c x => exact RC.take hl r
  | ag cs => obtain ⟨vs, h1, h2⟩ := r; exact ⟨vs, h1, h2.take hl⟩
theorem RV.take {x : V} {v : Value} (hl : x.low m = true) (r : RV w S ι h x v) : RV w S ι (h.take m) x v := by
  cases x with
  | c x => exact RC.take hl r
  | ag cs => obtain ⟨vs, h1, h2⟩ := r; exact ⟨vs, h1, h2.take hl⟩
  | tu xs => obtain ⟨vs, h1, h2, h3⟩ := r; exact ⟨vs, h1, h2, fun j x v hx hv => (h3 j x v hx hv).take (List.all_eq_true.1 hl x (List.mem_of_getElem? hx))⟩
theorem HR.take (r : HR w S ι h) (hl : (h.take m).all (·.low m) = true) : HR w S ι (h.take m) := by
  have get : ∀ (b : Nat) blk, (h.take m)[b]? = some blk → h[b]? = some blk := fun b blk hq => by
    rw [List.getElem?_take] at hq
    split at hq
    · exact hq
    · cases hq
  have low : ∀ (b : Nat) blk, (h.take m)[b]? = some blk → blk.low m = true := fun b blk hq => List.all_eq_true.1 hl blk (List.mem_of_getElem? hq)
  refine ⟨r.low, fun b blk B hq => r.own b blk B (get b _ hq), fun b b' blk blk' B q1 q2 => r.inj b b' blk blk' B (get _ _ q1) (get _ _ q2), fun b cs hq => ?_, fun b es sz hq => ?_⟩
  · obtain ⟨B, vs, e, i1, i2, i3⟩ := r.box b cs (get _ _ hq)
    exact ⟨B, vs, e, i1, i2, i3.take (by simpa [Blk.low] using low b _ hq)⟩
  · obtain ⟨z, i0, i1⟩ := r.arr b es sz (get _ _ hq)
    refine ⟨z, i0, ?_⟩
    rcases i1 with i1 | ⟨B, vs, e, i1, i2, i3, i4⟩
    · exact .inl i1
    · refine .inr ⟨B, vs, e, i1, i2, i3, fun i el j c he1 he2 => ?_⟩
      obtain ⟨v, k1, k2⟩ := i4 i el j c he1 he2
      have l := low b _ hq
      simp only [Blk.low, List.all_eq_true] at l
      exact ⟨v, k1, k2.take (l el (List.mem_of_getElem? he1) c (List.mem_of_getElem? he2))⟩
theorem Pres.take {w' : World} {S' : Nat → Nat} {ι' : Nat → Option Nat} {h' : List Blk} (p : Pres w S ι h w' S' ι' h') (hm : h.length ≤ m) : Pres w S ι h w' S' ι' (h'.take m) := by
  have get : ∀ (b : Nat) blk, (h'.take m)[b]? = some blk → h'[b]? = some blk := fun b blk hq => by
    rw [List.getElem?_take] at hq
    split at hq
    · exact hq
    · cases hq
  exact ⟨p.st, p.sz, by have := p.len; simp; omega, fun b e => by obtain ⟨blk, k1, k2⟩ := p.ex b e; exact ⟨blk, by rw [List.getElem?_take, if_pos (Nat.lt_of_lt_of_le (ex_lt e) hm)]; exact k1, k2⟩, fun b es' sz' hb hq => p.arr b es' sz' hb (get _ _ hq), fun b cs' hb hq => p.box b cs' hb (get _ _ hq), p.kp⟩
end
/-- env has all that env2 has, and this refers to no block from m on. -/
def Cov (m : Nat) (env env2 : Env) : Prop := ∀ t v, env2.lookup t = some v → env.lookup t = some v ∧ v.low m = true
theorem Cov.nil {m : Nat} {env : Env} : Cov m env [] := fun _ _ h => by cases h
theorem Cov.cons {m : Nat} {env env2 : Env} {t : Nat} {v : V} (h1 : env.lookup t = some v) (h2 : v.low m = true) (h : Cov m env env2) : Cov m env ((t, v) :: env2) := fun t' v' hq => by
  simp only [List.lookup_cons] at hq
  by_cases e : t' = t
  · subst e; simp only [beq_self_eq_true] at hq; injection hq with hq; subst hq; exact ⟨h1, h2⟩
  · have e' : (t' == t) = false := by simpa using e
    rw [e'] at hq; exact h t' v' hq
theorem ER.cov {w : World} {S : Nat → Nat} {ι : Nat → Option Nat} {h : List Blk} {m : Nat} {env env2 : Env} {tmps : Array Value} (r : ER w S ι h env tmps) (hc : Cov m env env2) : ER w S ι (h.take m) env2 tmps := fun t v hq => by
  obtain ⟨h1, h2⟩ := hc t v hq
  exact ⟨(r t v h1).1, (r t v h1).2.take h2⟩
/-- Before going on, forget. -/
theorem W.cut {c : Code} {env2 : Env} {h2 : List Blk} (hh : h = h2) (hc : Cov h2.length env env2) (hw : W P n c env2 h2 Q) : W P n c env h Q := by
  constructor; intro w S ι a r1 r2 r3 r4
  subst hh
  have := r2.cov hc
  rw [List.take_of_length_le (Nat.le_refl _)] at this
  exact hw.out w S ι a r1 this r3 r4
/-- A loop. -/
theorem W.loop {σ : Type} {c : Code} (st : σ → Env) (hp : σ → List Blk) (ok : σ → Prop) (μ : σ → Nat) (m : Nat) (hm : ∀ s, ok s → (hp s).length = m) (s0 : σ) (h0 : ok s0) (hh : h = hp s0) (hc : Cov m env (st s0))
    (round : ∀ s, ok s → W P n c (st s) (hp s) (Then (fun env' h' => ∃ s', ok s' ∧ μ s' < μ s ∧ Cov m env' (st s') ∧ h'.take m = hp s' ∧ (hp s').all (·.low m) = true) Q)) : W P n (.loop c) env h Q := by
  constructor; intro w S ι a r1 r2 r3 r4
  subst hh
  have rr := r2.cov hc
  rw [List.take_of_length_le (by rw [hm s0 h0]; exact Nat.le_refl _)] at rr
  refine wp_loop_ghost (I := fun k a' w' => ∃ s S' ι', μ s = k ∧ ok s ∧ HR w' S' ι' (hp s) ∧ Pres w S ι (hp s0) w' S' ι' (hp s) ∧ ER w' S' ι' (hp s) (st s) a'.tmps ∧ a'.tmps.size = n ∧ a'.defers = []) (μ s0)
    ⟨s0, S, ι, rfl, h0, r1, .refl .., rr, r3, r4⟩ ?_
  rintro k a' w' ⟨s, S', ι', rfl, g1, g2, g3, g4, g5, g6⟩
  refine wp_mono ((round s g1).out w' S' ι' a' g2 g4 g5 g6) ?_
  rintro e a'' w'' ⟨env', h', S'', ι'', e', rfl, k2, k3, k4, k5, k6, k7⟩
  cases e' with
  | n =>
    obtain ⟨s', q1, q2, q3, q4, q5⟩ := k7
    have k4' := k4.take (m := m) (by rw [q4]; exact q5)
    have k5' := k5.take (m := m) (by rw [hm s g1]; exact Nat.le_refl _)
    have k6' := k6.cov q3
    rw [q4] at k4' k5' k6'
    exact ⟨μ s', q2, s', S'', ι'', rfl, q1, k4', g3.trans k5', k6', k2, k3⟩
  | x id => exact Post.pres g3 ⟨env', h', S'', ι'', .x id, rfl, k2, k3, k4, k5, k6, k7⟩
  | r => exact Post.pres g3 ⟨env', h', S'', ι'', .r, rfl, k2, k3, k4, k5, k6, k7⟩
end
end Go.YtamlleimfopmhaaMc

namespace Go.YtamlleimfopmhaaMc
/-! ### The table of types -/
inductive TK where
  | bool
  | int (k : IntKind)
  | str
  | sl (e : Nat)
  | st (fs : List (Nat × Nat))
  | ptr
  | oth
structure TI where
  k : TK
  size : Nat
  bytes : Nat
  zero : List C
def TI.agg (x : TI) : Bool := match x.k with | .st _ => true | _ => false
def TK.ok (P : Program) (t : Nat) : TK → Prop
  | .bool => P.underlying t = some .bool
  | .int k => P.underlying t = some (.int k)
  | .str => P.underlying t = some .string
  | .sl e => P.underlying t = some (.slice e)
  | .st fs => ∃ F : Array Field, P.underlying t = some (.struct F) ∧ F.toList.map (fun f => (f.offset, ((P.info? f.type).map (·.size)).getD 0)) = fs
  | .ptr => ∃ e, P.underlying t = some (.pointer e)
  | .oth => True
structure TI.ok (P : Program) (t : Nat) (x : TI) : Prop where
  info : ∃ i z, P.info? t = some i ∧ i.size = x.size ∧ i.bytes = x.bytes ∧ i.zero = some z ∧ cvs z.cells.toList = some x.zero ∧ z.cells.size = x.size
  und : x.k.ok P t
theorem TI.ok.mk' {P : Program} {t : Nat} {x : TI} (z : Value) (h1 : (P.info? t).map (fun i => (i.zero, i.size, i.bytes)) = some (some z, x.size, x.bytes)) (h2 : cvs z.cells.toList = some x.zero) (h3 : z.cells.size = x.size) (h4 : x.k.ok P t) : x.ok P t := by
  obtain ⟨i, e1, e2⟩ := Option.map_eq_some_iff.1 h1
  simp only [Prod.mk.injEq] at e2
  exact ⟨⟨i, z, e1, e2.2.1, e2.2.2, e2.1, h2, h3⟩, h4⟩
structure Tab (P : Program) where
  f : Nat → Option TI
  ok : ∀ t x, f t = some x → x.ok P t

section
variable {P : Program} {w : World}
theorem TI.ok.isAgg {t : Nat} {x : TI} (h : x.ok P t) (hk : ∀ y, x.k = y → y = .oth → False) : (Go.isAgg t).run P w = .ok x.agg w := by
  have hu := h.und
  unfold Go.isAgg TI.agg
  cases hx : x.k with
  | bool => rw [hx] at hu; simp [run_underlying hu]
  | int k => rw [hx] at hu; simp [run_underlying hu]
  | str => rw [hx] at hu; simp [run_underlying hu]
  | sl e => rw [hx] at hu; simp [run_underlying hu]
  | st fs => rw [hx] at hu; obtain ⟨F, hu, _⟩ := hu; simp [run_underlying hu]
  | ptr => rw [hx] at hu; obtain ⟨F, hu⟩ := hu; simp [run_underlying hu]
  | oth => exact (hk _ hx rfl).elim
theorem TI.ok.sizeOf {t : Nat} {x : TI} (h : x.ok P t) : (Go.sizeOf t).run P w = .ok x.size w := by
  obtain ⟨i, z, h1, h2, _⟩ := h.info
  simp [Go.sizeOf, typeInfo, h1, h2]
theorem add_at (B o j : Nat) : (⟨B, o, none⟩ : Addr).add j = ⟨B, o + j, none⟩ := by unfold Addr.add; split <;> simp_all
/-- Reading memory: of which cells the values are known. -/
theorem run_loadVar {t : Nat} {x : TI} (h : x.ok P t) (hk : ∀ y, x.k = y → y = .oth → False) {B o : Nat} {vs : List Value} (hl : x.agg = true → vs.length = x.size) (h1 : x.agg = false → vs.length = 1) (hc : ∀ j v, vs[j]? = some v → w.cell? ⟨B, o + j, none⟩ = some v) :
    (loadVar t ⟨B, o, none⟩).run P w = .ok (if x.agg then .agg vs.toArray else vs.headD undef) w := by
  unfold loadVar
  simp only [Sem.run_bind, h.isAgg hk, Result.andThen_ok]
  cases ha : x.agg with
  | true =>
    have := run_loadCells_list (P := P) w ⟨B, o, none⟩ vs (fun j v hv => by rw [add_at]; exact hc j v hv)
    rw [hl ha] at this
    simp [h.sizeOf, this]
  | false =>
    have e := h1 ha
    match vs, e with
    | [v], _ =>
      have := hc 0 v rfl
      simp only [Nat.add_zero] at this
      simp [this]
end

/-! ### One operation -/
structure OpOk (P : Program) (n : Nat) (o : Oper) (env : Env) (h : List Blk) (v : V) (h' : List Blk) : Prop where
  out : ∀ (w : World) (S : Nat → Nat) (ι : Nat → Option Nat) (a : Act), HR w S ι h → ER w S ι h env a.tmps → a.tmps.size = n → a.defers = [] → ∀ (N : Act → World → Prop) (Q' : Exit → Act → World → Prop),
    (∀ w' S' ι' u, HR w' S' ι' h' → Pres w S ι h w' S' ι' h' → RV w' S' ι' h' v u → N (a.put o.dst u) w') → o.wp P a w N Q'
section
variable {P : Program} {n : Nat} {o : Oper} {env : Env} {h h' : List Blk} {v : V}
theorem OpOk.ofRun (H : ∀ (w : World) S ι (a : Act), HR w S ι h → ER w S ι h env a.tmps → ∃ u w' S' ι', (execOp a.eval o).run P w = .ok (.value u) w' ∧ HR w' S' ι' h' ∧ Pres w S ι h w' S' ι' h' ∧ RV w' S' ι' h' v u) : OpOk P n o env h v h' := by
  constructor; intro w S ι a r1 r2 r3 r4 N Q' hN
  obtain ⟨u, w', S', ι', k1, k2, k3, k4⟩ := H w S ι a r1 r2
  unfold Oper.wp
  rw [k1]
  exact hN w' S' ι' u k2 k3 k4
theorem OpOk.ofSkip (H : ∀ (w : World) S ι (a : Act), HR w S ι h → ER w S ι h env a.tmps → ∃ w' S' ι', (execOp a.eval o).run P w = .ok .skip w' ∧ HR w' S' ι' h' ∧ Pres w S ι h w' S' ι' h') : OpOk P n o env h (.c .u) h' := by
  constructor; intro w S ι a r1 r2 r3 r4 N Q' hN
  obtain ⟨w', S', ι', k1, k2, k3⟩ := H w S ι a r1 r2
  unfold Oper.wp
  rw [k1]
  exact hN w' S' ι' undef k2 k3 trivial
/-- An operation that only computes. -/
theorem OpOk.val (H : ∀ (w : World) S ι (a : Act), HR w S ι h → ER w S ι h env a.tmps → ∃ u, (execOp a.eval o).run P w = .ok (.value u) w ∧ RV w S ι h v u) : OpOk P n o env h v h :=
  .ofRun fun w S ι a r1 r2 => let ⟨u, h1, h2⟩ := H w S ι a r1 r2; ⟨u, w, S, ι, h1, r1, .refl .., h2⟩
theorem RV.b {w : World} {S : Nat → Nat} {ι : Nat → Option Nat} {x : Bool} {u : Value} (r : RV w S ι h (.c (.t (.b x))) u) : u = .bool x := by cases r; rfl
theorem RV.i {w : World} {S : Nat → Nat} {ι : Nat → Option Nat} {k : IntKind} {x : Int} {u : Value} (r : RV w S ι h (.c (.t (.i k x))) u) : u = .int k x := by cases r; rfl
theorem RV.s {w : World} {S : Nat → Nat} {ι : Nat → Option Nat} {x : List UInt8} {u : Value} (r : RV w S ι h (.c (.t (.s x))) u) : ∃ ba, u = .string ba ∧ ba.data.toList = x := by cases r; exact ⟨_, rfl, by assumption⟩
theorem RV.l {w : World} {S : Nat → Nat} {ι : Nat → Option Nat} {es : List (List T)} {u : Value} (r : RV w S ι h (.c (.t (.l es))) u) : ∃ a cap sz, u = .slice a es.length cap ∧ es.length ≤ cap ∧ (∀ e ∈ es, e.length = sz) ∧
    (es = [] ∨ ∃ B o, a = some ⟨B, o, none⟩ ∧ S B = 2 ∧ ∀ i e j t, es[i]? = some e → e[j]? = some t → ∃ v, w.cell? ⟨B, o + i * sz + j, none⟩ = some v ∧ RT w S t v) := by
  cases r with
  | l es a cap sz g hcap hsz h0 hg =>
    refine ⟨a, cap, sz, rfl, hcap, hsz, ?_⟩
    rcases h0 with h0 | ⟨B, o, h1, h2, h3⟩
    · exact .inl h0
    · exact .inr ⟨B, o, h1, h2, fun i e j t he ht => ⟨g i j, h3 i e j t he ht, hg i e j t he ht⟩⟩

theorem OpOk.move {x : Operand} (ho : o.op = .move x) (hx : oe env x = some v) : OpOk P n o env h v h :=
  .val fun w S ι a _ r2 => ⟨a.eval x, by simp [execOp, ho], oe_ok r2 hx⟩
theorem OpOk.assign {x : Operand} (ho : o.op = .assign x) (hx : oe env x = some v) : OpOk P n o env h v h :=
  .val fun w S ι a _ r2 => ⟨a.eval x, by simp [execOp, ho], oe_ok r2 hx⟩
theorem OpOk.pick1 {c x y : Operand} (ho : o.op = .pick c x y) (hc : oe env c = some (.c (.t (.b true)))) (hx : oe env x = some v) : OpOk P n o env h v h :=
  .val fun w S ι a _ r2 => ⟨a.eval x, by simp [execOp, ho, (oe_ok r2 hc).b, asBool], oe_ok r2 hx⟩
theorem OpOk.pick0 {c x y : Operand} (ho : o.op = .pick c x y) (hc : oe env c = some (.c (.t (.b false)))) (hx : oe env y = some v) : OpOk P n o env h v h :=
  .val fun w S ι a _ r2 => ⟨a.eval y, by simp [execOp, ho, (oe_ok r2 hc).b, asBool], oe_ok r2 hx⟩
/-- Whole numbers: sums and comparisons. -/
def ibin (k : IntKind) (x y : Int) : BinOp → Option T
  | .add => some (.i k (k.wrap (x + y)))
  | .sub => some (.i k (k.wrap (x - y)))
  | .mul => some (.i k (k.wrap (x * y)))
  | .eql => some (.b (x == y))
  | .neq => some (.b (x != y))
  | .lss => some (.b (decide (x < y)))
  | .leq => some (.b (decide (x ≤ y)))
  | .gtr => some (.b (decide (x > y)))
  | .geq => some (.b (decide (x ≥ y)))
  | _ => none
theorem OpOk.ibin {op : BinOp} {t t' : Nat} {x y : Operand} {k : IntKind} {a b : Int} {r : T} (ho : o.op = .binOp op t x y t') (hx : oe env x = some (.c (.t (.i k a)))) (hy : oe env y = some (.c (.t (.i k b)))) (hr : ibin k a b op = some r) : OpOk P n o env h (.c (.t r)) h := by
  refine .val fun w S ι ac _ r2 => ?_
  have e1 := (oe_ok r2 hx).i
  have e2 := (oe_ok r2 hy).i
  cases op <;> simp only [YtamlleimfopmhaaMc.ibin, Option.some.injEq, reduceCtorEq] at hr <;> subst hr <;>
    first
    | (refine ⟨_, ?_, RT.i _ _⟩; simp [execOp, ho, e1, e2, eqGuard, binOp, Op.intArith]; done)
    | (refine ⟨_, ?_, RT.b _⟩; simp [execOp, ho, e1, e2, eqGuard, binOp, Op.intCmp]; done)
theorem OpOk.idiv {t t' : Nat} {x y : Operand} {k : IntKind} {a b : Int} (ho : o.op = .binOp .quo t x y t') (hx : oe env x = some (.c (.t (.i k a)))) (hy : oe env y = some (.c (.t (.i k b)))) (hb : b ≠ 0) : OpOk P n o env h (.c (.t (.i k (k.wrap (a.tdiv b))))) h := by
  refine .val fun w S ι ac _ r2 => ?_
  have e1 := (oe_ok r2 hx).i
  have e2 := (oe_ok r2 hy).i
  (refine ⟨_, ?_, RT.i _ _⟩; simp [execOp, ho, e1, e2, eqGuard, binOp, Op.intDiv, hb])
theorem OpOk.irem {t t' : Nat} {x y : Operand} {k : IntKind} {a b : Int} (ho : o.op = .binOp .rem t x y t') (hx : oe env x = some (.c (.t (.i k a)))) (hy : oe env y = some (.c (.t (.i k b)))) (hb : b ≠ 0) : OpOk P n o env h (.c (.t (.i k (a.tmod b)))) h := by
  refine .val fun w S ι ac _ r2 => ?_
  have e1 := (oe_ok r2 hx).i
  have e2 := (oe_ok r2 hy).i
  (refine ⟨_, ?_, RT.i _ _⟩; simp [execOp, ho, e1, e2, eqGuard, binOp, Op.intDiv, hb])
theorem OpOk.neg {t : Nat} {x : Operand} {k : IntKind} {a : Int} (ho : o.op = .unOp .neg t x) (hx : oe env x = some (.c (.t (.i k a)))) : OpOk P n o env h (.c (.t (.i k (k.wrap (0 - a))))) h :=
  .val fun w S ι ac _ r2 => by refine ⟨_, ?_, RT.i _ _⟩; simp [execOp, ho, (oe_ok r2 hx).i, Op.unary, Op.intArith]
theorem OpOk.not {t : Nat} {x : Operand} {a : Bool} (ho : o.op = .unOp .not t x) (hx : oe env x = some (.c (.t (.b a)))) : OpOk P n o env h (.c (.t (.b (!a)))) h :=
  .val fun w S ι ac _ r2 => by refine ⟨_, ?_, RT.b _⟩; simp [execOp, ho, (oe_ok r2 hx).b, Op.unary]
theorem eqIn_bool' {P : Program} {t : Nat} (hu : P.underlying t = some .bool) (w : World) (a b : Bool) (d : Nat) : (Op.equalIn (d + 1) t (.bool a) (.bool b)).run P w = .ok (a == b) w := by
  simp only [Op.equalIn, Sem.run_bind, run_underlying hu, Result.andThen_ok, Sem.run_pure]
theorem eqIn_bool {P : Program} {t : Nat} (hu : P.underlying t = some .bool) (w : World) (a b : Bool) : (Op.equalIn Op.maxDepth t (.bool a) (.bool b)).run P w = .ok (a == b) w := eqIn_bool' hu w a b 9999
/-- Bools. -/
def bbin (x y : Bool) : BinOp → Option Bool
  | .eql => some (x == y)
  | .neq => some (!(x == y))
  | _ => none
theorem OpOk.bbin (D : Tab P) {op : BinOp} {t t' : Nat} {x y : Operand} {a b r : Bool} {i : TI} (ho : o.op = .binOp op t x y t') (ht : D.f t = some i) (hk : i.k = .bool) (hx : oe env x = some (.c (.t (.b a)))) (hy : oe env y = some (.c (.t (.b b)))) (hr : bbin a b op = some r) : OpOk P n o env h (.c (.t (.b r))) h := by
  refine .val fun w S ι ac _ r2 => ?_
  have e1 := (oe_ok r2 hx).b
  have e2 := (oe_ok r2 hy).b
  have hu := (D.ok t i ht).und
  rw [hk] at hu
  have hu' : P.underlying t = some .bool := hu
  cases op <;> simp only [YtamlleimfopmhaaMc.bbin, Option.some.injEq, reduceCtorEq] at hr <;> subst hr <;>
    (refine ⟨_, ?_, RT.b _⟩; simp only [execOp, ho, e1, e2, eqGuard, binOp, Op.equal, eqIn_bool hu', Sem.run_bind, Result.andThen_ok, bind_pure_comp, Sem.run_map]; rfl)
/-- Strings. -/
def sbin (x y : List UInt8) : BinOp → Option Bool
  | .eql => some (x == y)
  | .neq => some (!(x == y))
  | .lss => some (Op.bytesLess x y)
  | .leq => some (Op.bytesLess x y || x == y)
  | .gtr => some (!(Op.bytesLess x y || x == y))
  | .geq => some (!(Op.bytesLess x y))
  | _ => none
theorem toList_data (s : ByteArray) : s.toList = s.data.toList := by
  have key : ∀ (k i : Nat) (r : List UInt8), s.size - i = k → ByteArray.toList.loop s i r = r.reverse ++ s.data.toList.drop i := by
    intro k
    induction k with
    | zero =>
      intro i r hk
      rw [ByteArray.toList.loop, if_neg (by omega), List.drop_eq_nil_of_le (by simp only [Array.length_toList]; show s.size ≤ i; omega)]
      simp
    | succ k ih =>
      intro i r hk
      have hi : i < s.size := by omega
      rw [ByteArray.toList.loop, if_pos hi, ih (i + 1) _ (by omega)]
      have : s.data.toList.drop i = s.get! i :: s.data.toList.drop (i + 1) := by
        have hi' : i < s.data.toList.length := by simpa using hi
        rw [List.drop_eq_getElem_cons hi']
        congr 1
        simp only [ByteArray.get!]
        rw [getElem!_pos s.data i (by simpa using hi)]
        simp
      rw [this]; simp
  have := key s.size 0 [] (by omega)
  simp only [List.reverse_nil, List.nil_append, List.drop_zero] at this
  exact this
theorem OpOk.sbin {op : BinOp} {t t' : Nat} {x y : Operand} {a b : List UInt8} {r : Bool} (ho : o.op = .binOp op t x y t') (hx : oe env x = some (.c (.t (.s a)))) (hy : oe env y = some (.c (.t (.s b)))) (hr : sbin a b op = some r) : OpOk P n o env h (.c (.t (.b r))) h := by
  refine .val fun w S ι ac _ r2 => ?_
  obtain ⟨s1, e1, l1⟩ := (oe_ok r2 hx).s
  obtain ⟨s2, e2, l2⟩ := (oe_ok r2 hy).s
  cases op <;> simp only [YtamlleimfopmhaaMc.sbin, Option.some.injEq, reduceCtorEq] at hr <;> subst hr <;>
    (refine ⟨_, ?_, RT.b _⟩; simp [execOp, ho, e1, e2, eqGuard, binOp, Op.stringOp, toList_data, l1, l2])
theorem OpOk.sadd {t t' : Nat} {x y : Operand} {a b : List UInt8} (ho : o.op = .binOp .add t x y t') (hx : oe env x = some (.c (.t (.s a)))) (hy : oe env y = some (.c (.t (.s b)))) (hl : a.length + b.length ≤ 9223372036854775807) : OpOk P n o env h (.c (.t (.s (a ++ b)))) h := by
  refine .val fun w S ι ac _ r2 => ?_
  obtain ⟨s1, e1, l1⟩ := (oe_ok r2 hx).s
  obtain ⟨s2, e2, l2⟩ := (oe_ok r2 hy).s
  have h1 : s1.size = a.length := by rw [← l1]; simp
  have h2 : s2.size = b.length := by rw [← l2]; simp
  have hm : ¬ (9223372036854775807 : Int) < (s1.size : Int) + (s2.size : Int) := by omega
  refine ⟨.string (s1 ++ s2), by simp [execOp, ho, e1, e2, eqGuard, binOp, Op.stringOp, IntKind.max, IntKind.bits, IntKind.signed, hm], RT.s _ _ ?_⟩
  rw [ByteArray.data_append, Array.toList_append, l1, l2]
theorem OpOk.i2i (D : Tab P) {t t' : Nat} {x : Operand} {k k' : IntKind} {a : Int} {i i' : TI} (ho : o.op = .convert t t' x) (ht : D.f t = some i) (ht' : D.f t' = some i') (hk : i.k = .int k) (hk' : i'.k = .int k') (hx : oe env x = some (.c (.t (.i k a)))) : OpOk P n o env h (.c (.t (.i k' (k'.wrap a)))) h := by
  refine .val fun w S ι ac _ r2 => ?_
  have hu := (D.ok t i ht).und
  have hu' := (D.ok t' i' ht').und
  rw [hk] at hu; rw [hk'] at hu'
  have g1 : P.underlying t = some (.int k) := hu
  have g2 : P.underlying t' = some (.int k') := hu'
  refine ⟨_, ?_, RT.i _ _⟩; simp [execOp, ho, (oe_ok r2 hx).i, convert, run_underlying g1, run_underlying g2, Conv.intToInt]
end
end Go.YtamlleimfopmhaaMc

namespace Go.YtamlleimfopmhaaMc
/-! ### Reading memory -/
def ldv (i : TI) (cs : List C) : Option V :=
  match i.k with
  | .oth => none
  | .st _ => if i.size ≤ cs.length then some (.ag (cs.take i.size)) else none
  | _ => match cs with
    | c :: _ => some (.c c)
    | [] => none
section
variable {P : Program} {n : Nat} {o : Oper} {env : Env} {h h' : List Blk} {v : V}
theorem ld_ok {w : World} {S : Nat → Nat} {ι : Nat → Option Nat} {t : Nat} {i : TI} (hi : i.ok P t) {cs : List C} {vs : List Value} (hv : ldv i cs = some v) (hc : RCs w S ι h cs vs) {B off : Nat} (hw : ∀ j u, vs[j]? = some u → w.cell? ⟨B, off + j, none⟩ = some u) :
    ∃ u, (loadVar t ⟨B, off, none⟩).run P w = .ok u w ∧ RV w S ι h v u := by
  have hl := hc.1
  cases hk : i.k with
  | oth => simp [ldv, hk] at hv
  | st fs =>
    simp only [ldv, hk] at hv
    split at hv
    · rename_i hsz
      injection hv with hv; subst hv
      have ha : i.agg = true := by simp [TI.agg, hk]
      refine ⟨_, run_loadVar hi (fun y e1 e2 => by rw [hk] at e1; subst e1; cases e2) (vs := vs.take i.size) (fun _ => by rw [List.length_take]; omega) (fun e => by rw [ha] at e; cases e) (fun j u hu => hw j u (by rw [List.getElem?_take] at hu; split at hu <;> simp_all)), ?_⟩
      rw [ha]
      refine ⟨_, rfl, by simp; omega, fun j c u h1 h2 => ?_⟩
      simp only [] at h2
      rw [List.getElem?_take] at h1 h2
      split at h1
      · rename_i hj; rw [if_pos hj] at h2; exact hc.2 j c u h1 h2
      · cases h1
    · cases hv
  | _ =>
    all_goals
      simp only [ldv, hk] at hv
      match cs, vs, hl, hv with
      | c :: cs, u :: vs, _, hv =>
        injection hv with hv; subst hv
        have ha : i.agg = false := by simp [TI.agg, hk]
        refine ⟨_, run_loadVar hi (fun y e1 e2 => by rw [hk] at e1; subst e1; cases e2) (vs := [u]) (fun e => by rw [ha] at e; cases e) (fun _ => rfl) (fun j u' hu => ?_), ?_⟩
        · cases j with
          | zero => exact hw 0 u' (by simpa using hu)
          | succ j => simp at hu
        · rw [ha]; exact hc.2 0 c u rfl rfl
theorem getD_toList {vs : Array Value} {off j : Nat} {u : Value} (h : (vs.toList.drop off)[j]? = some u) : vs[off + j]? = some u := by
  rw [List.getElem?_drop] at h; simpa using h
theorem RCs.drop {w : World} {S : Nat → Nat} {ι : Nat → Option Nat} {cs : List C} {vs : List Value} (k : Nat) (hc : RCs w S ι h cs vs) : RCs w S ι h (cs.drop k) (vs.drop k) :=
  ⟨by simp [hc.1], fun j c u h1 h2 => hc.2 (k + j) c u (by simpa using h1) (by simpa using h2)⟩
theorem OpOk.ldB (D : Tab P) {t : Nat} {x : Operand} {b off : Nat} {cs : List C} {i : TI} (ho : o.op = .load t x) (ht : D.f t = some i) (hx : oe env x = some (.c (.ptr b off))) (hb : h[b]? = some (.box cs)) (hv : ldv i (cs.drop off) = some v) : OpOk P n o env h v h := by
  refine .val fun w S ι a r1 r2 => ?_
  obtain ⟨_, hx⟩ := oe_ok r2 hx
  obtain ⟨B, i1, hx⟩ := hx cs hb
  obtain ⟨B', vs, e, j1, j2, j3⟩ := r1.box b cs hb
  rw [j1] at i1; injection i1 with i1; subst i1
  obtain ⟨u, k1, k2⟩ := ld_ok (P := P) (D.ok t i ht) hv (j3.drop off) (B := B') (off := off) (fun j u hu => by rw [cell_of j2]; exact getD_toList hu)
  exact ⟨u, by simp [execOp, ho, hx, Instr.loadAt, Instr.sureAddr, k1], k2⟩
theorem OpOk.ldF (D : Tab P) {t : Nat} {x : Operand} {cs : List T} {i : TI} (ho : o.op = .load t x) (ht : D.f t = some i) (hx : oe env x = some (.c (.fa cs))) (hv : ldv i (cs.map C.t) = some v) : OpOk P n o env h v h := by
  refine .val fun w S ι a r1 r2 => ?_
  obtain ⟨B, off, hx, hS, hc⟩ := oe_ok r2 hx
  have ex : ∃ vs : List Value, vs.length = cs.length ∧ ∀ j t, cs[j]? = some t → ∃ u, vs[j]? = some u ∧ w.cell? ⟨B, off + j, none⟩ = some u ∧ RT w S t u := by
    refine ⟨(List.range cs.length).map fun j => (w.cell? ⟨B, off + j, none⟩).getD undef, by simp, fun j t hj => ?_⟩
    obtain ⟨u, h1, h2⟩ := hc j t hj
    have hlt : j < cs.length := (List.getElem?_eq_some_iff.1 hj).1
    exact ⟨u, by simp [hlt, h1], h1, h2⟩
  obtain ⟨vs, l1, l2⟩ := ex
  have hcs : RCs w S ι h (cs.map C.t) vs := ⟨by simp [l1], fun j c u h1 h2 => by
    rw [List.getElem?_map] at h1
    obtain ⟨t', g1, rfl⟩ := Option.map_eq_some_iff.1 h1
    obtain ⟨u', g2, _, g4⟩ := l2 j t' g1
    rw [h2] at g2; injection g2 with g2; subst g2; exact g4⟩
  obtain ⟨u, k1, k2⟩ := ld_ok (P := P) (D.ok t i ht) hv hcs (B := B) (off := off) (fun j u hu => by
    have hlt : j < cs.length := by rw [← l1]; exact (List.getElem?_eq_some_iff.1 hu).1
    obtain ⟨u', g2, g3, _⟩ := l2 j _ (List.getElem?_eq_getElem hlt)
    rw [hu] at g2; injection g2 with g2; subst g2; exact g3)
  exact ⟨u, by simp [execOp, ho, hx, Instr.loadAt, Instr.sureAddr, k1], k2⟩
theorem OpOk.ldA (D : Tab P) {t : Nat} {x : Operand} {b k i j sz : Nat} {es : List (List C)} {el : List C} {ti : TI} (ho : o.op = .load t x) (ht : D.f t = some ti) (hx : oe env x = some (.c (.ap b k i j))) (hb : h[b]? = some (.arr es sz)) (hk : k = es.length) (hel : es[i]? = some el) (hv : ldv ti (el.drop j) = some v) : OpOk P n o env h v h := by
  refine .val fun w S ι a r1 r2 => ?_
  obtain ⟨_, hx⟩ := oe_ok r2 hx
  obtain ⟨_, hx⟩ := hx es sz hb
  obtain ⟨B, i1, hx⟩ := hx hk
  obtain ⟨_, hlen, hA⟩ := r1.arr b es sz hb
  rcases hA with ⟨rfl, _⟩ | ⟨B', vs, e, j1, j2, j3, j4⟩
  · simp at hel
  rw [j1] at i1; injection i1 with i1; subst i1
  have hlt : i < es.length := (List.getElem?_eq_some_iff.1 hel).1
  have hell : el.length = sz := hlen el (List.mem_of_getElem? hel)
  have hbd : i * sz + sz ≤ vs.size := by
    have : (i + 1) * sz ≤ es.length * sz := Nat.mul_le_mul_right _ hlt
    rw [Nat.add_mul, Nat.one_mul] at this; omega
  have hcs : RCs w S ι h el ((vs.toList.drop (i * sz)).take sz) := ⟨by simp; omega, fun m c u h1 h2 => by
    rw [List.getElem?_take] at h2
    split at h2
    · rw [List.getElem?_drop] at h2
      obtain ⟨u', g1, g2⟩ := j4 i el m c hel h1
      simp only [Array.getElem?_toList] at h2
      rw [g1] at h2; injection h2 with h2; subst h2; exact g2
    · cases h2⟩
  obtain ⟨u, k1, k2⟩ := ld_ok (P := P) (D.ok t ti ht) hv (hcs.drop j) (B := B') (off := i * sz + j) (fun m u hu => by
    rw [cell_of j2]
    rw [List.getElem?_drop, List.getElem?_take] at hu
    split at hu
    · rw [List.getElem?_drop] at hu
      simpa [Nat.add_assoc] using hu
    · cases hu)
  exact ⟨u, by simp [execOp, ho, hx, Instr.loadAt, Instr.sureAddr, k1], k2⟩

/-! ### Addresses -/
theorem field_ok {w : World} {t : Nat} {i : TI} (hi : i.ok P t) {fs : List (Nat × Nat)} (hk : i.k = .st fs) {f off size : Nat} (hf : fs[f]? = some (off, size)) (h0 : size ≠ 0) {B p : Nat} :
    (Instr.fieldAt t (.pointer (some ⟨B, p, none⟩)) f).run P w = .ok (.pointer (some ⟨B, p + off, none⟩)) w := by
  have hu := hi.und
  rw [hk] at hu
  obtain ⟨F, hu, hF⟩ := hu
  subst hF
  rw [List.getElem?_map] at hf
  obtain ⟨fd, g1, g2⟩ := Option.map_eq_some_iff.1 hf
  injection g2 with g2 g3
  have g1' : F[f]? = some fd := by simpa using g1
  have hsz : (Go.sizeOf fd.type).run P w = .ok size w := by
    cases hq : P.info? fd.type with
    | none => rw [hq] at g3; simp at g3; exact absurd g3.symm h0
    | some q => rw [hq] at g3; simp [Go.sizeOf, typeInfo, hq] at g3 ⊢; exact g3
  simp [Instr.fieldAt, run_underlying hu, g1', Instr.sureAddr, fieldPlace, hsz, h0, add_at, g2]
theorem OpOk.faB (D : Tab P) {t f : Nat} {x : Operand} {b p off size : Nat} {fs : List (Nat × Nat)} {i : TI} (ho : o.op = .fieldAddr t x f) (ht : D.f t = some i) (hk : i.k = .st fs) (hf : fs[f]? = some (off, size)) (h0 : size ≠ 0) (hx : oe env x = some (.c (.ptr b p))) {cs : List C} (hb : h[b]? = some (.box cs)) : OpOk P n o env h (.c (.ptr b (p + off))) h := by
  refine .val fun w S ι a r1 r2 => ?_
  obtain ⟨l, hx⟩ := oe_ok r2 hx
  obtain ⟨B, i1, hx⟩ := hx cs hb
  refine ⟨_, by simp only [execOp, ho, hx, Sem.run_bind, field_ok (D.ok t i ht) hk hf h0, Result.andThen_ok, Sem.run_pure], l, fun cs' hc => ⟨B, i1, rfl⟩⟩
theorem OpOk.faF (D : Tab P) {t f : Nat} {x : Operand} {cs : List T} {off size : Nat} {fs : List (Nat × Nat)} {i : TI} (ho : o.op = .fieldAddr t x f) (ht : D.f t = some i) (hk : i.k = .st fs) (hf : fs[f]? = some (off, size)) (h0 : size ≠ 0) (hx : oe env x = some (.c (.fa cs))) : OpOk P n o env h (.c (.fa (cs.drop off))) h := by
  refine .val fun w S ι a r1 r2 => ?_
  obtain ⟨B, p, hx, hS, hc⟩ := oe_ok r2 hx
  refine ⟨_, by simp only [execOp, ho, hx, Sem.run_bind, field_ok (D.ok t i ht) hk hf h0, Result.andThen_ok, Sem.run_pure], B, p + off, rfl, hS, fun j t hj => ?_⟩
  rw [List.getElem?_drop] at hj
  obtain ⟨u, h1, h2⟩ := hc (off + j) t hj
  exact ⟨u, by rw [Nat.add_assoc]; exact h1, h2⟩
theorem OpOk.faA (D : Tab P) {t f : Nat} {x : Operand} {b k p j off size : Nat} {fs : List (Nat × Nat)} {i : TI} (ho : o.op = .fieldAddr t x f) (ht : D.f t = some i) (hk : i.k = .st fs) (hf : fs[f]? = some (off, size)) (h0 : size ≠ 0) (hx : oe env x = some (.c (.ap b k p j))) {es : List (List C)} {sz : Nat} (hb : h[b]? = some (.arr es sz)) (hn : k = es.length) : OpOk P n o env h (.c (.ap b k p (j + off))) h := by
  refine .val fun w S ι a r1 r2 => ?_
  obtain ⟨l, hx⟩ := oe_ok r2 hx
  obtain ⟨l2, hx⟩ := hx es sz hb
  obtain ⟨B, i1, hx⟩ := hx hn
  refine ⟨.pointer (some ⟨B, p * sz + j + off, none⟩), by simp only [execOp, ho, hx, Sem.run_bind, field_ok (D.ok t i ht) hk hf h0, Result.andThen_ok, Sem.run_pure], l, fun es' sz' hc => ?_⟩
  rw [hb] at hc; injection hc with hc; injection hc with e1 e2; subst e1; subst e2
  exact ⟨l2, fun _ => ⟨B, i1, by rw [Nat.add_assoc]⟩⟩
/-- The address of an element. -/
theorem OpOk.ixF (D : Tab P) {t e : Nat} {x y : Operand} {es : List (List T)} {el : List T} {k : IntKind} {m : Int} {i ie : TI} (ho : o.op = .indexAddr t x y) (ht : D.f t = some i) (hk : i.k = .sl e) (hte : D.f e = some ie) (hx : oe env x = some (.c (.t (.l es)))) (hy : oe env y = some (.c (.t (.i k m))))
    (h0 : 0 ≤ m) (hm : es[m.toNat]? = some el) (hl : el.length = ie.size) : OpOk P n o env h (.c (.fa el)) h := by
  refine .val fun w S ι a r1 r2 => ?_
  obtain ⟨A, cap, sz, hx, hcap, hsz, hA⟩ := (oe_ok r2 hx).l
  have hy := (oe_ok r2 hy).i
  have hu := (D.ok t i ht).und
  rw [hk] at hu
  have hu : P.underlying t = some (.slice e) := hu
  have hlt : m.toNat < es.length := (List.getElem?_eq_some_iff.1 hm).1
  rcases hA with rfl | ⟨B, p, rfl, hS, hA⟩
  · simp at hm
  have e1 : sz = ie.size := by rw [← hl]; exact (hsz el (List.mem_of_getElem? hm)).symm
  subst e1
  have hcond : 0 ≤ m ∧ m < (es.length : Int) := ⟨h0, by omega⟩
  have hd := (D.ok e ie hte).sizeOf (w := w)
  refine ⟨.pointer (some ⟨B, p + m.toNat * ie.size, none⟩), ?_, B, p + m.toNat * ie.size, rfl, hS, fun j t' hj => hA m.toNat el j t' hm hj⟩
  simp [execOp, ho, hx, hy, Instr.indexAt, asIntOf, run_underlying hu, hcond, hd, add_at]
theorem OpOk.ixA (D : Tab P) {t e : Nat} {x y : Operand} {b q off len sz : Nat} {es : List (List C)} {k : IntKind} {m : Int} {i ie : TI} (ho : o.op = .indexAddr t x y) (ht : D.f t = some i) (hk : i.k = .sl e) (hte : D.f e = some ie) (hx : oe env x = some (.c (.sl b q off len))) (hy : oe env y = some (.c (.t (.i k m))))
    (hb : h[b]? = some (.arr es sz)) (hq : q = es.length) (hl : sz = ie.size) (h0 : 0 ≤ m) (hm : m < len) : OpOk P n o env h (.c (.ap b q (off + m.toNat) 0)) h := by
  refine .val fun w S ι a r1 r2 => ?_
  obtain ⟨lb, hx⟩ := oe_ok r2 hx
  obtain ⟨l2, hx⟩ := hx es sz hb
  obtain ⟨l3, hx⟩ := hx hq
  have hy := (oe_ok r2 hy).i
  have hu := (D.ok t i ht).und
  rw [hk] at hu
  have hu : P.underlying t = some (.slice e) := hu
  cases hB : ι b with
  | none => rw [hB] at hx; obtain ⟨A, hx⟩ := hx; obtain ⟨_, _, hA⟩ := r1.arr b es sz hb; rcases hA with ⟨rfl, _⟩ | ⟨B', vs, e, j1, _⟩
            · simp at hq; omega
            · rw [hB] at j1; cases j1
  | some B =>
    rw [hB] at hx
    obtain ⟨cap, hx, hc1, hc2⟩ := hx
    subst hl
    have hcond : 0 ≤ m ∧ m < (len : Int) := ⟨h0, hm⟩
    have hd := (D.ok e ie hte).sizeOf (w := w)
    refine ⟨.pointer (some ⟨B, (off + m.toNat) * ie.size + 0, none⟩), ?_, lb, fun es' sz' hc => ?_⟩
    · simp [execOp, ho, hx, hy, Instr.indexAt, asIntOf, run_underlying hu, hcond, hd, add_at, Nat.add_mul]
    · rw [hb] at hc; injection hc with hc; injection hc with e1 e2; subst e1; subst e2
      exact ⟨l2, fun _ => ⟨B, hB, rfl⟩⟩
theorem OpOk.nilB {x : Operand} {b off : Nat} {cs : List C} (ho : o.op = .nilCheck x) (hx : oe env x = some (.c (.ptr b off))) (hb : h[b]? = some (.box cs)) : OpOk P n o env h (.c (.ptr b off)) h := by
  refine .val fun w S ι a r1 r2 => ?_
  have hx := oe_ok r2 hx
  obtain ⟨B, i1, e1⟩ := hx.2 cs hb
  exact ⟨a.eval x, by simp [execOp, ho, e1], hx⟩
end
end Go.YtamlleimfopmhaaMc

namespace Go.YtamlleimfopmhaaMc
section
variable {P : Program} {n : Nat} {o : Oper} {env : Env} {h h' : List Blk} {v : V}
/-- A cell that surely holds one value, in a heap. -/
def C.one (h : List Blk) : C → Bool
  | .u => false
  | .k v => v.oneCell'
  | .sl b q _ _ => match h[b]? with | some (.arr es _) => q == es.length | _ => false
  | .ptr b _ => match h[b]? with | some (.box _) => true | _ => false
  | .ap b q _ _ => match h[b]? with | some (.arr es _) => q == es.length | _ => false
  | _ => true
theorem RC.one' {w : World} {S : Nat → Nat} {ι : Nat → Option Nat} {c : C} {u : Value} (r : RC w S ι h c u) (hk : c.one h = true) : u.oneCell' = true := by
  cases c with
  | t x => cases r <;> rfl
  | emp => obtain ⟨a, rfl⟩ := r; rfl
  | np => cases r; rfl
  | fa cs => obtain ⟨B, o, rfl, _⟩ := r; rfl
  | u => cases hk
  | k x => cases r; exact hk
  | sl b q off len =>
    obtain ⟨_, r⟩ := r
    simp only [C.one] at hk
    split at hk
    · rename_i es sz he
      obtain ⟨_, r⟩ := r es sz he
      obtain ⟨_, r⟩ := r (by simpa using hk)
      cases hB : ι b with
      | none => rw [hB] at r; obtain ⟨a, rfl⟩ := r; rfl
      | some B => rw [hB] at r; obtain ⟨cap, rfl, _⟩ := r; rfl
    · cases hk
  | ptr b off =>
    obtain ⟨_, r⟩ := r
    simp only [C.one] at hk
    split at hk
    · rename_i cs he
      obtain ⟨B, _, rfl⟩ := r cs he; rfl
    · cases hk
  | ap b q i j =>
    obtain ⟨_, r⟩ := r
    simp only [C.one] at hk
    split at hk
    · rename_i es sz he
      obtain ⟨_, r⟩ := r es sz he
      obtain ⟨B, _, rfl⟩ := r (by simpa using hk); rfl
    · cases hk
/-- The cells of a value that is stored. -/
def V.cl (h : List Blk) : V → Option (List C)
  | .c x => if x.one h then some [x] else none
  | .ag cs => some cs
  | .tu _ => none
theorem cl_ok {w : World} {S : Nat → Nat} {ι : Nat → Option Nat} {u : Value} {cs : List C} (r : RV w S ι h v u) (hc : v.cl h = some cs) : RCs w S ι h cs u.cells.toList := by
  cases v with
  | c x =>
    simp only [V.cl] at hc
    split at hc
    · rename_i h1
      injection hc with hc; subst hc
      have := RC.one' r h1
      have e : u.cells = #[u] := by cases u <;> first | rfl | simp [Value.oneCell'] at this
      rw [e]
      exact ⟨rfl, fun j c u' g1 g2 => by
        cases j with
        | zero => simp at g1 g2; subst g1; subst g2; exact r
        | succ j => simp at g1⟩
    · cases hc
  | ag cs' => simp only [V.cl] at hc; injection hc with hc; subst hc; obtain ⟨vs, rfl, h2⟩ := r; exact h2
  | tu xs => cases hc

/-! ### New variables -/
theorem HR.top {w : World} {S : Nat → Nat} {ι : Nat → Option Nat} (r : HR w S ι h) : S w.heap.size = 0 := by
  by_cases hS : S w.heap.size = 0
  · exact hS
  · have := r.low _ hS; omega
theorem HR.pushBox {w : World} {S : Nat → Nat} {ι : Nat → Option Nat} (r : HR w S ι h) {cs : List C} {vs : Array Value} {e : TypeId} (hc : RCs w S ι h cs vs.toList) :
    HR { w with heap := w.heap.push (.cells vs e) } S (upd ι h.length (some w.heap.size)) (h ++ [.box cs]) ∧ Pres w S ι h { w with heap := w.heap.push (.cells vs e) } S (upd ι h.length (some w.heap.size)) (h ++ [.box cs]) ∧
      RC { w with heap := w.heap.push (.cells vs e) } S (upd ι h.length (some w.heap.size)) (h ++ [.box cs]) (.ptr h.length 0) (.pointer (some ⟨w.heap.size, 0, none⟩)) := by
  have hz : ({ w with heap := w.heap.push (.cells vs e) } : World).heap.size = w.heap.size + 1 := by simp
  obtain ⟨k1, k2⟩ := r.new (w' := { w with heap := w.heap.push (.cells vs e) }) (S' := S) (fun B hB => heap_push_lt hB) (by omega) (fun _ _ => rfl) (fun B hB => by have := r.low B hB; omega) (fun B hB => .inl hB) (some w.heap.size)
    (fun B hB => by injection hB with hB; subst hB; exact ⟨Nat.le_refl _, by omega, r.top⟩) (.box cs) (fun p => ⟨_, vs, e, rfl, heap_push_new, hc.mono p⟩) (by simp)
  exact ⟨k1, k2, ⟨_, app_last .., by simp⟩, fun cs' _ => ⟨_, upd_eq .., rfl⟩⟩
theorem zero_ok {t : Nat} {i : TI} (hi : i.ok P t) : ∃ z, (∀ w, (zeroValue t).run P w = .ok z w) ∧ cvs z.cells.toList = some i.zero ∧ z.cells.size = i.size := by
  obtain ⟨q, z, h1, h2, h3, h4, h5, h6⟩ := hi.info
  exact ⟨z, fun w => by simp [zeroValue, typeInfo, h1, h4], h5, h6⟩
theorem OpOk.alloc (D : Tab P) {t : Nat} {i : TI} (ho : o.op = .alloc t) (ht : D.f t = some i) : OpOk P n o env h (.c (.ptr h.length 0)) (h ++ [.box i.zero]) := by
  refine .ofRun fun w S ι a r1 r2 => ?_
  obtain ⟨z, h1, h2, _⟩ := zero_ok (D.ok t i ht)
  obtain ⟨k1, k2, k3⟩ := r1.pushBox (e := t) (cvs_ok (w := w) (S := S) (ι := ι) (h := h) h2)
  exact ⟨_, _, _, _, by simp [execOp, ho, Instr.alloc, h1, newVar, newRow], k1, k2, k3⟩
theorem OpOk.box {t : Nat} {x : Operand} {cs : List C} (ho : o.op = .box t x) (hx : oe env x = some v) (hc : v.cl h = some cs) : OpOk P n o env h (.c (.ptr h.length 0)) (h ++ [.box cs]) := by
  refine .ofRun fun w S ι a r1 r2 => ?_
  obtain ⟨k1, k2, k3⟩ := r1.pushBox (e := t) (cl_ok (oe_ok r2 hx) hc)
  exact ⟨_, _, _, _, by simp [execOp, ho, Instr.box, newVar, newRow], k1, k2, k3⟩

/-! ### Writing -/
def wr (cs : List C) (off : Nat) : List C → List C
  | [] => cs
  | x :: xs => wr (cs.set off x) (off + 1) xs
theorem upd_self {ι : Nat → Option Nat} {b B : Nat} (hB : ι b = some B) : upd ι b (some B) = ι := by
  funext k; unfold upd; split
  · rename_i e; rw [e, hB]
  · rfl
theorem set1 {w : World} {S : Nat → Nat} {ι : Nat → Option Nat} (r : HR w S ι h) {b B off : Nat} {cs : List C} {c : C} {u : Value} (hb : h[b]? = some (.box cs)) (hB : ι b = some B) (hc : RC w S ι h c u) :
    HR (w.setCell ⟨B, off, none⟩ u) S ι (h.set b (.box (cs.set off c))) ∧ Pres w S ι h (w.setCell ⟨B, off, none⟩ u) S ι (h.set b (.box (cs.set off c))) := by
  obtain ⟨B', vs, e, j1, j2, j3⟩ := r.box b cs hb
  rw [j1] at hB; injection hB with hB; subst hB
  have hz : (w.setCell ⟨B', off, none⟩ u).heap.size = w.heap.size := setCell_size
  have := r.chg (w' := w.setCell ⟨B', off, none⟩ u) (S' := S) (blk' := .box (cs.set off c)) hb trivial (.inl j1) ⟨by rw [hz]; exact (r.own b _ B' hb trivial j1).2, (r.own b _ B' hb trivial j1).1⟩
    (fun B1 hne _ => setCell_ne (Ne.symm hne)) (by omega) (fun _ _ => rfl) (fun B1 hB1 => by rw [hz]; exact r.low B1 hB1) (fun B1 hB1 => .inl hB1) j1 (fun p => by
      refine ⟨_, e, setCell_eq j2, by simp [j3.1], fun j c' v' g1 g2 => ?_⟩
      simp only [Array.toList_setIfInBounds, List.getElem?_set] at g1 g2
      by_cases e1 : off = j
      · rw [if_pos e1] at g1 g2
        split at g1
        · split at g2
          · injection g1 with g1; injection g2 with g2; subst g1; subst g2; exact hc.mono p
          · cases g2
        · cases g1
      · rw [if_neg e1] at g1 g2; exact (j3.2 j c' v' g1 g2).mono p)
  rwa [upd_self j1] at this
theorem setN {b B : Nat} {ι : Nat → Option Nat} {S : Nat → Nat} (hB : ι b = some B) : ∀ (xs : List C) (us : List Value) (off : Nat) (cs : List C) (h : List Blk) (w : World), HR w S ι h → h[b]? = some (.box cs) → RCs w S ι h xs us →
    HR (w.setCells B off us) S ι (h.set b (.box (wr cs off xs))) ∧ Pres w S ι h (w.setCells B off us) S ι (h.set b (.box (wr cs off xs)))
  | [], us, off, cs, h, w, r, hb, hc => by
    have : us = [] := by have := hc.1; simp at this; exact List.length_eq_zero_iff.1 this.symm
    subst this
    have e : h.set b (.box cs) = h := by
      apply List.ext_getElem?
      intro k
      rw [List.getElem?_set]
      split
      · rename_i e; subst e; rw [hb]; have := (List.getElem?_eq_some_iff.1 hb).1; simp [this]
      · rfl
    simp only [wr, World.setCells, e]
    exact ⟨r, .refl ..⟩
  | x :: xs, [], off, cs, h, w, r, hb, hc => by have := hc.1; simp at this
  | x :: xs, u :: us, off, cs, h, w, r, hb, hc => by
    obtain ⟨k1, k2⟩ := set1 (off := off) r hb hB (hc.2 0 x u rfl rfl)
    have hlt := (List.getElem?_eq_some_iff.1 hb).1
    have hc' : RCs (w.setCell ⟨B, off, none⟩ u) S ι (h.set b (.box (cs.set off x))) xs us :=
      ⟨by have := hc.1; simpa using this, fun j c v g1 g2 => (hc.2 (j + 1) c v (by simpa using g1) (by simpa using g2)).mono k2⟩
    obtain ⟨m1, m2⟩ := setN hB xs us (off + 1) (cs.set off x) _ _ k1 (by simp [hlt]) hc'
    simp only [List.set_set] at m1 m2
    exact ⟨m1, k2.trans m2⟩
theorem RCs.one {w : World} {S : Nat → Nat} {ι : Nat → Option Nat} {cs : List C} {us : List Value} (r : RCs w S ι h cs us) (hk : cs.all (·.one h) = true) : ∀ u ∈ us, u.oneCell' = true := by
  intro u hu
  obtain ⟨j, hj⟩ := List.getElem?_of_mem hu
  have hlt : j < cs.length := by rw [r.1]; exact (List.getElem?_eq_some_iff.1 hj).1
  exact (r.2 j _ u (List.getElem?_eq_getElem hlt) hj).one' (List.all_eq_true.1 hk _ (List.getElem_mem hlt))
/-- A store into a variable. -/
theorem OpOk.stB (D : Tab P) {t : Nat} {x y : Operand} {b off : Nat} {cs xs : List C} {i : TI} (ho : o.op = .store t x y) (ht : D.f t = some i) (hx : oe env x = some (.c (.ptr b off))) (hb : h[b]? = some (.box cs)) (hy : oe env y = some v) (hc : v.cl h = some xs) (hk : xs.all (·.one h) = true) (hsz : xs.length = i.size) (hin : off + xs.length ≤ cs.length) :
    OpOk P n o env h (.c .u) (h.set b (.box (wr cs off xs))) := by
  refine .ofSkip fun w S ι a r1 r2 => ?_
  obtain ⟨_, hx⟩ := oe_ok r2 hx
  obtain ⟨B, i1, hx⟩ := hx cs hb
  have hcl := cl_ok (oe_ok r2 hy) hc
  obtain ⟨k1, k2⟩ := setN i1 xs _ off cs h w r1 hb hcl
  obtain ⟨B', vs, e, j1, j2, j3⟩ := r1.box b cs hb
  rw [j1] at i1; injection i1 with i1; subst i1
  have hvl : cs.length = vs.size := by simpa using j3.1
  have hxl : xs.length = (a.eval y).cells.size := by simpa using hcl.1
  have hrun := run_storeCells_cells (P := P) B' off (a.eval y).cells.toList 0 w (fun j hj => by rw [cell_of j2]; simp at hj ⊢; omega) (fun j hj => frozen_of j2) (hcl.one hk)
  refine ⟨_, S, ι, ?_, k1, k2⟩
  simp only [Nat.add_zero] at hrun
  simp [execOp, ho, hx, Instr.storeAt, Instr.sureAddr, storeVar, (D.ok t i ht).sizeOf, ← hxl, hsz, hrun]

/-! ### Values put together and taken apart -/
def bldC (fs : List (Nat × Nat)) (cs : List C) (h : List Blk) : List (Nat × V) → Option (List C)
  | [] => some cs
  | (i, v) :: rest => match fs[i]?, v.cl h with
    | some (off, size), some xs => if xs.length = size ∧ off + xs.length ≤ cs.length then bldC fs (wr cs off xs) h rest else none
    | _, _ => none
def oes (env : Env) : List (Nat × Operand) → Option (List (Nat × V))
  | [] => some []
  | (i, x) :: r => match oe env x, oes env r with
    | some v, some vs => some ((i, v) :: vs)
    | _, _ => none
theorem wrv {w : World} {S : Nat → Nat} {ι : Nat → Option Nat} : ∀ (xs : List C) (us : List Value) (off : Nat) (cs : List C) (vs : Array Value), RCs w S ι h xs us → RCs w S ι h cs vs.toList →
    RCs w S ι h (wr cs off xs) ((us.zipIdx).foldl (fun (a : Array Value) (p : Value × Nat) => a.setIfInBounds (off + p.2) p.1) vs).toList := by
  have gen : ∀ (xs : List C) (us : List Value) (off k : Nat) (cs : List C) (vs : Array Value), RCs w S ι h xs us → RCs w S ι h cs vs.toList →
    RCs w S ι h (wr cs (off + k) xs) ((us.zipIdx k).foldl (fun (a : Array Value) (p : Value × Nat) => a.setIfInBounds (off + p.2) p.1) vs).toList := by
    intro xs
    induction xs with
    | nil => intro us off k cs vs h1 h2; have : us = [] := List.length_eq_zero_iff.1 h1.1.symm; subst this; exact h2
    | cons x xs ih =>
      intro us off k cs vs h1 h2
      cases us with
      | nil => have := h1.1; simp at this
      | cons u us =>
        simp only [List.zipIdx_cons, List.foldl_cons, wr]
        refine ih us off (k + 1) _ _ ⟨by have := h1.1; simpa using this, fun j c v g1 g2 => h1.2 (j + 1) c v (by simpa using g1) (by simpa using g2)⟩ ⟨by simp [h2.1], fun j c v g1 g2 => ?_⟩
        simp only [Array.toList_setIfInBounds, List.getElem?_set] at g1 g2
        by_cases e1 : off + k = j
        · rw [if_pos e1] at g1 g2
          split at g1
          · split at g2
            · injection g1 with g1; injection g2 with g2; subst g1; subst g2; exact h1.2 0 x u rfl rfl
            · cases g2
          · cases g1
        · rw [if_neg e1] at g1 g2; exact h2.2 j c v g1 g2
  intro xs us off cs vs h1 h2
  exact gen xs us off 0 cs vs h1 h2
theorem fill_ok {w : World} {S : Nat → Nat} {ι : Nat → Option Nat} {fs : List (Nat × Nat)} {place : Nat → Option (Nat × Nat)} (hp : ∀ i x, fs[i]? = some x → place i = some x) : ∀ (ps : List (Nat × V)) (us : List (Nat × Value)) (cs cs' : List C) (vs : Array Value), ps.length = us.length →
    (∀ (j : Nat) i x u, ps[j]? = some x → us[j]? = some (i, u) → x.1 = i ∧ RV w S ι h x.2 u) → RCs w S ι h cs vs.toList → bldC fs cs h ps = some cs' → ∃ vs', Instr.fill place vs us = some vs' ∧ RCs w S ι h cs' vs'.toList
  | [], [], cs, cs', vs, _, _, hc, hb => by simp only [bldC] at hb; injection hb with hb; subst hb; exact ⟨vs, rfl, hc⟩
  | [], _ :: _, _, _, _, hl, _, _, _ => by simp at hl
  | _ :: _, [], _, _, _, hl, _, _, _ => by simp at hl
  | (i, x) :: ps, (i', u) :: us, cs, cs', vs, hl, hr, hc, hb => by
    obtain ⟨e1, rx⟩ := hr 0 i' (i, x) u rfl rfl
    simp only [] at e1; subst e1
    simp only [bldC] at hb
    split at hb
    · rename_i off size xs h1 h2
      split at hb
      · rename_i hcond
        have hcl := cl_ok rx h2
        have hxl : xs.length = u.cells.size := by simpa using hcl.1
        have hcv : cs.length = vs.size := by simpa using hc.1
        obtain ⟨vs', g1, g2⟩ := fill_ok hp ps us (wr cs off xs) cs' _ (by simpa using hl) (fun j i x u a b => hr (j + 1) i x u (by simpa using a) (by simpa using b)) (wrv xs _ off cs vs hcl hc) hb
        refine ⟨vs', ?_, g2⟩
        have h1' := hp i _ h1
        have hno : ¬ (¬ u.cells.size = size ∨ vs.size < off + u.cells.size) := by omega
        simp only [Instr.fill, h1']
        rw [if_neg (by simpa using hno)]
        rw [← Array.foldl_toList, Array.toList_zipIdx]
        exact g1
      · cases hb
    · cases hb
theorem oes_ok {w : World} {S : Nat → Nat} {ι : Nat → Option Nat} {a : Act} (r : ER w S ι h env a.tmps) : ∀ {ps : List (Nat × Operand)} {vs : List (Nat × V)}, oes env ps = some vs →
    vs.length = ps.length ∧ ∀ (j : Nat) i x u, vs[j]? = some x → (ps.map fun p => (p.1, a.eval p.2))[j]? = some (i, u) → x.1 = i ∧ RV w S ι h x.2 u
  | [], vs, hv => by simp only [oes] at hv; injection hv with hv; subst hv; exact ⟨rfl, fun j i x u h1 => by simp at h1⟩
  | (i, x) :: ps, vs, hv => by
    simp only [oes] at hv
    split at hv
    · rename_i v vs' h1 h2
      injection hv with hv; subst hv
      obtain ⟨l1, l2⟩ := oes_ok r h2
      refine ⟨by simp [l1], fun j i' x' u g1 g2 => ?_⟩
      cases j with
      | zero =>
        simp only [List.getElem?_cons_zero, Option.some.injEq, List.map_cons] at g1 g2
        subst g1; injection g2 with g2 g3; subst g2; subst g3; exact ⟨rfl, oe_ok r h1⟩
      | succ j => exact l2 j i' x' u (by simpa using g1) (by simpa using g2)
    · cases hv
theorem OpOk.build (D : Tab P) {t : Nat} {ps : Array (Nat × Operand)} {vs : List (Nat × V)} {fs : List (Nat × Nat)} {i : TI} {cs : List C} (ho : o.op = .build t ps) (ht : D.f t = some i) (hk : i.k = .st fs) (h0 : fs.all (·.2 != 0) = true) (hv : oes env ps.toList = some vs) (hb : bldC fs i.zero h vs = some cs) : OpOk P n o env h (.ag cs) h := by
  refine .val fun w S ι a r1 r2 => ?_
  obtain ⟨z, z1, z2, _⟩ := zero_ok (D.ok t i ht)
  have hu := (D.ok t i ht).und
  rw [hk] at hu
  obtain ⟨F, hu, hF⟩ := hu
  obtain ⟨l1, l2⟩ := oes_ok r2 hv
  have hmap : ∀ w : World, (F.mapM (fun f => do pure (f.offset, ← Go.sizeOf f.type)) : Sem (Array (Nat × Nat))).run P w = .ok fs.toArray w := by
    have gen : ∀ (L : List Field) (acc : List (Nat × Nat)) (w : World), (∀ f ∈ L, ((P.info? f.type).map (·.size)).getD 0 ≠ 0) → (List.mapM (fun f : Field => (Prod.mk f.offset <$> Go.sizeOf f.type : Sem (Nat × Nat))) L).run P w = .ok (L.map fun f => (f.offset, ((P.info? f.type).map (·.size)).getD 0)) w := by
      intro L
      induction L with
      | nil => intro _ w _; simp
      | cons f L ih =>
        intro acc w hne
        have hf := hne f (by simp)
        have hs : (Go.sizeOf f.type).run P w = .ok (((P.info? f.type).map (·.size)).getD 0) w := by
          cases hq : P.info? f.type with
          | none => rw [hq] at hf; simp at hf
          | some q => simp [Go.sizeOf, typeInfo, hq]
        simp [List.mapM_cons, hs, ih acc w (fun g hg => hne g (by simp [hg]))]
    intro w
    have := gen F.toList [] w (fun f hf => by
      have : (f.offset, ((P.info? f.type).map (·.size)).getD 0) ∈ fs := by rw [← hF]; exact List.mem_map.2 ⟨f, hf, rfl⟩
      have := List.all_eq_true.1 h0 _ this
      simpa using this)
    rw [hF] at this
    rw [Array.mapM_eq_mapM_toList]
    simp [this]
  obtain ⟨vs', g1, g2⟩ := fill_ok (w := w) (S := S) (ι := ι) (h := h) (fs := fs) (place := fun i => fs.toArray[i]?) (fun i x hx => by simpa using hx) vs (ps.toList.map fun p => (p.1, a.eval p.2)) i.zero cs z.cells (by simp [l1]) l2 (cvs_ok z2) hb
  refine ⟨.agg vs', ?_, vs', rfl, g2⟩
  have e1 : (ps.map fun x => (x.1, a.eval x.2)).toList = ps.toList.map fun p => (p.1, a.eval p.2) := by simp
  simp only [execOp, ho, Instr.build, Sem.run_bind, z1, run_underlying hu, Result.andThen_ok, hmap]
  have e2 : Instr.fill (fun i => fs.toArray[i]?) z.cells (ps.map fun (x : Nat × Operand) => (x.1, a.eval x.2)).toList = some vs' := by rw [e1]; exact g1
  simp only [e2, Sem.run_pure, Result.andThen_ok]
theorem OpOk.extract {x : Operand} {j : Nat} {xs : List X} {y : X} (ho : o.op = .extract x j) (hx : oe env x = some (.tu xs)) (hy : xs[j]? = some y) : OpOk P n o env h y.v h := by
  refine .val fun w S ι a _ r2 => ?_
  obtain ⟨vs, h1, h2, h3⟩ := oe_ok r2 hx
  have hlt : j < vs.size := by rw [← h2]; exact (List.getElem?_eq_some_iff.1 hy).1
  have hv : vs[j]? = some vs[j] := Array.getElem?_eq_getElem hlt
  exact ⟨vs[j], by simp [execOp, ho, h1, Instr.extract, hv], (h3 j y _ hy hv).v⟩
end
end Go.YtamlleimfopmhaaMc

namespace Go.YtamlleimfopmhaaMc
theorem setCells_at {B : Nat} {e : TypeId} {fz : Nat × Nat} : ∀ (us : List Value) (o : Nat) (w : World) (vs : Array Value), w.heap[B]? = some (.cells vs e fz) →
    ∃ vs', (w.setCells B o us).heap[B]? = some (.cells vs' e fz) ∧ vs'.size = vs.size ∧ ∀ k, vs'[k]? = if o ≤ k ∧ k < o + us.length ∧ k < vs.size then us[k - o]? else vs[k]?
  | [], o, w, vs, h => ⟨vs, h, rfl, fun k => by rw [if_neg (by simp; omega)]⟩
  | u :: us, o, w, vs, h => by
    obtain ⟨vs', h1, h2, h3⟩ := setCells_at us (o + 1) (w.setCell ⟨B, o, none⟩ u) _ (setCell_eq h)
    refine ⟨vs', h1, by simpa using h2, fun k => ?_⟩
    rw [h3 k]
    simp only [Array.size_setIfInBounds, List.length_cons]
    by_cases e0 : k = o
    · subst e0
      rw [if_neg (by omega)]
      by_cases hk : k < vs.size
      · rw [if_pos (by omega)]; simp [hk]
      · rw [if_neg (by omega)]; simp [hk]
    · by_cases e1 : o + 1 ≤ k ∧ k < o + 1 + us.length ∧ k < vs.size
      · rw [if_pos e1, if_pos (by omega)]
        have : k - o = (k - (o + 1)) + 1 := by omega
        rw [this, List.getElem?_cons_succ]
      · rw [if_neg e1, if_neg (by omega)]
        rw [Array.getElem?_setIfInBounds_ne (Ne.symm e0)]
theorem setCells_ne {B B' : Nat} (hne : B ≠ B') : ∀ (us : List Value) (o : Nat) (w : World), (w.setCells B o us).heap[B']? = w.heap[B']?
  | [], _, _ => rfl
  | u :: us, o, w => by rw [World.setCells, setCells_ne hne us, setCell_ne hne]
theorem setCells_kp {B : Nat} : ∀ (us : List Value) (o : Nat) (w : World), Kp w (w.setCells B o us)
  | [], _, _ => ⟨rfl, rfl, rfl⟩
  | u :: us, o, w => by rw [World.setCells]; exact Kp.trans (b := w.setCell ⟨B, o, none⟩ u) ⟨rfl, rfl, rfl⟩ (setCells_kp us _ _)
theorem setCells_size {B : Nat} : ∀ (us : List Value) (o : Nat) (w : World), (w.setCells B o us).heap.size = w.heap.size
  | [], _, _ => rfl
  | u :: us, o, w => by rw [World.setCells, setCells_size us, setCell_size]

/-- Rows of cells one behind the other. -/
def Rw (w : World) (S : Nat → Nat) (ι : Nat → Option Nat) (h : List Blk) (sz : Nat) (es : List (List C)) (vs : List Value) : Prop :=
  vs.length = es.length * sz ∧ ∀ i e j c, es[i]? = some e → e[j]? = some c → ∃ v, vs[i * sz + j]? = some v ∧ RC w S ι h c v
theorem Rw.mono {w w' : World} {S S' : Nat → Nat} {ι ι' : Nat → Option Nat} {h h' : List Blk} (p : Pres w S ι h w' S' ι' h') {sz : Nat} {es : List (List C)} {vs : List Value} (r : Rw w S ι h sz es vs) : Rw w' S' ι' h' sz es vs :=
  ⟨r.1, fun i e j c h1 h2 => let ⟨v, a, b⟩ := r.2 i e j c h1 h2; ⟨v, a, b.mono p⟩⟩
theorem Rw.one {w : World} {S : Nat → Nat} {ι : Nat → Option Nat} {h : List Blk} {sz : Nat} {es : List (List C)} {vs : List Value} (r : Rw w S ι h sz es vs) (hz : 0 < sz) (hs : ∀ e ∈ es, e.length = sz) (hk : es.all (·.all (·.one h)) = true) : ∀ u ∈ vs, u.oneCell' = true := by
  intro u hu
  obtain ⟨k, hk1⟩ := List.getElem?_of_mem hu
  have hlt : k < es.length * sz := by rw [← r.1]; exact (List.getElem?_eq_some_iff.1 hk1).1
  have hi : k / sz < es.length := (Nat.div_lt_iff_lt_mul hz).2 hlt
  have hj : k % sz < (es[k / sz]).length := by rw [hs _ (List.getElem_mem hi)]; exact Nat.mod_lt _ hz
  obtain ⟨v, h1, h2⟩ := r.2 (k / sz) _ (k % sz) _ (List.getElem?_eq_getElem hi) (List.getElem?_eq_getElem hj)
  rw [Nat.div_add_mod' k sz, hk1] at h1
  injection h1 with h1; subst h1
  exact h2.one' (List.all_eq_true.1 (List.all_eq_true.1 hk _ (List.getElem_mem hi)) _ (List.getElem_mem hj))
theorem Rw.append {w : World} {S : Nat → Nat} {ι : Nat → Option Nat} {h : List Blk} {sz : Nat} {es es' : List (List C)} {vs vs' : List Value} (r : Rw w S ι h sz es vs) (r' : Rw w S ι h sz es' vs') : Rw w S ι h sz (es ++ es') (vs ++ vs') := by
  refine ⟨by simp [r.1, r'.1, Nat.add_mul], fun i e j c h1 h2 => ?_⟩
  rw [List.getElem?_append] at h1
  split at h1
  · rename_i hi
    obtain ⟨v, a, b⟩ := r.2 i e j c h1 h2
    exact ⟨v, by rw [List.getElem?_append_left (List.getElem?_eq_some_iff.1 a).1]; exact a, b⟩
  · rename_i hi
    obtain ⟨v, a, b⟩ := r'.2 (i - es.length) e j c h1 h2
    refine ⟨v, ?_, b⟩
    have : i * sz = (i - es.length) * sz + es.length * sz := by rw [← Nat.add_mul]; congr 1; omega
    rw [List.getElem?_append_right (by rw [r.1]; omega), r.1]
    rw [show i * sz + j - es.length * sz = (i - es.length) * sz + j by omega]; exact a

/-- What an appended or copied slice holds. -/
def srcE (h : List Blk) : V → Option (List (List C))
  | .c (.t (.l es)) => some (es.map (·.map .t))
  | .c (.sl b q off len) => match h[b]? with
    | some (.arr es _) => if q = es.length then some ((es.drop off).take len) else none
    | _ => none
  | .c .emp => some []
  | _ => none
section
variable {P : Program} {n : Nat} {o : Oper} {env : Env} {h h' : List Blk} {v : V}
theorem rows_of {w : World} {S : Nat → Nat} {ι : Nat → Option Nat} {sz : Nat} (hz : 0 < sz) {es : List (List C)} {B p : Nat} (hs : ∀ e ∈ es, e.length = sz) (hc : ∀ (i : Nat) (e : List C) (j : Nat) c, es[i]? = some e → e[j]? = some c → ∃ v, w.cell? ⟨B, p + i * sz + j, none⟩ = some v ∧ RC w S ι h c v) :
    ∃ vs, Rw w S ι h sz es vs ∧ ∀ j u, vs[j]? = some u → w.cell? ⟨B, p + j, none⟩ = some u := by
  refine ⟨(List.range (es.length * sz)).map fun k => (w.cell? ⟨B, p + k, none⟩).getD undef, ⟨by simp, fun i e j c h1 h2 => ?_⟩, fun k u hu => ?_⟩
  · obtain ⟨v, a, b⟩ := hc i e j c h1 h2
    have hi : i < es.length := (List.getElem?_eq_some_iff.1 h1).1
    have hj : j < sz := by rw [← hs e (List.mem_of_getElem? h1)]; exact (List.getElem?_eq_some_iff.1 h2).1
    have hlt : i * sz + j < es.length * sz := by
      have : (i + 1) * sz ≤ es.length * sz := Nat.mul_le_mul_right _ hi
      rw [Nat.add_mul, Nat.one_mul] at this; omega
    exact ⟨v, by simp [hlt, ← Nat.add_assoc, a], b⟩
  · have hlt : k < es.length * sz := by have := (List.getElem?_eq_some_iff.1 hu).1; simpa using this
    have hi : k / sz < es.length := (Nat.div_lt_iff_lt_mul hz).2 hlt
    have hj : k % sz < (es[k / sz]).length := by rw [hs _ (List.getElem_mem hi)]; exact Nat.mod_lt _ hz
    obtain ⟨v, a, _⟩ := hc (k / sz) _ (k % sz) _ (List.getElem?_eq_getElem hi) (List.getElem?_eq_getElem hj)
    rw [Nat.add_assoc, Nat.div_add_mod' k sz] at a
    simp [hlt, a] at hu; rw [← hu]; exact a
theorem src_ok {w : World} {S : Nat → Nat} {ι : Nat → Option Nat} {u : Value} {es : List (List C)} {sz : Nat} (hz : 0 < sz) (r1 : HR w S ι h) (r : RV w S ι h v u) (he : srcE h v = some es) (hs : ∀ e ∈ es, e.length = sz) :
    ∃ A cap vs, u = .slice A es.length cap ∧ es.length ≤ cap ∧ Rw w S ι h sz es vs ∧ ∀ w' : World, w'.heap = w.heap → (Builtin.firstCells sz es.length u).run P w' = .ok vs.toArray w' := by
  have fin : ∀ (A : Option Addr) (m cap : Nat) (vs : List Value), vs.length = m * sz → (vs = [] ∨ ∃ B p, A = some ⟨B, p, none⟩ ∧ ∀ j u, vs[j]? = some u → w.cell? ⟨B, p + j, none⟩ = some u) → ∀ w' : World, w'.heap = w.heap → (Builtin.firstCells sz m (.slice A m cap)).run P w' = .ok vs.toArray w' := by
    intro A m cap vs hl hv w' hw'
    rcases hv with rfl | ⟨B, p, rfl, hv⟩
    · have : m * sz = 0 := by simpa using hl.symm
      cases A with
      | none => simp [Builtin.firstCells]
      | some a => simp [Builtin.firstCells, this, loadCells, loadCellsFrom]
    · exact run_firstCells_some w' sz m ⟨B, p, none⟩ m cap vs hl (fun j u hu => by rw [add_at, cell_congr (w := w) (by rw [hw'])]; exact hv j u hu)
  cases v with
  | ag cs => simp [srcE] at he
  | tu xs => simp [srcE] at he
  | c x =>
    cases x with
    | t x =>
      cases x with
      | l es0 =>
        simp only [srcE, Option.some.injEq] at he; subst he
        obtain ⟨A, cap, sz0, rfl, hcap, hsz, hA⟩ := RV.l r
        rcases hA with rfl | ⟨B, p, rfl, hS, hA⟩
        · exact ⟨A, cap, [], by simp, by simp, ⟨by simp, fun i e j c h1 => by simp at h1⟩, fin A 0 cap [] (by simp) (.inl rfl)⟩
        · by_cases h0 : es0 = []
          · subst h0
            exact ⟨_, cap, [], by simp; rfl, by simp, ⟨by simp, fun i e j c h1 => by simp at h1⟩, fin _ 0 cap [] (by simp) (.inl rfl)⟩
          · have e1 : sz0 = sz := by
              obtain ⟨e, es1, rfl⟩ := List.exists_cons_of_ne_nil h0
              have := hs (e.map .t) (by simp)
              rw [List.length_map] at this
              rw [← this]; exact (hsz e (by simp)).symm
            subst e1
            obtain ⟨vs, k1, k2⟩ := rows_of (w := w) (S := S) (ι := ι) (h := h) hz (es := es0.map (·.map .t)) (B := B) (p := p) hs (fun i e j c h1 h2 => by
              rw [List.getElem?_map] at h1
              obtain ⟨e', g1, rfl⟩ := Option.map_eq_some_iff.1 h1
              rw [List.getElem?_map] at h2
              obtain ⟨t, g2, rfl⟩ := Option.map_eq_some_iff.1 h2
              exact hA i e' j t g1 g2)
            exact ⟨some ⟨B, p, none⟩, cap, vs, by simp, by simpa using hcap, k1, fin _ _ cap vs k1.1 (.inr ⟨B, p, rfl, k2⟩)⟩
      | b x => simp [srcE] at he
      | i k m => simp [srcE] at he
      | s x => simp [srcE] at he
    | sl b q off len =>
      simp only [srcE] at he
      split at he
      · rename_i es0 sz0 hb
        split at he
        · rename_i hq
          injection he with he; subst he
          obtain ⟨lb, r⟩ := r
          obtain ⟨_, r⟩ := r es0 sz0 hb
          obtain ⟨hle, r⟩ := r hq
          obtain ⟨z0, hlen, hA⟩ := r1.arr b es0 sz0 hb
          have hl : ((es0.drop off).take len).length = len := by simp; omega
          by_cases h0 : len = 0
          · subst h0
            cases hB : ι b with
            | none =>
              rw [hB] at r; obtain ⟨A, rfl⟩ := r
              exact ⟨A, 0, [], by simp, by simp, ⟨by simp, fun i e j c h1 => by simp at h1⟩, by simpa using fin A 0 0 [] (by simp) (.inl rfl)⟩
            | some B =>
              rw [hB] at r; obtain ⟨cap, rfl, _, _⟩ := r
              exact ⟨_, cap, [], by simp; rfl, by simp, ⟨by simp, fun i e j c h1 => by simp at h1⟩, by simpa using fin _ 0 cap [] (by simp) (.inl rfl)⟩
          · rcases hA with ⟨rfl, _⟩ | ⟨B, vs, e, j1, j2, j3, j4⟩
            · simp at hq; omega
            rw [j1] at r
            obtain ⟨cap, rfl, hcap, _⟩ := r
            have e1 : sz0 = sz := by
              have hm : es0[off]? = some es0[off] := List.getElem?_eq_getElem (by omega)
              have : es0[off] ∈ (es0.drop off).take len := by
                apply List.mem_of_getElem? (i := 0)
                rw [List.getElem?_take, if_pos (by omega), List.getElem?_drop]; simp
              rw [← hs _ this]; exact (hlen _ (List.getElem_mem _)).symm
            subst e1
            obtain ⟨ws, k1, k2⟩ := rows_of (w := w) (S := S) (ι := ι) (h := h) hz (es := (es0.drop off).take len) (B := B) (p := off * sz0) hs (fun i e j c h1 h2 => by
              rw [List.getElem?_take] at h1
              split at h1
              · rw [List.getElem?_drop] at h1
                obtain ⟨u, g1, g2⟩ := j4 (off + i) e j c h1 h2
                exact ⟨u, by rw [cell_of j2, ← Nat.add_mul]; exact g1, g2⟩
              · cases h1)
            refine ⟨some ⟨B, off * sz0, none⟩, cap, ws, by rw [hl], by rw [hl]; exact hcap, k1, ?_⟩
            exact fin _ _ cap ws k1.1 (.inr ⟨B, off * sz0, rfl, k2⟩) |> fun x => by rw [hl] at x ⊢; exact x
        · cases he
      · cases he
    | emp =>
      simp only [srcE, Option.some.injEq] at he; subst he
      obtain ⟨A, rfl⟩ := r
      exact ⟨A, 0, [], by simp, by simp, ⟨by simp, fun i e j c h1 => by simp at h1⟩, fin A 0 0 [] (by simp) (.inl rfl)⟩
    | ptr _ _ => simp [srcE] at he
    | ap _ _ _ _ => simp [srcE] at he
    | fa _ => simp [srcE] at he
    | np => simp [srcE] at he
    | u => simp [srcE] at he
    | k _ => simp [srcE] at he

/-! ### The built-in append -/
theorem run_app_grow {w : World} {sT xT ty e e' : Nat} {i : TypeInfo} {z : Value} (hs : P.underlying sT = some (.slice e)) (hx : P.underlying xT = some (.slice e')) (hi : P.info? e = some i) (hzr : i.zero = some z) {A X : Option Addr} {m c k cx : Nat} {olds news : Array Value}
    (hn : ∀ w' : World, w'.heap = w.heap → (Builtin.firstCells i.size k (.slice X k cx)).run P w' = .ok news w') (ho' : ∀ w' : World, w'.heap = w.heap → (Builtin.firstCells i.size m (.slice A m c)).run P w' = .ok olds w')
    (hg : c < m + k) (hb : (m + k) * i.bytes ≤ 140737488355328) (hlt : m + k ≤ 9223372036854775807) :
    ∃ cap rest, m + k ≤ cap ∧ rest.size = (cap - (m + k)) * z.cells.size ∧ (Builtin.append_ #[sT, xT] ty #[.slice A m c, .slice X k cx]).run P w = .ok (.slice (some ⟨w.heap.size, 0, none⟩) (m + k) cap) { w with drawn := w.drawn + 1, heap := w.heap.push (.cells (olds ++ news ++ rest) e) } := by
  have h48 : ¬ (281474976710656 < Builtin.nextslicecap (m + k) c * i.bytes) := by have := growslice_fits hg hb; omega
  have hq : (Question.appendCap (m + k) c e).forced = false := rfl
  have h63 : ¬ ((9223372036854775807 : Int) < (m : Int) + (k : Int)) := by omega
  refine ⟨(Question.appendCap (m + k) c e).cut (w.tape w.drawn (Question.appendCap (m + k) c e)), Builtin.zeroCells z.cells _, ?_, by simp [Builtin.zeroCells]; rfl, ?_⟩
  · simp only [Question.cut]; omega
  · have hr : ¬ (m + k ≤ c) := by omega
    have e1 := ho' w.drew rfl
    have e2 := hn w.drew rfl
    simp [Builtin.append_, run_underlying hs, run_underlying hx, sizeOf, typeInfo, hi, Builtin.lenOf, hr, h48, hq, e1, e2, zeroValue, hzr, newRow, IntKind.max, IntKind.bits, IntKind.signed, h63]
    rfl
theorem run_app_room {w : World} {sT xT ty e e' : Nat} {i : TypeInfo} (hs : P.underlying sT = some (.slice e)) (hx : P.underlying xT = some (.slice e')) (hi : P.info? e = some i) {A X : Option Addr} {m c k cx : Nat} {news : Array Value} {w' : World}
    (hn : (Builtin.firstCells i.size k (.slice X k cx)).run P w = .ok news w) (hg : m + k ≤ c) (hst : match A with | none => w' = w | some a => (storeCells (a.add (m * i.size)) news.toList).run P w = .ok () w') :
    (Builtin.append_ #[sT, xT] ty #[.slice A m c, .slice X k cx]).run P w = .ok (.slice A (m + k) c) w' := by
  cases A with
  | none => simp only at hst; subst hst; simp [Builtin.append_, run_underlying hs, run_underlying hx, sizeOf, typeInfo, hi, Builtin.lenOf, hg, hn]
  | some a => simp only at hst; simp [Builtin.append_, run_underlying hs, run_underlying hx, sizeOf, typeInfo, hi, Builtin.lenOf, hg, hn, hst]
end
end Go.YtamlleimfopmhaaMc

namespace Go.YtamlleimfopmhaaMc
section
variable {P : Program} {n : Nat} {o : Oper} {env : Env} {h h' : List Blk} {v : V}
theorem exec_app {a : Act} {x y : Operand} {sT xT : Nat} {w w' : World} {u : Value} (ho : o.op = .call { callee := .builtin .append, args := #[x, y], argTypes := #[sT, xT] }) (hr : (Builtin.append_ #[sT, xT] o.type #[a.eval x, a.eval y]).run P w = .ok u w') : (execOp a.eval o).run P w = .ok (.value u) w' := by
  simp [execOp, ho, resolve, invoke, builtin, hr]
theorem heap_drew_push {w : World} {ob : Obj} {B : Nat} (hB : B < w.heap.size) : ({ w with drawn := w.drawn + 1, heap := w.heap.push ob } : World).heap[B]? = w.heap[B]? := by
  show (w.heap.push ob)[B]? = _
  rw [Array.getElem?_push]; simp [Nat.ne_of_lt hB]
theorem nil_cells {w : World} {sz : Nat} (A : Option Addr) (c : Nat) : (Builtin.firstCells sz 0 (.slice A 0 c)).run P w = .ok #[] w := by
  cases A <;> simp [Builtin.firstCells, loadCells, loadCellsFrom]
theorem app_info (D : Tab P) {sT xT e e' : Nat} {i i' ie : TI} (ht : D.f sT = some i) (hk : i.k = .sl e) (ht' : D.f xT = some i') (hk' : i'.k = .sl e') (hte : D.f e = some ie) :
    P.underlying sT = some (.slice e) ∧ P.underlying xT = some (.slice e') ∧ ∃ q z, P.info? e = some q ∧ q.size = ie.size ∧ q.bytes = ie.bytes ∧ q.zero = some z ∧ z.cells.size = ie.size := by
  have h1 := (D.ok sT i ht).und; rw [hk] at h1
  have h2 := (D.ok xT i' ht').und; rw [hk'] at h2
  obtain ⟨q, z, a, b, c, d, _, f⟩ := (D.ok e ie hte).info
  exact ⟨h1, h2, q, z, a, b, c, d, f⟩
/-- Appending to a slice without room: what comes is new, and stays as it is. -/
theorem OpOk.appF (D : Tab P) {x y : Operand} {sT xT e e' : Nat} {i i' ie : TI} {vy : V} {es : List (List T)} (ho : o.op = .call { callee := .builtin .append, args := #[x, y], argTypes := #[sT, xT] }) (ht : D.f sT = some i) (hk : i.k = .sl e) (ht' : D.f xT = some i') (hk' : i'.k = .sl e') (hte : D.f e = some ie)
    (hx : oe env x = some (.c .emp)) (hy : oe env y = some vy) (hsrc : srcE h vy = some (es.map (·.map .t))) (hz : 0 < ie.size) (hs : ∀ el ∈ es, el.length = ie.size) (hb : es.length * ie.bytes ≤ 140737488355328) (hlt : es.length ≤ 9223372036854775807) : OpOk P n o env h (.c (.t (.l es))) h := by
  refine .ofRun fun w S ι a r1 r2 => ?_
  obtain ⟨u1, u2, q, z, q1, q2, q3, q4, q5⟩ := app_info D ht hk ht' hk' hte
  obtain ⟨A, hA⟩ := oe_ok r2 hx
  obtain ⟨X, cx, vs, e1, e2, e3, e4⟩ := src_ok (P := P) hz r1 (oe_ok r2 hy) hsrc (fun el hel => by obtain ⟨el', g, rfl⟩ := List.mem_map.1 hel; simpa using hs el' g)
  simp only [List.length_map] at e1 e2 e4
  by_cases h0 : es = []
  · subst h0
    refine ⟨.slice A 0 0, w, S, ι, exec_app ho ?_, r1, .refl .., ?_⟩
    · rw [hA, e1]
      have := run_app_room (P := P) (w := w) (w' := w) (ty := o.type) u1 u2 q1 (A := A) (X := X) (m := 0) (c := 0) (k := 0) (cx := cx) (news := #[]) (nil_cells X cx) (by omega) (by cases A <;> simp [storeCells])
      simpa using this
    · exact RT.l [] A 0 0 (fun _ _ => undef) (by simp) (by simp) (.inl rfl) (by simp)
  · have hpos : 0 < es.length := List.length_pos_iff.2 h0
    obtain ⟨cap, rest, c1, c2, c3⟩ := run_app_grow (P := P) (w := w) (ty := o.type) u1 u2 q1 q4 (A := A) (X := X) (m := 0) (c := 0) (k := es.length) (cx := cx) (olds := #[]) (news := vs.toArray) (fun w' hw' => by have := e4 w' hw'; rw [e1, ← q2] at this; exact this) (fun w' _ => nil_cells A 0) (by omega) (by rw [q3]; simpa using hb) (by omega)
    simp only [Nat.zero_add, List.append_toArray] at c1 c3
    have hsz : ({ w with drawn := w.drawn + 1, heap := w.heap.push (.cells (vs.toArray ++ rest) e) } : World).heap.size = w.heap.size + 1 := by simp
    obtain ⟨k1, k2⟩ := r1.ext (w' := { w with drawn := w.drawn + 1, heap := w.heap.push (.cells (vs.toArray ++ rest) e) }) (S' := fun B => if B = w.heap.size then 2 else S B)
      (fun B hB => heap_drew_push (hB.elim (r1.low B) fun ⟨b, blk, g1, g2, g3⟩ => (r1.own b blk B g1 g2 g3).2)) (by omega)
      (fun B hB => by have := r1.low B hB; rw [if_neg (by omega)])
      (fun B hB => by
        rw [hsz]
        by_cases e9 : B = w.heap.size
        · omega
        · rw [if_neg e9] at hB; have := r1.low B hB; omega)
      (fun b blk B g1 g2 g3 => by have := r1.own b blk B g1 g2 g3; rw [if_neg (by omega)]; exact this.1)
    refine ⟨_, _, _, _, exec_app ho (by rw [hA, e1]; exact c3), k1, k2, ?_⟩
    have hnew : ({ w with drawn := w.drawn + 1, heap := w.heap.push (.cells (vs.toArray ++ rest) e) } : World).heap[w.heap.size]? = some (.cells (vs.toArray ++ rest) e) := by
      show (w.heap.push _)[w.heap.size]? = _; simp
    refine RT.l es _ cap ie.size (fun i j => (vs[i * ie.size + j]?).getD undef) c1 hs (.inr ⟨w.heap.size, 0, rfl, by simp, fun i el j t g1 g2 => ?_⟩) (fun i el j t g1 g2 => ?_)
    · obtain ⟨u, f1, _⟩ := e3.2 i (el.map .t) j (.t t) (by simp [g1]) (by simp [g2])
      rw [cell_of hnew, Nat.zero_add, f1]
      have hl := (List.getElem?_eq_some_iff.1 f1).1
      rw [Array.getElem?_append_left (by simpa using hl)]
      simpa using f1
    · obtain ⟨u, f1, f2⟩ := e3.2 i (el.map .t) j (.t t) (by simp [g1]) (by simp [g2])
      rw [f1]
      exact RT.mono k2.two f2
/-- Appending to a slice without room: the new block is the call's own. -/
theorem OpOk.appN (D : Tab P) {x y : Operand} {sT xT e e' : Nat} {i i' ie : TI} {vy : V} {es : List (List C)} (ho : o.op = .call { callee := .builtin .append, args := #[x, y], argTypes := #[sT, xT] }) (ht : D.f sT = some i) (hk : i.k = .sl e) (ht' : D.f xT = some i') (hk' : i'.k = .sl e') (hte : D.f e = some ie)
    (hx : oe env x = some (.c .emp)) (hy : oe env y = some vy) (hsrc : srcE h vy = some es) (hz : 0 < ie.size) (hs : ∀ el ∈ es, el.length = ie.size) (hb : es.length * ie.bytes ≤ 140737488355328) (hlt : es.length ≤ 9223372036854775807) : OpOk P n o env h (.c (.sl h.length es.length 0 es.length)) (h ++ [.arr es ie.size]) := by
  refine .ofRun fun w S ι a r1 r2 => ?_
  obtain ⟨u1, u2, q, z, q1, q2, q3, q4, q5⟩ := app_info D ht hk ht' hk' hte
  obtain ⟨A, hA⟩ := oe_ok r2 hx
  obtain ⟨X, cx, vs, e1, e2, e3, e4⟩ := src_ok (P := P) hz r1 (oe_ok r2 hy) hsrc hs
  by_cases h0 : es = []
  · subst h0
    obtain ⟨k1, k2⟩ := r1.new (w' := w) (S' := S) (fun _ _ => rfl) (Nat.le_refl _) (fun _ _ => rfl) r1.low (fun _ h => .inl h) none (fun B hB => by cases hB) (.arr [] ie.size) (fun p => ⟨hz, by simp, .inl ⟨rfl, rfl⟩⟩) (by simp)
    refine ⟨.slice A 0 0, w, S, _, exec_app ho ?_, k1, k2, ?_⟩
    · rw [hA, e1]
      have := run_app_room (P := P) (w := w) (w' := w) (ty := o.type) u1 u2 q1 (A := A) (X := X) (m := 0) (c := 0) (k := 0) (cx := cx) (news := #[]) (nil_cells X cx) (by omega) (by cases A <;> simp [storeCells])
      simpa using this
    · exact ⟨⟨_, app_last .., by simp⟩, fun es' sz' hq => by simp at hq; obtain ⟨rfl, rfl⟩ := hq; exact ⟨Nat.le_refl _, fun _ => ⟨by simp, by rw [upd_eq]; exact ⟨A, rfl⟩⟩⟩⟩
  · have hpos : 0 < es.length := List.length_pos_iff.2 h0
    obtain ⟨cap, rest, c1, c2, c3⟩ := run_app_grow (P := P) (w := w) (ty := o.type) u1 u2 q1 q4 (A := A) (X := X) (m := 0) (c := 0) (k := es.length) (cx := cx) (olds := #[]) (news := vs.toArray) (fun w' hw' => by have := e4 w' hw'; rw [e1, ← q2] at this; exact this) (fun w' _ => nil_cells A 0) (by omega) (by rw [q3]; simpa using hb) (by omega)
    simp only [Nat.zero_add, Array.empty_append] at c1 c2 c3
    have hsz : ({ w with drawn := w.drawn + 1, heap := w.heap.push (.cells (vs.toArray ++ rest) e) } : World).heap.size = w.heap.size + 1 := by simp
    have hnew : ({ w with drawn := w.drawn + 1, heap := w.heap.push (.cells (vs.toArray ++ rest) e) } : World).heap[w.heap.size]? = some (.cells (vs.toArray ++ rest) e) := by
      show (w.heap.push _)[w.heap.size]? = _; simp
    have htot : (vs.toArray ++ rest).size = cap * ie.size := by
      rw [Array.size_append, c2, q5]; simp only [List.size_toArray, e3.1]; rw [← Nat.add_mul]; congr 1; omega
    obtain ⟨k1, k2⟩ := r1.new (w' := { w with drawn := w.drawn + 1, heap := w.heap.push (.cells (vs.toArray ++ rest) e) }) (S' := S) (fun B hB => heap_drew_push hB) (by omega) (fun _ _ => rfl) (fun B hB => by have := r1.low B hB; omega) (fun _ h => .inl h) (some w.heap.size) (fun B hB => by injection hB with hB; subst hB; exact ⟨Nat.le_refl _, by omega, r1.top⟩) (.arr es ie.size)
      (fun p => ⟨hz, hs, .inr ⟨_, _, e, rfl, hnew, by rw [htot]; exact Nat.mul_le_mul_right _ c1, fun i el j c g1 g2 => by
        obtain ⟨u, f1, f2⟩ := e3.2 i el j c g1 g2
        refine ⟨u, ?_, f2.mono p⟩
        rw [Array.getElem?_append_left (by simpa using (List.getElem?_eq_some_iff.1 f1).1)]
        simpa using f1⟩⟩) (by simp)
    refine ⟨_, _, _, _, exec_app ho (by rw [hA, e1]; exact c3), k1, k2, ⟨_, app_last .., by simp⟩, fun es' sz' hq => ?_⟩
    simp at hq; obtain ⟨rfl, rfl⟩ := hq
    refine ⟨Nat.le_refl _, fun _ => ⟨by omega, ?_⟩⟩
    rw [upd_eq]
    exact ⟨cap, by simp, c1, by rw [bsz_of hnew, htot, Nat.zero_add]; exact Nat.le_refl _⟩
/-- Appending to a slice of the call's own. -/
theorem OpOk.appA (D : Tab P) {x y : Operand} {sT xT e e' b q : Nat} {i i' ie : TI} {vy : V} {es0 es : List (List C)} {sz : Nat} (ho : o.op = .call { callee := .builtin .append, args := #[x, y], argTypes := #[sT, xT] }) (ht : D.f sT = some i) (hk : i.k = .sl e) (ht' : D.f xT = some i') (hk' : i'.k = .sl e') (hte : D.f e = some ie)
    (hx : oe env x = some (.c (.sl b q 0 q))) (hbb : h[b]? = some (.arr es0 sz)) (hq : q = es0.length) (hsz : sz = ie.size) (hy : oe env y = some vy) (hsrc : srcE h vy = some es) (hs : ∀ el ∈ es, el.length = ie.size) (hone : es.all (·.all (·.one h)) = true) (hb : (q + es.length) * ie.bytes ≤ 140737488355328) (hlt : q + es.length ≤ 9223372036854775807) :
    OpOk P n o env h (.c (.sl b (q + es.length) 0 (q + es.length))) (h.set b (.arr (es0 ++ es) sz)) := by
  refine .ofRun fun w S ι a r1 r2 => ?_
  subst hsz
  obtain ⟨u1, u2, qi, z, q1, q2, q3, q4, q5⟩ := app_info D ht hk ht' hk' hte
  obtain ⟨hz, hs0, hA0⟩ := r1.arr b es0 _ hbb
  obtain ⟨lb, hX⟩ := oe_ok r2 hx
  obtain ⟨_, hX⟩ := hX es0 _ hbb
  obtain ⟨_, hX⟩ := hX hq
  obtain ⟨X, cx, vs, e1, e2, e3, e4⟩ := src_ok (P := P) hz r1 (oe_ok r2 hy) hsrc hs
  have hself : es = [] → h.set b (.arr (es0 ++ es) ie.size) = h := fun e0 => by
    subst e0; rw [List.append_nil]
    apply List.ext_getElem?
    intro k
    rw [List.getElem?_set]
    split
    · rename_i e9; rw [← e9, hbb, if_pos (ex_lt lb)]
    · rfl
  by_cases h0 : es = []
  · -- nothing is appended
    rw [hself h0]; subst h0
    simp only [List.length_nil, Nat.add_zero]
    refine ⟨a.eval x, w, S, ι, exec_app ho ?_, r1, .refl .., oe_ok r2 hx⟩
    rw [e1]
    cases hB : ι b with
    | none =>
      rw [hB] at hX; obtain ⟨A, hX⟩ := hX
      rw [hX]
      have := run_app_room (P := P) (w := w) (w' := w) (ty := o.type) u1 u2 q1 (A := A) (X := X) (m := 0) (c := 0) (k := 0) (cx := cx) (news := #[]) (nil_cells X cx) (by omega) (by cases A <;> simp [storeCells])
      simpa using this
    | some B =>
      rw [hB] at hX; obtain ⟨cap, hX, hcap, _⟩ := hX
      rw [hX]
      have := run_app_room (P := P) (w := w) (w' := w) (ty := o.type) u1 u2 q1 (A := some ⟨B, 0 * ie.size, none⟩) (X := X) (m := q) (c := cap) (k := 0) (cx := cx) (news := #[]) (nil_cells X cx) (by omega) (by simp [storeCells])
      simpa using this
  · have hpos : 0 < es.length := List.length_pos_iff.2 h0
    -- the slice's value, and what its cells hold
    have hbase : ∃ A cap olds, a.eval x = .slice A q cap ∧ Rw w S ι h ie.size es0 olds ∧ (∀ w' : World, w'.heap = w.heap → (Builtin.firstCells qi.size q (.slice A q cap)).run P w' = .ok olds.toArray w') ∧ (q + es.length ≤ cap → ∃ B vs' e', A = some ⟨B, 0, none⟩ ∧ ι b = some B ∧ w.heap[B]? = some (.cells vs' e' (0, 0)) ∧ cap * ie.size ≤ vs'.size ∧ (∀ i el j c, es0[i]? = some el → el[j]? = some c → ∃ v, vs'[i * ie.size + j]? = some v ∧ RC w S ι h c v)) := by
      obtain ⟨A, cap, olds, k1, k2, k3, k4⟩ := src_ok (P := P) (es := es0) hz r1 (oe_ok r2 hx) (by simp only [srcE, hbb, hq, if_true, List.drop_zero, List.take_length]) hs0
      refine ⟨A, cap, olds, by rw [hq]; exact k1, k3, fun w' hw' => by have := k4 w' hw'; rw [k1, ← q2, ← hq] at this; exact this, fun hroom => ?_⟩
      cases hB : ι b with
      | none => rw [hB] at hX; obtain ⟨A', hX⟩ := hX; rw [hX] at k1; injection k1 with _ _ k1; omega
      | some B =>
        rw [hB] at hX; obtain ⟨cap', hX, hcap, hbz⟩ := hX
        rw [hX] at k1; injection k1 with k1 _ k1'
        subst k1; subst k1'
        rcases hA0 with ⟨_, hA0⟩ | ⟨B', vs', e', j1, j2, j3, j4⟩
        · rw [hB] at hA0; cases hA0
        rw [hB] at j1; injection j1 with j1; subst j1
        rw [bsz_of j2, Nat.zero_add] at hbz
        exact ⟨B, vs', e', by simp, rfl, j2, hbz, j4⟩
    obtain ⟨A, cap, olds, hX', ho1, ho2, ho3⟩ := hbase
    have hvs : ∀ w' : World, w'.heap = w.heap → (Builtin.firstCells qi.size es.length (.slice X es.length cx)).run P w' = .ok vs.toArray w' := fun w' hw' => by have := e4 w' hw'; rw [e1, ← q2] at this; exact this
    by_cases hroom : q + es.length ≤ cap
    · obtain ⟨B, vs', e', rfl, hB, j2, hbz, j4⟩ := ho3 hroom
      have hmul : (q + es.length) * ie.size ≤ cap * ie.size := Nat.mul_le_mul_right _ hroom
      rw [Nat.add_mul] at hmul
      have hv0 : vs.length = es.length * ie.size := e3.1
      have hst := run_storeCells_cells (P := P) B (q * ie.size) vs 0 w (fun j hj => by
        have h5 : q * ie.size + 0 + j < vs'.size := by omega
        rw [cell_of j2, Array.getElem?_eq_getElem h5]; rfl) (fun j hj => frozen_of j2) (e3.one hz hs hone)
      simp only [Nat.add_zero] at hst
      obtain ⟨vs2, m1, m2, m3⟩ := setCells_at vs (q * ie.size) w vs' j2
      have hown := r1.own b _ B hbb trivial hB
      have hz2 : (w.setCells B (q * ie.size) vs).heap.size = w.heap.size := setCells_size ..
      have := r1.chg (hkp := setCells_kp ..) (w' := w.setCells B (q * ie.size) vs) (S' := S) (blk' := .arr (es0 ++ es) ie.size) hbb trivial (.inl hB) ⟨by rw [hz2]; exact hown.2, hown.1⟩ (fun B1 hne _ => setCells_ne (Ne.symm hne) ..) (by omega) (fun _ _ => rfl) (fun B1 hB1 => by rw [hz2]; exact r1.low B1 hB1) (fun B1 hB1 => .inl hB1)
        ⟨rfl, by simp, fun _ => ⟨hB, by rw [bsz_of m1, bsz_of j2, m2]⟩⟩ (fun p => by
          refine ⟨hz, fun el hel => (List.mem_append.1 hel).elim (hs0 el) (hs el), vs2, e', m1, by rw [m2, List.length_append, Nat.add_mul, ← hq]; omega, fun i el j c g1 g2 => ?_⟩
          have hjl : j < el.length := (List.getElem?_eq_some_iff.1 g2).1
          rw [List.getElem?_append] at g1
          rw [m3]
          split at g1
          · rename_i hi
            have hlen := hs0 el (List.mem_of_getElem? g1)
            have : (i + 1) * ie.size ≤ q * ie.size := Nat.mul_le_mul_right _ (by omega)
            rw [Nat.add_mul, Nat.one_mul] at this
            rw [if_neg (by omega)]
            obtain ⟨u, f1, f2⟩ := j4 i el j c g1 g2
            exact ⟨u, f1, f2.mono p⟩
          · rename_i hi
            have hi2 : i - es0.length < es.length := (List.getElem?_eq_some_iff.1 g1).1
            have hlen := hs el (List.mem_of_getElem? g1)
            obtain ⟨u, f1, f2⟩ := e3.2 _ el j c g1 g2
            have e5 : i * ie.size = (i - es0.length) * ie.size + q * ie.size := by rw [← Nat.add_mul]; congr 1; omega
            have hl2 := (List.getElem?_eq_some_iff.1 f1).1
            have hv : vs.length = es.length * ie.size := e3.1
            rw [if_pos ⟨by omega, by omega, by omega⟩]
            exact ⟨u, by rw [show i * ie.size + j - q * ie.size = (i - es0.length) * ie.size + j by omega]; exact f1, f2.mono p⟩)
      rw [upd_self hB] at this
      obtain ⟨k1, k2⟩ := this
      refine ⟨.slice (some ⟨B, 0, none⟩) (q + es.length) cap, _, S, ι, exec_app ho ?_, k1, k2, ?_⟩
      · rw [hX', e1]
        exact run_app_room (P := P) u1 u2 q1 (by have := hvs w rfl; exact this) hroom (by simp only [add_at, Nat.zero_add, q2]; exact hst)
      · refine ⟨⟨_, List.getElem?_set_self (ex_lt lb), by simp⟩, fun es' sz' hq' => ?_⟩
        simp [ex_lt lb] at hq'; obtain ⟨rfl, rfl⟩ := hq'
        refine ⟨by rw [List.length_append]; omega, fun _ => ⟨by omega, ?_⟩⟩
        rw [hB]
        exact ⟨cap, by simp, hroom, by rw [bsz_of m1, m2, Nat.zero_add]; exact hbz⟩
    · obtain ⟨cap2, rest, c1, c2, c3⟩ := run_app_grow (P := P) (w := w) (ty := o.type) u1 u2 q1 q4 (A := A) (X := X) (m := q) (c := cap) (k := es.length) (cx := cx) (olds := olds.toArray) (news := vs.toArray) hvs ho2 (by omega) (by rw [q3]; exact hb) hlt
      have hnew : ({ w with drawn := w.drawn + 1, heap := w.heap.push (.cells (olds.toArray ++ vs.toArray ++ rest) e) } : World).heap[w.heap.size]? = some (.cells (olds.toArray ++ vs.toArray ++ rest) e) := by
        show (w.heap.push _)[w.heap.size]? = _; simp
      have hsz2 : ({ w with drawn := w.drawn + 1, heap := w.heap.push (.cells (olds.toArray ++ vs.toArray ++ rest) e) } : World).heap.size = w.heap.size + 1 := by simp
      have hrw := ho1.append e3
      have htot : (olds.toArray ++ vs.toArray ++ rest).size = cap2 * ie.size := by
        rw [Array.size_append, Array.size_append, c2, q5]; simp only [List.size_toArray, e3.1, ho1.1]; rw [← Nat.add_mul, ← Nat.add_mul]; congr 1; omega
      obtain ⟨k1, k2⟩ := r1.chg (w' := { w with drawn := w.drawn + 1, heap := w.heap.push (.cells (olds.toArray ++ vs.toArray ++ rest) e) }) (S' := S) (B := w.heap.size) (blk' := .arr (es0 ++ es) ie.size) hbb trivial (.inr (Nat.le_refl _)) ⟨by omega, r1.top⟩ (fun B1 _ hB1 => heap_drew_push hB1) (by omega) (fun _ _ => rfl) (fun B1 hB1 => by have := r1.low B1 hB1; omega) (fun B1 hB1 => .inl hB1)
        ⟨rfl, by simp, fun hh => by rw [List.length_append] at hh; omega⟩ (fun p => by
          refine ⟨hz, fun el hel => (List.mem_append.1 hel).elim (hs0 el) (hs el), _, e, hnew, by rw [htot, List.length_append, ← hq]; exact Nat.mul_le_mul_right _ c1, fun i el j c g1 g2 => ?_⟩
          obtain ⟨u, f1, f2⟩ := hrw.2 i el j c g1 g2
          refine ⟨u, ?_, f2.mono p⟩
          have hl2 := (List.getElem?_eq_some_iff.1 f1).1
          rw [Array.getElem?_append_left (by simpa using hl2)]
          rw [List.append_toArray]
          simpa using f1)
      refine ⟨_, _, S, _, exec_app ho (by rw [hX', e1]; exact c3), k1, k2, ⟨_, List.getElem?_set_self (ex_lt lb), by simp⟩, fun es' sz' hq' => ?_⟩
      simp [ex_lt lb] at hq'; obtain ⟨rfl, rfl⟩ := hq'
      refine ⟨by rw [List.length_append]; omega, fun _ => ⟨by omega, ?_⟩⟩
      rw [upd_eq]
      exact ⟨cap2, by simp, c1, by rw [bsz_of hnew, htot, Nat.zero_add]; exact Nat.le_refl _⟩
end
end Go.YtamlleimfopmhaaMc

namespace Go.YtamlleimfopmhaaMc
section
variable {P : Program} {n : Nat} {o : Oper} {env : Env} {h h' : List Blk} {v : V}
theorem exec_bi {a : Act} {b : Builtin} {xs : Array Operand} {ts : Array Nat} {w w' : World} {u : Value} (ho : o.op = .call { callee := .builtin b, args := xs, argTypes := ts }) (hr : (builtin b ts o.type (xs.map fun | .const _ => true | _ => false) (xs.map a.eval)).run P w = .ok (.value u) w') : (execOp a.eval o).run P w = .ok (.value u) w' := by
  simp only [execOp, ho, resolve, Sem.run_bind, Sem.run_pure, Result.andThen_ok, invoke]
  exact hr
/-- Lengths. -/
def lenV (h : List Blk) : V → Option Int
  | .c (.t (.s x)) => some x.length
  | .c (.t (.l es)) => some es.length
  | .c (.sl b q _ len) => match h[b]? with | some (.arr es _) => if q = es.length then some len else none | _ => none
  | .c .emp => some 0
  | _ => none
theorem OpOk.len (D : Tab P) {x : Operand} {t : Nat} {i : TI} {vx : V} {m : Int} (ho : o.op = .call { callee := .builtin .len, args := #[x], argTypes := #[t] }) (ht : D.f t = some i) (hk : (∃ e, i.k = .sl e ∧ ∀ s, vx ≠ .c (.t (.s s))) ∨ (i.k = .str ∧ ∃ s, vx = .c (.t (.s s)))) (hx : oe env x = some vx) (hm : lenV h vx = some m) : OpOk P n o env h (.c (.t (.i .i64 m))) h := by
  refine .val fun w S ι a r1 r2 => ?_
  have hr := oe_ok r2 hx
  have hu := (D.ok t i ht).und
  refine ⟨.int .i64 m, exec_bi ho ?_, RT.i _ _⟩
  rcases hk with ⟨e, hk, hns⟩ | ⟨hk, s, rfl⟩
  · rw [hk] at hu
    have hu : P.underlying t = some (.slice e) := hu
    have key : ∃ A len cap, a.eval x = .slice A len cap ∧ (len : Int) = m := by
      cases vx with
      | ag cs => simp [lenV] at hm
      | tu xs => simp [lenV] at hm
      | c y =>
        cases y with
        | t y =>
          cases y with
          | l es => simp only [lenV, Option.some.injEq] at hm; subst hm; obtain ⟨A, cap, sz, e1, _⟩ := RV.l hr; exact ⟨A, _, cap, e1, rfl⟩
          | s s => exact (hns s rfl).elim
          | b _ => simp [lenV] at hm
          | i _ _ => simp [lenV] at hm
        | sl b q off len =>
          simp only [lenV] at hm
          split at hm
          · rename_i es sz hb
            split at hm
            · rename_i hq
              injection hm with hm; subst hm
              obtain ⟨hle, r9⟩ := (hr.2 es sz hb).2 hq
              cases hB : ι b with
              | none =>
                rw [hB] at r9; obtain ⟨A, r8⟩ := r9
                obtain ⟨_, _, hA⟩ := r1.arr b es sz hb
                rcases hA with ⟨h9, _⟩ | ⟨B, vs, e, j1, _⟩
                · have : es.length = 0 := by rw [h9]; rfl
                  exact ⟨A, 0, 0, r8, by omega⟩
                · rw [hB] at j1; cases j1
              | some B => rw [hB] at r9; obtain ⟨cap, r8, _⟩ := r9; exact ⟨_, len, cap, r8, rfl⟩
            · cases hm
          · cases hm
        | emp => simp only [lenV, Option.some.injEq] at hm; subst hm; obtain ⟨A, r⟩ := hr; exact ⟨A, 0, 0, r, rfl⟩
        | ptr _ _ => simp [lenV] at hm
        | ap _ _ _ _ => simp [lenV] at hm
        | fa _ => simp [lenV] at hm
        | np => simp [lenV] at hm
        | u => simp [lenV] at hm
        | k _ => simp [lenV] at hm
    obtain ⟨A, len, cap, e1, e2⟩ := key
    subst e2
    simp [builtin, Builtin.len_, e1, run_underlying hu, goInt]
  · rw [hk] at hu
    have hu : P.underlying t = some .string := hu
    simp only [lenV, Option.some.injEq] at hm; subst hm
    obtain ⟨ba, e1, e2⟩ := RV.s hr
    have : ba.size = s.length := by rw [← e2]; simp
    simp [builtin, Builtin.len_, e1, run_underlying hu, goInt, this]
theorem OpOk.max {x y : Operand} {ts : Array Nat} {k : IntKind} {a b : Int} (ho : o.op = .call { callee := .builtin .max, args := #[x, y], argTypes := ts }) (hx : oe env x = some (.c (.t (.i k a)))) (hy : oe env y = some (.c (.t (.i k b)))) : OpOk P n o env h (.c (.t (.i k (if b > a then b else a)))) h :=
  .val fun w S ι ac r1 r2 => ⟨_, exec_bi ho (by simp [builtin, Builtin.max_, (oe_ok r2 hx).i, (oe_ok r2 hy).i, Builtin.max2]), RT.i _ _⟩
theorem OpOk.min {x y : Operand} {ts : Array Nat} {k : IntKind} {a b : Int} (ho : o.op = .call { callee := .builtin .min, args := #[x, y], argTypes := ts }) (hx : oe env x = some (.c (.t (.i k a)))) (hy : oe env y = some (.c (.t (.i k b)))) : OpOk P n o env h (.c (.t (.i k (if b < a then b else a)))) h :=
  .val fun w S ι ac r1 r2 => ⟨_, exec_bi ho (by simp [builtin, Builtin.min_, (oe_ok r2 hx).i, (oe_ok r2 hy).i, Builtin.min2]), RT.i _ _⟩
/-- A byte of a string. -/
theorem OpOk.ixS (D : Tab P) {t : Nat} {x y : Operand} {s : List UInt8} {c : UInt8} {k : IntKind} {m : Int} {i : TI} (ho : o.op = .index t x y) (ht : D.f t = some i) (hk : i.k = .str) (hx : oe env x = some (.c (.t (.s s)))) (hy : oe env y = some (.c (.t (.i k m)))) (h0 : 0 ≤ m) (hm : s[m.toNat]? = some c) : OpOk P n o env h (.c (.t (.i .u8 c.toNat))) h := by
  refine .val fun w S ι a r1 r2 => ?_
  obtain ⟨ba, e1, e2⟩ := (oe_ok r2 hx).s
  have hy := (oe_ok r2 hy).i
  have hu := (D.ok t i ht).und
  rw [hk] at hu
  have hu : P.underlying t = some .string := hu
  subst e2
  have hlt : m.toNat < ba.size := by have := (List.getElem?_eq_some_iff.1 hm).1; simpa using this
  have hg : ba[m.toNat]? = some c := by
    rw [getElem?_pos ba m.toNat hlt]
    have h1 := (List.getElem?_eq_some_iff.1 hm).2
    congr 1
  exact ⟨.int .u8 c.toNat, by simp [execOp, ho, e1, hy, Instr.index, asIntOf, run_underlying hu, h0, hg], RT.i _ _⟩
/-- Bounds of a slice expression. -/
def oi (env : Env) (d : Nat) : Option Operand → Option Nat
  | none => some d
  | some x => match oe env x with
    | some (.c (.t (.i _ m))) => if 0 ≤ m then some m.toNat else none
    | _ => none
theorem bnd_ok {w : World} {S : Nat → Nat} {ι : Nat → Option Nat} {a : Act} (r2 : ER w S ι h env a.tmps) {x : Operand} {d m y : Nat} {code : BoundsCode} (hm : oi env d (some x) = some m) (hy : m ≤ y) : (Instr.sliceBound (a.eval x) y code).run P w = .ok m w := by
  simp only [oi] at hm
  split at hm
  · rename_i k z hx
    split at hm
    · rename_i h0
      injection hm with hm; subst hm
      have := (oe_ok r2 hx).i
      have h1 : 0 ≤ z ∧ z ≤ (y : Int) := ⟨h0, by omega⟩
      simp [Instr.sliceBound, this, asIntOf, h1]
    · cases hm
  · cases hm
theorem bnds_ok {w : World} {S : Nat → Nat} {ι : Nat → Option Nat} {a : Act} (r2 : ER w S ι h env a.tmps) {lo hi : Option Operand} {len cap l r : Nat} {b : Bool} (hh : oi env len hi = some r) (hl : oi env 0 lo = some l) (h1 : l ≤ r) (h2 : r ≤ cap) : (Instr.sliceBounds b len cap (lo.map a.eval) (hi.map a.eval) none).run P w = .ok (l, r, cap) w := by
  cases hi with
  | none =>
    simp only [oi, Option.some.injEq] at hh; subst hh
    cases lo with
    | none => simp only [oi, Option.some.injEq] at hl; subst hl; simp [Instr.sliceBounds]
    | some y => simp [Instr.sliceBounds, bnd_ok (P := P) r2 hl h1]
  | some x =>
    cases lo with
    | none =>
      simp only [oi, Option.some.injEq] at hl; subst hl
      cases b <;> simp [Instr.sliceBounds, bnd_ok (P := P) r2 hh h2]
    | some y => cases b <;> simp [Instr.sliceBounds, bnd_ok (P := P) r2 hh h2, bnd_ok (P := P) r2 hl h1]
theorem OpOk.slS (D : Tab P) {t : Nat} {x : Operand} {lo hi : Option Operand} {s : List UInt8} {l r : Nat} {i : TI} (ho : o.op = .slice t x lo hi none) (ht : D.f t = some i) (hk : i.k = .str) (hx : oe env x = some (.c (.t (.s s)))) (hh : oi env s.length hi = some r) (hl : oi env 0 lo = some l) (h1 : l ≤ r) (h2 : r ≤ s.length) : OpOk P n o env h (.c (.t (.s ((s.take r).drop l)))) h := by
  refine .val fun w S ι a r1 r2 => ?_
  obtain ⟨ba, e1, e2⟩ := (oe_ok r2 hx).s
  have hu := (D.ok t i ht).und
  rw [hk] at hu
  have hu : P.underlying t = some .string := hu
  have hsz : ba.size = s.length := by rw [← e2]; simp
  have hb := bnds_ok (P := P) r2 (b := false) (cap := s.length) hh hl h1 h2
  refine ⟨.string (ba.extract l r), ?_, RT.s _ _ (by rw [ByteArray.data_extract, Array.toList_extract, e2, List.extract_eq_take_drop, List.drop_take])⟩
  rw [← hsz] at hb
  simp [execOp, ho, e1, Instr.sliceAt, Instr.slice, run_underlying hu, hb]
theorem OpOk.slF (D : Tab P) {t e : Nat} {x : Operand} {lo hi : Option Operand} {es : List (List T)} {l r : Nat} {i ie : TI} (ho : o.op = .slice t x lo hi none) (ht : D.f t = some i) (hk : i.k = .sl e) (hte : D.f e = some ie) (hx : oe env x = some (.c (.t (.l es)))) (hs : ∀ el ∈ es, el.length = ie.size) (hh : oi env es.length hi = some r) (hl : oi env 0 lo = some l) (h1 : l ≤ r) (h2 : r ≤ es.length) : OpOk P n o env h (.c (.t (.l ((es.take r).drop l)))) h := by
  refine .val fun w S ι a r1 r2 => ?_
  have hu := (D.ok t i ht).und
  rw [hk] at hu
  have hu : P.underlying t = some (.slice e) := hu
  obtain ⟨A, cap, sz, e1, hcap, hsz, hA⟩ := (oe_ok r2 hx).l
  have hb := bnds_ok (P := P) r2 (b := true) (cap := cap) hh hl h1 (Nat.le_trans h2 hcap)
  have hlen : ((es.take r).drop l).length = r - l := by simp; omega
  have hd := (D.ok e ie hte).sizeOf (w := w)
  refine ⟨.slice (if cap = l then A else A.map (·.add (l * ie.size))) (r - l) (cap - l), by simp [execOp, ho, e1, Instr.sliceAt, Instr.slice, run_underlying hu, hb, hd], ?_⟩
  show RT w S (.l _) _
  rw [← hlen]
  by_cases h0 : (es.take r).drop l = []
  · exact RT.l _ _ _ sz (fun _ _ => undef) (by rw [hlen]; omega) (by rw [h0]; simp) (.inl h0) (by rw [h0]; simp)
  · have hne : r - l ≠ 0 := fun e => h0 (List.eq_nil_of_length_eq_zero (by rw [hlen, e]))
    rcases hA with rfl | ⟨B, p, rfl, hS, hA⟩
    · simp at h0
    have hz : sz = ie.size := by
      have hm : es[l]? = some es[l] := List.getElem?_eq_getElem (by omega)
      rw [← hs _ (List.mem_of_getElem? hm), ← hsz _ (List.mem_of_getElem? hm)]
    subst hz
    have get : ∀ i el, ((es.take r).drop l)[i]? = some el → es[l + i]? = some el := fun i el hi => by
      rw [List.getElem?_drop, List.getElem?_take] at hi
      split at hi
      · exact hi
      · cases hi
    refine RT.l _ _ _ ie.size (fun i j => (w.cell? ⟨B, p + (l + i) * ie.size + j, none⟩).getD undef) (by rw [hlen]; omega) (fun el hel => hs el (List.mem_of_mem_take (List.mem_of_mem_drop hel))) (.inr ⟨B, p + l * ie.size, ?_, hS, fun i el j t g1 g2 => ?_⟩) (fun i el j t g1 g2 => ?_)
    · rw [if_neg (by omega)]; simp [add_at]
    · obtain ⟨u, k1, _⟩ := hA (l + i) el j t (get i el g1) g2
      rw [k1, show p + l * ie.size + i * ie.size + j = p + (l + i) * ie.size + j by rw [Nat.add_mul]; omega, k1]; rfl
    · obtain ⟨u, k1, k2⟩ := hA (l + i) el j t (get i el g1) g2
      rw [k1]; exact k2
theorem OpOk.slA (D : Tab P) {t e b q off len sz : Nat} {x : Operand} {lo hi : Option Operand} {es : List (List C)} {l r : Nat} {i ie : TI} (ho : o.op = .slice t x lo hi none) (ht : D.f t = some i) (hk : i.k = .sl e) (hte : D.f e = some ie) (hx : oe env x = some (.c (.sl b q off len))) (hb : h[b]? = some (.arr es sz)) (hq : q = es.length) (hsz : sz = ie.size) (hh : oi env len hi = some r) (hl : oi env 0 lo = some l) (h1 : l ≤ r) (h2 : r ≤ len) (h3 : l < len) : OpOk P n o env h (.c (.sl b q (off + l) (r - l))) h := by
  refine .val fun w S ι a r1 r2 => ?_
  have hu := (D.ok t i ht).und
  rw [hk] at hu
  have hu : P.underlying t = some (.slice e) := hu
  obtain ⟨lb, hX⟩ := oe_ok r2 hx
  obtain ⟨l2, hX⟩ := hX es sz hb
  obtain ⟨l3, hX⟩ := hX hq
  have hd := (D.ok e ie hte).sizeOf (w := w)
  cases hB : ι b with
  | none =>
    obtain ⟨_, _, hA⟩ := r1.arr b es sz hb
    rcases hA with ⟨rfl, _⟩ | ⟨B, vs, e, j1, _⟩
    · simp at hq; omega
    · rw [hB] at j1; cases j1
  | some B =>
    rw [hB] at hX
    obtain ⟨cap, hX, hcap, hz⟩ := hX
    have hbn := bnds_ok (P := P) r2 (b := true) (cap := cap) hh hl h1 (Nat.le_trans h2 hcap)
    subst hsz
    have hcl : ¬ cap = l := by omega
    refine ⟨.slice (some ⟨B, (off + l) * ie.size, none⟩) (r - l) (cap - l), by simp [execOp, ho, hX, Instr.sliceAt, Instr.slice, run_underlying hu, hbn, hd, hcl, add_at, Nat.add_mul], lb, fun es' sz' hc => ?_⟩
    rw [hb] at hc; injection hc with hc; injection hc with c1 c2; subst c1; subst c2
    refine ⟨l2, fun _ => ⟨by omega, ?_⟩⟩
    rw [hB]
    exact ⟨cap - l, rfl, by omega, by rw [show off + l + (cap - l) = off + cap by omega]; exact hz⟩
end
end Go.YtamlleimfopmhaaMc
