/- The law FnExactPrefixOf as a statement over numbers and lists alone: it comes to true at every input; under no condition. -/
import Derived.Test.YtoajkkfnblpnlaaPFnExactPrefixOfx
import Derived.Laws.Strings
set_option linter.unusedVariables false
set_option linter.unusedSimpArgs false
namespace Go.Proofs.Ytoajkkfnblpnlaa.Pure
open Go.RowKit Go.Proofs.Ytoajkkfnblpnlaa.PFnExactPrefixOf Go.Proofs.YtoajkkfnblpnlaaW.PrintWords Go.Proofs.YtoajkkfnblpnlaaW.PrintLast Go.Proofs.YtoajkkfnblpnlaaW.PrintMore

theorem ev_ite {α : Type} {c : Prop} [Decidable c] {A B : Nat → Option α} {r : α} (h1 : c → Ev A r) (h2 : ¬ c → Ev B r) : Ev (fun k => if c then A k else B k) r := by
  by_cases h : c
  · simpa only [if_pos h] using h1 h
  · simpa only [if_neg h] using h2 h
theorem ev_ret {α : Type} {v r : α} (h : v = r) : Ev (fun _ => some v) r := by subst h; exact Ev.now _
theorem ev_con {α : Type} {o : Option α} {r : α} (h : o = some r) : Ev (fun _ => o) r := by subst h; exact Ev.now _
theorem ev_eq {α : Type} {g : Nat → Option α} {a b : α} (h : Ev g a) (e : a = b) : Ev g b := e ▸ h
theorem ev_id {α : Type} {g : Nat → Option α} {r : α} (h : Ev g r) : Ev (fun k => (g k).bind fun t => some t) r := h.congr (fun k => by cases g k <;> rfl)
theorem ev_rounds {α : Type} {g : Nat → Option α} {r : α} (h : Ev g r) : ∃ k, g k = some r := h.rounds
theorem ev_two {α β : Type} {g : Nat → Option α} {f : Nat → Option β} {a : α} {b : β} (h : Ev g a) (h' : Ev f b) : ∃ K, ∀ k, K ≤ k → g k = some a ∧ f k = some b := by
  obtain ⟨K, h⟩ := h
  obtain ⟨K', h'⟩ := h'
  exact ⟨max K K', fun k hk => ⟨h k (by omega), h' k (by omega)⟩⟩
theorem dec_iff {p q : Prop} [Decidable p] [Decidable q] (h : p ↔ q) : decide p = decide q := by simp [h]
theorem dec_t {p : Prop} [Decidable p] (h : p) : true = decide p := (decide_eq_true h).symm
theorem dec_f {p : Prop} [Decidable p] (h : ¬ p) : false = decide p := (decide_eq_false h).symm
/-- 64 bits hold it. -/
theorem w64 {x : Int} (h0 : -9223372036854775808 ≤ x) (h1 : x ≤ 9223372036854775807) : wrap64 x = x := by unfold wrap64; omega

/-- A test that comes to an answer, and what the answer says. -/
def EvB (g : Nat → Option Bool) (P : Prop) : Prop := ∃ b, Ev g b ∧ (b = true ↔ P)
theorem EvB.yes {g : Nat → Option Bool} {P : Prop} (h : EvB g P) (hp : P) : Ev g true := by
  obtain ⟨b, h1, h2⟩ := h
  rw [h2.2 hp] at h1; exact h1
theorem EvB.no {g : Nat → Option Bool} {P : Prop} (h : EvB g P) (hp : ¬ P) : Ev g false := by
  obtain ⟨b, h1, h2⟩ := h
  cases b with
  | true => exact absurd (h2.1 rfl) hp
  | false => exact h1
theorem EvB.iff {g : Nat → Option Bool} {P Q : Prop} (h : EvB g P) (e : P ↔ Q) : EvB g Q := by
  obtain ⟨b, h1, h2⟩ := h
  exact ⟨b, h1, h2.trans e⟩
theorem EvB.of_yes {g : Nat → Option Bool} {P : Prop} (h : Ev g true) (hp : P) : EvB g P := ⟨true, h, by simp [hp]⟩
theorem EvB.of_no {g : Nat → Option Bool} {P : Prop} (h : Ev g false) (hp : ¬ P) : EvB g P := ⟨false, h, by simp [hp]⟩
theorem EvB.of_dec {g : Nat → Option Bool} {P : Prop} [Decidable P] (h : Ev g (decide P)) : EvB g P := ⟨_, h, by simp⟩
theorem EvB.dec {g : Nat → Option Bool} {P : Prop} [Decidable P] (h : EvB g P) : Ev g (decide P) := by
  by_cases hp : P
  · rw [decide_eq_true hp]; exact h.yes hp
  · rw [decide_eq_false hp]; exact h.no hp
theorem EvB.id {g : Nat → Option Bool} {P : Prop} (h : EvB g P) : EvB (fun k => (g k).bind fun t => some t) P := by
  obtain ⟨b, h1, h2⟩ := h
  exact ⟨b, ev_id h1, h2⟩
/-- Two tests of one thing answer alike. -/
theorem EvB.same {g f : Nat → Option Bool} {P : Prop} (h : EvB g P) (h' : EvB f P) : ∃ b, Ev g b ∧ Ev f b ∧ (b = true ↔ P) := by
  obtain ⟨b, h1, h2⟩ := h
  obtain ⟨c, h3, h4⟩ := h'
  have e : b = c := by cases b <;> cases c <;> simp_all
  exact ⟨b, h1, e ▸ h3, h2⟩
theorem EvB.step {g f : Nat → Option Bool} {P : Prop} (h : ∀ k, g (k + 1) = f k) (hf : EvB f P) : EvB g P := by
  obtain ⟨b, h1, h2⟩ := hf
  exact ⟨b, Ev.step h h1, h2⟩
theorem EvB.congr {g f : Nat → Option Bool} {P : Prop} (h : ∀ k, g k = f k) (hf : EvB f P) : EvB g P := by
  obtain ⟨b, h1, h2⟩ := hf
  exact ⟨b, Ev.congr h h1, h2⟩
theorem evb_ite {c P : Prop} [Decidable c] {A B : Nat → Option Bool} (h1 : c → EvB A P) (h2 : ¬ c → EvB B P) : EvB (fun k => if c then A k else B k) P := by
  by_cases h : c
  · simpa only [if_pos h] using h1 h
  · simpa only [if_neg h] using h2 h
theorem evb_ret {b : Bool} {P : Prop} (h : b = true ↔ P) : EvB (fun _ => some b) P := ⟨b, Ev.now _, h⟩
theorem evb_bind {α : Type} {g : Nat → Option α} {f : Nat → α → Option Bool} {a : α} {P : Prop} (h : Ev g a) (k : EvB (fun n => f n a) P) : EvB (fun n => (g n).bind (f n)) P := by
  obtain ⟨b, h1, h2⟩ := k
  exact ⟨b, Ev.bind h h1, h2⟩
/-- A test inside a test. -/
theorem evb_test {g : Nat → Option Bool} {f : Nat → Bool → Option Bool} {P Q : Prop} (h : EvB g P) (h1 : P → EvB (fun n => f n true) Q) (h2 : ¬ P → EvB (fun n => f n false) Q) : EvB (fun n => (g n).bind (f n)) Q := by
  by_cases hp : P
  · exact evb_bind (h.yes hp) (h1 hp)
  · exact evb_bind (h.no hp) (h2 hp)
theorem ev_test {α : Type} {g : Nat → Option Bool} {f : Nat → Bool → Option α} {P : Prop} {r : α} (h : EvB g P) (h1 : P → Ev (fun n => f n true) r) (h2 : ¬ P → Ev (fun n => f n false) r) : Ev (fun n => (g n).bind (f n)) r := by
  by_cases hp : P
  · exact Ev.bind (h.yes hp) (h1 hp)
  · exact Ev.bind (h.no hp) (h2 hp)
/-- Is it so for all indexes from here on? -/
theorem all_loop {g : Nat → Int → Option Bool} {n : Int} {p : Int → Prop}
    (step : ∀ i, 0 ≤ i → i < n → (p i ∧ ∀ r, Ev (fun k => g k (i + 1)) r → Ev (fun k => g k i) r) ∨ (¬ p i ∧ Ev (fun k => g k i) false))
    (stop : Ev (fun k => g k n) true) (d : Nat) : ∀ i, 0 ≤ i → n - i = d → EvB (fun k => g k i) (∀ j, i ≤ j → j < n → p j) := by
  induction d with
  | zero =>
    intro i h0 hd
    have e : i = n := by omega
    subst e
    exact EvB.of_yes stop (fun j h1 h2 => by omega)
  | succ d ih =>
    intro i h0 hd
    rcases step i h0 (by omega) with ⟨hp, hs⟩ | ⟨hp, hs⟩
    · obtain ⟨b, h1, h2⟩ := ih (i + 1) (by omega) (by omega)
      refine ⟨b, hs b h1, h2.trans ⟨fun h j h3 h4 => ?_, fun h j h3 h4 => h j (by omega) h4⟩⟩
      by_cases e : j = i
      · subst e; exact hp
      · exact h j (by omega) h4
    · exact EvB.of_no hs (fun h => hp (h i (by omega) (by omega)))
/-- An index where it is so, the first one from here on; else -1. -/
def firstAt (p : Int → Prop) (n : Int) (i r : Int) : Prop := (r = -1 ∧ ∀ j, i ≤ j → j < n → ¬ p j) ∨ (i ≤ r ∧ r < n ∧ p r ∧ ∀ j, i ≤ j → j < r → ¬ p j)
theorem first_loop {g : Nat → Int → Option Int} {n : Int} {p : Int → Prop}
    (step : ∀ i, 0 ≤ i → i < n → (¬ p i ∧ ∀ r, Ev (fun k => g k (i + 1)) r → Ev (fun k => g k i) r) ∨ (p i ∧ Ev (fun k => g k i) i))
    (stop : Ev (fun k => g k n) (-1)) (d : Nat) : ∀ i, 0 ≤ i → n - i = d → ∃ r, Ev (fun k => g k i) r ∧ firstAt p n i r := by
  induction d with
  | zero =>
    intro i h0 hd
    have e : i = n := by omega
    subst e
    exact ⟨-1, stop, .inl ⟨rfl, fun j h1 h2 => by omega⟩⟩
  | succ d ih =>
    intro i h0 hd
    rcases step i h0 (by omega) with ⟨hp, hs⟩ | ⟨hp, hs⟩
    · obtain ⟨r, h1, h2⟩ := ih (i + 1) (by omega) (by omega)
      refine ⟨r, hs r h1, ?_⟩
      rcases h2 with ⟨h2, h3⟩ | ⟨h2, h3, h4, h5⟩
      · refine .inl ⟨h2, fun j h6 h7 => ?_⟩
        by_cases e : j = i
        · subst e; exact hp
        · exact h3 j (by omega) h7
      · refine .inr ⟨by omega, h3, h4, fun j h6 h7 => ?_⟩
        by_cases e : j = i
        · subst e; exact hp
        · exact h5 j (by omega) h7
    · exact ⟨i, hs, .inr ⟨by omega, by omega, hp, fun j h1 h2 => by omega⟩⟩
theorem firstAt_unique {p q : Int → Prop} {n r s : Int} (hpq : ∀ j, 0 ≤ j → j < n → (p j ↔ q j)) (h : firstAt p n 0 r) (h' : firstAt q n 0 s) : r = s := by
  rcases h with ⟨h1, h2⟩ | ⟨h1, h2, h3, h4⟩ <;> rcases h' with ⟨k1, k2⟩ | ⟨k1, k2, k3, k4⟩
  · omega
  · exact absurd ((hpq s k1 k2).2 k3) (h2 s k1 k2)
  · exact absurd ((hpq r h1 h2).1 h3) (k2 r h1 h2)
  · rcases Int.lt_trichotomy r s with h | h | h
    · exact absurd ((hpq r h1 h2).1 h3) (k4 r h1 h)
    · exact h
    · exact absurd ((hpq s k1 k2).2 k3) (h4 s k1 h)
/-- A loop that fills a list of the same length, element by element. -/
theorem fill_loop {α : Type} {g : Nat → List α → Int → Option (List α)} {ys : List α}
    (step : ∀ (xs : List α) (i : Nat), i < ys.length → xs.length = ys.length → ∀ r, (∀ y, ys[i]? = some y → Ev (fun k => g k (xs.set i y) ((i : Int) + 1)) r) → Ev (fun k => g k xs (i : Int)) r)
    (stop : ∀ xs, xs.length = ys.length → Ev (fun k => g k xs (ys.length : Int)) xs) (d : Nat) : ∀ (xs : List α) (i : Nat), ys.length - i = d → i ≤ ys.length → xs.length = ys.length → xs.take i = ys.take i → Ev (fun k => g k xs (i : Int)) ys := by
  induction d with
  | zero =>
    intro xs i hd hi hl ht
    have e : i = ys.length := by omega
    subst e
    have : xs = ys := by
      rw [List.take_of_length_le (by omega), List.take_of_length_le (Nat.le_refl _)] at ht
      exact ht
    rw [this]
    exact stop ys rfl
  | succ d ih =>
    intro xs i hd hi hl ht
    refine step xs i (by omega) hl ys (fun y hy => ?_)
    have := ih (xs.set i y) (i + 1) (by omega) (by omega) (by simpa using hl) ?_
    · exact this
    · apply List.ext_getElem?
      intro j
      by_cases hj : j < i + 1
      · rw [List.getElem?_take_of_lt hj, List.getElem?_take_of_lt hj]
        by_cases e : j = i
        · subst e
          rw [List.getElem?_set_self (by omega), hy]
        · have hji : j < i := by omega
          rw [List.getElem?_set_ne (by omega)]
          have h1 : (xs.take i)[j]? = (ys.take i)[j]? := by rw [ht]
          rwa [List.getElem?_take_of_lt hji, List.getElem?_take_of_lt hji] at h1
      · rw [List.getElem?_eq_none (by simp; omega), List.getElem?_eq_none (by simp; omega)]
/-- A loop of tests over a bound that falls: what is left, or less than 0. -/
theorem size_loop {g : Nat → Int → Int → Option Int} {n : Int}
    (step : ∀ x i, 0 ≤ i → i < n → 0 ≤ x → x ≤ 1048576 → Ev (fun k => g k x i) (-1) ∨ ∃ x', 0 ≤ x' ∧ x' ≤ x ∧ ∀ r, Ev (fun k => g k x' (i + 1)) r → Ev (fun k => g k x i) r)
    (stop : ∀ x, Ev (fun k => g k x n) x) (d : Nat) : ∀ x i, 0 ≤ i → n - i = d → 0 ≤ x → x ≤ 1048576 → ∃ r, Ev (fun k => g k x i) r ∧ (r < 0 ∨ (0 ≤ r ∧ r ≤ x)) := by
  induction d with
  | zero =>
    intro x i h0 hd hx hx1
    have e : i = n := by omega
    subst e
    exact ⟨x, stop x, .inr ⟨hx, Int.le_refl _⟩⟩
  | succ d ih =>
    intro x i h0 hd hx hx1
    rcases step x i h0 (by omega) hx hx1 with h | ⟨x', h1, h2, h3⟩
    · exact ⟨-1, h, .inl (by omega)⟩
    · obtain ⟨r, h4, h5⟩ := ih x' (i + 1) (by omega) (by omega) h1 (by omega)
      exact ⟨r, h3 r h4, by omega⟩

theorem szEntry_ev (a0 a1 a2 : Int) (a3 : ByteArray) (a4 a5 x : Int) (h0 : 0 ≤ x) (h1 : x ≤ 1048576) (hs : a3.size ≤ maxLen) : ∃ r, laws_szEntry.f a0 a1 a2 a3 a4 a5 x = some r ∧ (r = -1 ∨ (0 ≤ r ∧ r ≤ x)) := by
  simp only [maxLen] at hs
  unfold laws_szEntry.f laws_szCommand.f
  rw [w64 (by omega) (by omega)]
  by_cases h : x - (a3.size : Int) < 0
  · exact ⟨-1, by simp [h], .inl rfl⟩
  · exact ⟨x - a3.size, by simp [h], .inr ⟨by omega, by omega⟩⟩
theorem szEntryS_ev (l : List S81) (hl : l.length ≤ maxLen) (ho : ∀ y ∈ l, okS81 y) (x : Int) (h0 : 0 ≤ x) (h1 : x ≤ 1048576) : ∃ r, Ev (fun k => laws_szEntryS.f k l x) r ∧ (r < 0 ∨ (0 ≤ r ∧ r ≤ x ∧ (l.length : Int) ≤ x)) := by
  simp only [maxLen] at hl
  unfold laws_szEntryS.f
  rw [w64 (by omega) (by omega)]
  by_cases h : x - (l.length : Int) < 0
  · exact ⟨-1, by simp only [if_pos h]; exact Ev.now _, .inl (by omega)⟩
  simp only [if_neg h]
  obtain ⟨r, h2, h3⟩ := size_loop (g := fun k x i => laws_szEntryS.l0 k l x i) (n := l.length) (fun x i hi hn hx hx1 => by
    have hm : rd_T81 l i ∈ l := by
      unfold rd_T81
      rw [List.getD_eq_getElem?_getD, List.getElem?_eq_getElem (show i.toNat < l.length by omega)]
      exact List.getElem_mem _
    obtain ⟨r, hr, hb⟩ := szEntry_ev (rd_T81 l i).f0 (rd_T81 l i).f1 (rd_T81 l i).f2.f0 (rd_T81 l i).f2.f1 (rd_T81 l i).f2.f2 (rd_T81 l i).f2.f3 x hx hx1 (ho _ hm).2.2.2.1
    rcases hb with rfl | hb
    · refine .inl (Ev.step (fun k => rfl) (ev_ite (fun _ => ev_ite (fun _ => Ev.bind (ev_con hr) ?_) (fun h => by omega)) (fun h => by omega)))
      exact Ev.now _
    · refine .inr ⟨r, hb.1, hb.2, fun q hq => Ev.step (fun k => rfl) (ev_ite (fun _ => ev_ite (fun _ => Ev.bind (ev_con hr) (ev_ite (fun h => by omega) (fun _ => ?_))) (fun h => by omega)) (fun h => by omega))⟩
      rw [w64 (by omega) (by omega)]
      exact hq) (fun x => Ev.step (fun k => rfl) (ev_ite (fun h => by omega) (fun _ => Ev.now _))) l.length (x - l.length) 0 (by omega) (by omega) (by omega) (by omega)
  exact ⟨r, h2, by omega⟩

def cvE (y : S81) : S47 := ⟨y.f0, y.f1, ⟨y.f2.f0, y.f2.f1, y.f2.f2, y.f2.f3⟩⟩
theorem toEntry_eq (a0 a1 a2 : Int) (a3 : ByteArray) (a4 a5 : Int) : laws_toEntry.f a0 a1 a2 a3 a4 a5 = some (a0, a1, a2, a3, a4, a5) := rfl
theorem toEntryS_ev (l : List S81) (hl : (l.length : Int) ≤ 1048576) : Ev (fun k => laws_toEntryS.f k l) (l.map cvE) := by
  unfold laws_toEntryS.f
  refine ev_ite (fun _ => ev_ite (fun _ => ?_) (fun h => by omega)) (fun h => by omega)
  rw [Int.toNat_natCast]
  have := fill_loop (g := fun k xs i => laws_toEntryS.l0 k l xs i) (ys := l.map cvE) (fun xs i hi hx r hr => by
    rw [List.length_map] at hi hx
    refine Ev.step (fun k => rfl) (ev_ite (fun _ => ev_ite (fun _ => Ev.bind (ev_con (toEntry_eq _ _ _ _ _ _)) (ev_ite (fun _ => ?_) (fun h => by omega))) (fun h => by omega)) (fun h => by omega))
    rw [w64 (by omega) (by omega), Int.toNat_natCast]
    refine hr _ ?_
    unfold rd_T81
    rw [Int.toNat_natCast, List.getElem?_map, List.getD_eq_getElem?_getD, List.getElem?_eq_getElem hi]
    rfl) (fun xs hx => by
    rw [List.length_map] at hx ⊢
    exact Ev.step (fun k => rfl) (ev_ite (fun h => by omega) (fun _ => Ev.now _))) (l.map cvE).length (List.replicate l.length z47) 0 (by omega) (by omega) (by simp) (by simp)
  exact this

theorem eqEntryS_refl (l : List S47) (hl : (l.length : Int) ≤ 1048576) : Ev (fun k => laws_eqEntryS.f k l l) true := by
  unfold laws_eqEntryS.f
  refine ev_ite (fun _ => ?_) (fun h => absurd rfl h)
  refine (all_loop (g := fun k i => laws_eqEntryS.l0 k l l i) (n := l.length) (p := fun _ => True) (fun i h0 h1 => .inl ⟨trivial, fun r hr => ?_⟩) (Ev.step (fun k => rfl) (ev_ite (fun h => by omega) (fun _ => Ev.now _))) l.length 0 (by omega) (by omega)).yes (fun _ _ _ => trivial)
  refine Ev.step (fun k => rfl) (ev_ite (fun _ => ev_ite (fun _ => ev_ite (fun _ => Ev.bind (a := true) (ev_con ?_) ?_) (fun h => by omega)) (fun h => by omega)) (fun h => by omega))
  · simp [laws_eqEntry.f, laws_eqCommand.f]
  · rw [w64 (by omega) (by omega)]
    exact hr

def neE (x y : S47) : Bool := !(x.f0 == y.f0) || (!(x.f1 == y.f1) || (!(x.f2.f0 == y.f2.f0) || (!(x.f2.f1.toList == y.f2.f1.toList) || (!(x.f2.f2 == y.f2.f2) || (!(x.f2.f3 == y.f2.f3))))))
def prefV (a b : List S47) : Prop := b.length ≤ a.length ∧ ∀ j : Int, 0 ≤ j → j < b.length → neE (rd_T47 a j) (rd_T47 b j) = false

theorem spec_PrefixOf_ev (a b : List S47) (hb : (b.length : Int) ≤ 1048576) : EvB (fun k => spec_PrefixOf.f k a b) (prefV a b) := by
  unfold spec_PrefixOf.f
  refine evb_ite (fun h => EvB.of_no (Ev.now _) (fun hp => by have := hp.1; omega)) (fun h => ?_)
  refine (all_loop (g := fun k i => spec_PrefixOf.l0 k a b i) (n := b.length) (p := fun j => neE (rd_T47 a j) (rd_T47 b j) = false) (fun i h0 h1 => ?_) (Ev.step (fun k => rfl) (ev_ite (fun h => by omega) (fun _ => Ev.now _))) b.length 0 (by omega) (by omega)).iff ⟨fun h' => ⟨by omega, h'⟩, fun h' => h'.2⟩
  cases hn : neE (rd_T47 a i) (rd_T47 b i) with
  | false =>
    refine .inl ⟨rfl, fun r hr => Ev.step (fun k => rfl) (ev_ite (fun _ => ev_ite (fun _ => ev_ite (fun _ => ev_ite (fun h => ?_) (fun _ => ?_)) (fun h => by omega)) (fun h => by omega)) (fun h => by omega))⟩
    · exact absurd (h.symm.trans hn) (by simp)
    · rw [w64 (by omega) (by omega)]
      exact hr
  | true =>
    refine .inr ⟨by simp, Ev.step (fun k => rfl) (ev_ite (fun _ => ev_ite (fun _ => ev_ite (fun _ => ev_ite (fun h => Ev.now _) (fun h => absurd hn h)) (fun h => by omega)) (fun h => by omega)) (fun h => by omega))⟩

theorem impl_PrefixOf_ev (a b : List S47) (hb : (b.length : Int) ≤ 1048576) : EvB (fun k => impl_PrefixOf.f k a b) (prefV a b) := by
  unfold impl_PrefixOf.f
  refine evb_ite (fun h => evb_ite (fun _ => evb_ite (fun _ => EvB.id ?_) (fun h => by omega)) (fun h => by omega)) (fun h => EvB.of_no (Ev.now _) (fun hp => by have := hp.1; omega))
  rw [Int.toNat_natCast]
  have hl : (a.take b.length).length = b.length := by rw [List.length_take]; omega
  unfold impl_Entry.f
  refine evb_ite (fun _ => ?_) (fun h => absurd (by rw [hl]) h)
  rw [hl]
  have hrd : ∀ i : Int, 0 ≤ i → i < b.length → rd_T47 (a.take b.length) i = rd_T47 a i := fun i h0 h1 => by
    unfold rd_T47
    rw [List.getD_eq_getElem?_getD, List.getD_eq_getElem?_getD, List.getElem?_take_of_lt (by omega)]
  refine (all_loop (g := fun k i => impl_Entry.l0 k (a.take b.length) b b.length i) (n := b.length) (p := fun j => neE (rd_T47 a j) (rd_T47 b j) = false) (fun i h0 h1 => ?_) (Ev.step (fun k => rfl) (ev_ite (fun h => by omega) (fun _ => Ev.now _))) b.length 0 (by omega) (by omega)).iff ⟨fun h' => ⟨by omega, h'⟩, fun h' => h'.2⟩
  have hr0 := hrd i h0 h1
  cases hn : neE (rd_T47 a i) (rd_T47 b i) with
  | false =>
    refine .inl ⟨rfl, fun r hr => Ev.step (fun k => rfl) (ev_ite (fun _ => ev_ite (fun _ => ev_ite (fun _ => ev_ite (fun _ => ev_ite (fun h => ?_) (fun _ => ?_)) (fun h => by omega)) (fun h => by rw [hl] at h; omega)) (fun h => by omega)) (fun h => by omega))⟩
    · rw [hr0] at h
      exact absurd (h.symm.trans hn) (by simp)
    · rw [w64 (by omega) (by omega)]
      exact hr
  | true =>
    refine .inr ⟨by simp, Ev.step (fun k => rfl) (ev_ite (fun _ => ev_ite (fun _ => ev_ite (fun _ => ev_ite (fun _ => ev_ite (fun h => Ev.now _) (fun h => ?_)) (fun h => by omega)) (fun h => by rw [hl] at h; omega)) (fun h => by omega)) (fun h => by omega))⟩
    rw [hr0] at h
    exact absurd hn h

theorem FnExactPrefixOf : laws_FnExactPrefixOf.Pure := by
  intro a b ha hb
  refine ev_rounds ?_
  unfold laws_FnExactPrefixOf.f
  obtain ⟨r, hr, hr2⟩ := szEntryS_ev a ha.1 ha.2 1048576 (by omega) (by omega)
  refine Ev.bind hr (ev_ite (fun _ => Ev.now _) (fun h => ?_))
  obtain ⟨s, hs, hs2⟩ := szEntryS_ev b hb.1 hb.2 r (by omega) (by omega)
  refine Ev.bind hs (ev_ite (fun _ => Ev.now _) (fun h' => ?_))
  have ea := toEntryS_ev a (by omega)
  have eb := toEntryS_ev b (by omega)
  obtain ⟨t, h1, h2, _⟩ := EvB.same (spec_PrefixOf_ev (a.map cvE) (b.map cvE) (by rw [List.length_map]; omega)) (impl_PrefixOf_ev (a.map cvE) (b.map cvE) (by rw [List.length_map]; omega))
  refine Ev.bind ea (Ev.bind eb (Ev.bind h1 (Ev.bind ea (Ev.bind eb (Ev.bind h2 (ev_ite (fun h => ?_) (fun _ => Ev.bind ea (Ev.bind (eqEntryS_refl _ (by rw [List.length_map]; omega)) ?_))))))))
  · simp at h
  · refine ev_ite (fun _ => Ev.bind eb (Ev.bind (eqEntryS_refl _ (by rw [List.length_map]; omega)) ?_)) (fun h => absurd rfl h)
    exact ev_ite (fun _ => Ev.now _) (fun h => absurd rfl h)


end Go.Proofs.Ytoajkkfnblpnlaa.Pure
