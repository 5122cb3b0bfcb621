/- The law FnExactRequestOf as a statement over numbers and lists alone: it comes to true at every input; under no condition. -/
import Derived.Test.YtinnjgogaidhlaaPFnExactRequestOfx
import Derived.Laws.Strings
set_option linter.unusedVariables false
set_option linter.unusedSimpArgs false
namespace Go.Proofs.Ytinnjgogaidhlaa.Pure
open Go.RowKit Go.Proofs.Ytinnjgogaidhlaa.PFnExactRequestOf Go.Proofs.YtinnjgogaidhlaaW.PrintWords Go.Proofs.YtinnjgogaidhlaaW.PrintLast Go.Proofs.YtinnjgogaidhlaaW.PrintMore

theorem ev_ite {α : Type} {c : Prop} [Decidable c] {A B : Nat → Option α} {r : α} (h1 : c → Ev A r) (h2 : ¬ c → Ev B r) : Ev (fun k => if c then A k else B k) r := by
  by_cases h : c
  · simpa only [if_pos h] using h1 h
  · simpa only [if_neg h] using h2 h
theorem ev_ret {α : Type} {v r : α} (h : v = r) : Ev (fun _ => some v) r := by subst h; exact Ev.now _
theorem ev_con {α : Type} {o : Option α} {r : α} (h : o = some r) : Ev (fun _ => o) r := by subst h; exact Ev.now _
theorem ev_eq {α : Type} {g : Nat → Option α} {a b : α} (h : Ev g a) (e : a = b) : Ev g b := e ▸ h
theorem ev_id {α : Type} {g : Nat → Option α} {r : α} (h : Ev g r) : Ev (fun k => (g k).bind fun t => some t) r := h.congr (fun k => by cases g k <;> rfl)
theorem ev_rounds {α : Type} {g : Nat → Option α} {r : α} (h : Ev g r) : ∃ k, g k = some r := h.rounds
theorem ev_two {α β : Type} {g : Nat → Option α} {f : Nat → Option β} {a : α} {b : β} (h : Ev g a) (h' : Ev f b) : ∃ K, ∀ k, K ≤ k → g k = some a ∧ f k = some b := by
  obtain ⟨K, h⟩ := h
  obtain ⟨K', h'⟩ := h'
  exact ⟨max K K', fun k hk => ⟨h k (by omega), h' k (by omega)⟩⟩
theorem dec_iff {p q : Prop} [Decidable p] [Decidable q] (h : p ↔ q) : decide p = decide q := by simp [h]
theorem dec_t {p : Prop} [Decidable p] (h : p) : true = decide p := (decide_eq_true h).symm
theorem dec_f {p : Prop} [Decidable p] (h : ¬ p) : false = decide p := (decide_eq_false h).symm
/-- 64 bits hold it. -/
theorem w64 {x : Int} (h0 : -9223372036854775808 ≤ x) (h1 : x ≤ 9223372036854775807) : wrap64 x = x := by unfold wrap64; omega

theorem bt_list (s : ByteArray) (i : Int) (h0 : 0 ≤ i) (h : i < s.size) : ∃ hh : i.toNat < s.toList.length, bt s i = ((s.toList[i.toNat]'hh).toNat : Int) := by
  have hl : s.toList.length = s.size := by rw [ByteArray.toList_eq, Array.length_toList]; rfl
  have hh : i.toNat < s.size := by omega
  refine ⟨by omega, ?_⟩
  unfold bt
  rw [dif_pos hh]
  have : s[i.toNat]'hh = s.toList[i.toNat]'(by omega) := by simp only [ByteArray.toList_eq]; rfl
  rw [this]
theorem size_list (s : ByteArray) : s.toList.length = s.size := by rw [ByteArray.toList_eq, Array.length_toList]; rfl
theorem extract_list (s : ByteArray) (a b : Nat) : (s.extract a b).toList = (s.toList.take b).drop a := by
  rw [ByteArray.toList_eq, ByteArray.toList_eq, ByteArray.data_extract, Array.toList_extract]
  simp [List.extract, List.drop_take]
theorem bytes_ext {a b : ByteArray} (h : a.toList = b.toList) : a = b := by
  rw [ByteArray.toList_eq, ByteArray.toList_eq] at h
  cases a; cases b
  simp only [ByteArray.mk.injEq]
  exact Array.toList_inj.1 h

/-- A valid key. -/
def keyV (l : List UInt8) : Prop := 1 ≤ l.length ∧ l.length ≤ 4 ∧ ∀ b ∈ l, 97 ≤ b.toNat ∧ b.toNat ≤ 122
instance (l : List UInt8) : Decidable (keyV l) := by unfold keyV; infer_instance

/-- A valid interval. -/
def ivV (lo hi : List UInt8) : Prop := (lo = [] ∨ keyV lo) ∧ (hi = [] ∨ (keyV hi ∧ Op.bytesLess lo hi = true ∧ (lo ≠ [] ∨ hi ≠ [97])))
instance (lo hi : List UInt8) : Decidable (ivV lo hi) := by unfold ivV; infer_instance
theorem keyV_nil : ¬ keyV [] := fun h => absurd h.1 (by decide)

def apartV (l : List S43) (i : Int) : Prop := (0 ≤ (rd_T43 l i).f0 ∧ (rd_T43 l i).f0 ≤ 7) ∧ ∀ j, 0 ≤ j → j < i → (rd_T43 l j).f0 ≠ (rd_T43 l i).f0
def joinV (l : List S43) (i : Int) : Prop := 0 < i → (rd_T43 l (i - 1)).f1.f1.toList ≠ [] ∧ ¬ Op.bytesLess (rd_T43 l i).f1.f0.toList (rd_T43 l (i - 1)).f1.f1.toList = true
def cacheV (l : List S43) : Prop := ∀ i : Int, 0 ≤ i → i < l.length → ivV (rd_T43 l i).f1.f0.toList (rd_T43 l i).f1.f1.toList ∧ apartV l i ∧ joinV l i

def cmdV (kd : Int) (key : List UInt8) (v old : Int) : Prop :=
  (1 ≤ kd ∧ kd ≤ 5) ∧ (keyV key ∨ (kd = 5 ∧ key = [])) ∧ ((kd = 2 ∧ 0 ≤ v ∧ v ≤ 999 ∧ old = 0) ∨ (kd = 4 ∧ 0 ≤ v ∧ v ≤ 999 ∧ -1 ≤ old ∧ old ≤ 999) ∨ (kd ≠ 2 ∧ kd ≠ 4 ∧ v = 0 ∧ old = 0))
instance (kd : Int) (key : List UInt8) (v old : Int) : Decidable (cmdV kd key v old) := by unfold cmdV; infer_instance

def wishV (kd : Int) (key : List UInt8) (v old : Int) : Prop := cmdV kd key v old ∧ kd ≠ 5
instance (kd : Int) (key : List UInt8) (v old : Int) : Decidable (wishV kd key v old) := by unfold wishV; infer_instance

def callerV (c : List S43) (sq : Int) (bz : Bool) (kd : Int) (key : List UInt8) (v old ca : Int) : Prop := cacheV c ∧ (0 ≤ sq ∧ sq ≤ 999) ∧ ((bz = true ∧ 1 ≤ sq ∧ wishV kd key v old ∧ 0 ≤ ca ∧ ca ≤ 200) ∨ (bz = false ∧ kd = 0 ∧ key = [] ∧ v = 0 ∧ old = 0 ∧ ca = 0))

theorem l1In_eq (a b c : Int) : spec_l1In.f a b c = some (decide (b ≤ a ∧ a ≤ c)) := by
  unfold spec_l1In.f
  split <;> rename_i h
  · exact congrArg some (dec_iff (by omega))
  · exact congrArg some (dec_f (by omega))

theorem spec_KeyValid_l0 (s : ByteArray) (hs : s.size ≤ 4) (d : Nat) : ∀ i : Int, 0 ≤ i → (s.size : Int) - i = d → Ev (fun k => spec_KeyValid.l0 k s i) (decide (∀ b ∈ s.toList.drop i.toNat, 97 ≤ b.toNat ∧ b.toNat ≤ 122)) := by
  induction d with
  | zero =>
    intro i h0 hd
    refine Ev.step (fun k => rfl) (ev_ite (fun h => by omega) (fun h => ev_ret (dec_t ?_)))
    rw [List.drop_of_length_le (by rw [size_list]; omega)]
    intro b hb; cases hb
  | succ d ih =>
    intro i h0 hd
    obtain ⟨hh, hb⟩ := bt_list s i h0 (by omega)
    have hdrop := List.drop_eq_getElem_cons hh
    refine Ev.step (fun k => rfl) (ev_ite (fun h => ev_ite (fun _ => ev_ite (fun h1 => ev_ret (dec_f ?_)) (fun h1 => ev_ite (fun h2 => ev_ret (dec_f ?_)) (fun h2 => ?_))) (fun h1 => by omega)) (fun h => by omega))
    · intro ha
      have := ha _ (by rw [hdrop]; exact List.mem_cons_self)
      omega
    · intro ha
      have := ha _ (by rw [hdrop]; exact List.mem_cons_self)
      omega
    · rw [w64 (by omega) (by omega)]
      refine ev_eq (ih (i + 1) (by omega) (by omega)) (dec_iff ?_)
      rw [hdrop, show (i + 1).toNat = i.toNat + 1 by omega]
      constructor
      · intro ha b hm
        rcases List.mem_cons.1 hm with rfl | hm
        · omega
        · exact ha b hm
      · intro ha b hm
        exact ha b (List.mem_cons_of_mem _ hm)
theorem spec_KeyValid_ev (s : ByteArray) : Ev (fun k => spec_KeyValid.f k s) (decide (keyV s.toList)) := by
  unfold spec_KeyValid.f
  have hs := size_list s
  simp only [l1In_eq, Option.bind_some, decide_eq_true_eq]
  refine ev_ite (fun h => ?_) (fun h => ev_ret (dec_f (by unfold keyV; omega)))
  refine ev_eq (spec_KeyValid_l0 s (by omega) s.size 0 (by omega) (by omega)) (dec_iff ?_)
  simp only [Int.toNat_zero, List.drop_zero]
  exact ⟨fun h' => ⟨by omega, by omega, h'⟩, fun h' => h'.2.2⟩

/-- A test that comes to an answer, and what the answer says. -/
def EvB (g : Nat → Option Bool) (P : Prop) : Prop := ∃ b, Ev g b ∧ (b = true ↔ P)
theorem EvB.yes {g : Nat → Option Bool} {P : Prop} (h : EvB g P) (hp : P) : Ev g true := by
  obtain ⟨b, h1, h2⟩ := h
  rw [h2.2 hp] at h1; exact h1
theorem EvB.no {g : Nat → Option Bool} {P : Prop} (h : EvB g P) (hp : ¬ P) : Ev g false := by
  obtain ⟨b, h1, h2⟩ := h
  cases b with
  | true => exact absurd (h2.1 rfl) hp
  | false => exact h1
theorem EvB.iff {g : Nat → Option Bool} {P Q : Prop} (h : EvB g P) (e : P ↔ Q) : EvB g Q := by
  obtain ⟨b, h1, h2⟩ := h
  exact ⟨b, h1, h2.trans e⟩
theorem EvB.of_yes {g : Nat → Option Bool} {P : Prop} (h : Ev g true) (hp : P) : EvB g P := ⟨true, h, by simp [hp]⟩
theorem EvB.of_no {g : Nat → Option Bool} {P : Prop} (h : Ev g false) (hp : ¬ P) : EvB g P := ⟨false, h, by simp [hp]⟩
theorem EvB.of_dec {g : Nat → Option Bool} {P : Prop} [Decidable P] (h : Ev g (decide P)) : EvB g P := ⟨_, h, by simp⟩
theorem EvB.dec {g : Nat → Option Bool} {P : Prop} [Decidable P] (h : EvB g P) : Ev g (decide P) := by
  by_cases hp : P
  · rw [decide_eq_true hp]; exact h.yes hp
  · rw [decide_eq_false hp]; exact h.no hp
theorem EvB.id {g : Nat → Option Bool} {P : Prop} (h : EvB g P) : EvB (fun k => (g k).bind fun t => some t) P := by
  obtain ⟨b, h1, h2⟩ := h
  exact ⟨b, ev_id h1, h2⟩
/-- Two tests of one thing answer alike. -/
theorem EvB.same {g f : Nat → Option Bool} {P : Prop} (h : EvB g P) (h' : EvB f P) : ∃ b, Ev g b ∧ Ev f b ∧ (b = true ↔ P) := by
  obtain ⟨b, h1, h2⟩ := h
  obtain ⟨c, h3, h4⟩ := h'
  have e : b = c := by cases b <;> cases c <;> simp_all
  exact ⟨b, h1, e ▸ h3, h2⟩
theorem EvB.step {g f : Nat → Option Bool} {P : Prop} (h : ∀ k, g (k + 1) = f k) (hf : EvB f P) : EvB g P := by
  obtain ⟨b, h1, h2⟩ := hf
  exact ⟨b, Ev.step h h1, h2⟩
theorem EvB.congr {g f : Nat → Option Bool} {P : Prop} (h : ∀ k, g k = f k) (hf : EvB f P) : EvB g P := by
  obtain ⟨b, h1, h2⟩ := hf
  exact ⟨b, Ev.congr h h1, h2⟩
theorem evb_ite {c P : Prop} [Decidable c] {A B : Nat → Option Bool} (h1 : c → EvB A P) (h2 : ¬ c → EvB B P) : EvB (fun k => if c then A k else B k) P := by
  by_cases h : c
  · simpa only [if_pos h] using h1 h
  · simpa only [if_neg h] using h2 h
theorem evb_ret {b : Bool} {P : Prop} (h : b = true ↔ P) : EvB (fun _ => some b) P := ⟨b, Ev.now _, h⟩
theorem evb_bind {α : Type} {g : Nat → Option α} {f : Nat → α → Option Bool} {a : α} {P : Prop} (h : Ev g a) (k : EvB (fun n => f n a) P) : EvB (fun n => (g n).bind (f n)) P := by
  obtain ⟨b, h1, h2⟩ := k
  exact ⟨b, Ev.bind h h1, h2⟩
/-- A test inside a test. -/
theorem evb_test {g : Nat → Option Bool} {f : Nat → Bool → Option Bool} {P Q : Prop} (h : EvB g P) (h1 : P → EvB (fun n => f n true) Q) (h2 : ¬ P → EvB (fun n => f n false) Q) : EvB (fun n => (g n).bind (f n)) Q := by
  by_cases hp : P
  · exact evb_bind (h.yes hp) (h1 hp)
  · exact evb_bind (h.no hp) (h2 hp)
theorem ev_test {α : Type} {g : Nat → Option Bool} {f : Nat → Bool → Option α} {P : Prop} {r : α} (h : EvB g P) (h1 : P → Ev (fun n => f n true) r) (h2 : ¬ P → Ev (fun n => f n false) r) : Ev (fun n => (g n).bind (f n)) r := by
  by_cases hp : P
  · exact Ev.bind (h.yes hp) (h1 hp)
  · exact Ev.bind (h.no hp) (h2 hp)
/-- Is it so for all indexes from here on? -/
theorem all_loop {g : Nat → Int → Option Bool} {n : Int} {p : Int → Prop}
    (step : ∀ i, 0 ≤ i → i < n → (p i ∧ ∀ r, Ev (fun k => g k (i + 1)) r → Ev (fun k => g k i) r) ∨ (¬ p i ∧ Ev (fun k => g k i) false))
    (stop : Ev (fun k => g k n) true) (d : Nat) : ∀ i, 0 ≤ i → n - i = d → EvB (fun k => g k i) (∀ j, i ≤ j → j < n → p j) := by
  induction d with
  | zero =>
    intro i h0 hd
    have e : i = n := by omega
    subst e
    exact EvB.of_yes stop (fun j h1 h2 => by omega)
  | succ d ih =>
    intro i h0 hd
    rcases step i h0 (by omega) with ⟨hp, hs⟩ | ⟨hp, hs⟩
    · obtain ⟨b, h1, h2⟩ := ih (i + 1) (by omega) (by omega)
      refine ⟨b, hs b h1, h2.trans ⟨fun h j h3 h4 => ?_, fun h j h3 h4 => h j (by omega) h4⟩⟩
      by_cases e : j = i
      · subst e; exact hp
      · exact h j (by omega) h4
    · exact EvB.of_no hs (fun h => hp (h i (by omega) (by omega)))
/-- An index where it is so, the first one from here on; else -1. -/
def firstAt (p : Int → Prop) (n : Int) (i r : Int) : Prop := (r = -1 ∧ ∀ j, i ≤ j → j < n → ¬ p j) ∨ (i ≤ r ∧ r < n ∧ p r ∧ ∀ j, i ≤ j → j < r → ¬ p j)
theorem first_loop {g : Nat → Int → Option Int} {n : Int} {p : Int → Prop}
    (step : ∀ i, 0 ≤ i → i < n → (¬ p i ∧ ∀ r, Ev (fun k => g k (i + 1)) r → Ev (fun k => g k i) r) ∨ (p i ∧ Ev (fun k => g k i) i))
    (stop : Ev (fun k => g k n) (-1)) (d : Nat) : ∀ i, 0 ≤ i → n - i = d → ∃ r, Ev (fun k => g k i) r ∧ firstAt p n i r := by
  induction d with
  | zero =>
    intro i h0 hd
    have e : i = n := by omega
    subst e
    exact ⟨-1, stop, .inl ⟨rfl, fun j h1 h2 => by omega⟩⟩
  | succ d ih =>
    intro i h0 hd
    rcases step i h0 (by omega) with ⟨hp, hs⟩ | ⟨hp, hs⟩
    · obtain ⟨r, h1, h2⟩ := ih (i + 1) (by omega) (by omega)
      refine ⟨r, hs r h1, ?_⟩
      rcases h2 with ⟨h2, h3⟩ | ⟨h2, h3, h4, h5⟩
      · refine .inl ⟨h2, fun j h6 h7 => ?_⟩
        by_cases e : j = i
        · subst e; exact hp
        · exact h3 j (by omega) h7
      · refine .inr ⟨by omega, h3, h4, fun j h6 h7 => ?_⟩
        by_cases e : j = i
        · subst e; exact hp
        · exact h5 j (by omega) h7
    · exact ⟨i, hs, .inr ⟨by omega, by omega, hp, fun j h1 h2 => by omega⟩⟩
theorem firstAt_unique {p q : Int → Prop} {n r s : Int} (hpq : ∀ j, 0 ≤ j → j < n → (p j ↔ q j)) (h : firstAt p n 0 r) (h' : firstAt q n 0 s) : r = s := by
  rcases h with ⟨h1, h2⟩ | ⟨h1, h2, h3, h4⟩ <;> rcases h' with ⟨k1, k2⟩ | ⟨k1, k2, k3, k4⟩
  · omega
  · exact absurd ((hpq s k1 k2).2 k3) (h2 s k1 k2)
  · exact absurd ((hpq r h1 h2).1 h3) (k2 r h1 h2)
  · rcases Int.lt_trichotomy r s with h | h | h
    · exact absurd ((hpq r h1 h2).1 h3) (k4 r h1 h)
    · exact h
    · exact absurd ((hpq s k1 k2).2 k3) (h4 s k1 h)
/-- A loop that fills a list of the same length, element by element. -/
theorem fill_loop {α : Type} {g : Nat → List α → Int → Option (List α)} {ys : List α}
    (step : ∀ (xs : List α) (i : Nat), i < ys.length → xs.length = ys.length → ∀ r, (∀ y, ys[i]? = some y → Ev (fun k => g k (xs.set i y) ((i : Int) + 1)) r) → Ev (fun k => g k xs (i : Int)) r)
    (stop : ∀ xs, xs.length = ys.length → Ev (fun k => g k xs (ys.length : Int)) xs) (d : Nat) : ∀ (xs : List α) (i : Nat), ys.length - i = d → i ≤ ys.length → xs.length = ys.length → xs.take i = ys.take i → Ev (fun k => g k xs (i : Int)) ys := by
  induction d with
  | zero =>
    intro xs i hd hi hl ht
    have e : i = ys.length := by omega
    subst e
    have : xs = ys := by
      rw [List.take_of_length_le (by omega), List.take_of_length_le (Nat.le_refl _)] at ht
      exact ht
    rw [this]
    exact stop ys rfl
  | succ d ih =>
    intro xs i hd hi hl ht
    refine step xs i (by omega) hl ys (fun y hy => ?_)
    have := ih (xs.set i y) (i + 1) (by omega) (by omega) (by simpa using hl) ?_
    · exact this
    · apply List.ext_getElem?
      intro j
      by_cases hj : j < i + 1
      · rw [List.getElem?_take_of_lt hj, List.getElem?_take_of_lt hj]
        by_cases e : j = i
        · subst e
          rw [List.getElem?_set_self (by omega), hy]
        · have hji : j < i := by omega
          rw [List.getElem?_set_ne (by omega)]
          have h1 : (xs.take i)[j]? = (ys.take i)[j]? := by rw [ht]
          rwa [List.getElem?_take_of_lt hji, List.getElem?_take_of_lt hji] at h1
      · rw [List.getElem?_eq_none (by simp; omega), List.getElem?_eq_none (by simp; omega)]
/-- A loop of tests over a bound that falls: what is left, or less than 0. -/
theorem size_loop {g : Nat → Int → Int → Option Int} {n : Int}
    (step : ∀ x i, 0 ≤ i → i < n → 0 ≤ x → x ≤ 1048576 → Ev (fun k => g k x i) (-1) ∨ ∃ x', 0 ≤ x' ∧ x' ≤ x ∧ ∀ r, Ev (fun k => g k x' (i + 1)) r → Ev (fun k => g k x i) r)
    (stop : ∀ x, Ev (fun k => g k x n) x) (d : Nat) : ∀ x i, 0 ≤ i → n - i = d → 0 ≤ x → x ≤ 1048576 → ∃ r, Ev (fun k => g k x i) r ∧ (r < 0 ∨ (0 ≤ r ∧ r ≤ x)) := by
  induction d with
  | zero =>
    intro x i h0 hd hx hx1
    have e : i = n := by omega
    subst e
    exact ⟨x, stop x, .inr ⟨hx, Int.le_refl _⟩⟩
  | succ d ih =>
    intro x i h0 hd hx hx1
    rcases step x i h0 (by omega) hx hx1 with h | ⟨x', h1, h2, h3⟩
    · exact ⟨-1, h, .inl (by omega)⟩
    · obtain ⟨r, h4, h5⟩ := ih x' (i + 1) (by omega) (by omega) h1 (by omega)
      exact ⟨r, h3 r h4, by omega⟩

theorem spec_IntervalValid_ev (a b : ByteArray) : EvB (fun k => spec_IntervalValid.f k a b) (ivV a.toList b.toList) := by
  have ha := EvB.of_dec (spec_KeyValid_ev a)
  have hb := EvB.of_dec (spec_KeyValid_ev b)
  unfold spec_IntervalValid.f ivV
  generalize a.toList = x at *
  generalize b.toList = y at *
  refine evb_ite (fun ex => evb_ite (fun ey => evb_ret (by simp [ex, ey])) (fun ey => evb_test hb (fun hk => evb_ite (fun _ => evb_ite (fun hl => evb_ret ?_) (fun hl => evb_ret ?_)) (fun h => absurd rfl h)) (fun hk => evb_ite (fun h => by cases h) (fun _ => evb_ret ?_)))) (fun ex => evb_test ha (fun hx => evb_ite (fun _ => evb_ite (fun ey => evb_ret ?_) (fun ey => evb_test hb (fun hk => evb_ite (fun _ => evb_ite (fun hl => evb_ret ?_) (fun hl => evb_ret ?_)) (fun h => absurd rfl h)) (fun hk => evb_ite (fun h => by cases h) (fun _ => evb_ret ?_)))) (fun h => absurd rfl h)) (fun hx => evb_ite (fun h => by cases h) (fun _ => evb_ret ?_)))
  all_goals simp [*]
  all_goals (simp_all)

/-- A loop that goes on where it holds of all indexes, and is out where it does not. -/
theorem pass_loop {β : Type} {g : Nat → Int → Option β} {n : Int} {p : Int → Prop} {out : β}
    (step : ∀ i, 0 ≤ i → i < n → (p i ∧ ∀ r, Ev (fun k => g k (i + 1)) r → Ev (fun k => g k i) r) ∨ (¬ p i ∧ Ev (fun k => g k i) out)) (d : Nat) : ∀ i, 0 ≤ i → n - i = d → ((∀ j, i ≤ j → j < n → p j) ∧ ∀ r, Ev (fun k => g k n) r → Ev (fun k => g k i) r) ∨ ((¬ ∀ j, i ≤ j → j < n → p j) ∧ Ev (fun k => g k i) out) := by
  induction d with
  | zero =>
    intro i h0 hd
    have e : i = n := by omega
    subst e
    exact .inl ⟨fun j h1 h2 => by omega, fun r h => h⟩
  | succ d ih =>
    intro i h0 hd
    rcases step i h0 (by omega) with ⟨hp, hs⟩ | ⟨hp, hs⟩
    · rcases ih (i + 1) (by omega) (by omega) with ⟨h1, h2⟩ | ⟨h1, h2⟩
      · refine .inl ⟨fun j h3 h4 => ?_, fun r h => hs r (h2 r h)⟩
        by_cases e : j = i
        · subst e; exact hp
        · exact h1 j (by omega) h4
      · exact .inr ⟨fun h => h1 (fun j h3 h4 => h j (by omega) h4), hs _ h2⟩
    · exact .inr ⟨fun h => hp (h i (by omega) (by omega)), hs⟩
/-- What the first index has where it is so; else w. -/
def foundAt {β : Type} (p : Int → Prop) (v : Int → β) (w : β) (n i : Int) (r : β) : Prop := (r = w ∧ ∀ j, i ≤ j → j < n → ¬ p j) ∨ ∃ j, i ≤ j ∧ j < n ∧ p j ∧ r = v j ∧ ∀ m, i ≤ m → m < j → ¬ p m
theorem found_loop {β : Type} {g : Nat → Int → Option β} {n : Int} {p : Int → Prop} {v : Int → β} {w : β}
    (step : ∀ i, 0 ≤ i → i < n → (¬ p i ∧ ∀ r, Ev (fun k => g k (i + 1)) r → Ev (fun k => g k i) r) ∨ (p i ∧ Ev (fun k => g k i) (v i)))
    (stop : Ev (fun k => g k n) w) (d : Nat) : ∀ i, 0 ≤ i → n - i = d → ∃ r, Ev (fun k => g k i) r ∧ foundAt p v w n i r := by
  induction d with
  | zero =>
    intro i h0 hd
    have e : i = n := by omega
    subst e
    exact ⟨w, stop, .inl ⟨rfl, fun j h1 h2 => by omega⟩⟩
  | succ d ih =>
    intro i h0 hd
    rcases step i h0 (by omega) with ⟨hp, hs⟩ | ⟨hp, hs⟩
    · obtain ⟨r, h1, h2⟩ := ih (i + 1) (by omega) (by omega)
      refine ⟨r, hs r h1, ?_⟩
      rcases h2 with ⟨h2, h3⟩ | ⟨j, h2, h3, h4, h5, h6⟩
      · refine .inl ⟨h2, fun j h6 h7 => ?_⟩
        by_cases e : j = i
        · subst e; exact hp
        · exact h3 j (by omega) h7
      · refine .inr ⟨j, by omega, h3, h4, h5, fun m h7 h8 => ?_⟩
        by_cases e : m = i
        · subst e; exact hp
        · exact h6 m (by omega) h8
    · exact ⟨v i, hs, .inr ⟨i, by omega, by omega, hp, rfl, fun j h1 h2 => by omega⟩⟩
theorem foundAt_unique {β : Type} {p q : Int → Prop} {v : Int → β} {w : β} {n : Int} {r s : β} (hpq : ∀ j, 0 ≤ j → j < n → (p j ↔ q j)) (h : foundAt p v w n 0 r) (h' : foundAt q v w n 0 s) : r = s := by
  rcases h with ⟨h1, h2⟩ | ⟨j, h1, h2, h3, h4, h5⟩ <;> rcases h' with ⟨k1, k2⟩ | ⟨i, k1, k2, k3, k4, k5⟩
  · rw [h1, k1]
  · exact absurd ((hpq i k1 k2).2 k3) (h2 i k1 k2)
  · exact absurd ((hpq j h1 h2).1 h3) (k2 j h1 h2)
  · rcases Int.lt_trichotomy j i with h | h | h
    · exact absurd ((hpq j h1 h2).1 h3) (k5 j h1 h)
    · rw [h4, k4, h]
    · exact absurd ((hpq i k1 k2).2 k3) (h5 i k1 h)

theorem spec_CacheValid_ev (l : List S43) (hl : (l.length : Int) ≤ 1048576) : EvB (fun k => spec_CacheValid.f k l) (cacheV l) := by
  unfold spec_CacheValid.f
  refine all_loop (g := fun k i => spec_CacheValid.l0 k l i) (n := l.length) (p := fun i => ivV (rd_T43 l i).f1.f0.toList (rd_T43 l i).f1.f1.toList ∧ apartV l i ∧ joinV l i) (fun i h0 h1 => ?_) (Ev.step (fun k => rfl) (ev_ite (fun h => by omega) (fun _ => Ev.now _))) l.length 0 (by omega) (by omega)
  have hI := spec_IntervalValid_ev (rd_T43 l i).f1.f0 (rd_T43 l i).f1.f1
  by_cases c1 : ivV (rd_T43 l i).f1.f0.toList (rd_T43 l i).f1.f1.toList
  · by_cases c2 : 0 ≤ (rd_T43 l i).f0 ∧ (rd_T43 l i).f0 ≤ 7
    · have hs : ∀ r, Ev (fun k => spec_CacheValid.l1 k l i 0) r → Ev (fun k => spec_CacheValid.l0 k l i) r := fun r hr => Ev.step (fun k => rfl) (ev_ite (fun _ => ev_ite (fun _ => Ev.bind (hI.yes c1) (ev_ite (fun _ => Ev.bind (ev_con (l1In_eq _ _ _)) (Ev.step (fun k => rfl) (ev_ite (fun h => by simp [c2] at h) (fun _ => hr)))) (fun h => absurd rfl h))) (fun h => by omega)) (fun h => by omega))
      rcases pass_loop (g := fun k j => spec_CacheValid.l1 k l i j) (n := i) (p := fun j => (rd_T43 l j).f0 ≠ (rd_T43 l i).f0) (out := false) (fun j k0 k1 => by
        by_cases e : (rd_T43 l j).f0 = (rd_T43 l i).f0
        · exact .inr ⟨fun h => h e, Ev.step (fun k => rfl) (ev_ite (fun _ => ev_ite (fun _ => ev_ite (fun _ => ev_ite (fun _ => ev_ite (fun _ => ev_ite (fun _ => Ev.now _) (fun h => absurd e h)) (fun h => by omega)) (fun h => by omega)) (fun h => by omega)) (fun h => by omega)) (fun h => by omega))⟩
        · refine .inl ⟨e, fun r hr => Ev.step (fun k => rfl) (ev_ite (fun _ => ev_ite (fun _ => ev_ite (fun _ => ev_ite (fun _ => ev_ite (fun _ => ev_ite (fun h => absurd h e) (fun _ => ?_)) (fun h => by omega)) (fun h => by omega)) (fun h => by omega)) (fun h => by omega)) (fun h => by omega))⟩
          rw [w64 (by omega) (by omega)]
          exact hr) i.toNat 0 (by omega) (by omega) with ⟨c3, h3⟩ | ⟨c3, h3⟩
      · have c23 : apartV l i := ⟨c2, c3⟩
        by_cases c4 : i > 0
        · have ew : wrap64 (i - 1) = i - 1 := w64 (by omega) (by omega)
          by_cases c5 : (rd_T43 l (i - 1)).f1.f1.toList = []
          · refine .inr ⟨fun h => (h.2.2 c4).1 c5, hs _ (h3 _ (Ev.step (fun k => rfl) (ev_ite (fun h => by omega) (fun _ => ev_ite (fun _ => ?_) (fun h => by omega)))))⟩
            simp only [ew]
            exact ev_ite (fun _ => ev_ite (fun _ => ev_ite (fun _ => Ev.now _) (fun h => absurd c5 h)) (fun h => by omega)) (fun h => by omega)
          · by_cases c6 : Op.bytesLess (rd_T43 l i).f1.f0.toList (rd_T43 l (i - 1)).f1.f1.toList = true
            · refine .inr ⟨fun h => (h.2.2 c4).2 c6, hs _ (h3 _ (Ev.step (fun k => rfl) (ev_ite (fun h => by omega) (fun _ => ev_ite (fun _ => ?_) (fun h => by omega)))))⟩
              simp only [ew]
              exact ev_ite (fun _ => ev_ite (fun _ => ev_ite (fun h => absurd h c5) (fun h => ev_ite (fun _ => ev_ite (fun _ => ev_ite (fun _ => Ev.now _) (fun h => absurd c6 h)) (fun h => by omega)) (fun h => by omega))) (fun h => by omega)) (fun h => by omega)
            · refine .inl ⟨⟨c1, c23, fun _ => ⟨c5, c6⟩⟩, fun r hr => hs _ (h3 _ (Ev.step (fun k => rfl) (ev_ite (fun h => by omega) (fun _ => ev_ite (fun _ => ?_) (fun h => by omega)))))⟩
              simp only [ew]
              rw [w64 (by omega) (by omega)]
              exact ev_ite (fun _ => ev_ite (fun _ => ev_ite (fun h => absurd h c5) (fun h => ev_ite (fun _ => ev_ite (fun _ => ev_ite (fun h => absurd h c6) (fun _ => hr)) (fun h => by omega)) (fun h => by omega))) (fun h => by omega)) (fun h => by omega)
        · refine .inl ⟨⟨c1, c23, fun h => absurd h c4⟩, fun r hr => hs _ (h3 _ (Ev.step (fun k => rfl) (ev_ite (fun h => by omega) (fun _ => ev_ite (fun h => absurd h c4) (fun _ => ?_)))))⟩
          rw [w64 (by omega) (by omega)]
          exact hr
      · exact .inr ⟨fun h => c3 h.2.1.2, hs _ h3⟩
    · refine .inr ⟨fun h => c2 h.2.1.1, Ev.step (fun k => rfl) (ev_ite (fun _ => ev_ite (fun _ => Ev.bind (hI.yes c1) (ev_ite (fun _ => Ev.bind (ev_con (l1In_eq _ _ _)) (Ev.step (fun k => rfl) (ev_ite (fun _ => Ev.now _) (fun h => absurd (by simp only [Bool.not_eq_true', decide_eq_false_iff_not]; exact c2) h)))) (fun h => absurd rfl h))) (fun h => by omega)) (fun h => by omega))⟩
  · exact .inr ⟨fun h => c1 h.1, Ev.step (fun k => rfl) (ev_ite (fun _ => ev_ite (fun _ => Ev.bind (hI.no c1) (ev_ite (fun h => by cases h) (fun _ => Ev.step (fun k => rfl) (Ev.now _)))) (fun h => by omega)) (fun h => by omega))⟩

theorem spec_CommandValid_ev (a0 : Int) (a1 : ByteArray) (a2 a3 : Int) : Ev (fun k => spec_CommandValid.f k a0 a1 a2 a3) (decide (cmdV a0 a1.toList a2 a3)) := by
  obtain ⟨K, hK⟩ := spec_KeyValid_ev a1
  refine ⟨K + 2, fun k hk => ?_⟩
  obtain ⟨m, rfl⟩ : ∃ m, k = m + 2 := ⟨k - 2, by omega⟩
  have hK2 := hK (m + 2) (by omega)
  simp only at hK2
  simp only [spec_CommandValid.f, spec_CommandValid.j0, spec_CommandValid.j1, hK2, l1In_eq, Option.bind_some, decide_eq_true_eq]
  unfold cmdV
  generalize a1.toList = l
  by_cases e1 : a0 = 1 <;> by_cases e2 : a0 = 2 <;> by_cases e3 : a0 = 3 <;> by_cases e4 : a0 = 4 <;> by_cases e5 : a0 = 5 <;> first | omega | skip
  all_goals (try subst a0)
  all_goals (by_cases k1 : keyV l <;> by_cases k2 : l = [] <;> by_cases k3 : (0 ≤ a2 ∧ a2 ≤ 999) <;> by_cases k4 : (-1 ≤ a3 ∧ a3 ≤ 999) <;> by_cases k5 : a3 = -1 <;> by_cases k6 : (0 ≤ a3 ∧ a3 ≤ 999) <;> first | omega | (simp [*]; done) | (simp [*]; omega) | (simp [*] <;> grind))

theorem spec_l25Wish_ev (a0 : Int) (a1 : ByteArray) (a2 a3 : Int) : Ev (fun k => spec_l25Wish.f k a0 a1 a2 a3) (decide (wishV a0 a1.toList a2 a3)) := by
  unfold spec_l25Wish.f
  refine Ev.bind (spec_CommandValid_ev a0 a1 a2 a3) (ev_ite (fun h => ev_ret ?_) (fun h => ev_ret (dec_f (fun h' => h (decide_eq_true h'.1)))))
  have h := of_decide_eq_true h
  unfold wishV
  by_cases e : a0 = 5 <;> simp [e, h]

theorem ev_pos {α : Type} {c : Prop} [Decidable c] {A B : Nat → Option α} {r : α} (h : c) (k : Ev A r) : Ev (fun k => if c then A k else B k) r := ev_ite (fun _ => k) (fun h' => absurd h h')
theorem ev_neg {α : Type} {c : Prop} [Decidable c] {A B : Nat → Option α} {r : α} (h : ¬ c) (k : Ev B r) : Ev (fun k => if c then A k else B k) r := ev_ite (fun h' => absurd h' h) (fun _ => k)
theorem ev_let {α β : Type} {v : α} {f : Nat → α → Option β} {r : β} (k : Ev (fun n => f n v) r) : Ev (fun n => (some v).bind (f n)) r := k

theorem spec_CallerValid_ev (c : List S43) (hl : (c.length : Int) ≤ 1048576) (sq : Int) (bz : Bool) (kd : Int) (key : ByteArray) (v old ca : Int) : EvB (fun k => spec_CallerValid.f k c sq bz kd key v old ca) (callerV c sq bz kd key.toList v old ca) := by
  unfold spec_CallerValid.f callerV
  refine evb_test (spec_CacheValid_ev c hl) (fun h1 => ?_) (fun h1 => EvB.of_no (ev_neg (by decide) (Ev.step (fun k => rfl) (Ev.now _))) (fun h => h1 h.1))
  have hq : ∀ b, (∃ r, Ev (fun k => spec_CallerValid.j0 k b c sq bz kd key v old ca) r ∧ (r = true ↔ b = false ∧ ((bz = true ∧ 1 ≤ sq ∧ wishV kd key.toList v old ∧ 0 ≤ ca ∧ ca ≤ 200) ∨ (bz = false ∧ kd = 0 ∧ key.toList = [] ∧ v = 0 ∧ old = 0 ∧ ca = 0)))) := by
    intro b
    cases b with
    | true => exact ⟨false, Ev.step (fun k => rfl) (Ev.now _), by simp⟩
    | false =>
      have hw := EvB.of_dec (spec_l25Wish_ev kd key v old)
      cases bz with
      | true =>
        by_cases h3 : sq ≥ 1
        · by_cases h4 : wishV kd key.toList v old
          · refine ⟨decide (0 ≤ ca ∧ ca ≤ 200), Ev.step (fun k => rfl) ?_, by simp [h4]; omega⟩
            simp only [spec_CallerValid.j0]
            exact ev_neg (by decide) (ev_pos trivial (ev_pos h3 (Ev.bind (hw.yes h4) (ev_pos rfl (Ev.bind (ev_con (l1In_eq _ _ _)) (Ev.now _))))))
          · refine ⟨false, Ev.step (fun k => rfl) ?_, by simp [h4]⟩
            simp only [spec_CallerValid.j0]
            exact ev_neg (by decide) (ev_pos trivial (ev_pos h3 (Ev.bind (hw.no h4) (ev_neg (by decide) (Ev.now _)))))
        · refine ⟨false, Ev.step (fun k => rfl) ?_, by simp; omega⟩
          simp only [spec_CallerValid.j0]
          exact ev_neg (by decide) (ev_pos trivial (ev_neg h3 (Ev.now _)))
      | false =>
        refine ⟨decide (kd = 0 ∧ key.toList = [] ∧ v = 0 ∧ old = 0 ∧ ca = 0), Ev.step (fun k => rfl) ?_, by simp⟩
        simp only [spec_CallerValid.j0]
        refine ev_neg (by decide) (ev_neg (by decide) (ev_ite (fun h => ev_ret ?_) (fun h => ev_ret ?_)))
        · simp at h
          by_cases e : ca = 0 <;> simp [h, e]
        · simp at h
          simp only [eq_comm (a := false), decide_eq_false_iff_not]
          exact fun h' => h h'.1 h'.2.1 h'.2.2.1 h'.2.2.2.1
  obtain ⟨r, h2, h3⟩ := hq (!decide (0 ≤ sq ∧ sq ≤ 999))
  refine ⟨r, ev_pos rfl (Ev.bind (ev_con (l1In_eq _ _ _)) h2), h3.trans ?_⟩
  simp [h1]

theorem rd_take_R (l : List S43) (n : Nat) (i : Int) (h0 : 0 ≤ i) (h1 : i < n) : rd_T43 (l.take n) i = rd_T43 l i := by
  unfold rd_T43
  rw [List.getD_eq_getElem?_getD, List.getD_eq_getElem?_getD, List.getElem?_take_of_lt (by omega)]
theorem impl_routePlace_ev (l : List S43) (hl : (l.length : Int) ≤ 1048576) (x : Int) : ∃ r, Ev (fun k => impl_routePlace.f k l x) r ∧ firstAt (fun j => (rd_T43 l j).f0 = x) l.length 0 r := by
  unfold impl_routePlace.f
  refine first_loop (g := fun k i => impl_routePlace.l0 k x l l.length i) (fun i h0 h1 => ?_) (Ev.step (fun k => rfl) (ev_ite (fun h => by omega) (fun _ => Ev.now _))) l.length 0 (by omega) (by omega)
  by_cases e : (rd_T43 l i).f0 = x
  · exact .inr ⟨e, Ev.step (fun k => rfl) (ev_ite (fun _ => ev_ite (fun _ => ev_ite (fun _ => ev_ite (fun _ => Ev.now _) (fun h => absurd e h)) (fun h => by omega)) (fun h => by omega)) (fun h => by omega))⟩
  · refine .inl ⟨e, fun r hr => Ev.step (fun k => rfl) (ev_ite (fun _ => ev_ite (fun _ => ev_ite (fun _ => ev_ite (fun h => absurd h e) (fun _ => ?_)) (fun h => by omega)) (fun h => by omega)) (fun h => by omega))⟩
    rw [w64 (by omega) (by omega)]
    exact hr
theorem shardNumber_eq (a : Int) : impl_shardNumber.f a = some (decide (0 ≤ a ∧ a ≤ 7)) := by
  unfold impl_shardNumber.f
  split
  · exact congrArg some (dec_iff (by omega))
  · exact congrArg some (dec_f (by omega))
theorem impl_numbersDiffer_ev (l : List S43) (hl : (l.length : Int) ≤ 1048576) : EvB (fun k => impl_numbersDiffer.f k l) (∀ i : Int, 0 ≤ i → i < l.length → apartV l i) := by
  unfold impl_numbersDiffer.f
  refine all_loop (g := fun k i => impl_numbersDiffer.l0 k l l l.length i) (n := l.length) (p := fun i => apartV l i) (fun i h0 h1 => ?_) (Ev.step (fun k => rfl) (ev_ite (fun h => by omega) (fun _ => Ev.now _))) l.length 0 (by omega) (by omega)
  by_cases c2 : 0 ≤ (rd_T43 l i).f0 ∧ (rd_T43 l i).f0 ≤ 7
  · have ht : (l.take i.toNat).length = i.toNat := by rw [List.length_take]; omega
    obtain ⟨q, hq, hq2⟩ := impl_routePlace_ev (l.take i.toNat) (by omega) (rd_T43 l i).f0
    rw [ht] at hq2
    rcases hq2 with ⟨k1, k2⟩ | ⟨k1, k2, k3, k4⟩
    · refine .inl ⟨⟨c2, fun j j0 j1 => by have : ¬ (rd_T43 (l.take i.toNat) j).f0 = (rd_T43 l i).f0 := k2 j j0 (by omega); rwa [rd_take_R l _ j j0 (by omega)] at this⟩, fun r hr => Ev.step (fun k => rfl) (ev_ite (fun _ => ev_ite (fun _ => ev_ite (fun _ => Ev.bind (ev_con (shardNumber_eq _)) (ev_ite (fun _ => ev_ite (fun _ => Ev.bind hq (ev_ite (fun h => by omega) (fun _ => ?_))) (fun h => by omega)) (fun h => absurd (decide_eq_true c2) h))) (fun h => by omega)) (fun h => by omega)) (fun h => by omega))⟩
      rw [w64 (by omega) (by omega)]
      exact hr
    · refine .inr ⟨fun h => ?_, Ev.step (fun k => rfl) (ev_ite (fun _ => ev_ite (fun _ => ev_ite (fun _ => Ev.bind (ev_con (shardNumber_eq _)) (ev_ite (fun _ => ev_ite (fun _ => Ev.bind hq (ev_ite (fun _ => Ev.now _) (fun h => by omega))) (fun h => by omega)) (fun h => absurd (decide_eq_true c2) h))) (fun h => by omega)) (fun h => by omega)) (fun h => by omega))⟩
      have k3 : (rd_T43 (l.take i.toNat) q).f0 = (rd_T43 l i).f0 := k3
      rw [rd_take_R l _ q k1 (by omega)] at k3
      exact h.2 q k1 (by omega) k3
  · exact .inr ⟨fun h => c2 h.1, Ev.step (fun k => rfl) (ev_ite (fun _ => ev_ite (fun _ => ev_ite (fun _ => Ev.bind (ev_con (shardNumber_eq _)) (ev_ite (fun h => absurd (of_decide_eq_true h) c2) (fun _ => Ev.now _))) (fun h => by omega)) (fun h => by omega)) (fun h => by omega))⟩

theorem bt_head (s : ByteArray) (h : 0 < s.size) : ∃ b l, s.toList = b :: l ∧ bt s 0 = (b.toNat : Int) := by
  obtain ⟨hh, hb⟩ := bt_list s 0 (by omega) (by omega)
  have hdrop := List.drop_eq_getElem_cons hh
  simp only [Int.toNat_zero, List.drop_zero] at hdrop
  exact ⟨_, _, hdrop, hb⟩
theorem impl_lettersOnly_ev (d : Nat) : ∀ s : ByteArray, s.size = d → d ≤ 100 → Ev (fun k => impl_lettersOnly.f k s) (decide (∀ b ∈ s.toList, 97 ≤ b.toNat ∧ b.toNat ≤ 122)) := by
  induction d with
  | zero =>
    intro s hs _
    have hn : s.toList = [] := List.length_eq_zero_iff.1 (by rw [size_list, hs])
    refine Ev.step (fun k => rfl) (ev_ite (fun h => ev_ret (dec_t ?_)) (fun h => absurd hn h))
    rw [hn]; intro b hb; cases hb
  | succ d ih =>
    intro s hs hle
    obtain ⟨c, l, hc, hb⟩ := bt_head s (by omega)
    have hex : (s.extract 1 s.size).toList = l := by
      rw [extract_list, List.take_of_length_le (by rw [size_list]; omega), hc, List.drop_one, List.tail_cons]
    have hl : l.length = d := by have := size_list s; rw [hc, List.length_cons] at this; omega
    refine Ev.step (fun k => rfl) (ev_ite (fun h => ?_) (fun h => ev_ite (fun _ => ev_ite (fun h1 => ev_ite (fun h2 => ev_ite (fun _ => ?_) (fun h3 => by omega)) (fun h2 => ev_ret (dec_f ?_))) (fun h1 => ev_ret (dec_f ?_))) (fun h1 => by omega)))
    · rw [hc] at h; cases h
    · refine ev_id (ev_eq (ih (s.extract 1 s.size) (by rw [← size_list, hex, hl]) (by omega)) (dec_iff ?_))
      rw [hex, hc]
      constructor
      · intro ha b hm
        rcases List.mem_cons.1 hm with rfl | hm
        · omega
        · exact ha b hm
      · intro ha b hm
        exact ha b (List.mem_cons_of_mem _ hm)
    · intro ha
      have := ha c (by rw [hc]; exact List.mem_cons_self)
      omega
    · intro ha
      have := ha c (by rw [hc]; exact List.mem_cons_self)
      omega

theorem impl_KeyValid_ev (s : ByteArray) : Ev (fun k => impl_KeyValid.f k s) (decide (keyV s.toList)) := by
  unfold impl_KeyValid.f
  have hs := size_list s
  refine ev_ite (fun h => ev_ret (dec_f (by unfold keyV; omega))) (fun h => ev_ite (fun h1 => ev_ret (dec_f (by unfold keyV; omega))) (fun h1 => ev_id ?_))
  refine ev_eq (impl_lettersOnly_ev s.size s rfl (by omega)) (dec_iff ?_)
  exact ⟨fun h' => ⟨by omega, by omega, h'⟩, fun h' => h'.2.2⟩

theorem less_low (y : List UInt8) (h : keyV y) : Op.bytesLess [97] y = true ↔ y ≠ [97] := by
  rcases y with _ | ⟨c, t⟩
  · exact absurd h keyV_nil
  have hc := h.2.2 c List.mem_cons_self
  rcases t with _ | ⟨d, t⟩
  · simp only [Op.bytesLess]
    have : (97 < c) ↔ c ≠ 97 := by
      constructor
      · intro h e; subst e; revert h; decide
      · intro h
        rw [UInt8.lt_iff_toNat_lt]
        have : c.toNat ≠ 97 := fun e => h (UInt8.toNat_inj.1 e)
        have : (97 : UInt8).toNat = 97 := rfl
        omega
    simpa using this
  · simp only [Op.bytesLess]
    by_cases e : c = 97
    · subst e; simp
    · have : (97 : UInt8) < c := by
        rw [UInt8.lt_iff_toNat_lt]
        have : c.toNat ≠ 97 := fun e' => e (UInt8.toNat_inj.1 e')
        have : (97 : UInt8).toNat = 97 := rfl
        omega
      simp [this]
theorem less_nil (y : List UInt8) (h : y ≠ []) : Op.bytesLess [] y = true := by
  cases y with
  | nil => exact absurd rfl h
  | cons => rfl
theorem low_list : ((⟨#[97]⟩ : ByteArray)).toList = [97] := by rw [ByteArray.toList_eq]
theorem impl_IntervalValid_ev (a b : ByteArray) : EvB (fun k => impl_IntervalValid.f k a b) (ivV a.toList b.toList) := by
  have ha := EvB.of_dec (impl_KeyValid_ev a)
  have hb := EvB.of_dec (impl_KeyValid_ev b)
  unfold impl_IntervalValid.f ivV impl_lowestKey.f
  refine evb_ite (fun ex => ?_) (fun ex => ?_)
  · simp only [if_pos ex, Option.bind_some, low_list, ex]
    generalize b.toList = y at *
    refine evb_ite (fun ey => evb_ret (by simp [ey])) (fun ey => evb_test hb (fun hk => evb_ite (fun _ => evb_ret ?_) (fun h => absurd rfl h)) (fun hk => evb_ite (fun h => by cases h) (fun _ => evb_ret ?_)))
    · rw [low_list, less_low y hk]
      simp [hk, ey, less_nil y ey]
    · simp [hk, ey]
  · simp only [if_neg ex, Option.bind_some]
    generalize a.toList = x at *
    generalize b.toList = y at *
    refine evb_test ha (fun hx => evb_ite (fun _ => evb_ite (fun ey => evb_ret ?_) (fun ey => evb_test hb (fun hk => evb_ite (fun _ => evb_ret ?_) (fun h => absurd rfl h)) (fun hk => evb_ite (fun h => by cases h) (fun _ => evb_ret ?_)))) (fun h => absurd rfl h)) (fun hx => evb_ite (fun h => by cases h) (fun _ => evb_ret ?_))
    all_goals simp [*]

theorem pig (m : Nat) : ∀ l : List Nat, l.Nodup → (∀ x ∈ l, x < m) → l.length ≤ m := by
  induction m with
  | zero => intro l _ h; cases l with
    | nil => exact Nat.le_refl _
    | cons a t => exact absurd (h a List.mem_cons_self) (by omega)
  | succ m ih =>
    intro l hn h
    by_cases hm : m ∈ l
    · have h1 := ih (l.erase m) (hn.erase m) (fun x hx => by
        have hx' := (hn.mem_erase_iff).1 hx
        have := h x hx'.2
        have := hx'.1
        omega)
      rw [List.length_erase_of_mem hm] at h1
      omega
    · have h1 := ih l hn (fun x hx => by
        have := h x hx
        have : x ≠ m := fun e => hm (e ▸ hx)
        omega)
      omega
theorem apart_eight (l : List S43) (h : ∀ i : Int, 0 ≤ i → i < l.length → apartV l i) : l.length ≤ 8 := by
  have hg : ∀ (i : Nat) (hi : i < l.length), rd_T43 l (i : Int) = l[i] := fun i hi => by
    unfold rd_T43
    rw [Int.toNat_natCast, List.getD_eq_getElem?_getD, List.getElem?_eq_getElem hi]
    rfl
  have h8 := pig 8 (l.map (fun y => y.f0.toNat)) (by
    rw [List.Nodup, List.pairwise_iff_getElem]
    intro i j hi hj hij
    rw [List.length_map] at hi hj
    simp only [List.getElem_map]
    have h1 := h j (by omega) (by omega)
    have h2 := h i (by omega) (by omega)
    have h3 := h1.2 i (by omega) (by omega)
    have h4 := h1.1
    have h5 := h2.1
    rw [hg i hi, hg j hj] at h3
    rw [hg j hj] at h4
    rw [hg i hi] at h5
    omega) (by
    intro x hx
    obtain ⟨y, hy, rfl⟩ := List.mem_map.1 hx
    obtain ⟨i, hi, rfl⟩ := List.mem_iff_getElem.1 hy
    have h1 := (h i (by omega) (by omega)).1
    rw [hg i hi] at h1
    omega)
  rwa [List.length_map] at h8

theorem impl_CacheValid_ev (l : List S43) (hl : (l.length : Int) ≤ 1048576) : EvB (fun k => impl_CacheValid.f k l) (cacheV l) := by
  unfold impl_CacheValid.f
  refine evb_ite (fun h => EvB.of_no (Ev.step (fun k => rfl) (Ev.now _)) (fun hc => ?_)) (fun h => ?_)
  · have := apart_eight l (fun i h0 h1 => (hc i h0 h1).2.1)
    omega
  refine evb_test (impl_numbersDiffer_ev l hl) (fun hn => ?_) (fun hn => EvB.of_no (Ev.step (fun k => rfl) (Ev.now _)) (fun hc => hn (fun i h0 h1 => (hc i h0 h1).2.1)))
  refine EvB.step (f := fun k => impl_CacheValid.l0 k l l l.length 0) (fun k => rfl) ?_
  refine (all_loop (g := fun k i => impl_CacheValid.l0 k l l l.length i) (n := l.length) (p := fun i => ivV (rd_T43 l i).f1.f0.toList (rd_T43 l i).f1.f1.toList ∧ joinV l i) (fun i h0 h1 => ?_) (Ev.step (fun k => rfl) (ev_ite (fun h => by omega) (fun _ => Ev.now _))) l.length 0 (by omega) (by omega)).iff ⟨fun h' i h0 h1 => ⟨(h' i h0 h1).1, hn i h0 h1, (h' i h0 h1).2⟩, fun h' i h0 h1 => ⟨(h' i h0 h1).1, (h' i h0 h1).2.2⟩⟩
  have hI := impl_IntervalValid_ev (rd_T43 l i).f1.f0 (rd_T43 l i).f1.f1
  by_cases c1 : ivV (rd_T43 l i).f1.f0.toList (rd_T43 l i).f1.f1.toList
  · by_cases c4 : i > 0
    · have ew : wrap64 (i - 1) = i - 1 := w64 (by omega) (by omega)
      have hs : ∀ r, Ev (fun k => if (rd_T43 l (i - 1)).f1.f1.toList = ([] : List UInt8) then some false else if Op.bytesLess (rd_T43 l i).f1.f0.toList (rd_T43 l (i - 1)).f1.f1.toList = true then some false else impl_CacheValid.l0 k l l l.length (i + 1)) r → Ev (fun k => impl_CacheValid.l0 k l l l.length i) r := fun r hr => Ev.step (fun k => rfl) (ev_ite (fun _ => ev_ite (fun _ => ev_ite (fun _ => Ev.bind (hI.yes c1) (ev_ite (fun _ => ev_ite (fun _ => by
        simp only [ew]
        rw [w64 (x := i + 1) (by omega) (by omega)]
        exact ev_ite (fun _ => ev_ite (fun _ => hr) (fun h => by omega)) (fun h => by omega)) (fun h => absurd c4 h)) (fun h => absurd rfl h))) (fun h => by omega)) (fun h => by omega)) (fun h => by omega))
      by_cases c5 : (rd_T43 l (i - 1)).f1.f1.toList = []
      · exact .inr ⟨fun h => (h.2 c4).1 c5, hs _ (ev_ite (fun _ => Ev.now _) (fun h => absurd c5 h))⟩
      · by_cases c6 : Op.bytesLess (rd_T43 l i).f1.f0.toList (rd_T43 l (i - 1)).f1.f1.toList = true
        · exact .inr ⟨fun h => (h.2 c4).2 c6, hs _ (ev_ite (fun h => absurd h c5) (fun _ => ev_ite (fun _ => Ev.now _) (fun h => absurd c6 h)))⟩
        · exact .inl ⟨⟨c1, fun _ => ⟨c5, c6⟩⟩, fun r hr => hs _ (ev_ite (fun h => absurd h c5) (fun _ => ev_ite (fun h => absurd h c6) (fun _ => hr)))⟩
    · refine .inl ⟨⟨c1, fun h => absurd h c4⟩, fun r hr => Ev.step (fun k => rfl) (ev_ite (fun _ => ev_ite (fun _ => ev_ite (fun _ => Ev.bind (hI.yes c1) (ev_ite (fun _ => ev_ite (fun h => absurd h c4) (fun _ => ?_)) (fun h => absurd rfl h))) (fun h => by omega)) (fun h => by omega)) (fun h => by omega))⟩
      rw [w64 (by omega) (by omega)]
      exact hr
  · exact .inr ⟨fun h => c1 h.1, Ev.step (fun k => rfl) (ev_ite (fun _ => ev_ite (fun _ => ev_ite (fun _ => Ev.bind (hI.no c1) (ev_ite (fun h => by cases h) (fun _ => Ev.now _))) (fun h => by omega)) (fun h => by omega)) (fun h => by omega))⟩

theorem valueValid_eq (a : Int) : impl_valueValid.f a = some (decide (0 ≤ a ∧ a ≤ 999)) := by
  unfold impl_valueValid.f
  split
  · exact congrArg some (dec_iff (by omega))
  · exact congrArg some (dec_f (by omega))
theorem impl_CommandValid_ev (a0 : Int) (a1 : ByteArray) (a2 a3 : Int) : Ev (fun k => impl_CommandValid.f k a0 a1 a2 a3) (decide (cmdV a0 a1.toList a2 a3)) := by
  obtain ⟨K, hK⟩ := impl_KeyValid_ev a1
  refine ⟨K + 2, fun k hk => ?_⟩
  obtain ⟨m, rfl⟩ : ∃ m, k = m + 2 := ⟨k - 2, by omega⟩
  have hK1 := hK (m + 1) (by omega)
  simp only at hK1
  simp only [impl_CommandValid.f, impl_CommandValid.j0, impl_CommandValid.j1, hK1, valueValid_eq, Option.bind_some, decide_eq_true_eq]
  unfold cmdV
  generalize a1.toList = l
  by_cases e0 : 1 ≤ a0 ∧ a0 ≤ 5
  · by_cases e1 : a0 = 1 <;> by_cases e2 : a0 = 2 <;> by_cases e3 : a0 = 3 <;> by_cases e4 : a0 = 4 <;> by_cases e5 : a0 = 5 <;> first | omega | skip
    all_goals (try subst a0)
    all_goals (by_cases k1 : keyV l <;> by_cases k2 : l = [] <;> by_cases k3 : (0 ≤ a2 ∧ a2 ≤ 999) <;> by_cases k4 : (-1 ≤ a3 ∧ a3 ≤ 999) <;> by_cases k5 : a3 = -1 <;> by_cases k6 : (0 ≤ a3 ∧ a3 ≤ 999) <;> first | omega | (simp [*]; done) | (simp [*]; omega) | (simp [*] <;> grind))
  · by_cases e1 : a0 < 1 <;> simp [e1] <;> grind

theorem impl_wishValid_ev (a0 : Int) (a1 : ByteArray) (a2 a3 : Int) : Ev (fun k => impl_wishValid.f k a0 a1 a2 a3) (decide (wishV a0 a1.toList a2 a3)) := by
  unfold impl_wishValid.f
  refine Ev.bind (impl_CommandValid_ev a0 a1 a2 a3) (ev_ite (fun h => ev_ret ?_) (fun h => ev_ret (dec_f (fun h' => h (decide_eq_true h'.1)))))
  have h := of_decide_eq_true h
  unfold wishV
  by_cases e : a0 = 5 <;> simp [e, h]

theorem timeValid_eq (a : Int) : impl_timeValid.f a = some (decide (0 ≤ a ∧ a ≤ 200)) := by
  unfold impl_timeValid.f
  split
  · exact congrArg some (dec_iff (by omega))
  · exact congrArg some (dec_f (by omega))

theorem impl_CallerValid_ev (c : List S43) (hl : (c.length : Int) ≤ 1048576) (sq : Int) (bz : Bool) (kd : Int) (key : ByteArray) (v old ca : Int) : EvB (fun k => impl_CallerValid.f k c sq bz kd key v old ca) (callerV c sq bz kd key.toList v old ca) := by
  unfold impl_CallerValid.f callerV
  refine evb_test (impl_CacheValid_ev c hl) (fun h1 => ?_) (fun h1 => EvB.of_no (ev_neg (by decide) (Ev.step (fun k => rfl) (Ev.now _))) (fun h => h1 h.1))
  have hq : ∀ b, (∃ r, Ev (fun k => impl_CallerValid.j0 k b c sq bz kd key v old ca) r ∧ (r = true ↔ b = false ∧ ((bz = true ∧ 1 ≤ sq ∧ wishV kd key.toList v old ∧ 0 ≤ ca ∧ ca ≤ 200) ∨ (bz = false ∧ kd = 0 ∧ key.toList = [] ∧ v = 0 ∧ old = 0 ∧ ca = 0)))) := by
    intro b
    cases b with
    | true => exact ⟨false, Ev.step (fun k => rfl) (Ev.now _), by simp⟩
    | false =>
      have hw := EvB.of_dec (impl_wishValid_ev kd key v old)
      cases bz with
      | true =>
        by_cases h3 : sq ≥ 1
        · by_cases h4 : wishV kd key.toList v old
          · refine ⟨decide (0 ≤ ca ∧ ca ≤ 200), Ev.step (fun k => rfl) ?_, by simp [h4]; omega⟩
            simp only [impl_CallerValid.j0]
            exact ev_neg (by decide) (ev_pos trivial (ev_pos h3 (Ev.bind (hw.yes h4) (ev_pos rfl (Ev.bind (ev_con (timeValid_eq _)) (Ev.now _))))))
          · refine ⟨false, Ev.step (fun k => rfl) ?_, by simp [h4]⟩
            simp only [impl_CallerValid.j0]
            exact ev_neg (by decide) (ev_pos trivial (ev_pos h3 (Ev.bind (hw.no h4) (ev_neg (by decide) (Ev.now _)))))
        · refine ⟨false, Ev.step (fun k => rfl) ?_, by simp; omega⟩
          simp only [impl_CallerValid.j0]
          exact ev_neg (by decide) (ev_pos trivial (ev_neg h3 (Ev.now _)))
      | false =>
        refine ⟨decide (kd = 0 ∧ key.toList = [] ∧ v = 0 ∧ old = 0 ∧ ca = 0), Ev.step (fun k => rfl) ?_, by simp⟩
        simp only [impl_CallerValid.j0]
        refine ev_neg (by decide) (ev_neg (by decide) (ev_ite (fun h => ev_ret ?_) (fun h => ev_ret ?_)))
        · simp at h
          by_cases e : ca = 0 <;> simp [h, e]
        · simp at h
          simp only [eq_comm (a := false), decide_eq_false_iff_not]
          exact fun h' => h h'.1 h'.2.1 h'.2.2.1 h'.2.2.2.1
  by_cases hs : sq < 0
  · obtain ⟨r, h2, h3⟩ := hq true
    refine ⟨r, ev_pos rfl (ev_pos hs h2), h3.trans ?_⟩
    simp [h1]; omega
  · obtain ⟨r, h2, h3⟩ := hq (decide (sq > 999))
    refine ⟨r, ev_pos rfl (ev_neg hs h2), h3.trans ?_⟩
    simp [h1]; omega

def reqR (c : List S43) (sq : Int) (bz : Bool) (kd : Int) (key : ByteArray) (v old ca cl : Int) (r : Int × Int × Int × ByteArray × Int × Int × Bool) : Prop := ((callerV c sq bz kd key.toList v old ca ∧ bz = true ∧ 0 ≤ cl ∧ cl ≤ 3) → r = (cl, sq, kd, key, v, old, true)) ∧ (¬ (callerV c sq bz kd key.toList v old ca ∧ bz = true ∧ 0 ≤ cl ∧ cl ≤ 3) → r = (0, 0, 0, (⟨#[]⟩ : ByteArray), 0, 0, false))
theorem reqR_unique {c : List S43} {sq : Int} {bz : Bool} {kd : Int} {key : ByteArray} {v old ca cl : Int} {r s : Int × Int × Int × ByteArray × Int × Int × Bool} (h : reqR c sq bz kd key v old ca cl r) (h' : reqR c sq bz kd key v old ca cl s) : r = s := by
  by_cases hc : callerV c sq bz kd key.toList v old ca ∧ bz = true ∧ 0 ≤ cl ∧ cl ≤ 3
  · rw [h.1 hc, h'.1 hc]
  · rw [h.2 hc, h'.2 hc]
theorem spec_RequestOf_ev (c : List S43) (hl : (c.length : Int) ≤ 1048576) (sq : Int) (bz : Bool) (kd : Int) (key : ByteArray) (v old ca cl : Int) : ∃ r, Ev (fun k => spec_RequestOf.f k c sq bz kd key v old ca cl) r ∧ reqR c sq bz kd key v old ca cl r := by
  have hv := spec_CallerValid_ev c hl sq bz kd key v old ca
  unfold spec_RequestOf.f
  by_cases h1 : callerV c sq bz kd key.toList v old ca
  · by_cases h2 : bz = true
    · by_cases h3 : 0 ≤ cl ∧ cl ≤ 3
      · exact ⟨_, Ev.bind (hv.yes h1) (ev_pos rfl (ev_pos h2 (Ev.bind (ev_con (l1In_eq _ _ _)) (ev_pos (decide_eq_true h3) (Ev.now _))))), fun _ => rfl, fun h => absurd ⟨h1, h2, h3⟩ h⟩
      · exact ⟨_, Ev.bind (hv.yes h1) (ev_pos rfl (ev_pos h2 (Ev.bind (ev_con (l1In_eq _ _ _)) (ev_neg (fun h => h3 (of_decide_eq_true h)) (Ev.now _))))), fun h => absurd h.2.2 h3, fun _ => rfl⟩
    · exact ⟨_, Ev.bind (hv.yes h1) (ev_pos rfl (ev_neg h2 (Ev.now _))), fun h => absurd h.2.1 h2, fun _ => rfl⟩
  · exact ⟨_, Ev.bind (hv.no h1) (ev_neg (by decide) (Ev.now _)), fun h => absurd h.1 h1, fun _ => rfl⟩
theorem impl_RequestOf_ev (c : List S43) (hl : (c.length : Int) ≤ 1048576) (sq : Int) (bz : Bool) (kd : Int) (key : ByteArray) (v old ca cl : Int) : ∃ r, Ev (fun k => impl_RequestOf.f k c sq bz kd key v old ca cl) r ∧ reqR c sq bz kd key v old ca cl r := by
  have hv := impl_CallerValid_ev c hl sq bz kd key v old ca
  unfold impl_RequestOf.f
  by_cases h1 : callerV c sq bz kd key.toList v old ca
  · by_cases h2 : bz = true
    · by_cases h3 : cl < 0
      · exact ⟨_, Ev.bind (hv.yes h1) (ev_pos rfl (ev_pos h2 (ev_pos h3 (Ev.now _)))), fun h => by omega, fun _ => rfl⟩
      · by_cases h4 : cl ≥ 4
        · exact ⟨_, Ev.bind (hv.yes h1) (ev_pos rfl (ev_pos h2 (ev_neg h3 (ev_pos h4 (Ev.now _))))), fun h => by omega, fun _ => rfl⟩
        · exact ⟨_, Ev.bind (hv.yes h1) (ev_pos rfl (ev_pos h2 (ev_neg h3 (ev_neg h4 (Ev.now _))))), fun _ => rfl, fun h => absurd ⟨h1, h2, by omega, by omega⟩ h⟩
    · exact ⟨_, Ev.bind (hv.yes h1) (ev_pos rfl (ev_neg h2 (Ev.now _))), fun h => absurd h.2.1 h2, fun _ => rfl⟩
  · exact ⟨_, Ev.bind (hv.no h1) (ev_neg (by decide) (Ev.now _)), fun h => absurd h.1 h1, fun _ => rfl⟩

def cvR (y : S77) : S43 := ⟨y.f0, ⟨y.f1.f0, y.f1.f1⟩⟩
theorem toRoute_eq (a0 : Int) (a1 a2 : ByteArray) : laws_toRoute.f a0 a1 a2 = some (a0, a1, a2) := rfl
theorem toRouteS_ev (l : List S77) (hl : (l.length : Int) ≤ 1048576) : Ev (fun k => laws_toRouteS.f k l) (l.map cvR) := by
  unfold laws_toRouteS.f
  refine ev_ite (fun _ => ev_ite (fun _ => ?_) (fun h => by omega)) (fun h => by omega)
  rw [Int.toNat_natCast]
  have := fill_loop (g := fun k xs i => laws_toRouteS.l0 k l xs i) (ys := l.map cvR) (fun xs i hi hx r hr => by
    rw [List.length_map] at hi hx
    refine Ev.step (fun k => rfl) (ev_ite (fun _ => ev_ite (fun _ => Ev.bind (ev_con (toRoute_eq _ _ _)) (ev_ite (fun _ => ?_) (fun h => by omega))) (fun h => by omega)) (fun h => by omega))
    rw [w64 (by omega) (by omega), Int.toNat_natCast]
    refine hr _ ?_
    unfold rd_T77
    rw [Int.toNat_natCast, List.getElem?_map, List.getD_eq_getElem?_getD, List.getElem?_eq_getElem hi]
    rfl) (fun xs hx => by
    rw [List.length_map] at hx ⊢
    exact Ev.step (fun k => rfl) (ev_ite (fun h => by omega) (fun _ => Ev.now _))) (l.map cvR).length (List.replicate l.length z43) 0 (by omega) (by omega) (by simp) (by simp)
  exact this

theorem szRoute_ev (a0 : Int) (a1 a2 : ByteArray) (x : Int) (h0 : 0 ≤ x) (h1 : x ≤ 1048576) (hs : a1.size ≤ maxLen) (hs2 : a2.size ≤ maxLen) : ∃ r, laws_szRoute.f a0 a1 a2 x = some r ∧ (r = -1 ∨ (0 ≤ r ∧ r ≤ x)) := by
  simp only [maxLen] at hs hs2
  unfold laws_szRoute.f laws_szInterval.f
  rw [w64 (x := x - (a1.size : Int)) (by omega) (by omega)]
  by_cases h : x - (a1.size : Int) < 0
  · exact ⟨-1, by simp [h], .inl rfl⟩
  · rw [w64 (x := x - (a1.size : Int) - a2.size) (by omega) (by omega)]
    by_cases h2 : x - (a1.size : Int) - a2.size < 0
    · exact ⟨-1, by simp [h, h2], .inl rfl⟩
    · exact ⟨x - a1.size - a2.size, by simp [h, h2], .inr ⟨by omega, by omega⟩⟩
theorem szRouteS_ev (l : List S77) (hl : l.length ≤ maxLen) (ho : ∀ y ∈ l, okS77 y) (x : Int) (h0 : 0 ≤ x) (h1 : x ≤ 1048576) : ∃ r, Ev (fun k => laws_szRouteS.f k l x) r ∧ (r < 0 ∨ (0 ≤ r ∧ r ≤ x ∧ (l.length : Int) ≤ x)) := by
  simp only [maxLen] at hl
  unfold laws_szRouteS.f
  rw [w64 (by omega) (by omega)]
  by_cases h : x - (l.length : Int) < 0
  · exact ⟨-1, by simp only [if_pos h]; exact Ev.now _, .inl (by omega)⟩
  simp only [if_neg h]
  obtain ⟨r, h2, h3⟩ := size_loop (g := fun k x i => laws_szRouteS.l0 k l x i) (n := l.length) (fun x i hi hn hx hx1 => by
    have hm : rd_T77 l i ∈ l := by
      unfold rd_T77
      rw [List.getD_eq_getElem?_getD, List.getElem?_eq_getElem (show i.toNat < l.length by omega)]
      exact List.getElem_mem _
    obtain ⟨r, hr, hb⟩ := szRoute_ev (rd_T77 l i).f0 (rd_T77 l i).f1.f0 (rd_T77 l i).f1.f1 x hx hx1 (ho _ hm).2.1 (ho _ hm).2.2
    rcases hb with rfl | hb
    · refine .inl (Ev.step (fun k => rfl) (ev_ite (fun _ => ev_ite (fun _ => Ev.bind (ev_con hr) ?_) (fun h => by omega)) (fun h => by omega)))
      exact Ev.now _
    · refine .inr ⟨r, hb.1, hb.2, fun q hq => Ev.step (fun k => rfl) (ev_ite (fun _ => ev_ite (fun _ => Ev.bind (ev_con hr) (ev_ite (fun h => by omega) (fun _ => ?_))) (fun h => by omega)) (fun h => by omega))⟩
      rw [w64 (by omega) (by omega)]
      exact hq) (fun x => Ev.step (fun k => rfl) (ev_ite (fun h => by omega) (fun _ => Ev.now _))) l.length (x - l.length) 0 (by omega) (by omega) (by omega) (by omega)
  exact ⟨r, h2, by omega⟩

theorem eqRouteS_refl (l : List S43) (hl : (l.length : Int) ≤ 1048576) : Ev (fun k => laws_eqRouteS.f k l l) true := by
  unfold laws_eqRouteS.f
  refine ev_ite (fun _ => ?_) (fun h => absurd rfl h)
  refine (all_loop (g := fun k i => laws_eqRouteS.l0 k l l i) (n := l.length) (p := fun _ => True) (fun i h0 h1 => .inl ⟨trivial, fun r hr => ?_⟩) (Ev.step (fun k => rfl) (ev_ite (fun h => by omega) (fun _ => Ev.now _))) l.length 0 (by omega) (by omega)).yes (fun _ _ _ => trivial)
  refine Ev.step (fun k => rfl) (ev_ite (fun _ => ev_ite (fun _ => ev_ite (fun _ => Ev.bind (a := true) (ev_con ?_) ?_) (fun h => by omega)) (fun h => by omega)) (fun h => by omega))
  · simp [laws_eqRoute.f, laws_eqInterval.f]
  · rw [w64 (by omega) (by omega)]
    exact hr

theorem szCaller_ev (l : List S77) (hl : l.length ≤ maxLen) (ho : ∀ y ∈ l, okS77 y) (sq : Int) (bz : Bool) (kd : Int) (key : ByteArray) (hk : key.size ≤ maxLen) (v old ca : Int) : ∃ r, Ev (fun k => laws_szCaller.f k l sq bz kd key v old ca 1048576) r ∧ (r < 0 ∨ (0 ≤ r ∧ r ≤ 1048576 ∧ (l.length : Int) ≤ 1048576)) := by
  simp only [maxLen] at hk
  obtain ⟨r, hr, hr2⟩ := szRouteS_ev l hl ho 1048576 (by omega) (by omega)
  unfold laws_szCaller.f
  by_cases h : r < 0
  · exact ⟨-1, Ev.bind hr (ev_pos h (Ev.now _)), .inl (by omega)⟩
  · have e : wrap64 (r - (key.size : Int)) = r - key.size := w64 (by omega) (by omega)
    by_cases h2 : r - (key.size : Int) < 0
    · have ec : laws_szCommand.f kd key v old r = some (-1) := by unfold laws_szCommand.f; rw [e, if_pos h2]
      exact ⟨-1, Ev.bind hr (ev_neg h (Ev.bind (ev_con ec) (ev_pos (by omega) (Ev.now _)))), .inl (by omega)⟩
    · have ec : laws_szCommand.f kd key v old r = some (r - key.size) := by unfold laws_szCommand.f; rw [e, if_neg h2]
      exact ⟨r - key.size, Ev.bind hr (ev_neg h (Ev.bind (ev_con ec) (ev_neg h2 (Ev.now _)))), .inr (by omega)⟩
theorem toCaller_ev (l : List S77) (hl : (l.length : Int) ≤ 1048576) (sq : Int) (bz : Bool) (kd : Int) (key : ByteArray) (v old ca : Int) : Ev (fun k => laws_toCaller.f k l sq bz kd key v old ca) (l.map cvR, sq, bz, kd, key, v, old, ca) := by
  unfold laws_toCaller.f laws_toCommand.f
  exact Ev.bind (toRouteS_ev l hl) (Ev.now _)
theorem eqCaller_refl (l : List S43) (hl : (l.length : Int) ≤ 1048576) (sq : Int) (bz : Bool) (kd : Int) (key : ByteArray) (v old ca : Int) : Ev (fun k => laws_eqCaller.f k l sq bz kd key v old ca l sq bz kd key v old ca) true := by
  unfold laws_eqCaller.f
  refine Ev.bind (eqRouteS_refl l hl) (ev_pos rfl (ev_pos rfl (ev_neg (by simp) ?_)))
  simp only [laws_eqCommand.f, ↓reduceIte, Option.bind_some]
  exact Ev.now _

theorem eqEntry_refl (a0 a1 a2 : Int) (a3 : ByteArray) (a4 a5 : Int) : laws_eqEntry.f a0 a1 a2 a3 a4 a5 a0 a1 a2 a3 a4 a5 = some true := by
  simp [laws_eqEntry.f, laws_eqCommand.f]
theorem FnExactRequestOf : laws_FnExactRequestOf.Pure := by
  intro l sq bz kd key v old ca cl ha _ _ hk _ _ _ _
  refine ev_rounds ?_
  unfold laws_FnExactRequestOf.f
  obtain ⟨r, hr, hr2⟩ := szCaller_ev l ha.1 ha.2 sq bz kd key hk v old ca
  refine Ev.bind hr (ev_ite (fun _ => Ev.now _) (fun h => ?_))
  have ea := toCaller_ev l (by omega) sq bz kd key v old ca
  have hm : ((l.map cvR).length : Int) ≤ 1048576 := by rw [List.length_map]; omega
  obtain ⟨t, h1, h2⟩ := spec_RequestOf_ev (l.map cvR) hm sq bz kd key v old ca cl
  obtain ⟨t', h1', h2'⟩ := impl_RequestOf_ev (l.map cvR) hm sq bz kd key v old ca cl
  obtain rfl := reqR_unique h2 h2'
  refine Ev.bind ea (Ev.bind h1 (Ev.bind ea (Ev.bind h1' (Ev.bind (ev_con (eqEntry_refl _ _ _ _ _ _)) (ev_pos rfl (Ev.step (fun k => rfl) ?_))))))
  simp only [laws_FnExactRequestOf.j0, bne_self_eq_false]
  exact ev_neg (by decide) (Ev.bind ea (Ev.bind (eqCaller_refl _ hm _ _ _ _ _ _ _) (ev_pos rfl (Ev.now _))))


end Go.Proofs.Ytinnjgogaidhlaa.Pure
