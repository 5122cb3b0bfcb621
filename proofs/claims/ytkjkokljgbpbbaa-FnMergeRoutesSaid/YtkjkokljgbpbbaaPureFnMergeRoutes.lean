/- The law FnMergeRoutes as a statement over numbers and lists alone: it comes to true at every input; under no condition. -/
import Derived.Test.YtkjkokljgbpbbaaPFnMergeRoutesx
import Derived.Laws.Strings
set_option linter.unusedVariables false
set_option linter.unusedSimpArgs false
namespace Go.Proofs.Ytkjkokljgbpbbaa.Pure
open Go.RowKit Go.Proofs.Ytkjkokljgbpbbaa.PFnMergeRoutes Go.Proofs.YtkjkokljgbpbbaaW.PrintWords Go.Proofs.YtkjkokljgbpbbaaW.PrintLast Go.Proofs.YtkjkokljgbpbbaaW.PrintMore

theorem ev_ite {α : Type} {c : Prop} [Decidable c] {A B : Nat → Option α} {r : α} (h1 : c → Ev A r) (h2 : ¬ c → Ev B r) : Ev (fun k => if c then A k else B k) r := by
  by_cases h : c
  · simpa only [if_pos h] using h1 h
  · simpa only [if_neg h] using h2 h
theorem ev_ret {α : Type} {v r : α} (h : v = r) : Ev (fun _ => some v) r := by subst h; exact Ev.now _
theorem ev_con {α : Type} {o : Option α} {r : α} (h : o = some r) : Ev (fun _ => o) r := by subst h; exact Ev.now _
theorem ev_eq {α : Type} {g : Nat → Option α} {a b : α} (h : Ev g a) (e : a = b) : Ev g b := e ▸ h
theorem ev_id {α : Type} {g : Nat → Option α} {r : α} (h : Ev g r) : Ev (fun k => (g k).bind fun t => some t) r := h.congr (fun k => by cases g k <;> rfl)
theorem ev_rounds {α : Type} {g : Nat → Option α} {r : α} (h : Ev g r) : ∃ k, g k = some r := h.rounds
theorem dec_iff {p q : Prop} [Decidable p] [Decidable q] (h : p ↔ q) : decide p = decide q := by simp [h]
theorem dec_t {p : Prop} [Decidable p] (h : p) : true = decide p := (decide_eq_true h).symm
theorem dec_f {p : Prop} [Decidable p] (h : ¬ p) : false = decide p := (decide_eq_false h).symm
theorem w64 {x : Int} (h0 : -9223372036854775808 ≤ x) (h1 : x ≤ 9223372036854775807) : wrap64 x = x := by unfold wrap64; omega
def EvB (g : Nat → Option Bool) (P : Prop) : Prop := ∃ b, Ev g b ∧ (b = true ↔ P)
theorem EvB.yes {g : Nat → Option Bool} {P : Prop} (h : EvB g P) (hp : P) : Ev g true := by
  obtain ⟨b, h1, h2⟩ := h
  rw [h2.2 hp] at h1; exact h1
theorem EvB.no {g : Nat → Option Bool} {P : Prop} (h : EvB g P) (hp : ¬ P) : Ev g false := by
  obtain ⟨b, h1, h2⟩ := h
  cases b with
  | true => exact absurd (h2.1 rfl) hp
  | false => exact h1
theorem EvB.iff {g : Nat → Option Bool} {P Q : Prop} (h : EvB g P) (e : P ↔ Q) : EvB g Q := by
  obtain ⟨b, h1, h2⟩ := h
  exact ⟨b, h1, h2.trans e⟩
theorem EvB.of_yes {g : Nat → Option Bool} {P : Prop} (h : Ev g true) (hp : P) : EvB g P := ⟨true, h, by simp [hp]⟩
theorem EvB.of_no {g : Nat → Option Bool} {P : Prop} (h : Ev g false) (hp : ¬ P) : EvB g P := ⟨false, h, by simp [hp]⟩
theorem EvB.of_dec {g : Nat → Option Bool} {P : Prop} [Decidable P] (h : Ev g (decide P)) : EvB g P := ⟨_, h, by simp⟩
theorem EvB.id {g : Nat → Option Bool} {P : Prop} (h : EvB g P) : EvB (fun k => (g k).bind fun t => some t) P := by
  obtain ⟨b, h1, h2⟩ := h
  exact ⟨b, ev_id h1, h2⟩
theorem EvB.step {g f : Nat → Option Bool} {P : Prop} (h : ∀ k, g (k + 1) = f k) (hf : EvB f P) : EvB g P := by
  obtain ⟨b, h1, h2⟩ := hf
  exact ⟨b, Ev.step h h1, h2⟩
theorem EvB.congr {g f : Nat → Option Bool} {P : Prop} (h : ∀ k, g k = f k) (hf : EvB f P) : EvB g P := by
  obtain ⟨b, h1, h2⟩ := hf
  exact ⟨b, Ev.congr h h1, h2⟩
theorem evb_ite {c P : Prop} [Decidable c] {A B : Nat → Option Bool} (h1 : c → EvB A P) (h2 : ¬ c → EvB B P) : EvB (fun k => if c then A k else B k) P := by
  by_cases h : c
  · simpa only [if_pos h] using h1 h
  · simpa only [if_neg h] using h2 h
theorem evb_ret {b : Bool} {P : Prop} (h : b = true ↔ P) : EvB (fun _ => some b) P := ⟨b, Ev.now _, h⟩
theorem evb_bind {α : Type} {g : Nat → Option α} {f : Nat → α → Option Bool} {a : α} {P : Prop} (h : Ev g a) (k : EvB (fun n => f n a) P) : EvB (fun n => (g n).bind (f n)) P := by
  obtain ⟨b, h1, h2⟩ := k
  exact ⟨b, Ev.bind h h1, h2⟩
theorem evb_test {g : Nat → Option Bool} {f : Nat → Bool → Option Bool} {P Q : Prop} (h : EvB g P) (h1 : P → EvB (fun n => f n true) Q) (h2 : ¬ P → EvB (fun n => f n false) Q) : EvB (fun n => (g n).bind (f n)) Q := by
  by_cases hp : P
  · exact evb_bind (h.yes hp) (h1 hp)
  · exact evb_bind (h.no hp) (h2 hp)
theorem ev_test {α : Type} {g : Nat → Option Bool} {f : Nat → Bool → Option α} {P : Prop} {r : α} (h : EvB g P) (h1 : P → Ev (fun n => f n true) r) (h2 : ¬ P → Ev (fun n => f n false) r) : Ev (fun n => (g n).bind (f n)) r := by
  by_cases hp : P
  · exact Ev.bind (h.yes hp) (h1 hp)
  · exact Ev.bind (h.no hp) (h2 hp)
theorem all_loop {g : Nat → Int → Option Bool} {n : Int} {p : Int → Prop}
    (step : ∀ i, 0 ≤ i → i < n → (p i ∧ ∀ r, Ev (fun k => g k (i + 1)) r → Ev (fun k => g k i) r) ∨ (¬ p i ∧ Ev (fun k => g k i) false))
    (stop : Ev (fun k => g k n) true) (d : Nat) : ∀ i, 0 ≤ i → n - i = d → EvB (fun k => g k i) (∀ j, i ≤ j → j < n → p j) := by
  induction d with
  | zero =>
    intro i h0 hd
    have e : i = n := by omega
    subst e
    exact EvB.of_yes stop (fun j h1 h2 => by omega)
  | succ d ih =>
    intro i h0 hd
    rcases step i h0 (by omega) with ⟨hp, hs⟩ | ⟨hp, hs⟩
    · obtain ⟨b, h1, h2⟩ := ih (i + 1) (by omega) (by omega)
      refine ⟨b, hs b h1, h2.trans ⟨fun h j h3 h4 => ?_, fun h j h3 h4 => h j (by omega) h4⟩⟩
      by_cases e : j = i
      · subst e; exact hp
      · exact h j (by omega) h4
    · exact EvB.of_no hs (fun h => hp (h i (by omega) (by omega)))
def firstAt (p : Int → Prop) (n : Int) (i r : Int) : Prop := (r = -1 ∧ ∀ j, i ≤ j → j < n → ¬ p j) ∨ (i ≤ r ∧ r < n ∧ p r ∧ ∀ j, i ≤ j → j < r → ¬ p j)
theorem first_loop {g : Nat → Int → Option Int} {n : Int} {p : Int → Prop}
    (step : ∀ i, 0 ≤ i → i < n → (¬ p i ∧ ∀ r, Ev (fun k => g k (i + 1)) r → Ev (fun k => g k i) r) ∨ (p i ∧ Ev (fun k => g k i) i))
    (stop : Ev (fun k => g k n) (-1)) (d : Nat) : ∀ i, 0 ≤ i → n - i = d → ∃ r, Ev (fun k => g k i) r ∧ firstAt p n i r := by
  induction d with
  | zero =>
    intro i h0 hd
    have e : i = n := by omega
    subst e
    exact ⟨-1, stop, .inl ⟨rfl, fun j h1 h2 => by omega⟩⟩
  | succ d ih =>
    intro i h0 hd
    rcases step i h0 (by omega) with ⟨hp, hs⟩ | ⟨hp, hs⟩
    · obtain ⟨r, h1, h2⟩ := ih (i + 1) (by omega) (by omega)
      refine ⟨r, hs r h1, ?_⟩
      rcases h2 with ⟨h2, h3⟩ | ⟨h2, h3, h4, h5⟩
      · refine .inl ⟨h2, fun j h6 h7 => ?_⟩
        by_cases e : j = i
        · subst e; exact hp
        · exact h3 j (by omega) h7
      · refine .inr ⟨by omega, h3, h4, fun j h6 h7 => ?_⟩
        by_cases e : j = i
        · subst e; exact hp
        · exact h5 j (by omega) h7
    · exact ⟨i, hs, .inr ⟨by omega, by omega, hp, fun j h1 h2 => by omega⟩⟩
theorem firstAt_unique {p q : Int → Prop} {n r s : Int} (hpq : ∀ j, 0 ≤ j → j < n → (p j ↔ q j)) (h : firstAt p n 0 r) (h' : firstAt q n 0 s) : r = s := by
  rcases h with ⟨h1, h2⟩ | ⟨h1, h2, h3, h4⟩ <;> rcases h' with ⟨k1, k2⟩ | ⟨k1, k2, k3, k4⟩
  · omega
  · exact absurd ((hpq s k1 k2).2 k3) (h2 s k1 k2)
  · exact absurd ((hpq r h1 h2).1 h3) (k2 r h1 h2)
  · rcases Int.lt_trichotomy r s with h | h | h
    · exact absurd ((hpq r h1 h2).1 h3) (k4 r h1 h)
    · exact h
    · exact absurd ((hpq s k1 k2).2 k3) (h4 s k1 h)
theorem ev_pos {α : Type} {c : Prop} [Decidable c] {A B : Nat → Option α} {r : α} (h : c) (k : Ev A r) : Ev (fun k => if c then A k else B k) r := ev_ite (fun _ => k) (fun h' => absurd h h')
theorem ev_neg {α : Type} {c : Prop} [Decidable c] {A B : Nat → Option α} {r : α} (h : ¬ c) (k : Ev B r) : Ev (fun k => if c then A k else B k) r := ev_ite (fun h' => absurd h' h) (fun _ => k)
theorem ev_let {α β : Type} {v : α} {f : Nat → α → Option β} {r : β} (k : Ev (fun n => f n v) r) : Ev (fun n => (some v).bind (f n)) r := k
theorem bt_list (s : ByteArray) (i : Int) (h0 : 0 ≤ i) (h : i < s.size) : ∃ hh : i.toNat < s.toList.length, bt s i = ((s.toList[i.toNat]'hh).toNat : Int) := by
  have hl : s.toList.length = s.size := by rw [ByteArray.toList_eq, Array.length_toList]; rfl
  have hh : i.toNat < s.size := by omega
  refine ⟨by omega, ?_⟩
  unfold bt
  rw [dif_pos hh]
  have : s[i.toNat]'hh = s.toList[i.toNat]'(by omega) := by simp only [ByteArray.toList_eq]; rfl
  rw [this]
theorem size_list (s : ByteArray) : s.toList.length = s.size := by rw [ByteArray.toList_eq, Array.length_toList]; rfl
theorem extract_list (s : ByteArray) (a b : Nat) : (s.extract a b).toList = (s.toList.take b).drop a := by
  rw [ByteArray.toList_eq, ByteArray.toList_eq, ByteArray.data_extract, Array.toList_extract]
  simp [List.extract, List.drop_take]
theorem bytes_ext {a b : ByteArray} (h : a.toList = b.toList) : a = b := by
  rw [ByteArray.toList_eq, ByteArray.toList_eq] at h
  cases a; cases b
  simp only [ByteArray.mk.injEq]
  exact Array.toList_inj.1 h
def keyV (l : List UInt8) : Prop := 1 ≤ l.length ∧ l.length ≤ 4 ∧ ∀ b ∈ l, 97 ≤ b.toNat ∧ b.toNat ≤ 122
instance (l : List UInt8) : Decidable (keyV l) := by unfold keyV; infer_instance
def ivV (lo hi : List UInt8) : Prop := (lo = [] ∨ keyV lo) ∧ (hi = [] ∨ (keyV hi ∧ Op.bytesLess lo hi = true ∧ (lo ≠ [] ∨ hi ≠ [97])))
instance (lo hi : List UInt8) : Decidable (ivV lo hi) := by unfold ivV; infer_instance
theorem keyV_nil : ¬ keyV [] := fun h => absurd h.1 (by decide)
def jnV (a b c d : List UInt8) : Prop := ivV a b ∧ ivV c d ∧ b ≠ [] ∧ b = c
instance (a b c d : List UInt8) : Decidable (jnV a b c d) := by unfold jnV; infer_instance
def joinOf (a b c d : ByteArray) : ByteArray × ByteArray × Bool := if jnV a.toList b.toList c.toList d.toList then (a, d, true) else ((⟨#[]⟩ : ByteArray), (⟨#[]⟩ : ByteArray), false)
def partV (s : List S31) : Prop := (1 ≤ (s.length : Int) ∧ (s.length : Int) ≤ 6) ∧ (∀ i : Int, 0 ≤ i → i < s.length → ivV (rd_T31 s i).f0.toList (rd_T31 s i).f1.toList) ∧ (rd_T31 s 0).f0.toList = [] ∧ (rd_T31 s (s.length - 1)).f1.toList = [] ∧ ∀ i : Int, 1 ≤ i → i < s.length → (rd_T31 s (i - 1)).f1.toList ≠ [] ∧ (rd_T31 s (i - 1)).f1.toList = (rd_T31 s i).f0.toList
def apartV (l : List S35) (i : Int) : Prop := (0 ≤ (rd_T35 l i).f0 ∧ (rd_T35 l i).f0 ≤ 7) ∧ ∀ j, 0 ≤ j → j < i → (rd_T35 l j).f0 ≠ (rd_T35 l i).f0
def routesV (l : List S35) : Prop := (l.length : Int) ≤ 6 ∧ (∀ i : Int, 0 ≤ i → i < l.length → apartV l i) ∧ partV (l.map (·.f1))
theorem drop_rd_R (l : List S35) (i : Int) (h0 : 0 ≤ i) (h1 : i < l.length) : l.drop i.toNat = rd_T35 l i :: l.drop (i + 1).toNat := by
  unfold rd_T35
  rw [List.drop_eq_getElem_cons (show i.toNat < l.length by omega), List.getD_eq_getElem?_getD, List.getElem?_eq_getElem (show i.toNat < l.length by omega), show (i + 1).toNat = i.toNat + 1 by omega]
  rfl
theorem l1In_eq (a b c : Int) : spec_l1In.f a b c = some (decide (b ≤ a ∧ a ≤ c)) := by
  unfold spec_l1In.f
  split <;> rename_i h
  · exact congrArg some (dec_iff (by omega))
  · exact congrArg some (dec_f (by omega))
theorem spec_KeyValid_l0 (s : ByteArray) (hs : s.size ≤ 4) (d : Nat) : ∀ i : Int, 0 ≤ i → (s.size : Int) - i = d → Ev (fun k => spec_KeyValid.l0 k s i) (decide (∀ b ∈ s.toList.drop i.toNat, 97 ≤ b.toNat ∧ b.toNat ≤ 122)) := by
  induction d with
  | zero =>
    intro i h0 hd
    refine Ev.step (fun k => rfl) (ev_ite (fun h => by omega) (fun h => ev_ret (dec_t ?_)))
    rw [List.drop_of_length_le (by rw [size_list]; omega)]
    intro b hb; cases hb
  | succ d ih =>
    intro i h0 hd
    obtain ⟨hh, hb⟩ := bt_list s i h0 (by omega)
    have hdrop := List.drop_eq_getElem_cons hh
    refine Ev.step (fun k => rfl) (ev_ite (fun h => ev_ite (fun _ => ev_ite (fun h1 => ev_ret (dec_f ?_)) (fun h1 => ev_ite (fun h2 => ev_ret (dec_f ?_)) (fun h2 => ?_))) (fun h1 => by omega)) (fun h => by omega))
    · intro ha
      have := ha _ (by rw [hdrop]; exact List.mem_cons_self)
      omega
    · intro ha
      have := ha _ (by rw [hdrop]; exact List.mem_cons_self)
      omega
    · rw [w64 (by omega) (by omega)]
      refine ev_eq (ih (i + 1) (by omega) (by omega)) (dec_iff ?_)
      rw [hdrop, show (i + 1).toNat = i.toNat + 1 by omega]
      constructor
      · intro ha b hm
        rcases List.mem_cons.1 hm with rfl | hm
        · omega
        · exact ha b hm
      · intro ha b hm
        exact ha b (List.mem_cons_of_mem _ hm)
theorem spec_KeyValid_ev (s : ByteArray) : Ev (fun k => spec_KeyValid.f k s) (decide (keyV s.toList)) := by
  unfold spec_KeyValid.f
  have hs := size_list s
  simp only [l1In_eq, Option.bind_some, decide_eq_true_eq]
  refine ev_ite (fun h => ?_) (fun h => ev_ret (dec_f (by unfold keyV; omega)))
  refine ev_eq (spec_KeyValid_l0 s (by omega) s.size 0 (by omega) (by omega)) (dec_iff ?_)
  simp only [Int.toNat_zero, List.drop_zero]
  exact ⟨fun h' => ⟨by omega, by omega, h'⟩, fun h' => h'.2.2⟩
theorem spec_IntervalValid_ev (a b : ByteArray) : EvB (fun k => spec_IntervalValid.f k a b) (ivV a.toList b.toList) := by
  have ha := EvB.of_dec (spec_KeyValid_ev a)
  have hb := EvB.of_dec (spec_KeyValid_ev b)
  unfold spec_IntervalValid.f ivV
  generalize a.toList = x at *
  generalize b.toList = y at *
  refine evb_ite (fun ex => evb_ite (fun ey => evb_ret (by simp [ex, ey])) (fun ey => evb_test hb (fun hk => evb_ite (fun _ => evb_ite (fun hl => evb_ret ?_) (fun hl => evb_ret ?_)) (fun h => absurd rfl h)) (fun hk => evb_ite (fun h => by cases h) (fun _ => evb_ret ?_)))) (fun ex => evb_test ha (fun hx => evb_ite (fun _ => evb_ite (fun ey => evb_ret ?_) (fun ey => evb_test hb (fun hk => evb_ite (fun _ => evb_ite (fun hl => evb_ret ?_) (fun hl => evb_ret ?_)) (fun h => absurd rfl h)) (fun hk => evb_ite (fun h => by cases h) (fun _ => evb_ret ?_)))) (fun h => absurd rfl h)) (fun hx => evb_ite (fun h => by cases h) (fun _ => evb_ret ?_)))
  all_goals simp [*]
  all_goals (simp_all)
theorem spec_IntervalJoin_ev (a b c d : ByteArray) : Ev (fun k => spec_IntervalJoin.f k a b c d) (joinOf a b c d) := by
  unfold spec_IntervalJoin.f joinOf
  refine ev_test (spec_IntervalValid_ev a b) (fun h1 => ev_ite (fun _ => ev_test (spec_IntervalValid_ev c d) (fun h2 => ev_ite (fun _ => ev_ite (fun h3 => ev_ret ?_) (fun h3 => ev_ite (fun h4 => ev_ret ?_) (fun h4 => ev_ret ?_))) (fun h => absurd rfl h)) (fun h2 => ev_ite (fun h => by cases h) (fun _ => ev_ret ?_))) (fun h => absurd rfl h)) (fun h1 => ev_ite (fun h => by cases h) (fun _ => ev_ret ?_))
  · rw [if_neg (fun h => h.2.2.1 h3)]
  · rw [if_pos ⟨h1, h2, h3, h4⟩]
  · rw [if_neg (fun h => h4 h.2.2.2)]
  · rw [if_neg (fun h => h2 h.2.1)]
  · rw [if_neg (fun h => h1 h.1)]
theorem spec_PartitionValid_ev (s : List S31) : EvB (fun k => spec_PartitionValid.f k s) (partV s) := by
  unfold spec_PartitionValid.f
  refine evb_bind (ev_con (l1In_eq _ _ _)) (evb_ite (fun h => ?_) (fun h => EvB.of_no (Ev.step (fun k => rfl) (Ev.now _)) (fun hp => h (decide_eq_true hp.1))))
  have h := of_decide_eq_true h
  have ew : wrap64 ((s.length : Int) - 1) = s.length - 1 := w64 (by omega) (by omega)
  simp only [ew]
  refine evb_ite (fun _ => evb_test (spec_IntervalValid_ev _ _) (fun h1 => evb_ite (fun _ => ?_) (fun h => absurd rfl h)) (fun h1 => evb_ite (fun h => by cases h) (fun _ => EvB.of_no (Ev.step (fun k => rfl) (Ev.now _)) (fun hp => h1 (hp.2.1 0 (by omega) (by omega)))))) (fun h => by omega)
  refine evb_ite (fun h2 => evb_ite (fun _ => evb_ite (fun _ => ?_) (fun h => by omega)) (fun h => by omega)) (fun h2 => EvB.of_no (Ev.step (fun k => rfl) (Ev.now _)) (fun hp => h2 hp.2.2.1))
  by_cases h3 : (rd_T31 s (s.length - 1)).f1.toList = []
  · refine EvB.step (f := fun k => spec_PartitionValid.l0 k s 1) (fun k => by simp [spec_PartitionValid.j0, h3]) ?_
    refine (all_loop (g := fun k i => spec_PartitionValid.l0 k s (i + 1)) (n := s.length - 1) (p := fun i => jnV (rd_T31 s i).f0.toList (rd_T31 s i).f1.toList (rd_T31 s (i + 1)).f0.toList (rd_T31 s (i + 1)).f1.toList) (fun i h0 h1 => ?_) (Ev.step (fun k => rfl) (ev_ite (fun h => by omega) (fun _ => Ev.now _))) (s.length - 1) 0 (by omega) (by omega)).iff ⟨fun h' => ⟨h, fun i i0 i1 => ?_, h2, h3, fun i i0 i1 => ?_⟩, fun h' i i0 i1 => ⟨h'.2.1 i (by omega) (by omega), h'.2.1 (i + 1) (by omega) (by omega), ?_⟩⟩
    · have ew : wrap64 (i + 1 - 1) = i := by rw [w64 (by omega) (by omega)]; omega
      have ej := spec_IntervalJoin_ev (rd_T31 s i).f0 (rd_T31 s i).f1 (rd_T31 s (i + 1)).f0 (rd_T31 s (i + 1)).f1
      unfold joinOf at ej
      by_cases c : jnV (rd_T31 s i).f0.toList (rd_T31 s i).f1.toList (rd_T31 s (i + 1)).f0.toList (rd_T31 s (i + 1)).f1.toList
      · rw [if_pos c] at ej
        refine .inl ⟨c, fun r hr => Ev.step (fun k => rfl) (ev_ite (fun _ => ?_) (fun h => by omega))⟩
        simp only [ew]
        refine ev_ite (fun _ => ev_ite (fun _ => ev_ite (fun _ => Ev.bind ej (ev_ite (fun _ => ?_) (fun h => absurd rfl h))) (fun h => by omega)) (fun h => by omega)) (fun h => by omega)
        rw [w64 (by omega) (by omega)]
        exact hr
      · rw [if_neg c] at ej
        refine .inr ⟨c, Ev.step (fun k => rfl) (ev_ite (fun _ => ?_) (fun h => by omega))⟩
        simp only [ew]
        exact ev_ite (fun _ => ev_ite (fun _ => ev_ite (fun _ => Ev.bind ej (ev_ite (fun h => by cases h) (fun _ => Ev.now _))) (fun h => by omega)) (fun h => by omega)) (fun h => by omega)
    · by_cases e : i = 0
      · rw [e]; exact h1
      · have := (h' (i - 1) (by omega) (by omega)).2.1
        rwa [show i - 1 + 1 = i by omega] at this
    · have := (h' (i - 1) (by omega) (by omega)).2.2
      rwa [show i - 1 + 1 = i by omega] at this
    · have := h'.2.2.2.2 (i + 1) (by omega) (by omega)
      rwa [show i + 1 - 1 = i by omega] at this
  · exact EvB.of_no (Ev.step (f := fun _ => some false) (fun k => by simp [spec_PartitionValid.j0, h3]) (Ev.now _)) (fun hp => h3 hp.2.2.2.1)
theorem pass_loop {β : Type} {g : Nat → Int → Option β} {n : Int} {p : Int → Prop} {out : β}
    (step : ∀ i, 0 ≤ i → i < n → (p i ∧ ∀ r, Ev (fun k => g k (i + 1)) r → Ev (fun k => g k i) r) ∨ (¬ p i ∧ Ev (fun k => g k i) out)) (d : Nat) : ∀ i, 0 ≤ i → n - i = d → ((∀ j, i ≤ j → j < n → p j) ∧ ∀ r, Ev (fun k => g k n) r → Ev (fun k => g k i) r) ∨ ((¬ ∀ j, i ≤ j → j < n → p j) ∧ Ev (fun k => g k i) out) := by
  induction d with
  | zero =>
    intro i h0 hd
    have e : i = n := by omega
    subst e
    exact .inl ⟨fun j h1 h2 => by omega, fun r h => h⟩
  | succ d ih =>
    intro i h0 hd
    rcases step i h0 (by omega) with ⟨hp, hs⟩ | ⟨hp, hs⟩
    · rcases ih (i + 1) (by omega) (by omega) with ⟨h1, h2⟩ | ⟨h1, h2⟩
      · refine .inl ⟨fun j h3 h4 => ?_, fun r h => hs r (h2 r h)⟩
        by_cases e : j = i
        · subst e; exact hp
        · exact h1 j (by omega) h4
      · exact .inr ⟨fun h => h1 (fun j h3 h4 => h j (by omega) h4), hs _ h2⟩
    · exact .inr ⟨fun h => hp (h i (by omega) (by omega)), hs⟩
theorem spec_RoutesValid_l0 (l : List S35) (hl : (l.length : Int) ≤ 1048576) (d : Nat) : ∀ (i : Int) (s : List S31), 0 ≤ i → (l.length : Int) - i = d → s.length = i.toNat → EvB (fun k => spec_RoutesValid.l0 k l s i) ((∀ j, i ≤ j → j < l.length → j < 6 ∧ apartV l j) ∧ partV (s ++ (l.drop i.toNat).map (·.f1))) := by
  induction d with
  | zero =>
    intro i s h0 hd hs
    refine EvB.step (fun k => rfl) (evb_ite (fun h => by omega) (fun _ => EvB.id ((spec_PartitionValid_ev s).iff ?_)))
    rw [List.drop_of_length_le (by omega), List.map_nil, List.append_nil]
    exact ⟨fun h => ⟨fun j j0 j1 => by omega, h⟩, fun h => h.2⟩
  | succ d ih =>
    intro i s h0 hd hs
    by_cases c6 : i ≥ 6
    · exact EvB.of_no (Ev.step (fun k => rfl) (ev_ite (fun _ => ev_ite (fun _ => Ev.step (fun k => rfl) (Ev.now _)) (fun h => absurd c6 h)) (fun h => by omega))) (fun h => by have := (h.1 i (by omega) (by omega)).1; omega)
    by_cases c2 : 0 ≤ (rd_T35 l i).f0 ∧ (rd_T35 l i).f0 ≤ 7
    · have hg : ∀ r, Ev (fun k => spec_RoutesValid.l1 k l s i 0) r → Ev (fun k => spec_RoutesValid.l0 k l s i) r := fun r hr => Ev.step (fun k => rfl) (ev_ite (fun _ => ev_ite (fun h => absurd h c6) (fun _ => ev_ite (fun _ => Ev.bind (ev_con (l1In_eq _ _ _)) (Ev.step (fun k => rfl) (ev_ite (fun h => by simp [c2] at h) (fun _ => hr)))) (fun h => by omega))) (fun h => by omega))
      rcases pass_loop (g := fun k j => spec_RoutesValid.l1 k l s i j) (n := i) (p := fun j => (rd_T35 l j).f0 ≠ (rd_T35 l i).f0) (out := false) (fun j k0 k1 => by
        by_cases e : (rd_T35 l j).f0 = (rd_T35 l i).f0
        · exact .inr ⟨fun h => h e, Ev.step (fun k => rfl) (ev_ite (fun _ => ev_ite (fun _ => ev_ite (fun _ => ev_ite (fun _ => ev_ite (fun _ => ev_ite (fun _ => Ev.now _) (fun h => absurd e h)) (fun h => by omega)) (fun h => by omega)) (fun h => by omega)) (fun h => by omega)) (fun h => by omega))⟩
        · refine .inl ⟨e, fun r hr => Ev.step (fun k => rfl) (ev_ite (fun _ => ev_ite (fun _ => ev_ite (fun _ => ev_ite (fun _ => ev_ite (fun _ => ev_ite (fun h => absurd h e) (fun _ => ?_)) (fun h => by omega)) (fun h => by omega)) (fun h => by omega)) (fun h => by omega)) (fun h => by omega))⟩
          rw [w64 (by omega) (by omega)]
          exact hr) i.toNat 0 (by omega) (by omega) with ⟨c3, h3⟩ | ⟨c3, h3⟩
      · have hap : apartV l i := ⟨c2, c3⟩
        obtain ⟨r, hr, hr2⟩ := ih (i + 1) (s ++ [(rd_T35 l i).f1]) (by omega) (by omega) (by rw [List.length_append, hs]; simp; omega)
        refine ⟨r, hg _ (h3 _ (Ev.step (fun k => rfl) (ev_ite (fun h => by omega) (fun _ => ev_ite (fun _ => ev_ite (fun _ => ev_ite (fun _ => ?_) (fun h => by omega)) (fun h => by omega)) (fun h => by omega))))), hr2.trans ?_⟩
        · rw [w64 (by omega) (by omega)]
          exact hr
        · rw [drop_rd_R l i h0 (by omega), List.map_cons, List.append_assoc, List.singleton_append]
          exact ⟨fun h => ⟨fun j j0 j1 => by
            by_cases e : j = i
            · subst e; exact ⟨by omega, hap⟩
            · exact h.1 j (by omega) j1, h.2⟩, fun h => ⟨fun j j0 j1 => h.1 j (by omega) j1, h.2⟩⟩
      · exact EvB.of_no (hg _ h3) (fun h => c3 (h.1 i (by omega) (by omega)).2.2)
    · refine EvB.of_no (Ev.step (fun k => rfl) (ev_ite (fun _ => ev_ite (fun h => absurd h c6) (fun _ => ev_ite (fun _ => Ev.bind (ev_con (l1In_eq _ _ _)) (Ev.step (fun k => rfl) (ev_ite (fun _ => Ev.now _) (fun h => absurd (by simp only [Bool.not_eq_true', decide_eq_false_iff_not]; exact c2) h)))) (fun h => by omega))) (fun h => by omega))) (fun h => c2 (h.1 i (by omega) (by omega)).2.1)
theorem spec_RoutesValid_ev (l : List S35) (hl : (l.length : Int) ≤ 1048576) : EvB (fun k => spec_RoutesValid.f k l) (routesV l) := by
  unfold spec_RoutesValid.f
  refine (spec_RoutesValid_l0 l hl l.length 0 [] (by omega) (by omega) rfl).iff ?_
  simp only [Int.toNat_zero, List.drop_zero, List.nil_append]
  refine ⟨fun h => ⟨?_, fun i i0 i1 => (h.1 i i0 i1).2, h.2⟩, fun h => ⟨fun j j0 j1 => ⟨by have := h.1; omega, h.2.1 j j0 j1⟩, h.2.2⟩⟩
  have := h.2.1.2
  rwa [List.length_map] at this
theorem bt_head (s : ByteArray) (h : 0 < s.size) : ∃ b l, s.toList = b :: l ∧ bt s 0 = (b.toNat : Int) := by
  obtain ⟨hh, hb⟩ := bt_list s 0 (by omega) (by omega)
  have hdrop := List.drop_eq_getElem_cons hh
  simp only [Int.toNat_zero, List.drop_zero] at hdrop
  exact ⟨_, _, hdrop, hb⟩
theorem impl_lettersOnly_ev (d : Nat) : ∀ s : ByteArray, s.size = d → d ≤ 100 → Ev (fun k => impl_lettersOnly.f k s) (decide (∀ b ∈ s.toList, 97 ≤ b.toNat ∧ b.toNat ≤ 122)) := by
  induction d with
  | zero =>
    intro s hs _
    have hn : s.toList = [] := List.length_eq_zero_iff.1 (by rw [size_list, hs])
    refine Ev.step (fun k => rfl) (ev_ite (fun h => ev_ret (dec_t ?_)) (fun h => absurd hn h))
    rw [hn]; intro b hb; cases hb
  | succ d ih =>
    intro s hs hle
    obtain ⟨c, l, hc, hb⟩ := bt_head s (by omega)
    have hex : (s.extract 1 s.size).toList = l := by
      rw [extract_list, List.take_of_length_le (by rw [size_list]; omega), hc, List.drop_one, List.tail_cons]
    have hl : l.length = d := by have := size_list s; rw [hc, List.length_cons] at this; omega
    refine Ev.step (fun k => rfl) (ev_ite (fun h => ?_) (fun h => ev_ite (fun _ => ev_ite (fun h1 => ev_ite (fun h2 => ev_ite (fun _ => ?_) (fun h3 => by omega)) (fun h2 => ev_ret (dec_f ?_))) (fun h1 => ev_ret (dec_f ?_))) (fun h1 => by omega)))
    · rw [hc] at h; cases h
    · refine ev_id (ev_eq (ih (s.extract 1 s.size) (by rw [← size_list, hex, hl]) (by omega)) (dec_iff ?_))
      rw [hex, hc]
      constructor
      · intro ha b hm
        rcases List.mem_cons.1 hm with rfl | hm
        · omega
        · exact ha b hm
      · intro ha b hm
        exact ha b (List.mem_cons_of_mem _ hm)
    · intro ha
      have := ha c (by rw [hc]; exact List.mem_cons_self)
      omega
    · intro ha
      have := ha c (by rw [hc]; exact List.mem_cons_self)
      omega
theorem impl_KeyValid_ev (s : ByteArray) : Ev (fun k => impl_KeyValid.f k s) (decide (keyV s.toList)) := by
  unfold impl_KeyValid.f
  have hs := size_list s
  refine ev_ite (fun h => ev_ret (dec_f (by unfold keyV; omega))) (fun h => ev_ite (fun h1 => ev_ret (dec_f (by unfold keyV; omega))) (fun h1 => ev_id ?_))
  refine ev_eq (impl_lettersOnly_ev s.size s rfl (by omega)) (dec_iff ?_)
  exact ⟨fun h' => ⟨by omega, by omega, h'⟩, fun h' => h'.2.2⟩
theorem less_low (y : List UInt8) (h : keyV y) : Op.bytesLess [97] y = true ↔ y ≠ [97] := by
  rcases y with _ | ⟨c, t⟩
  · exact absurd h keyV_nil
  have hc := h.2.2 c List.mem_cons_self
  rcases t with _ | ⟨d, t⟩
  · simp only [Op.bytesLess]
    have : (97 < c) ↔ c ≠ 97 := by
      constructor
      · intro h e; subst e; revert h; decide
      · intro h
        rw [UInt8.lt_iff_toNat_lt]
        have : c.toNat ≠ 97 := fun e => h (UInt8.toNat_inj.1 e)
        have : (97 : UInt8).toNat = 97 := rfl
        omega
    simpa using this
  · simp only [Op.bytesLess]
    by_cases e : c = 97
    · subst e; simp
    · have : (97 : UInt8) < c := by
        rw [UInt8.lt_iff_toNat_lt]
        have : c.toNat ≠ 97 := fun e' => e (UInt8.toNat_inj.1 e')
        have : (97 : UInt8).toNat = 97 := rfl
        omega
      simp [this]
theorem less_nil (y : List UInt8) (h : y ≠ []) : Op.bytesLess [] y = true := by
  cases y with
  | nil => exact absurd rfl h
  | cons => rfl
theorem low_list : ((⟨#[97]⟩ : ByteArray)).toList = [97] := by rw [ByteArray.toList_eq]
theorem impl_IntervalValid_ev (a b : ByteArray) : EvB (fun k => impl_IntervalValid.f k a b) (ivV a.toList b.toList) := by
  have ha := EvB.of_dec (impl_KeyValid_ev a)
  have hb := EvB.of_dec (impl_KeyValid_ev b)
  unfold impl_IntervalValid.f ivV impl_lowestKey.f
  refine evb_ite (fun ex => ?_) (fun ex => ?_)
  · simp only [if_pos ex, Option.bind_some, low_list, ex]
    generalize b.toList = y at *
    refine evb_ite (fun ey => evb_ret (by simp [ey])) (fun ey => evb_test hb (fun hk => evb_ite (fun _ => evb_ret ?_) (fun h => absurd rfl h)) (fun hk => evb_ite (fun h => by cases h) (fun _ => evb_ret ?_)))
    · rw [low_list, less_low y hk]
      simp [hk, ey, less_nil y ey]
    · simp [hk, ey]
  · simp only [if_neg ex, Option.bind_some]
    generalize a.toList = x at *
    generalize b.toList = y at *
    refine evb_test ha (fun hx => evb_ite (fun _ => evb_ite (fun ey => evb_ret ?_) (fun ey => evb_test hb (fun hk => evb_ite (fun _ => evb_ret ?_) (fun h => absurd rfl h)) (fun hk => evb_ite (fun h => by cases h) (fun _ => evb_ret ?_)))) (fun h => absurd rfl h)) (fun hx => evb_ite (fun h => by cases h) (fun _ => evb_ret ?_))
    all_goals simp [*]
theorem impl_IntervalJoin_ev (a b c d : ByteArray) : Ev (fun k => impl_IntervalJoin.f k a b c d) (joinOf a b c d) := by
  unfold impl_IntervalJoin.f joinOf
  refine ev_test (impl_IntervalValid_ev a b) (fun h1 => ev_ite (fun _ => ev_test (impl_IntervalValid_ev c d) (fun h2 => ev_ite (fun _ => ev_ite (fun h3 => ev_ret ?_) (fun h3 => ev_ite (fun h4 => ev_ret ?_) (fun h4 => ev_ret ?_))) (fun h => absurd rfl h)) (fun h2 => ev_ite (fun h => by cases h) (fun _ => ev_ret ?_))) (fun h => absurd rfl h)) (fun h1 => ev_ite (fun h => by cases h) (fun _ => ev_ret ?_))
  · rw [if_neg (fun h => h.2.2.1 h3)]
  · rw [if_pos ⟨h1, h2, h3, h4⟩]
  · rw [if_neg (fun h => h4 h.2.2.2)]
  · rw [if_neg (fun h => h2 h.2.1)]
  · rw [if_neg (fun h => h1 h.1)]
theorem impl_PartitionValid_ev (s : List S31) : EvB (fun k => impl_PartitionValid.f k s) (partV s) := by
  unfold impl_PartitionValid.f
  refine evb_ite (fun h => EvB.of_no (Ev.step (fun k => rfl) (Ev.now _)) (fun hp => by have := hp.1; omega)) (fun ha => evb_ite (fun h => EvB.of_no (Ev.step (fun k => rfl) (Ev.now _)) (fun hp => by have := hp.1; omega)) (fun hb => ?_))
  have h : 1 ≤ (s.length : Int) ∧ (s.length : Int) ≤ 6 := by omega
  have ew : wrap64 ((s.length : Int) - 1) = s.length - 1 := w64 (by omega) (by omega)
  simp only [ew]
  refine evb_ite (fun _ => evb_ite (fun h2 => evb_ite (fun _ => evb_ite (fun _ => ?_) (fun h => by omega)) (fun h => by omega)) (fun h2 => EvB.of_no (Ev.step (fun k => rfl) (Ev.now _)) (fun hp => h2 hp.2.2.1))) (fun h => by omega)
  by_cases h3 : (rd_T31 s (s.length - 1)).f1.toList = []
  · refine EvB.step (f := fun k => impl_PartitionValid.l0 k s s s.length 0) (fun k => by simp [impl_PartitionValid.j0, h3]) ?_
    refine (all_loop (g := fun k i => impl_PartitionValid.l0 k s s s.length i) (n := s.length) (p := fun i => ivV (rd_T31 s i).f0.toList (rd_T31 s i).f1.toList ∧ (0 < i → jnV (rd_T31 s (i - 1)).f0.toList (rd_T31 s (i - 1)).f1.toList (rd_T31 s i).f0.toList (rd_T31 s i).f1.toList)) (fun i h0 h1 => ?_) (Ev.step (fun k => rfl) (ev_ite (fun h => by omega) (fun _ => Ev.now _))) s.length 0 (by omega) (by omega)).iff ⟨fun h' => ⟨h, fun i i0 i1 => (h' i i0 i1).1, h2, h3, fun i i0 i1 => ((h' i (by omega) i1).2 (by omega)).2.2⟩, fun h' i i0 i1 => ⟨h'.2.1 i (by omega) (by omega), fun ip => ⟨h'.2.1 (i - 1) (by omega) (by omega), h'.2.1 i (by omega) (by omega), h'.2.2.2.2 i (by omega) (by omega)⟩⟩⟩
    have hI := impl_IntervalValid_ev (rd_T31 s i).f0 (rd_T31 s i).f1
    by_cases c1 : ivV (rd_T31 s i).f0.toList (rd_T31 s i).f1.toList
    · by_cases c4 : i > 0
      · have ew : wrap64 (i - 1) = i - 1 := w64 (by omega) (by omega)
        have ej := impl_IntervalJoin_ev (rd_T31 s (i - 1)).f0 (rd_T31 s (i - 1)).f1 (rd_T31 s i).f0 (rd_T31 s i).f1
        unfold joinOf at ej
        by_cases c : jnV (rd_T31 s (i - 1)).f0.toList (rd_T31 s (i - 1)).f1.toList (rd_T31 s i).f0.toList (rd_T31 s i).f1.toList
        · rw [if_pos c] at ej
          refine .inl ⟨⟨c1, fun _ => c⟩, fun r hr => Ev.step (fun k => rfl) (ev_ite (fun _ => ev_ite (fun _ => ev_ite (fun _ => Ev.bind (hI.yes c1) (ev_ite (fun _ => ev_ite (fun _ => ?_) (fun h => absurd c4 h)) (fun h => absurd rfl h))) (fun h => by omega)) (fun h => by omega)) (fun h => by omega))⟩
          simp only [ew]
          refine ev_ite (fun _ => ev_ite (fun _ => Ev.bind ej (ev_ite (fun _ => ?_) (fun h => absurd rfl h))) (fun h => by omega)) (fun h => by omega)
          rw [w64 (by omega) (by omega)]
          exact hr
        · rw [if_neg c] at ej
          refine .inr ⟨fun h => c (h.2 c4), Ev.step (fun k => rfl) (ev_ite (fun _ => ev_ite (fun _ => ev_ite (fun _ => Ev.bind (hI.yes c1) (ev_ite (fun _ => ev_ite (fun _ => ?_) (fun h => absurd c4 h)) (fun h => absurd rfl h))) (fun h => by omega)) (fun h => by omega)) (fun h => by omega))⟩
          simp only [ew]
          exact ev_ite (fun _ => ev_ite (fun _ => Ev.bind ej (ev_ite (fun h => by cases h) (fun _ => Ev.now _))) (fun h => by omega)) (fun h => by omega)
      · refine .inl ⟨⟨c1, fun h => absurd h c4⟩, fun r hr => Ev.step (fun k => rfl) (ev_ite (fun _ => ev_ite (fun _ => ev_ite (fun _ => Ev.bind (hI.yes c1) (ev_ite (fun _ => ev_ite (fun h => absurd h c4) (fun _ => ?_)) (fun h => absurd rfl h))) (fun h => by omega)) (fun h => by omega)) (fun h => by omega))⟩
        rw [w64 (by omega) (by omega)]
        exact hr
    · exact .inr ⟨fun h => c1 h.1, Ev.step (fun k => rfl) (ev_ite (fun _ => ev_ite (fun _ => ev_ite (fun _ => Ev.bind (hI.no c1) (ev_ite (fun h => by cases h) (fun _ => Ev.now _))) (fun h => by omega)) (fun h => by omega)) (fun h => by omega))⟩
  · exact EvB.of_no (Ev.step (f := fun _ => some false) (fun k => by simp [impl_PartitionValid.j0, h3]) (Ev.now _)) (fun hp => h3 hp.2.2.2.1)
theorem rd_take_R (l : List S35) (n : Nat) (i : Int) (h0 : 0 ≤ i) (h1 : i < n) : rd_T35 (l.take n) i = rd_T35 l i := by
  unfold rd_T35
  rw [List.getD_eq_getElem?_getD, List.getD_eq_getElem?_getD, List.getElem?_take_of_lt (by omega)]
theorem impl_routePlace_ev (l : List S35) (hl : (l.length : Int) ≤ 1048576) (x : Int) : ∃ r, Ev (fun k => impl_routePlace.f k l x) r ∧ firstAt (fun j => (rd_T35 l j).f0 = x) l.length 0 r := by
  unfold impl_routePlace.f
  refine first_loop (g := fun k i => impl_routePlace.l0 k x l l.length i) (fun i h0 h1 => ?_) (Ev.step (fun k => rfl) (ev_ite (fun h => by omega) (fun _ => Ev.now _))) l.length 0 (by omega) (by omega)
  by_cases e : (rd_T35 l i).f0 = x
  · exact .inr ⟨e, Ev.step (fun k => rfl) (ev_ite (fun _ => ev_ite (fun _ => ev_ite (fun _ => ev_ite (fun _ => Ev.now _) (fun h => absurd e h)) (fun h => by omega)) (fun h => by omega)) (fun h => by omega))⟩
  · refine .inl ⟨e, fun r hr => Ev.step (fun k => rfl) (ev_ite (fun _ => ev_ite (fun _ => ev_ite (fun _ => ev_ite (fun h => absurd h e) (fun _ => ?_)) (fun h => by omega)) (fun h => by omega)) (fun h => by omega))⟩
    rw [w64 (by omega) (by omega)]
    exact hr
theorem shardNumber_eq (a : Int) : impl_shardNumber.f a = some (decide (0 ≤ a ∧ a ≤ 7)) := by
  unfold impl_shardNumber.f
  split
  · exact congrArg some (dec_iff (by omega))
  · exact congrArg some (dec_f (by omega))
theorem impl_numbersDiffer_ev (l : List S35) (hl : (l.length : Int) ≤ 1048576) : EvB (fun k => impl_numbersDiffer.f k l) (∀ i : Int, 0 ≤ i → i < l.length → apartV l i) := by
  unfold impl_numbersDiffer.f
  refine all_loop (g := fun k i => impl_numbersDiffer.l0 k l l l.length i) (n := l.length) (p := fun i => apartV l i) (fun i h0 h1 => ?_) (Ev.step (fun k => rfl) (ev_ite (fun h => by omega) (fun _ => Ev.now _))) l.length 0 (by omega) (by omega)
  by_cases c2 : 0 ≤ (rd_T35 l i).f0 ∧ (rd_T35 l i).f0 ≤ 7
  · have ht : (l.take i.toNat).length = i.toNat := by rw [List.length_take]; omega
    obtain ⟨q, hq, hq2⟩ := impl_routePlace_ev (l.take i.toNat) (by omega) (rd_T35 l i).f0
    rw [ht] at hq2
    rcases hq2 with ⟨k1, k2⟩ | ⟨k1, k2, k3, k4⟩
    · refine .inl ⟨⟨c2, fun j j0 j1 => by have : ¬ (rd_T35 (l.take i.toNat) j).f0 = (rd_T35 l i).f0 := k2 j j0 (by omega); rwa [rd_take_R l _ j j0 (by omega)] at this⟩, fun r hr => Ev.step (fun k => rfl) (ev_ite (fun _ => ev_ite (fun _ => ev_ite (fun _ => Ev.bind (ev_con (shardNumber_eq _)) (ev_ite (fun _ => ev_ite (fun _ => Ev.bind hq (ev_ite (fun h => by omega) (fun _ => ?_))) (fun h => by omega)) (fun h => absurd (decide_eq_true c2) h))) (fun h => by omega)) (fun h => by omega)) (fun h => by omega))⟩
      rw [w64 (by omega) (by omega)]
      exact hr
    · refine .inr ⟨fun h => ?_, Ev.step (fun k => rfl) (ev_ite (fun _ => ev_ite (fun _ => ev_ite (fun _ => Ev.bind (ev_con (shardNumber_eq _)) (ev_ite (fun _ => ev_ite (fun _ => Ev.bind hq (ev_ite (fun _ => Ev.now _) (fun h => by omega))) (fun h => by omega)) (fun h => absurd (decide_eq_true c2) h))) (fun h => by omega)) (fun h => by omega)) (fun h => by omega))⟩
      have k3 : (rd_T35 (l.take i.toNat) q).f0 = (rd_T35 l i).f0 := k3
      rw [rd_take_R l _ q k1 (by omega)] at k3
      exact h.2 q k1 (by omega) k3
  · exact .inr ⟨fun h => c2 h.1, Ev.step (fun k => rfl) (ev_ite (fun _ => ev_ite (fun _ => ev_ite (fun _ => Ev.bind (ev_con (shardNumber_eq _)) (ev_ite (fun h => absurd (of_decide_eq_true h) c2) (fun _ => Ev.now _))) (fun h => by omega)) (fun h => by omega)) (fun h => by omega))⟩
theorem impl_spansOf_ev (l : List S35) (hl : (l.length : Int) ≤ 1048576) : Ev (fun k => impl_spansOf.f k l) (l.map (·.f1)) := by
  have go : ∀ (d : Nat) (i : Int) (s : List S31), 0 ≤ i → (l.length : Int) - i = d → s.length = i.toNat → Ev (fun k => impl_spansOf.l0 k s l l.length i) (s ++ (l.drop i.toNat).map (·.f1)) := by
    intro d
    induction d with
    | zero =>
      intro i s h0 hd hs
      refine Ev.step (fun k => rfl) (ev_ite (fun h => by omega) (fun _ => ev_ret ?_))
      rw [List.drop_of_length_le (by omega), List.map_nil, List.append_nil]
    | succ d ih =>
      intro i s h0 hd hs
      have hr := ih (i + 1) (s ++ [(rd_T35 l i).f1]) (by omega) (by omega) (by rw [List.length_append, hs]; simp; omega)
      refine Ev.step (fun k => rfl) (ev_ite (fun _ => ev_ite (fun _ => ev_ite (fun _ => ev_ite (fun _ => ?_) (fun h => by omega)) (fun h => by omega)) (fun h => by omega)) (fun h => by omega))
      rw [w64 (by omega) (by omega), drop_rd_R l i h0 (by omega), List.map_cons]
      rw [List.append_assoc, List.singleton_append] at hr
      exact hr
  unfold impl_spansOf.f
  simpa using go l.length 0 [] (by omega) (by omega) rfl
theorem impl_RoutesValid_ev (l : List S35) (hl : (l.length : Int) ≤ 1048576) : EvB (fun k => impl_RoutesValid.f k l) (routesV l) := by
  unfold impl_RoutesValid.f
  refine evb_ite (fun h6 => evb_bind (impl_spansOf_ev l hl) (evb_test (impl_PartitionValid_ev _) (fun hp => evb_ite (fun _ => EvB.id ((impl_numbersDiffer_ev l hl).iff ⟨fun h => ⟨h6, h, hp⟩, fun h => h.2.1⟩)) (fun h => absurd rfl h)) (fun hp => evb_ite (fun h => by cases h) (fun _ => evb_ret ?_)))) (fun h6 => evb_ret ?_)
  · simp only [Bool.false_eq_true, false_iff]
    exact fun h => hp h.2.2
  · simp only [Bool.false_eq_true, false_iff]
    exact fun h => h6 h.1
theorem spec_l23Index_ev (l : List S35) (hl : (l.length : Int) ≤ 1048576) (x : Int) : ∃ r, Ev (fun k => spec_l23Index.f k l x) r ∧ firstAt (fun j => (rd_T35 l j).f0 = x) l.length 0 r := by
  unfold spec_l23Index.f
  refine first_loop (g := fun k i => spec_l23Index.l0 k l x i) (fun i h0 h1 => ?_) (Ev.step (fun k => rfl) (ev_ite (fun h => by omega) (fun _ => Ev.now _))) l.length 0 (by omega) (by omega)
  by_cases e : (rd_T35 l i).f0 = x
  · exact .inr ⟨e, Ev.step (fun k => rfl) (ev_ite (fun _ => ev_ite (fun _ => ev_ite (fun _ => Ev.now _) (fun h => absurd e h)) (fun h => by omega)) (fun h => by omega))⟩
  · refine .inl ⟨e, fun r hr => Ev.step (fun k => rfl) (ev_ite (fun _ => ev_ite (fun _ => ev_ite (fun h => absurd h e) (fun _ => ?_)) (fun h => by omega)) (fun h => by omega))⟩
    rw [w64 (by omega) (by omega)]
    exact hr
theorem rd_spans (l : List S35) (i : Int) : rd_T31 (l.map (·.f1)) i = (rd_T35 l i).f1 := by
  unfold rd_T31 rd_T35
  rw [List.getD_eq_getElem?_getD, List.getD_eq_getElem?_getD, List.getElem?_map]
  cases l[i.toNat]? <;> rfl
theorem firstAt_bounds {p : Int → Prop} {n r : Int} (h : firstAt p n 0 r) : (r < 0 ∧ r = -1 ∧ ∀ j, 0 ≤ j → j < n → ¬ p j) ∨ (0 ≤ r ∧ r < n ∧ p r ∧ ∀ j, 0 ≤ j → j < r → ¬ p j) := by
  rcases h with ⟨h1, h2⟩ | ⟨h1, h2, h3, h4⟩
  · exact .inl ⟨by omega, h1, h2⟩
  · exact .inr ⟨h1, h2, h3, h4⟩
theorem copy_eq (l : List S35) (hl : (l.length : Int) ≤ 1048576) : impl_Route_94.f l = some l := by
  unfold impl_Route_94.f
  rw [if_pos (by simp only [List.length_nil]; omega)]
  rfl
theorem replaced_eq (l m : List S35) (hl : (l.length : Int) ≤ 1048576) (hm : m.length ≤ 100) (a b : Int) (ha : 0 ≤ a) (hb : 0 ≤ b) (hab : a + b ≤ l.length) : impl_Route_96.f l a b m = some (l.take a.toNat ++ m ++ l.drop (a + b).toNat) := by
  have e1 : wrap64 ((l.length : Int) - b) = l.length - b := w64 (by omega) (by omega)
  have e2 : wrap64 ((l.length : Int) - b + m.length) = l.length - b + m.length := w64 (by omega) (by omega)
  have e3 : wrap64 (a + b) = a + b := w64 (by omega) (by omega)
  unfold impl_Route_96.f
  simp only [e1, e2, e3, Option.bind_some, List.nil_append, List.length_nil, Nat.zero_add, List.length_append, List.length_take, List.length_drop]
  rw [if_pos (by omega), if_pos (by omega), if_pos (by omega), if_pos (by omega), if_pos (by omega), if_pos (by omega), if_pos (by omega), if_pos (by omega), if_pos (by omega)]
def mergedL (l : List S35) (w a : Int) : List S35 := l.take a.toNat ++ [⟨w, ⟨(rd_T35 l a).f1.f0, (rd_T35 l (a + 1)).f1.f1⟩⟩] ++ l.drop (a + 2).toNat
def mergeR (l : List S35) (x w : Int) (r : List S35 × Bool) : Prop := (¬ routesV l → r = ([], false)) ∧ (routesV l → ∃ a, firstAt (fun j => (rd_T35 l j).f0 = x) l.length 0 a ∧ ((a < 0 ∨ a = l.length - 1 ∨ ¬ routesV (mergedL l w a)) → r = (l, false)) ∧ (0 ≤ a → a < l.length - 1 → routesV (mergedL l w a) → r = (mergedL l w a, true)))
theorem mergeR_unique {l : List S35} {x w : Int} {r s : List S35 × Bool} (h : mergeR l x w r) (h' : mergeR l x w s) : r = s := by
  by_cases hc : routesV l
  · obtain ⟨a, h1, h2, h3⟩ := h.2 hc
    obtain ⟨b, k1, k2, k3⟩ := h'.2 hc
    have := firstAt_unique (fun j _ _ => Iff.rfl) h1 k1
    subst this
    by_cases e : a < 0 ∨ a = l.length - 1 ∨ ¬ routesV (mergedL l w a)
    · rw [h2 e, k2 e]
    · simp only [not_or, Classical.not_not] at e
      have hb := firstAt_bounds h1
      rw [h3 (by omega) (by omega) e.2.2, k3 (by omega) (by omega) e.2.2]
  · rw [h.1 hc, h'.1 hc]
theorem merged_len (l : List S35) (w a : Int) (h0 : 0 ≤ a) (h1 : a < l.length - 1) : ((mergedL l w a).length : Int) = l.length - 1 := by
  unfold mergedL
  simp only [List.length_append, List.length_take, List.length_drop, List.length_cons, List.length_nil]
  omega
theorem mergeR_len {l : List S35} {x w : Int} {r : List S35 × Bool} (h : mergeR l x w r) : r.1.length ≤ l.length := by
  by_cases hc : routesV l
  · obtain ⟨a, h1, h2, h3⟩ := h.2 hc
    by_cases e : a < 0 ∨ a = l.length - 1 ∨ ¬ routesV (mergedL l w a)
    · rw [h2 e]; exact Nat.le_refl _
    · simp only [not_or, Classical.not_not] at e
      have hb := firstAt_bounds h1
      rw [h3 (by omega) (by omega) e.2.2]
      have := merged_len l w a (by omega) (by omega)
      show (mergedL l w a).length ≤ _
      omega
  · rw [h.1 hc]; exact Nat.zero_le _
theorem routes_join {l : List S35} (h : routesV l) (i : Int) (h0 : 0 ≤ i) (h1 : i < l.length - 1) : joinOf (rd_T35 l i).f1.f0 (rd_T35 l i).f1.f1 (rd_T35 l (i + 1)).f1.f0 (rd_T35 l (i + 1)).f1.f1 = ((rd_T35 l i).f1.f0, (rd_T35 l (i + 1)).f1.f1, true) := by
  have hlen : (l.map (·.f1)).length = l.length := List.length_map _
  have k1 := h.2.2.2.1 i h0 (by omega)
  have k2 := h.2.2.2.1 (i + 1) (by omega) (by omega)
  have k3 := h.2.2.2.2.2.2 (i + 1) (by omega) (by omega)
  rw [show i + 1 - 1 = i by omega] at k3
  rw [rd_spans] at k1 k2
  rw [rd_spans, rd_spans] at k3
  exact if_pos ⟨k1, k2, k3.1, k3.2⟩
theorem spec_MergeRoutes_ev (l : List S35) (hl : (l.length : Int) ≤ 1048576) (x w : Int) : ∃ r, Ev (fun k => spec_MergeRoutes.f k l x w) r ∧ mergeR l x w r := by
  have hv := spec_RoutesValid_ev l hl
  unfold spec_MergeRoutes.f
  by_cases hc : routesV l
  · obtain ⟨a, h1, h2⟩ := spec_l23Index_ev l hl x
    have ew : wrap64 ((l.length : Int) - 1) = l.length - 1 := w64 (by omega) (by omega)
    have hb := firstAt_bounds h2
    by_cases c1 : a < 0
    · refine ⟨(l, false), ev_let (Ev.bind (hv.yes hc) (ev_pos rfl (Ev.bind h1 (ev_pos c1 (Ev.step (fun k => rfl) ?_))))), fun h => absurd hc h, fun _ => ⟨a, h2, fun _ => rfl, fun h => by omega⟩⟩
      simp only [spec_MergeRoutes.j0, ↓reduceIte, List.nil_append, List.length_nil, Nat.zero_add]
      exact ev_pos (by omega) (Ev.now _)
    by_cases c2 : a = l.length - 1
    · refine ⟨(l, false), ev_let (Ev.bind (hv.yes hc) (ev_pos rfl (Ev.bind h1 (ev_neg c1 (Ev.step (fun k => rfl) ?_))))), fun h => absurd hc h, fun _ => ⟨a, h2, fun _ => rfl, fun h => by omega⟩⟩
      simp only [spec_MergeRoutes.j0, ew, beq_iff_eq, List.nil_append, List.length_nil, Nat.zero_add]
      exact ev_pos c2 (ev_pos (by omega) (Ev.now _))
    have e1 : wrap64 (a + 1) = a + 1 := w64 (by omega) (by omega)
    have e2 : wrap64 (a + 2) = a + 2 := w64 (by omega) (by omega)
    have ej := spec_IntervalJoin_ev (rd_T35 l a).f1.f0 (rd_T35 l a).f1.f1 (rd_T35 l (a + 1)).f1.f0 (rd_T35 l (a + 1)).f1.f1
    rw [routes_join hc a (by omega) (by omega)] at ej
    have hml := merged_len l w a (by omega) (by omega)
    have hg : ∀ r, Ev (fun k => (spec_RoutesValid.f k (mergedL l w a)).bind fun t => if t = true then some (mergedL l w a, true) else if l.length < 3518437208883 then some (l, false) else none) r → Ev (fun k => (some ([] : List S35)).bind fun y177 => (spec_RoutesValid.f k l).bind fun t180 => if t180 = true then (spec_l23Index.f k l x).bind fun t181 => if t181 < 0 then spec_MergeRoutes.j0 k l w y177 t181 true else spec_MergeRoutes.j0 k l w y177 t181 (t181 == wrap64 ((l.length : Int) - 1)) else some (y177, false)) r := by
      intro r hr
      refine ev_let (Ev.bind (hv.yes hc) (ev_pos rfl (Ev.bind h1 (ev_neg c1 (Ev.step (fun k => rfl) ?_)))))
      simp only [spec_MergeRoutes.j0, ew, e1, e2, beq_iff_eq, List.nil_append, List.length_nil, Nat.zero_add, Option.bind_some, List.length_append, List.length_take, List.length_drop, List.length_cons]
      refine ev_neg c2 (ev_pos (by omega) (ev_pos (by omega) (ev_pos (by omega) (ev_pos (by omega) (Ev.bind ej (ev_pos (by omega) (ev_pos (by omega) (ev_pos (by omega) (ev_pos (by omega) (ev_pos (by omega) (ev_pos (by omega) ?_)))))))))))
      exact hr
    by_cases c3 : routesV (mergedL l w a)
    · exact ⟨(mergedL l w a, true), hg _ (Ev.bind ((spec_RoutesValid_ev _ (by omega)).yes c3) (ev_pos rfl (Ev.now _))), fun h => absurd hc h, fun _ => ⟨a, h2, fun h => h.elim (fun h => by omega) (fun h => h.elim (fun h => by omega) (fun h => absurd c3 h)), fun _ _ _ => rfl⟩⟩
    · exact ⟨(l, false), hg _ (Ev.bind ((spec_RoutesValid_ev _ (by omega)).no c3) (ev_neg (by decide) (ev_pos (by omega) (Ev.now _)))), fun h => absurd hc h, fun _ => ⟨a, h2, fun _ => rfl, fun _ _ h => absurd h c3⟩⟩
  · exact ⟨([], false), ev_let (Ev.bind (hv.no hc) (ev_neg (by decide) (Ev.now _))), fun _ => rfl, fun h => absurd h hc⟩
theorem impl_MergeRoutes_ev (l : List S35) (hl : (l.length : Int) ≤ 1048576) (x w : Int) : ∃ r, Ev (fun k => impl_MergeRoutes.f k l x w) r ∧ mergeR l x w r := by
  have hv := impl_RoutesValid_ev l hl
  have hcp : Ev (fun _ => impl_Route_94.f l) l := ev_con (copy_eq l hl)
  unfold impl_MergeRoutes.f
  by_cases hc : routesV l
  · obtain ⟨a, h1, h2⟩ := impl_routePlace_ev l hl x
    have ew : wrap64 ((l.length : Int) - 1) = l.length - 1 := w64 (by omega) (by omega)
    have hb := firstAt_bounds h2
    by_cases c1 : a < 0
    · refine ⟨(l, false), Ev.bind (hv.yes hc) (ev_pos rfl (Ev.bind h1 (ev_pos c1 (Ev.step (fun k => rfl) ?_)))), fun h => absurd hc h, fun _ => ⟨a, h2, fun _ => rfl, fun h => by omega⟩⟩
      simp only [impl_MergeRoutes.j0, ↓reduceIte]
      exact Ev.bind hcp (Ev.now _)
    by_cases c2 : a = l.length - 1
    · refine ⟨(l, false), Ev.bind (hv.yes hc) (ev_pos rfl (Ev.bind h1 (ev_neg c1 (Ev.step (fun k => rfl) ?_)))), fun h => absurd hc h, fun _ => ⟨a, h2, fun _ => rfl, fun h => by omega⟩⟩
      simp only [impl_MergeRoutes.j0, ew, beq_iff_eq]
      exact ev_pos c2 (Ev.bind hcp (Ev.now _))
    have e1 : wrap64 (a + 1) = a + 1 := w64 (by omega) (by omega)
    have ej := impl_IntervalJoin_ev (rd_T35 l a).f1.f0 (rd_T35 l a).f1.f1 (rd_T35 l (a + 1)).f1.f0 (rd_T35 l (a + 1)).f1.f1
    rw [routes_join hc a (by omega) (by omega)] at ej
    have hml := merged_len l w a (by omega) (by omega)
    have er := replaced_eq l [(⟨w, (⟨(rd_T35 l a).f1.f0, (rd_T35 l (a + 1)).f1.f1⟩ : S31)⟩ : S35)] hl (by simp) a 2 (by omega) (by omega) (by omega)
    have hg : ∀ r, Ev (fun k => (impl_RoutesValid.f k (mergedL l w a)).bind fun t => if t = true then some (mergedL l w a, true) else (impl_Route_94.f l).bind fun t303 => some (t303, false)) r → Ev (fun k => (impl_RoutesValid.f k l).bind fun t282 => if t282 = true then (impl_routePlace.f k l x).bind fun t283 => if t283 < 0 then impl_MergeRoutes.j0 k l w t283 true else impl_MergeRoutes.j0 k l w t283 (t283 == wrap64 ((l.length : Int) - 1)) else some ([], false)) r := by
      intro r hr
      refine Ev.bind (hv.yes hc) (ev_pos rfl (Ev.bind h1 (ev_neg c1 (Ev.step (fun k => rfl) ?_))))
      simp only [impl_MergeRoutes.j0, ew, e1, beq_iff_eq]
      exact ev_neg c2 (ev_pos (by omega) (ev_pos (by omega) (ev_pos (by omega) (ev_pos (by omega) (Ev.bind ej (ev_pos rfl (Ev.bind (ev_con er) hr)))))))
    by_cases c3 : routesV (mergedL l w a)
    · exact ⟨(mergedL l w a, true), hg _ (Ev.bind ((impl_RoutesValid_ev _ (by omega)).yes c3) (ev_pos rfl (Ev.now _))), fun h => absurd hc h, fun _ => ⟨a, h2, fun h => h.elim (fun h => by omega) (fun h => h.elim (fun h => by omega) (fun h => absurd c3 h)), fun _ _ _ => rfl⟩⟩
    · exact ⟨(l, false), hg _ (Ev.bind ((impl_RoutesValid_ev _ (by omega)).no c3) (ev_neg (by decide) (Ev.bind hcp (Ev.now _)))), fun h => absurd hc h, fun _ => ⟨a, h2, fun _ => rfl, fun _ _ h => absurd h c3⟩⟩
  · exact ⟨([], false), Ev.bind (hv.no hc) (ev_neg (by decide) (Ev.now _)), fun _ => rfl, fun h => absurd h hc⟩
def cutV (a b key : List UInt8) : Prop := ivV a b ∧ keyV key ∧ ivV a key ∧ ivV key b
instance (a b key : List UInt8) : Decidable (cutV a b key) := by unfold cutV; infer_instance
def cutOf (a b key : ByteArray) : ByteArray × ByteArray × ByteArray × ByteArray × Bool := if cutV a.toList b.toList key.toList then (a, key, key, b, true) else ((⟨#[]⟩ : ByteArray), (⟨#[]⟩ : ByteArray), (⟨#[]⟩ : ByteArray), (⟨#[]⟩ : ByteArray), false)
def splitL (l : List S35) (a : Int) (key : ByteArray) (p q : Int) : List S35 := l.take a.toNat ++ [⟨p, ⟨(rd_T35 l a).f1.f0, key⟩⟩, ⟨q, ⟨key, (rd_T35 l a).f1.f1⟩⟩] ++ l.drop (a + 1).toNat
def splitOk (l : List S35) (a : Int) (key : ByteArray) (p q : Int) : Prop := cutV (rd_T35 l a).f1.f0.toList (rd_T35 l a).f1.f1.toList key.toList ∧ routesV (splitL l a key p q)
def splitR (l : List S35) (x : Int) (key : ByteArray) (p q : Int) (r : List S35 × Bool) : Prop := (¬ routesV l → r = ([], false)) ∧ (routesV l → ∃ a, firstAt (fun j => (rd_T35 l j).f0 = x) l.length 0 a ∧ ((a < 0 ∨ ¬ splitOk l a key p q) → r = (l, false)) ∧ (0 ≤ a → a < l.length → splitOk l a key p q → r = (splitL l a key p q, true)))
theorem split_len (l : List S35) (a : Int) (key : ByteArray) (p q : Int) (h0 : 0 ≤ a) (h1 : a < l.length) : ((splitL l a key p q).length : Int) = l.length + 1 := by
  unfold splitL
  simp only [List.length_append, List.length_take, List.length_drop, List.length_cons, List.length_nil]
  omega
theorem impl_IntervalCut_ev (a b key : ByteArray) : Ev (fun k => impl_IntervalCut.f k a b key) (cutOf a b key) := by
  unfold impl_IntervalCut.f cutOf
  refine ev_test (impl_IntervalValid_ev a b) (fun h1 => ev_pos rfl (ev_test (EvB.of_dec (impl_KeyValid_ev key)) (fun h2 => Ev.step (fun k => rfl) ?_) (fun h2 => Ev.step (fun k => rfl) ?_))) (fun h1 => ev_neg (by decide) (Ev.step (fun k => rfl) ?_))
  · simp only [impl_IntervalCut.j0]
    refine ev_neg (by decide) (ev_test (impl_IntervalValid_ev a key) (fun h3 => ev_pos rfl (ev_test (impl_IntervalValid_ev key b) (fun h4 => ev_pos rfl (ev_ret ?_)) (fun h4 => ev_neg (by decide) (ev_ret ?_)))) (fun h3 => ev_neg (by decide) (ev_ret ?_)))
    · rw [if_pos ⟨h1, h2, h3, h4⟩]
    · rw [if_neg (fun h => h4 h.2.2.2)]
    · rw [if_neg (fun h => h3 h.2.2.1)]
  · simp only [impl_IntervalCut.j0]
    refine ev_pos rfl (ev_ret ?_)
    rw [if_neg (fun h => h2 h.2.1)]
  · simp only [impl_IntervalCut.j0]
    refine ev_pos trivial (ev_ret ?_)
    rw [if_neg (fun h => h1 h.1)]
theorem impl_SplitRoute_ev (l : List S35) (hl : (l.length : Int) ≤ 1048576) (x : Int) (key : ByteArray) (p q : Int) : ∃ r, Ev (fun k => impl_SplitRoute.f k l x key p q) r ∧ splitR l x key p q r := by
  have hv := impl_RoutesValid_ev l hl
  have hcp : Ev (fun _ => impl_Route_94.f l) l := ev_con (copy_eq l hl)
  unfold impl_SplitRoute.f
  by_cases hc : routesV l
  · obtain ⟨a, h1, h2⟩ := impl_routePlace_ev l hl x
    have h6 := hc.1
    have hb := firstAt_bounds h2
    by_cases c1 : a < 0
    · exact ⟨(l, false), Ev.bind (hv.yes hc) (ev_pos rfl (Ev.bind h1 (ev_pos c1 (Ev.bind hcp (Ev.now _))))), fun h => absurd hc h, fun _ => ⟨a, h2, fun _ => rfl, fun h => by omega⟩⟩
    have ej := impl_IntervalCut_ev (rd_T35 l a).f1.f0 (rd_T35 l a).f1.f1 key
    unfold cutOf at ej
    have hml := split_len l a key p q (by omega) (by omega)
    by_cases c2 : cutV (rd_T35 l a).f1.f0.toList (rd_T35 l a).f1.f1.toList key.toList
    · rw [if_pos c2] at ej
      have er := replaced_eq l [(⟨p, (⟨(rd_T35 l a).f1.f0, key⟩ : S31)⟩ : S35), (⟨q, (⟨key, (rd_T35 l a).f1.f1⟩ : S31)⟩ : S35)] hl (by simp) a 1 (by omega) (by omega) (by omega)
      by_cases c3 : routesV (splitL l a key p q)
      · exact ⟨(splitL l a key p q, true), Ev.bind (hv.yes hc) (ev_pos rfl (Ev.bind h1 (ev_neg c1 (ev_pos (by omega) (ev_pos (by omega) (Ev.bind ej (ev_pos rfl (Ev.bind (ev_con er) (Ev.bind ((impl_RoutesValid_ev (splitL l a key p q) (by omega)).yes c3) (ev_pos rfl (Ev.now _))))))))))), fun h => absurd hc h, fun _ => ⟨a, h2, fun h => h.elim (fun h => by omega) (fun h => absurd ⟨c2, c3⟩ h), fun _ _ _ => rfl⟩⟩
      · exact ⟨(l, false), Ev.bind (hv.yes hc) (ev_pos rfl (Ev.bind h1 (ev_neg c1 (ev_pos (by omega) (ev_pos (by omega) (Ev.bind ej (ev_pos rfl (Ev.bind (ev_con er) (Ev.bind ((impl_RoutesValid_ev (splitL l a key p q) (by omega)).no c3) (ev_neg (by decide) (Ev.bind hcp (Ev.now _)))))))))))), fun h => absurd hc h, fun _ => ⟨a, h2, fun _ => rfl, fun _ _ h => absurd h.2 c3⟩⟩
    · rw [if_neg c2] at ej
      exact ⟨(l, false), Ev.bind (hv.yes hc) (ev_pos rfl (Ev.bind h1 (ev_neg c1 (ev_pos (by omega) (ev_pos (by omega) (Ev.bind ej (ev_neg (by decide) (Ev.bind hcp (Ev.now _))))))))), fun h => absurd hc h, fun _ => ⟨a, h2, fun _ => rfl, fun _ _ h => absurd h.1 c2⟩⟩
  · exact ⟨([], false), Ev.bind (hv.no hc) (ev_neg (by decide) (Ev.now _)), fun _ => rfl, fun h => absurd h hc⟩
theorem less_irrefl : ∀ a : List UInt8, Op.bytesLess a a = false
  | [] => rfl
  | a :: x => by simp [Op.bytesLess, less_irrefl x]
theorem less_cons (a b : UInt8) (x y : List UInt8) : Op.bytesLess (a :: x) (b :: y) = true ↔ a.toNat < b.toNat ∨ (a.toNat = b.toNat ∧ Op.bytesLess x y = true) := by
  simp only [Op.bytesLess, Bool.or_eq_true, decide_eq_true_eq, Bool.and_eq_true, beq_iff_eq, UInt8.lt_iff_toNat_lt, UInt8.toNat_inj]
theorem nums_one (x : Int) (h0 : 0 ≤ x) (h1 : x ≤ 255) : (strOfNums [x % 256]).toList = [UInt8.ofNat x.toNat] := by
  rw [Int.emod_eq_of_lt h0 (by omega), ByteArray.toList_eq]
  rfl
theorem app_list (a b : ByteArray) : (a ++ b).toList = a.toList ++ b.toList := by
  rw [ByteArray.toList_eq, ByteArray.toList_eq, ByteArray.toList_eq, ByteArray.data_append, Array.toList_append]
def kC (q : Int) : UInt8 := UInt8.ofNat (97 + q).toNat
def kStep (sub : Int → List UInt8) (q r : Int) : List UInt8 := kC q :: if r = 0 then [] else sub (r - 1)
def kA3 (n : Int) : List UInt8 := kStep (fun _ => []) n 0
def kA2 (n : Int) : List UInt8 := kStep kA3 (n / 27) (n % 27)
def kA1 (n : Int) : List UInt8 := kStep kA2 (n / 703) (n % 703)
def kA0 (n : Int) : List UInt8 := kStep kA1 (n / 18279) (n % 18279)
theorem kC_nat (q : Int) (h0 : 0 ≤ q) (h1 : q ≤ 25) : ((kC q).toNat : Int) = 97 + q := by
  unfold kC
  rw [UInt8.toNat_ofNat']
  omega
theorem kStep_less (sub : Int → List UInt8) (qa ra qb rb : Int) (h0 : 0 ≤ qa) (h1 : qb ≤ 25) (h2 : 0 ≤ ra) (h3 : 0 ≤ qb) (h4 : qa ≤ 25) (h : qa < qb ∨ (qa = qb ∧ ra < rb)) (hs : ra ≠ 0 → ra < rb → Op.bytesLess (sub (ra - 1)) (sub (rb - 1)) = true) (hn : ∀ x, sub x ≠ [] ∨ rb = 0) : Op.bytesLess (kStep sub qa ra) (kStep sub qb rb) = true := by
  unfold kStep
  rw [less_cons]
  have ha := kC_nat qa h0 h4
  have hb := kC_nat qb h3 h1
  rcases h with h | ⟨h, h'⟩
  · left; omega
  · right
    refine ⟨by omega, ?_⟩
    rw [if_neg (show ¬ rb = 0 by omega)]
    by_cases hr : ra = 0
    · rw [if_pos hr]
      rcases hn (rb - 1) with k | k
      · cases hk : sub (rb - 1) with
        | nil => exact absurd hk k
        | cons => rfl
      · omega
    · rw [if_neg hr]
      exact hs hr h'
theorem kStep_ne (sub : Int → List UInt8) (q r : Int) : kStep sub q r ≠ [] := by unfold kStep; exact List.cons_ne_nil _ _
theorem kA3_less (n m : Int) (h0 : 0 ≤ n) (h : n < m) (h1 : m < 26) : Op.bytesLess (kA3 n) (kA3 m) = true :=
  kStep_less _ n 0 m 0 h0 (by omega) (by omega) (by omega) (by omega) (.inl h) (fun h => absurd rfl h) (fun _ => .inr rfl)
theorem kA2_less (n m : Int) (h0 : 0 ≤ n) (h : n < m) (h1 : m < 702) : Op.bytesLess (kA2 n) (kA2 m) = true :=
  kStep_less _ _ _ _ _ (by omega) (by omega) (by omega) (by omega) (by omega) (by omega) (fun _ _ => kA3_less _ _ (by omega) (by omega) (by omega)) (fun _ => .inl (kStep_ne _ _ _))
theorem kA1_less (n m : Int) (h0 : 0 ≤ n) (h : n < m) (h1 : m < 18278) : Op.bytesLess (kA1 n) (kA1 m) = true :=
  kStep_less _ _ _ _ _ (by omega) (by omega) (by omega) (by omega) (by omega) (by omega) (fun _ _ => kA2_less _ _ (by omega) (by omega) (by omega)) (fun _ => .inl (kStep_ne _ _ _))
theorem kA0_less (n m : Int) (h0 : 0 ≤ n) (h : n < m) (h1 : m < 475254) : Op.bytesLess (kA0 n) (kA0 m) = true :=
  kStep_less _ _ _ _ _ (by omega) (by omega) (by omega) (by omega) (by omega) (by omega) (fun _ _ => kA1_less _ _ (by omega) (by omega) (by omega)) (fun _ => .inl (kStep_ne _ _ _))
theorem kStep_key (sub : Int → List UInt8) (L : Nat) (q r : Int) (h0 : 0 ≤ q) (h1 : q ≤ 25) (hs : r ≠ 0 → (sub (r - 1)).length ≤ L ∧ ∀ b ∈ sub (r - 1), 97 ≤ b.toNat ∧ b.toNat ≤ 122) : 1 ≤ (kStep sub q r).length ∧ (kStep sub q r).length ≤ L + 1 ∧ ∀ b ∈ kStep sub q r, 97 ≤ b.toNat ∧ b.toNat ≤ 122 := by
  unfold kStep
  have hq := kC_nat q h0 h1
  by_cases hr : r = 0
  · rw [if_pos hr]
    refine ⟨by simp, by simp, fun b hb => ?_⟩
    rw [List.mem_singleton] at hb
    subst hb
    omega
  · rw [if_neg hr]
    have := hs hr
    refine ⟨by simp, by simpa using this.1, fun b hb => ?_⟩
    rcases List.mem_cons.1 hb with rfl | hb
    · omega
    · exact this.2 b hb
theorem kA3_key (n : Int) (h0 : 0 ≤ n) (h1 : n < 26) : (kA3 n).length ≤ 1 ∧ ∀ b ∈ kA3 n, 97 ≤ b.toNat ∧ b.toNat ≤ 122 :=
  (kStep_key (fun _ => []) 0 n 0 h0 (by omega) (fun h => absurd rfl h)).2
theorem kA2_key (n : Int) (h0 : 0 ≤ n) (h1 : n < 702) : (kA2 n).length ≤ 2 ∧ ∀ b ∈ kA2 n, 97 ≤ b.toNat ∧ b.toNat ≤ 122 :=
  (kStep_key _ 1 _ _ (by omega) (by omega) (fun _ => kA3_key _ (by omega) (by omega))).2
theorem kA1_key (n : Int) (h0 : 0 ≤ n) (h1 : n < 18278) : (kA1 n).length ≤ 3 ∧ ∀ b ∈ kA1 n, 97 ≤ b.toNat ∧ b.toNat ≤ 122 :=
  (kStep_key _ 2 _ _ (by omega) (by omega) (fun _ => kA2_key _ (by omega) (by omega))).2
theorem kA0_key (n : Int) (h0 : 0 ≤ n) (h1 : n < 475254) : keyV (kA0 n) :=
  kStep_key _ 3 _ _ (by omega) (by omega) (fun _ => kA1_key _ (by omega) (by omega))
theorem kA0_zero : kA0 0 = [97] := by decide
theorem spec_KeyAt_s3 (n : Int) (h0 : 0 ≤ n) (h1 : n < 26) (s : ByteArray) (hs : s.size ≤ 100) : ∃ t, Ev (fun k => spec_KeyAt.l0 k n s 3) t ∧ t.toList = s.toList ++ kA3 n := by
  have e1 : Int.tdiv n 1 = n := by rw [Int.tdiv_eq_ediv_of_nonneg h0]; omega
  have e2 : Int.tmod n 1 = 0 := by rw [Int.tmod_eq_emod_of_nonneg h0]; omega
  have ew : spec_l1Weight.f 3 = some 1 := rfl
  have ec : wrap64 (97 + wrap64 n) = 97 + n := by rw [w64 (x := n) (by omega) (by omega), w64 (by omega) (by omega)]
  refine ⟨s ++ strOfNums [(97 + n) % 256], Ev.step (fun k => rfl) (ev_pos (by omega) (Ev.bind (ev_con ew) (ev_neg (by omega) ?_))), ?_⟩
  · simp only [e1, e2, ec]
    refine ev_let (ev_pos ?_ (Ev.bind (ev_con ew) (ev_neg (by omega) (ev_pos e2 (Ev.now _)))))
    show s.size + 1 ≤ _
    omega
  · rw [app_list, nums_one _ (by omega) (by omega)]
    rfl
theorem spec_KeyAt_s (i w n : Int) (sub : Int → List UInt8) (hi : i < 4) (hi0 : 0 ≤ i) (ew : spec_l1Weight.f i = some w) (hw : 0 < w) (q r : Int) (hq : Int.tdiv n w = q) (hr : Int.tmod n w = r) (hq0 : 0 ≤ q) (hq1 : q ≤ 25) (hr0 : 0 ≤ r) (hr1 : r ≤ 100000) (s : ByteArray) (hs : (s.size : Int) ≤ 50 + i)
    (next : r ≠ 0 → ∀ s : ByteArray, (s.size : Int) ≤ 51 + i → ∃ t, Ev (fun k => spec_KeyAt.l0 k (r - 1) s (i + 1)) t ∧ t.toList = s.toList ++ sub (r - 1)) : ∃ t, Ev (fun k => spec_KeyAt.l0 k n s i) t ∧ t.toList = s.toList ++ kStep sub q r := by
  have ec : wrap64 (97 + wrap64 q) = 97 + q := by rw [w64 (x := q) (by omega) (by omega), w64 (by omega) (by omega)]
  have hz : (s ++ strOfNums [(97 + q) % 256]).size = s.size + 1 := by rw [ByteArray.size_append]; rfl
  have hl : (s ++ strOfNums [(97 + q) % 256]).toList = s.toList ++ [kC q] := by rw [app_list, nums_one _ (by omega) (by omega)]; rfl
  have hg : ∀ t, Ev (fun k => if r = 0 then some (s ++ strOfNums [(97 + q) % 256]) else spec_KeyAt.l0 k (wrap64 (r - 1)) (s ++ strOfNums [(97 + q) % 256]) (wrap64 (i + 1))) t → Ev (fun k => spec_KeyAt.l0 k n s i) t := by
    intro t ht
    refine Ev.step (fun k => rfl) (ev_pos hi (Ev.bind (ev_con ew) (ev_neg (by omega) ?_)))
    simp only [hq, hr, ec]
    refine ev_let (ev_pos ?_ (Ev.bind (ev_con ew) (ev_neg (by omega) ?_)))
    · show s.size + 1 ≤ _
      omega
    · simp only [hr]
      exact ht
  unfold kStep
  by_cases h : r = 0
  · refine ⟨s ++ strOfNums [(97 + q) % 256], hg _ (ev_pos h (Ev.now _)), ?_⟩
    rw [hl, if_pos h]
  · obtain ⟨t, ht, hl2⟩ := next h (s ++ strOfNums [(97 + q) % 256]) (by omega)
    refine ⟨t, hg _ (ev_neg h ?_), ?_⟩
    · rw [w64 (x := r - 1) (by omega) (by omega), w64 (x := i + 1) (by omega) (by omega)]
      exact ht
    · rw [hl2, hl, if_neg h, List.append_assoc, List.singleton_append]
theorem spec_KeyAt_ev (n : Int) (h0 : 0 ≤ n) (h1 : n ≤ 475253) : ∃ t, Ev (fun k => spec_KeyAt.f k n) t ∧ t.toList = kA0 n := by
  obtain ⟨t, h2, h3⟩ := spec_KeyAt_s 0 18279 n kA1 (by omega) (by omega) rfl (by omega) (n / 18279) (n % 18279) (Int.tdiv_eq_ediv_of_nonneg h0) (Int.tmod_eq_emod_of_nonneg h0) (by omega) (by omega) (by omega) (by omega) (⟨#[]⟩ : ByteArray) (by decide) (fun hr s hs => by
    have hm0 : 0 ≤ n % 18279 - 1 := by omega
    have hm1 : n % 18279 - 1 < 18278 := by omega
    generalize n % 18279 - 1 = m at hm0 hm1
    exact spec_KeyAt_s 1 703 m kA2 (by omega) (by omega) rfl (by omega) (m / 703) (m % 703) (Int.tdiv_eq_ediv_of_nonneg hm0) (Int.tmod_eq_emod_of_nonneg hm0) (by omega) (by omega) (by omega) (by omega) s (by omega) (fun hr s hs => by
      have hp0 : 0 ≤ m % 703 - 1 := by omega
      have hp1 : m % 703 - 1 < 702 := by omega
      generalize m % 703 - 1 = p at hp0 hp1
      exact spec_KeyAt_s 2 27 p kA3 (by omega) (by omega) rfl (by omega) (p / 27) (p % 27) (Int.tdiv_eq_ediv_of_nonneg hp0) (Int.tmod_eq_emod_of_nonneg hp0) (by omega) (by omega) (by omega) (by omega) s (by omega) (fun hr s hs => spec_KeyAt_s3 (p % 27 - 1) (by omega) (by omega) s (by omega))))
  refine ⟨t, ?_, ?_⟩
  · unfold spec_KeyAt.f
    exact Ev.bind (ev_con (l1In_eq _ _ _)) (ev_pos (decide_eq_true ⟨h0, h1⟩) h2)
  · rw [h3, ByteArray.toList_eq]
    rfl
theorem xor_nonneg (x y : Int) (hx : 0 ≤ x) (hx1 : x ≤ 9223372036854775807) (hy : 0 ≤ y) (hy1 : y ≤ 9223372036854775807) : 0 ≤ Go.bits .xor .i64 x y := by
  obtain ⟨a, rfl⟩ := Int.eq_ofNat_of_zero_le hx
  obtain ⟨b, rfl⟩ := Int.eq_ofNat_of_zero_le hy
  have h : a ^^^ b < 2 ^ 63 := Nat.xor_lt_two_pow (by omega) (by omega)
  have h1 : (BitVec.ofInt 64 (a : Int)).toNat = a := by rw [BitVec.ofInt_natCast, BitVec.toNat_ofNat]; exact Nat.mod_eq_of_lt (by omega)
  have h2 : (BitVec.ofInt 64 (b : Int)).toNat = b := by rw [BitVec.ofInt_natCast, BitVec.toNat_ofNat]; exact Nat.mod_eq_of_lt (by omega)
  show 0 ≤ IntKind.i64.wrap ((BitVec.ofInt 64 (a : Int) ^^^ BitVec.ofInt 64 (b : Int)).toNat : Int)
  rw [BitVec.toNat_xor, h1, h2]
  simp [IntKind.wrap, IntKind.bits, IntKind.signed]
  split <;> omega
def codeOk (b : List Int) : Prop := b.length ≤ 2000 ∧ ∀ x ∈ b, 0 ≤ x ∧ x ≤ 255
theorem rd_code {b : List Int} (h : codeOk b) (i : Int) : 0 ≤ rd b i ∧ rd b i ≤ 255 := by
  unfold rd
  rw [List.getD_eq_getElem?_getD]
  by_cases hi : i.toNat < b.length
  · rw [List.getElem?_eq_getElem hi]
    exact h.2 _ (List.getElem_mem _)
  · rw [List.getElem?_eq_none (by omega)]
    exact ⟨by decide, by decide⟩
theorem tmod_lt (x n : Int) (hx : 0 ≤ x) (hn : 0 < n) : 0 ≤ Int.tmod x n ∧ Int.tmod x n < n := by
  rw [Int.tmod_eq_emod_of_nonneg hx]
  exact ⟨Int.emod_nonneg _ (by omega), Int.emod_lt_of_pos _ hn⟩
theorem tdiv_le (x n : Int) (hx : 0 ≤ x) (hn : 0 < n) : 0 ≤ Int.tdiv x n ∧ Int.tdiv x n ≤ x := by
  rw [Int.tdiv_eq_ediv_of_nonneg hx]
  exact ⟨Int.ediv_nonneg hx (by omega), Int.ediv_le_self _ hx⟩
theorem pick_ev {b : List Int} (hb : codeOk b) (p n : Int) (h0 : 0 ≤ p) (h1 : p ≤ 1099511627776) : ∃ r, Ev (fun k => spec_l20Rd_pick.f k b p n) (r, p + 1) ∧ 0 ≤ r ∧ (0 < n → r < n) ∧ (n ≤ 0 → r = 0) := by
  have hl := hb.1
  unfold spec_l20Rd_pick.f
  rw [w64 (x := p + 1) (by omega) (by omega)]
  by_cases hn : n < 1
  · refine ⟨0, ev_ite (fun _ => ?_) (fun h => absurd hn h), Int.le_refl _, fun h => h, fun _ => rfl⟩
    refine Ev.step (fun k => rfl) ?_
    exact Ev.now _
  · simp only [if_neg hn]
    by_cases hz : (b.length : Int) = 0
    · refine ⟨0, Ev.step (fun k => rfl) (ev_ite (fun _ => Ev.now _) (fun h => absurd (by simpa using hz) h)), Int.le_refl _, fun h => h, fun _ => rfl⟩
    · have hz' : ¬ ((b.length : Int) == 0) = true := by simpa using hz
      have e0 : wrap64 (p + 1 - 1) = p := by unfold wrap64; omega
      by_cases hp : p < (b.length : Int)
      · obtain ⟨r0, r1⟩ := rd_code hb p
        obtain ⟨m0, m1⟩ := tmod_lt (rd b p) n r0 (by omega)
        refine ⟨Int.tmod (rd b p) n, Ev.step (fun k => rfl) (ev_ite (fun h => absurd h hz') (fun _ => ?_)), m0, fun _ => m1, fun h => by omega⟩
        simp only [e0]
        refine ev_ite (fun _ => ev_ite (fun _ => ev_ite (fun h => by omega) (fun _ => ev_ret ?_)) (fun h => by omega)) (fun h => absurd hp h)
        rw [w64 (by omega) (by omega)]
      · have hL : 0 < (b.length : Int) := by omega
        obtain ⟨i0, i1⟩ := tmod_lt p b.length h0 hL
        have e1 : wrap64 (wrap64 (p * 7) + 3) = p * 7 + 3 := by unfold wrap64; omega
        obtain ⟨j0, j1⟩ := tmod_lt (p * 7 + 3) b.length (by omega) hL
        obtain ⟨d0, d1⟩ := tdiv_le p b.length h0 hL
        obtain ⟨r0, r1⟩ := rd_code hb (Int.tmod p b.length)
        obtain ⟨s0, s1⟩ := rd_code hb (Int.tmod (p * 7 + 3) b.length)
        suffices hx : ∃ x : Int, 0 ≤ x ∧ Ev (fun k => spec_l20Rd_pick.j0 k n ((b.length : Int) == 0) b (p + 1)) (Int.tmod x n, p + 1) by
          obtain ⟨x, hx0, hx1⟩ := hx
          obtain ⟨m0, m1⟩ := tmod_lt x n hx0 (by omega)
          exact ⟨_, hx1, m0, fun _ => m1, fun h => by omega⟩
        have eA : ∀ c d q : Int, 0 ≤ c → c ≤ 255 → 0 ≤ d → d ≤ 255 → 0 ≤ q → q ≤ p → wrap64 (wrap64 (wrap64 (wrap64 (wrap64 c * 131) + wrap64 (wrap64 d * 1117)) + wrap64 (p * 29)) + wrap64 (wrap64 q * 53)) = c * 131 + d * 1117 + p * 29 + q * 53 := by
          intro c d q _ _ _ _ _ _
          unfold wrap64
          omega
        have eB := eA _ _ _ r0 r1 s0 s1 d0 d1
        obtain ⟨x, hx⟩ : ∃ x, x = rd b (Int.tmod p b.length) * 131 + rd b (Int.tmod (p * 7 + 3) b.length) * 1117 + p * 29 + (Int.tdiv p b.length) * 53 := ⟨_, rfl⟩
        rw [← hx] at eB
        obtain ⟨t0, t1⟩ := tdiv_le x 64 (by omega) (by omega)
        refine ⟨Go.bits .xor .i64 x (Int.tdiv x 64), xor_nonneg _ _ (by omega) (by omega) t0 (by omega), ?_⟩
        refine Ev.step (fun k => rfl) (ev_ite (fun h => absurd h hz') (fun _ => ?_))
        simp only [e0]
        refine ev_ite (fun h => absurd h hp) (fun _ => ev_ite (fun h => absurd h hz) (fun _ => ev_ite (fun _ => ev_ite (fun _ => ?_) (fun h => absurd i1 h)) (fun h => absurd i0 h)))
        simp only [e1]
        refine ev_ite (fun _ => ev_ite (fun _ => ev_ite (fun h => by omega) (fun _ => ev_ret ?_)) (fun h => absurd j1 h)) (fun h => absurd j0 h)
        simp only [eB]
        rw [w64 (x := Int.tdiv x 64) (by omega) (by omega)]
def TQ {α : Type} (g : Nat → Option α) (Q : α → Prop) : Prop := ∃ r, Ev g r ∧ Q r
theorem tq_ret {α : Type} {v : α} {Q : α → Prop} (h : Q v) : TQ (fun _ => some v) Q := ⟨v, Ev.now _, h⟩
theorem tq_ite {α : Type} {c : Prop} [Decidable c] {A B : Nat → Option α} {Q : α → Prop} (h1 : c → TQ A Q) (h2 : ¬ c → TQ B Q) : TQ (fun k => if c then A k else B k) Q := by
  by_cases h : c
  · simpa only [if_pos h] using h1 h
  · simpa only [if_neg h] using h2 h
theorem tq_bind {α β : Type} {g : Nat → Option α} {f : Nat → α → Option β} {Q : α → Prop} {R : β → Prop} (h : TQ g Q) (k : ∀ a, Q a → TQ (fun n => f n a) R) : TQ (fun n => (g n).bind (f n)) R := by
  obtain ⟨a, h1, h2⟩ := h
  obtain ⟨r, h3, h4⟩ := k a h2
  exact ⟨r, Ev.bind h1 h3, h4⟩
theorem tq_let {α β : Type} {v : α} {f : Nat → α → Option β} {R : β → Prop} (k : TQ (fun n => f n v) R) : TQ (fun n => (some v).bind (f n)) R := by
  obtain ⟨r, h3, h4⟩ := k
  exact ⟨r, Ev.bind (Ev.now _) h3, h4⟩
theorem tq_step {α : Type} {g f : Nat → Option α} {Q : α → Prop} (h : ∀ k, g (k + 1) = f k) (hf : TQ f Q) : TQ g Q := by
  obtain ⟨r, h1, h2⟩ := hf
  exact ⟨r, Ev.step h h1, h2⟩
theorem tq_weaken {α : Type} {g : Nat → Option α} {Q R : α → Prop} (h : TQ g Q) (k : ∀ a, Q a → R a) : TQ g R := by
  obtain ⟨r, h1, h2⟩ := h
  exact ⟨r, h1, k r h2⟩
theorem tq_pick {α : Type} {b : List Int} (hb : codeOk b) {p n : Int} {f : Nat → Int × Int → Option α} {R : α → Prop} (h0 : 0 ≤ p) (h1 : p ≤ 1099511627776) (k : ∀ r, 0 ≤ r → (0 < n → r < n) → TQ (fun m => f m (r, p + 1)) R) : TQ (fun m => (spec_l20Rd_pick.f m b p n).bind (f m)) R := by
  obtain ⟨r, h2, h3, h4, _⟩ := pick_ev hb p n h0 h1
  obtain ⟨a, h5, h6⟩ := k r h3 h4
  exact ⟨a, Ev.bind h2 h5, h6⟩
theorem odd_ev {b : List Int} (hb : codeOk b) (p n : Int) (h0 : 0 ≤ p) (h1 : p ≤ 1099511627776) : ∃ r p', Ev (fun k => spec_l20Rd_odd.f k b p n) (r, p') ∧ p ≤ p' ∧ p' ≤ p + 1 ∧ (n ≤ 0 → r = false) := by
  unfold spec_l20Rd_odd.f
  by_cases hn : n > 0
  · obtain ⟨r, hr, _⟩ := pick_ev hb p n h0 h1
    exact ⟨_, _, ev_ite (fun _ => Ev.bind hr (Ev.now _)) (fun h => absurd hn h), by omega, by omega, fun h => by omega⟩
  · exact ⟨false, p, ev_ite (fun h => absurd h hn) (fun _ => Ev.now _), by omega, by omega, fun _ => rfl⟩
theorem odd_tq {b : List Int} (hb : codeOk b) (p n : Int) (h0 : 0 ≤ p) (h1 : p ≤ 1099511627776) : TQ (fun k => spec_l20Rd_odd.f k b p n) (fun r => p ≤ r.2 ∧ r.2 ≤ p + 1 ∧ (n ≤ 0 → r.1 = false)) := by
  obtain ⟨r, p', h2, h3, h4, h5⟩ := odd_ev hb p n h0 h1
  exact ⟨_, h2, h3, h4, h5⟩
def rising (bs : List ByteArray) (at_ : Int) : Prop := ∃ rs : List Int, bs.map ByteArray.toList = rs.map kA0 ∧ rs.Pairwise (· < ·) ∧ ∀ r ∈ rs, 1 ≤ r ∧ r < at_
theorem l20Bounds_l0 {b : List Int} (hb : codeOk b) (d : Nat) : ∀ (s : List ByteArray) (a i p : Int), i = d → d ≤ 5 → (s.length : Int) + d ≤ 5 → 1 ≤ a → a + 66000 * d ≤ 400000 → rising s a → 0 ≤ p → p + 2 * d ≤ 1099511000000 → TQ (fun k => spec_l20Bounds.l0 k 0 s a i b p) (fun r => (r.1.length : Int) ≤ 5 ∧ p ≤ r.2 ∧ r.2 ≤ p + 2 * d + 1 ∧ rising r.1 475254) := by
  induction d with
  | zero =>
    intro s a i p hi hd hs ha ha1 hr h0 h1
    refine tq_step (fun k => rfl) ?_
    simp only [spec_l20Bounds.l0]
    refine tq_ite (fun h => by omega) (fun _ => tq_bind (odd_tq hb _ _ (by omega) (by omega)) ?_)
    rintro ⟨o, p1⟩ hq
    dsimp only at hq ⊢
    refine tq_ite (fun h => ?_) (fun _ => tq_ret ⟨by dsimp only; omega, by dsimp only; omega, by dsimp only; omega, ?_⟩)
    · rw [hq.2.2 (by omega)] at h; cases h
    · obtain ⟨rs, r1, r2, r3⟩ := hr
      exact ⟨rs, r1, r2, fun r hr => ⟨(r3 r hr).1, by have := (r3 r hr).2; omega⟩⟩
  | succ d ih =>
    intro s a i p hi hd hs ha ha1 hr h0 h1
    refine tq_step (fun k => rfl) ?_
    simp only [spec_l20Bounds.l0]
    obtain ⟨t, ht, htl⟩ := spec_KeyAt_ev a (by omega) (by omega)
    refine tq_ite (fun _ => tq_bind (Q := fun r => r = t) ⟨t, ht, rfl⟩ (fun t' ht' => ?_)) (fun h => by omega)
    subst ht'
    refine tq_ite (fun _ => tq_pick hb (by omega) (by omega) (fun r r0 r1 => tq_pick hb (by dsimp only; omega) (by dsimp only; omega) (fun q q0 q1 => ?_))) (fun h => by exfalso; apply h; omega)
    dsimp only
    have hr1 := r1 (by omega)
    have hq1 := q1 (by omega)
    have hm0 : 0 ≤ r * q := Int.mul_nonneg r0 q0
    have hm1 : r * q ≤ 255 * 255 := Int.le_trans (Int.mul_le_mul_of_nonneg_right (show r ≤ 255 by omega) q0) (Int.mul_le_mul_of_nonneg_left (show q ≤ 255 by omega) (by omega))
    rw [w64 (x := r * q) (by omega) (by omega), w64 (x := a + 1) (by omega) (by omega), w64 (x := a + 1 + r * q) (by omega) (by omega), w64 (x := i - 1) (by omega) (by omega)]
    refine tq_weaken (ih (s ++ [t']) (a + 1 + r * q) (i - 1) (p + 1 + 1) (by omega) (by omega) (by rw [List.length_append, List.length_cons, List.length_nil]; omega) (by omega) (by omega) ?_ (by omega) (by omega)) ?_
    · obtain ⟨rs, r1, r2, r3⟩ := hr
      refine ⟨rs ++ [a], ?_, ?_, fun x hx => ?_⟩
      · rw [List.map_append, List.map_append, r1, List.map_cons, List.map_nil, List.map_cons, List.map_nil, htl]
      · rw [List.pairwise_append]
        refine ⟨r2, List.pairwise_singleton _ _, fun x hx y hy => ?_⟩
        rw [List.mem_singleton] at hy
        subst hy
        exact (r3 x hx).2
      · rcases List.mem_append.1 hx with hx | hx
        · have := r3 x hx; omega
        · rw [List.mem_singleton] at hx; subst hx; omega
    · rintro ⟨u, p2⟩ hq2
      dsimp only at hq2 ⊢
      refine ⟨hq2.1, by omega, by omega, hq2.2.2.2⟩
theorem l20Bounds_tq {b : List Int} (hb : codeOk b) (p : Int) (h0 : 0 ≤ p) (h1 : p ≤ 1099510900000) : TQ (fun k => spec_l20Bounds.f k b p 0) (fun r => (r.1.length : Int) ≤ 5 ∧ p ≤ r.2 ∧ r.2 ≤ p + 20 ∧ rising r.1 475254) := by
  unfold spec_l20Bounds.f
  refine tq_pick hb (by omega) (by omega) (fun r r0 r1 => tq_pick hb (by dsimp only; omega) (by dsimp only; omega) (fun q q0 q1 => ?_))
  dsimp only
  rw [w64 (x := 1 + r) (by omega) (by omega)]
  refine tq_weaken (l20Bounds_l0 hb q.toNat [] (1 + r) q (p + 1 + 1) (by omega) (by omega) (by simp; omega) (by omega) (by omega) ⟨[], rfl, List.Pairwise.nil, fun r hr => by cases hr⟩ (by omega) (by omega)) ?_
  rintro ⟨u, p2⟩ hq2
  dsimp only at hq2 ⊢
  refine ⟨hq2.1, by omega, by omega, hq2.2.2.2⟩
def partsOf (lo : ByteArray) : List ByteArray → List S31
  | [] => [⟨lo, (⟨#[]⟩ : ByteArray)⟩]
  | b :: t => ⟨lo, b⟩ :: partsOf b t
theorem partsOf_len (bs : List ByteArray) : ∀ lo, (partsOf lo bs).length = bs.length + 1 := by
  induction bs with
  | nil => intro lo; rfl
  | cons b t ih => intro lo; simp [partsOf, ih]
theorem rdI_cons (x : S31) (t : List S31) (i : Int) (h : 0 < i) : rd_T31 (x :: t) i = rd_T31 t (i - 1) := by
  unfold rd_T31
  rw [List.getD_eq_getElem?_getD, List.getD_eq_getElem?_getD, show i.toNat = (i - 1).toNat + 1 by omega, List.getElem?_cons_succ]
theorem rdI_zero (x : S31) (t : List S31) : rd_T31 (x :: t) 0 = x := rfl
def chainV (lo : List UInt8) : List (List UInt8) → Prop
  | [] => lo = [] ∨ keyV lo
  | b :: t => ivV lo b ∧ b ≠ [] ∧ chainV b t
theorem partsOf_ok (bs : List ByteArray) : ∀ lo : ByteArray, chainV lo.toList (bs.map ByteArray.toList) → (rd_T31 (partsOf lo bs) 0).f0 = lo ∧ (rd_T31 (partsOf lo bs) bs.length).f1.toList = [] ∧ (∀ i : Int, 0 ≤ i → i ≤ bs.length → ivV (rd_T31 (partsOf lo bs) i).f0.toList (rd_T31 (partsOf lo bs) i).f1.toList) ∧ ∀ i : Int, 1 ≤ i → i ≤ bs.length → (rd_T31 (partsOf lo bs) (i - 1)).f1.toList ≠ [] ∧ (rd_T31 (partsOf lo bs) (i - 1)).f1.toList = (rd_T31 (partsOf lo bs) i).f0.toList := by
  have e0 : (⟨#[]⟩ : ByteArray).toList = [] := by rw [ByteArray.toList_eq]
  induction bs with
  | nil =>
    intro lo h
    refine ⟨rfl, e0, fun i i0 i1 => ?_, fun i i0 i1 => by simp at i1; omega⟩
    have : i = 0 := by simp at i1; omega
    subst this
    refine ⟨h, .inl e0⟩
  | cons b t ih =>
    intro lo h
    obtain ⟨k1, k2, k3, k4⟩ := ih b h.2.2
    have hl : ((b :: t).length : Int) = t.length + 1 := by simp
    unfold partsOf
    refine ⟨rfl, ?_, fun i i0 i1 => ?_, fun i i0 i1 => ?_⟩
    · rw [hl, rdI_cons _ _ _ (by omega), show (t.length : Int) + 1 - 1 = t.length by omega]
      exact k2
    · by_cases e : i = 0
      · subst e; exact h.1
      · rw [rdI_cons _ _ _ (by omega)]
        exact k3 (i - 1) (by omega) (by omega)
    · by_cases e : i = 1
      · subst e
        rw [show (1 : Int) - 1 = 0 by omega, rdI_zero, rdI_cons _ _ 1 (by omega), show (1 : Int) - 1 = 0 by omega, k1]
        exact ⟨h.2.1, rfl⟩
      · rw [rdI_cons _ _ (i - 1) (by omega), rdI_cons _ _ i (by omega)]
        exact k4 (i - 1) (by omega) (by omega)
theorem partsOf_valid (bs : List ByteArray) (h5 : (bs.length : Int) ≤ 5) (h : chainV [] (bs.map ByteArray.toList)) : partV (partsOf (⟨#[]⟩ : ByteArray) bs) := by
  have e0 : (⟨#[]⟩ : ByteArray).toList = [] := by rw [ByteArray.toList_eq]
  rw [← e0] at h
  obtain ⟨k1, k2, k3, k4⟩ := partsOf_ok bs _ h
  have hl := partsOf_len bs (⟨#[]⟩ : ByteArray)
  refine ⟨by omega, fun i i0 i1 => k3 i i0 (by omega), by rw [k1, e0], ?_, fun i i0 i1 => k4 i i0 (by omega)⟩
  rw [hl, show ((bs.length + 1 : Nat) : Int) - 1 = bs.length by omega]
  exact k2
theorem rising_chain (rs : List Int) : ∀ (lo : List UInt8) (a : Int), (lo = [] ∧ a = 0 ∨ lo = kA0 a ∧ 1 ≤ a ∧ a < 475254) → (∀ r ∈ rs, a < r ∧ r < 475254) → rs.Pairwise (· < ·) → chainV lo (rs.map kA0) := by
  induction rs with
  | nil =>
    intro lo a h _ _
    rcases h with h | h
    · exact .inl h.1
    · exact .inr (by rw [h.1]; exact kA0_key a (by omega) h.2.2)
  | cons r t ih =>
    intro lo a h hr hp
    have h1 := hr r List.mem_cons_self
    have hk := kA0_key r (by omega) h1.2
    rw [List.pairwise_cons] at hp
    have hne : kA0 r ≠ [] := fun e => by rw [e] at hk; exact keyV_nil hk
    refine ⟨?_, hne, ih (kA0 r) r (.inr ⟨rfl, by omega, h1.2⟩) (fun x hx => ⟨hp.1 x hx, (hr x (List.mem_cons_of_mem _ hx)).2⟩) hp.2⟩
    rcases h with ⟨h, h2⟩ | ⟨h, h2, h3⟩
    · subst h
      refine ⟨.inl rfl, .inr ⟨hk, ?_, .inr (fun e => ?_)⟩⟩
      · cases hk2 : kA0 r with
        | nil => exact absurd hk2 hne
        | cons => rfl
      · have := kA0_less 0 r (by omega) (by omega) h1.2
        rw [e, kA0_zero, less_irrefl] at this
        cases this
    · subst h
      exact ⟨.inr (kA0_key a (by omega) h3), .inr ⟨hk, kA0_less a r (by omega) h1.1 h1.2, .inl (fun e => by have := kA0_key a (by omega) h3; rw [e] at this; exact keyV_nil this)⟩⟩
theorem spec_PartitionOf_l0 (bs : List ByteArray) (h5 : (bs.length : Int) ≤ 5) (d : Nat) : ∀ (i : Int) (s : List S31) (lo : ByteArray), 0 ≤ i → (bs.length : Int) - i = d → (s.length : Int) = i → partV (s ++ partsOf lo (bs.drop i.toNat)) → Ev (fun k => spec_PartitionOf.l0 k bs (s ++ [⟨lo, (⟨#[]⟩ : ByteArray)⟩]) i) (s ++ partsOf lo (bs.drop i.toNat), true) := by
  induction d with
  | zero =>
    intro i s lo h0 hd hs hp
    rw [List.drop_of_length_le (by omega)] at hp ⊢
    exact Ev.step (fun k => rfl) (ev_ite (fun h => by omega) (fun _ => Ev.bind ((spec_PartitionValid_ev _).yes hp) (ev_pos rfl (Ev.now _))))
  | succ d ih =>
    intro i s lo h0 hd hs hp
    have hi : i.toNat < bs.length := by omega
    have hdrop : bs.drop i.toNat = rdOf ByteArray.empty bs i :: bs.drop (i + 1).toNat := by
      unfold rdOf
      rw [List.drop_eq_getElem_cons hi, List.getD_eq_getElem?_getD, List.getElem?_eq_getElem hi, show (i + 1).toNat = i.toNat + 1 by omega]
      rfl
    rw [hdrop] at hp ⊢
    unfold partsOf at hp ⊢
    have hl : (s ++ [(⟨lo, (⟨#[]⟩ : ByteArray)⟩ : S31)]).length = s.length + 1 := by simp
    have ew : wrap64 (((s ++ [(⟨lo, (⟨#[]⟩ : ByteArray)⟩ : S31)]).length : Int) - 1) = s.length := by rw [hl, w64 (by omega) (by omega)]; omega
    have er : rd_T31 (s ++ [(⟨lo, (⟨#[]⟩ : ByteArray)⟩ : S31)]) s.length = ⟨lo, (⟨#[]⟩ : ByteArray)⟩ := by
      unfold rd_T31
      rw [Int.toNat_natCast, List.getD_eq_getElem?_getD, List.getElem?_append_right (Nat.le_refl _), Nat.sub_self]
      rfl
    have es : ∀ v : S31, (s ++ [(⟨lo, (⟨#[]⟩ : ByteArray)⟩ : S31)]).set s.length v = s ++ [v] := fun v => by
      rw [List.set_append_right _ _ (Nat.le_refl _), Nat.sub_self]
      rfl
    refine Ev.step (fun k => rfl) (ev_pos (by omega) (ev_pos (by omega) (ev_pos h0 ?_)))
    simp only [ew, er, es, Int.toNat_natCast]
    refine ev_pos (by omega) (ev_pos (by omega) (ev_let (ev_pos (by rw [List.length_append, List.length_cons, List.length_nil]; omega) ?_)))
    rw [w64 (by omega) (by omega)]
    have := ih (i + 1) (s ++ [⟨lo, rdOf ByteArray.empty bs i⟩]) (rdOf ByteArray.empty bs i) (by omega) (by omega) (by rw [List.length_append, List.length_cons, List.length_nil]; omega) (by rw [List.append_assoc, List.singleton_append]; exact hp)
    simp only [List.append_assoc, List.singleton_append] at this ⊢
    exact this
theorem spec_PartitionOf_ev (bs : List ByteArray) (h5 : (bs.length : Int) ≤ 5) (h : rising bs 475254) : Ev (fun k => spec_PartitionOf.f k bs) (partsOf (⟨#[]⟩ : ByteArray) bs, true) := by
  obtain ⟨rs, r1, r2, r3⟩ := h
  unfold spec_PartitionOf.f
  have hc : chainV [] (bs.map ByteArray.toList) := by
    rw [r1]
    exact rising_chain rs [] 0 (.inl ⟨rfl, rfl⟩) (fun r hr => by have := r3 r hr; omega) r2
  exact spec_PartitionOf_l0 bs h5 bs.length 0 [] (⟨#[]⟩ : ByteArray) (by omega) (by omega) rfl (partsOf_valid bs h5 hc)
theorem l20Parts_tq {b : List Int} (hb : codeOk b) (p : Int) (h0 : 0 ≤ p) (h1 : p ≤ 1099510800000) : TQ (fun k => spec_l20Parts.f k b p 0) (fun r => 1 ≤ (r.1.length : Int) ∧ (r.1.length : Int) ≤ 6 ∧ p ≤ r.2 ∧ r.2 ≤ p + 30) := by
  unfold spec_l20Parts.f
  refine tq_bind (l20Bounds_tq hb _ (by omega) (by omega)) ?_
  rintro ⟨bs, p1⟩ hq
  dsimp only at hq ⊢
  refine tq_bind (Q := fun r => r = (partsOf (⟨#[]⟩ : ByteArray) bs, true)) ⟨_, spec_PartitionOf_ev bs hq.1 hq.2.2.2, rfl⟩ ?_
  rintro ⟨u, v⟩ hu
  obtain ⟨rfl, rfl⟩ := Prod.mk.inj hu
  have hl := partsOf_len bs (⟨#[]⟩ : ByteArray)
  refine tq_bind (odd_tq hb _ _ (by omega) (by omega)) ?_
  rintro ⟨o, p2⟩ hq2
  dsimp only at hq2 ⊢
  refine tq_ite (fun h => ?_) (fun _ => tq_ret ⟨by dsimp only; omega, by dsimp only; omega, by dsimp only; omega, by dsimp only; omega⟩)
  rw [hq2.2.2 (by omega)] at h; cases h
theorem l20Routes_l0 {b : List Int} (hb : codeOk b) (n : Int) (m : List S31) (hm0 : 1 ≤ (m.length : Int)) (hm : (m.length : Int) ≤ 6) (st : Int) (d : Nat) : ∀ (s : List S35) (a i p : Int), 0 ≤ i → (m.length : Int) - i = d → (s.length : Int) = i → 0 ≤ p → p ≤ 1099511000000 → TQ (fun k => spec_l20Routes.l0 k n s m a st i b p) (fun r => (r.1.length : Int) ≤ 6 ∧ p ≤ r.2 ∧ r.2 ≤ p + 10) := by
  induction d with
  | zero =>
    intro s a i p h0 hd hs hp0 hp1
    have ew : wrap64 ((s.length : Int) - 1) = s.length - 1 := w64 (by omega) (by omega)
    refine tq_step (fun k => rfl) ?_
    simp only [spec_l20Routes.l0, ew]
    refine tq_ite (fun h => by omega) (fun _ => tq_bind (odd_tq hb _ _ (by omega) (by omega)) ?_)
    rintro ⟨o, p1⟩ hq
    dsimp only at hq ⊢
    refine tq_ite (fun h => tq_pick hb (by omega) (by omega) (fun r r0 r1 => ?_)) (fun _ => tq_ret ⟨by dsimp only; omega, by dsimp only; omega, by dsimp only; omega⟩)
    dsimp only
    refine tq_ite (fun _ => tq_ite (fun _ => tq_ret ⟨by dsimp only; rw [List.length_drop]; omega, by dsimp only; omega, by dsimp only; omega⟩) (fun h => by omega)) (fun _ => tq_ite (fun _ => tq_let (tq_pick hb (by omega) (by omega) (fun q q0 q1 => tq_ite (fun _ => tq_ite (fun _ => tq_ite (fun _ => tq_ret ⟨by dsimp only; rw [List.length_set]; omega, by dsimp only; omega, by dsimp only; omega⟩) (fun h => by omega)) (fun h => ?_)) (fun h => by dsimp only at h; omega)))) (fun _ => tq_ite (fun _ => tq_ite (fun _ => tq_ite (fun _ => tq_ite (fun _ => tq_ret ⟨by dsimp only; rw [List.length_set]; omega, by dsimp only; omega, by dsimp only; omega⟩) (fun h => by omega)) (fun h => by omega)) (fun h => by omega)) (fun _ => tq_ite (fun _ => tq_ite (fun _ => tq_ret ⟨by dsimp only; rw [List.length_set]; omega, by dsimp only; omega, by dsimp only; omega⟩) (fun h => by omega)) (fun h => by omega))))
    simp only [List.length_cons, List.length_nil] at h
    omega
  | succ d ih =>
    intro s a i p h0 hd hs hp0 hp1
    refine tq_step (fun k => rfl) ?_
    simp only [spec_l20Routes.l0]
    refine tq_ite (fun _ => tq_ite (fun _ => tq_ite (fun _ => ?_) (fun h => by omega)) (fun h => by omega)) (fun h => by omega)
    rw [w64 (x := i + 1) (by omega) (by omega)]
    exact ih _ _ (i + 1) p (by omega) (by omega) (by rw [List.length_append, List.length_cons, List.length_nil]; omega) hp0 hp1
theorem l20Routes_tq {b : List Int} (hb : codeOk b) (p n : Int) (h0 : 0 ≤ p) (h1 : p ≤ 1099510700000) : TQ (fun k => spec_l20Routes.f k b p n) (fun r => (r.1.length : Int) ≤ 6 ∧ p ≤ r.2 ∧ r.2 ≤ p + 100) := by
  unfold spec_l20Routes.f
  refine tq_bind (l20Parts_tq hb _ (by omega) (by omega)) ?_
  rintro ⟨m, p1⟩ hq
  dsimp only at hq ⊢
  refine tq_pick hb (by omega) (by omega) (fun r r0 r1 => tq_let (tq_pick hb (by dsimp only; omega) (by dsimp only; omega) (fun q q0 q1 => tq_ite (fun _ => tq_ite (fun _ => tq_weaken (l20Routes_l0 hb n m hq.1 hq.2.1 _ m.length [] _ 0 _ (by omega) (by omega) rfl (by dsimp only; omega) (by dsimp only; omega)) ?_) (fun h => ?_)) (fun h => by dsimp only at h; omega))))
  · rintro ⟨u, p2⟩ hq2
    dsimp only at hq2 ⊢
    omega
  · simp only [List.length_cons, List.length_nil] at h
    omega
theorem l20Shard_j0 {b : List Int} (hb : codeOk b) (l : List S35) (e : Bool) (he : e = true → 0 < (l.length : Int)) (p : Int) (h0 : 0 ≤ p) (h1 : p ≤ 1099511000000) : TQ (fun k => spec_l20Shard.j0 k l e b p) (fun r => p ≤ r.2 ∧ r.2 ≤ p + 1) := by
  refine tq_step (fun k => rfl) ?_
  simp only [spec_l20Shard.j0]
  refine tq_ite (fun h => tq_pick hb (by omega) (by omega) (fun r r0 r1 => tq_ite (fun _ => tq_ite (fun _ => tq_ret ⟨by dsimp only; omega, by dsimp only; omega⟩) (fun h' => ?_)) (fun h' => by dsimp only at h'; omega))) (fun _ => tq_pick hb (by omega) (by omega) (fun r r0 r1 => tq_ret ⟨by dsimp only; omega, by dsimp only; omega⟩))
  have := r1 (he h)
  exact absurd this h'
theorem l20Shard_tq {b : List Int} (hb : codeOk b) (l : List S35) (p : Int) (h0 : 0 ≤ p) (h1 : p ≤ 1099510900000) : TQ (fun k => spec_l20Shard.f k b p l) (fun r => p ≤ r.2 ∧ r.2 ≤ p + 2) := by
  unfold spec_l20Shard.f
  refine tq_ite (fun h => tq_pick hb (by omega) (by omega) (fun r r0 r1 => tq_weaken (l20Shard_j0 hb l _ (fun _ => by omega) _ (by dsimp only; omega) (by dsimp only; omega)) ?_)) (fun h => tq_weaken (l20Shard_j0 hb l _ (fun h => by cases h) _ (by omega) (by omega)) ?_)
  · rintro ⟨u, p2⟩ hq2
    dsimp only at hq2 ⊢
    omega
  · rintro ⟨u, p2⟩ hq2
    dsimp only at hq2 ⊢
    omega
theorem sameRoutes_refl (l : List S35) (hl : (l.length : Int) ≤ 1048576) : Ev (fun k => laws_sameRoutes.f k l l) true := by
  unfold laws_sameRoutes.f
  refine ev_ite (fun _ => ?_) (fun h => absurd rfl h)
  refine (all_loop (g := fun k i => laws_sameRoutes.l0 k l l i) (n := l.length) (p := fun _ => True) (fun i h0 h1 => .inl ⟨trivial, fun r hr => ?_⟩) (Ev.step (fun k => rfl) (ev_ite (fun h => by omega) (fun _ => Ev.now _))) l.length 0 (by omega) (by omega)).yes (fun _ _ _ => trivial)
  refine Ev.step (fun k => rfl) (ev_ite (fun _ => ev_ite (fun _ => ev_ite (fun _ => ev_ite (fun h => by simp at h) (fun _ => ?_)) (fun h => by omega)) (fun h => by omega)) (fun h => by omega))
  rw [w64 (by omega) (by omega)]
  exact hr
theorem number_at {l : List S35} (h : ∀ i : Int, 0 ≤ i → i < l.length → apartV l i) {i j : Int} (i0 : 0 ≤ i) (i1 : i < l.length) (j0 : 0 ≤ j) (j1 : j < l.length) (e : (rd_T35 l i).f0 = (rd_T35 l j).f0) : i = j := by
  rcases Int.lt_trichotomy i j with k | k | k
  · exact absurd e ((h j j0 j1).2 i i0 k)
  · exact k
  · exact absurd e.symm ((h i i0 i1).2 j j0 k)
theorem open_ev (b : List Int) : spec_l20Open.f b = some (b.take 2000, 0) := by
  unfold spec_l20Open.f
  by_cases h : (b.length : Int) > 2000
  · rw [if_pos h, if_pos (by omega)]
  · rw [if_neg h, List.take_of_length_le (by omega)]
theorem take_ok (b : List Int) (hb : ∀ x ∈ b, (Lit.int .u8 x).wf = true) : codeOk (b.take 2000) := by
  refine ⟨by rw [List.length_take]; omega, fun x hx => ?_⟩
  have := hb x (List.mem_of_mem_take hx)
  simpa [Lit.wf, IntKind.wrap, IntKind.bits, IntKind.signed, IntKind.min, IntKind.max] using this
theorem alive_ev : Ev (fun k => laws_alive.f k) true := by
  refine ⟨100, fun k hk => ?_⟩
  obtain ⟨m, rfl⟩ : ∃ m, k = m + 100 := ⟨k - 100, by omega⟩
  have hm := @laws_alive.mono
  have h0 : laws_alive.f 100 = some true := by decide +kernel
  clear hk
  induction m with
  | zero => exact h0
  | succ m ih => rw [show m + 1 + 100 = (m + 100) + 1 by omega]; exact hm _ _ ih
theorem DrawMergeRoutes_tq {l : List Int} (hw : ∀ x ∈ l, (Lit.int .u8 x).wf = true) : TQ (fun k => spec_DrawMergeRoutes.f k l) (fun r => (r.1.length : Int) ≤ 6) := by
  have hb := take_ok l hw
  unfold spec_DrawMergeRoutes.f
  simp only [open_ev, Option.bind_some]
  refine tq_bind (l20Routes_tq hb _ _ (by omega) (by omega)) ?_
  rintro ⟨c_, p_⟩ hq_
  dsimp only at hq_ ⊢
  refine tq_bind (l20Shard_tq hb _ _ (by omega) (by omega)) ?_
  rintro ⟨s_, q_⟩ hq2_
  dsimp only at hq2_ ⊢
  refine tq_pick hb (by omega) (by omega) (fun r r0 r1 => tq_pick hb (by dsimp only; omega) (by dsimp only; omega) (fun q q0 q1 => tq_pick hb (by dsimp only; omega) (by dsimp only; omega) (fun u u0 u1 => tq_ite (fun _ => tq_ret hq_.1) (fun _ => tq_ret hq_.1))))
theorem sameRoutes_nil (l : List S35) : EvB (fun k => laws_sameRoutes.f k [] l) (l = []) := by
  unfold laws_sameRoutes.f
  refine evb_ite (fun h => EvB.of_yes (Ev.step (fun k => rfl) (ev_neg (by simp) (Ev.now _))) ?_) (fun h => evb_ret ?_)
  · exact List.length_eq_zero_iff.1 (by simp at h; omega)
  · simp only [Bool.false_eq_true, false_iff]
    intro e
    rw [e] at h
    exact h rfl
theorem split_back {l : List S35} (h : routesV l) (w a : Int) (a0 : 0 ≤ a) (a1 : a < l.length - 1) : splitL (mergedL l w a) a (rd_T35 l (a + 1)).f1.f0 (rd_T35 l a).f0 (rd_T35 l (a + 1)).f0 = l ∧ rd_T35 (mergedL l w a) a = ⟨w, ⟨(rd_T35 l a).f1.f0, (rd_T35 l (a + 1)).f1.f1⟩⟩ := by
  have hl : (l.map (·.f1)).length = l.length := List.length_map _
  have k3 := h.2.2.2.2.2.2 (a + 1) (by omega) (by omega)
  rw [rd_spans, rd_spans, show a + 1 - 1 = a by omega] at k3
  have hta : (l.take a.toNat).length = a.toNat := by rw [List.length_take]; omega
  have e1 : rd_T35 (mergedL l w a) a = ⟨w, ⟨(rd_T35 l a).f1.f0, (rd_T35 l (a + 1)).f1.f1⟩⟩ := by
    unfold mergedL
    show List.getD _ _ _ = _
    rw [List.getD_eq_getElem?_getD, List.append_assoc, List.getElem?_append_right (by omega), hta, Nat.sub_self]
    rfl
  refine ⟨?_, e1⟩
  unfold splitL
  rw [e1]
  have e2 : (mergedL l w a).take a.toNat = l.take a.toNat := by
    unfold mergedL
    rw [List.append_assoc, List.take_append_of_le_length (by omega), List.take_of_length_le (by omega)]
  have e3 : (mergedL l w a).drop (a + 1).toNat = l.drop (a + 2).toNat := by
    unfold mergedL
    rw [List.drop_append_of_le_length (by rw [List.length_append, hta, List.length_cons, List.length_nil]; omega), List.drop_of_length_le (by rw [List.length_append, hta, List.length_cons, List.length_nil]; omega), List.nil_append]
  rw [e2, e3]
  have ek : (rd_T35 l a).f1.f1 = (rd_T35 l (a + 1)).f1.f0 := bytes_ext k3.2
  rw [← ek]
  conv => rhs; rw [← List.take_append_drop a.toNat l, drop_rd_R l a a0 (by omega), drop_rd_R l (a + 1) (by omega) (by omega), show a + 1 + 1 = a + 2 by omega]
  rw [List.append_assoc]
  simp only [List.cons_append, List.nil_append]
  congr 1
  congr 1
  congr 1
  rw [ek]
theorem FnMergeRoutes : laws_FnMergeRoutes.Pure := by
  intro l _ _ hw
  refine ev_rounds ?_
  unfold laws_FnMergeRoutes.f
  refine ev_ite (fun _ => Ev.now _) (fun _ => ?_)
  obtain ⟨⟨y, x, w⟩, hy, hn⟩ := DrawMergeRoutes_tq hw
  dsimp only at hn
  obtain ⟨t, h1, h2⟩ := spec_MergeRoutes_ev y (by omega) x w
  obtain ⟨t', h1', h2'⟩ := impl_MergeRoutes_ev y (by omega) x w
  obtain rfl := mergeR_unique h2 h2'
  have hlen := mergeR_len h2
  obtain ⟨m, ok⟩ := t
  dsimp only at hlen
  refine Ev.bind hy (Ev.bind h1' (Ev.bind h1 (Ev.bind (sameRoutes_refl m (by omega)) (ev_pos rfl (Ev.step (fun k => rfl) ?_)))))
  dsimp only
  simp only [laws_FnMergeRoutes.j0, bne_self_eq_false]
  refine ev_neg (by decide) ?_
  have hold : Ev (fun k => (laws_sameRoutes.f k y y).bind fun t463 => if t463 = true then (laws_alive.f k).bind fun t464 => some t464 else if (y.length : Int) = 0 then (laws_alive.f k).bind fun t465 => some t465 else some false) true := Ev.bind (sameRoutes_refl y (by omega)) (ev_pos rfl (ev_id alive_ev))
  by_cases hc : routesV y
  · obtain ⟨a, k1, k2, k3⟩ := h2.2 hc
    have hb := firstAt_bounds k1
    by_cases c : a < 0 ∨ a = y.length - 1 ∨ ¬ routesV (mergedL y w a)
    · obtain ⟨e1, e2⟩ := Prod.mk.inj (k2 c)
      subst e1
      subst e2
      exact ev_neg (by decide) hold
    · simp only [not_or, Classical.not_not] at c
      have a0 : 0 ≤ a := by omega
      have a1 : a < y.length - 1 := by omega
      obtain ⟨e1, e2⟩ := Prod.mk.inj (k3 a0 a1 c.2.2)
      subst e1
      subst e2
      obtain ⟨e3, e4⟩ := split_back hc w a a0 a1
      have hml := merged_len y w a a0 a1
      have hax : (rd_T35 y a).f0 = x := by
        rcases hb with k | k
        · omega
        · exact k.2.2.1
      refine ev_pos rfl ?_
      have go : ∀ (d : Nat) (i : Int), 0 ≤ i → a - i = d → Ev (fun k => laws_FnMergeRoutes.l0 k y x w (mergedL y w a) i) true := by
        intro d
        induction d with
        | zero =>
          intro i i0 hd
          have hia : i = a := by omega
          subst hia
          have ew : wrap64 (i + 1) = i + 1 := w64 (by omega) (by omega)
          have ew2 : wrap64 ((y.length : Int) - 1) = y.length - 1 := w64 (by omega) (by omega)
          obtain ⟨u, u1, u2⟩ := impl_SplitRoute_ev (mergedL y w i) (by omega) w (rd_T35 y (i + 1)).f1.f0 x (rd_T35 y (i + 1)).f0
          obtain ⟨q, q1, _, q3⟩ := u2.2 c.2.2
          have hq : q = i := by
            rcases firstAt_bounds q1 with ⟨_, _, k⟩ | ⟨k4, k5, k6, _⟩
            · exact absurd (by rw [e4]) (k i a0 (by omega))
            · exact number_at c.2.2.2.1 k4 k5 a0 (by omega) (k6.trans (by rw [e4]))
          subst hq
          have hl : (y.map (·.f1)).length = y.length := List.length_map _
          have j3 := hc.2.2.2.2.2.2 (q + 1) (by omega) (by omega)
          rw [rd_spans, rd_spans, show q + 1 - 1 = q by omega] at j3
          have v1 := hc.2.2.2.1 q a0 (by omega)
          have v2 := hc.2.2.2.1 (q + 1) (by omega) (by omega)
          have v3 := c.2.2.2.2.2.1 q a0 (by rw [List.length_map]; omega)
          rw [rd_spans] at v1 v2 v3
          rw [e4] at v3
          have hkey : keyV (rd_T35 y (q + 1)).f1.f0.toList := by
            rcases v2.1 with k | k
            · rw [← j3.2] at k; exact absurd k j3.1
            · exact k
          have hu : u = (y, true) := by
            have := q3 a0 (by omega) ⟨by rw [e4]; exact ⟨v3, hkey, by rw [← j3.2]; exact v1, v2⟩, by rw [← hax, e3]; exact hc⟩
            rw [this, ← hax, e3]
          subst hu
          refine Ev.step (fun k => rfl) ?_
          simp only [laws_FnMergeRoutes.l0, ew, ew2]
          exact ev_pos (by omega) (ev_pos (by omega) (ev_pos (by omega) (ev_pos hax (ev_pos (by omega) (Ev.bind u1 (Ev.bind ((impl_RoutesValid_ev _ (by omega)).yes c.2.2) (ev_pos rfl (ev_pos (by omega) (ev_pos rfl (ev_id (sameRoutes_refl y (by omega))))))))))))
        | succ d ih =>
          intro i i0 hd
          have ew : wrap64 (i + 1) = i + 1 := w64 (by omega) (by omega)
          refine Ev.step (fun k => rfl) ?_
          simp only [laws_FnMergeRoutes.l0, ew]
          refine ev_pos (by omega) (ev_pos (by omega) (ev_pos (by omega) (ev_neg ?_ (ih (i + 1) (by omega) (by omega)))))
          rcases hb with k | k
          · omega
          · exact k.2.2.2 i i0 (by omega)
      exact go a.toNat 0 (by omega) (by omega)
  · obtain ⟨e1, e2⟩ := Prod.mk.inj (h2.1 hc)
    subst e1
    subst e2
    refine ev_neg (by decide) (ev_test (sameRoutes_nil y) (fun _ => ev_pos rfl (ev_id alive_ev)) (fun _ => ev_neg (by decide) (ev_pos rfl (ev_id alive_ev))))

end Go.Proofs.Ytkjkokljgbpbbaa.Pure
