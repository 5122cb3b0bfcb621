/- The law FnGiveUp as a statement over numbers and lists alone: it comes to true at every input; under no condition. -/
import Derived.Test.YtkjkokljgbpbbaaPFnGiveUpx
import Derived.Laws.Strings
set_option linter.unusedVariables false
set_option linter.unusedSimpArgs false
namespace Go.Proofs.Ytkjkokljgbpbbaa.Pure
open Go.RowKit Go.Proofs.Ytkjkokljgbpbbaa.PFnGiveUp Go.Proofs.YtkjkokljgbpbbaaW.PrintWords Go.Proofs.YtkjkokljgbpbbaaW.PrintLast Go.Proofs.YtkjkokljgbpbbaaW.PrintMore

theorem ev_ite {α : Type} {c : Prop} [Decidable c] {A B : Nat → Option α} {r : α} (h1 : c → Ev A r) (h2 : ¬ c → Ev B r) : Ev (fun k => if c then A k else B k) r := by
  by_cases h : c
  · simpa only [if_pos h] using h1 h
  · simpa only [if_neg h] using h2 h
theorem ev_ret {α : Type} {v r : α} (h : v = r) : Ev (fun _ => some v) r := by subst h; exact Ev.now _
theorem ev_con {α : Type} {o : Option α} {r : α} (h : o = some r) : Ev (fun _ => o) r := by subst h; exact Ev.now _
theorem ev_eq {α : Type} {g : Nat → Option α} {a b : α} (h : Ev g a) (e : a = b) : Ev g b := e ▸ h
theorem ev_id {α : Type} {g : Nat → Option α} {r : α} (h : Ev g r) : Ev (fun k => (g k).bind fun t => some t) r := h.congr (fun k => by cases g k <;> rfl)
theorem ev_rounds {α : Type} {g : Nat → Option α} {r : α} (h : Ev g r) : ∃ k, g k = some r := h.rounds
theorem dec_iff {p q : Prop} [Decidable p] [Decidable q] (h : p ↔ q) : decide p = decide q := by simp [h]
theorem dec_t {p : Prop} [Decidable p] (h : p) : true = decide p := (decide_eq_true h).symm
theorem dec_f {p : Prop} [Decidable p] (h : ¬ p) : false = decide p := (decide_eq_false h).symm
theorem w64 {x : Int} (h0 : -9223372036854775808 ≤ x) (h1 : x ≤ 9223372036854775807) : wrap64 x = x := by unfold wrap64; omega
def EvB (g : Nat → Option Bool) (P : Prop) : Prop := ∃ b, Ev g b ∧ (b = true ↔ P)
theorem EvB.yes {g : Nat → Option Bool} {P : Prop} (h : EvB g P) (hp : P) : Ev g true := by
  obtain ⟨b, h1, h2⟩ := h
  rw [h2.2 hp] at h1; exact h1
theorem EvB.no {g : Nat → Option Bool} {P : Prop} (h : EvB g P) (hp : ¬ P) : Ev g false := by
  obtain ⟨b, h1, h2⟩ := h
  cases b with
  | true => exact absurd (h2.1 rfl) hp
  | false => exact h1
theorem EvB.iff {g : Nat → Option Bool} {P Q : Prop} (h : EvB g P) (e : P ↔ Q) : EvB g Q := by
  obtain ⟨b, h1, h2⟩ := h
  exact ⟨b, h1, h2.trans e⟩
theorem EvB.of_yes {g : Nat → Option Bool} {P : Prop} (h : Ev g true) (hp : P) : EvB g P := ⟨true, h, by simp [hp]⟩
theorem EvB.of_no {g : Nat → Option Bool} {P : Prop} (h : Ev g false) (hp : ¬ P) : EvB g P := ⟨false, h, by simp [hp]⟩
theorem EvB.of_dec {g : Nat → Option Bool} {P : Prop} [Decidable P] (h : Ev g (decide P)) : EvB g P := ⟨_, h, by simp⟩
theorem EvB.step {g f : Nat → Option Bool} {P : Prop} (h : ∀ k, g (k + 1) = f k) (hf : EvB f P) : EvB g P := by
  obtain ⟨b, h1, h2⟩ := hf
  exact ⟨b, Ev.step h h1, h2⟩
theorem EvB.congr {g f : Nat → Option Bool} {P : Prop} (h : ∀ k, g k = f k) (hf : EvB f P) : EvB g P := by
  obtain ⟨b, h1, h2⟩ := hf
  exact ⟨b, Ev.congr h h1, h2⟩
theorem evb_ite {c P : Prop} [Decidable c] {A B : Nat → Option Bool} (h1 : c → EvB A P) (h2 : ¬ c → EvB B P) : EvB (fun k => if c then A k else B k) P := by
  by_cases h : c
  · simpa only [if_pos h] using h1 h
  · simpa only [if_neg h] using h2 h
theorem evb_ret {b : Bool} {P : Prop} (h : b = true ↔ P) : EvB (fun _ => some b) P := ⟨b, Ev.now _, h⟩
theorem evb_bind {α : Type} {g : Nat → Option α} {f : Nat → α → Option Bool} {a : α} {P : Prop} (h : Ev g a) (k : EvB (fun n => f n a) P) : EvB (fun n => (g n).bind (f n)) P := by
  obtain ⟨b, h1, h2⟩ := k
  exact ⟨b, Ev.bind h h1, h2⟩
theorem evb_test {g : Nat → Option Bool} {f : Nat → Bool → Option Bool} {P Q : Prop} (h : EvB g P) (h1 : P → EvB (fun n => f n true) Q) (h2 : ¬ P → EvB (fun n => f n false) Q) : EvB (fun n => (g n).bind (f n)) Q := by
  by_cases hp : P
  · exact evb_bind (h.yes hp) (h1 hp)
  · exact evb_bind (h.no hp) (h2 hp)
theorem ev_test {α : Type} {g : Nat → Option Bool} {f : Nat → Bool → Option α} {P : Prop} {r : α} (h : EvB g P) (h1 : P → Ev (fun n => f n true) r) (h2 : ¬ P → Ev (fun n => f n false) r) : Ev (fun n => (g n).bind (f n)) r := by
  by_cases hp : P
  · exact Ev.bind (h.yes hp) (h1 hp)
  · exact Ev.bind (h.no hp) (h2 hp)
theorem all_loop {g : Nat → Int → Option Bool} {n : Int} {p : Int → Prop}
    (step : ∀ i, 0 ≤ i → i < n → (p i ∧ ∀ r, Ev (fun k => g k (i + 1)) r → Ev (fun k => g k i) r) ∨ (¬ p i ∧ Ev (fun k => g k i) false))
    (stop : Ev (fun k => g k n) true) (d : Nat) : ∀ i, 0 ≤ i → n - i = d → EvB (fun k => g k i) (∀ j, i ≤ j → j < n → p j) := by
  induction d with
  | zero =>
    intro i h0 hd
    have e : i = n := by omega
    subst e
    exact EvB.of_yes stop (fun j h1 h2 => by omega)
  | succ d ih =>
    intro i h0 hd
    rcases step i h0 (by omega) with ⟨hp, hs⟩ | ⟨hp, hs⟩
    · obtain ⟨b, h1, h2⟩ := ih (i + 1) (by omega) (by omega)
      refine ⟨b, hs b h1, h2.trans ⟨fun h j h3 h4 => ?_, fun h j h3 h4 => h j (by omega) h4⟩⟩
      by_cases e : j = i
      · subst e; exact hp
      · exact h j (by omega) h4
    · exact EvB.of_no hs (fun h => hp (h i (by omega) (by omega)))
def firstAt (p : Int → Prop) (n : Int) (i r : Int) : Prop := (r = -1 ∧ ∀ j, i ≤ j → j < n → ¬ p j) ∨ (i ≤ r ∧ r < n ∧ p r ∧ ∀ j, i ≤ j → j < r → ¬ p j)
theorem first_loop {g : Nat → Int → Option Int} {n : Int} {p : Int → Prop}
    (step : ∀ i, 0 ≤ i → i < n → (¬ p i ∧ ∀ r, Ev (fun k => g k (i + 1)) r → Ev (fun k => g k i) r) ∨ (p i ∧ Ev (fun k => g k i) i))
    (stop : Ev (fun k => g k n) (-1)) (d : Nat) : ∀ i, 0 ≤ i → n - i = d → ∃ r, Ev (fun k => g k i) r ∧ firstAt p n i r := by
  induction d with
  | zero =>
    intro i h0 hd
    have e : i = n := by omega
    subst e
    exact ⟨-1, stop, .inl ⟨rfl, fun j h1 h2 => by omega⟩⟩
  | succ d ih =>
    intro i h0 hd
    rcases step i h0 (by omega) with ⟨hp, hs⟩ | ⟨hp, hs⟩
    · obtain ⟨r, h1, h2⟩ := ih (i + 1) (by omega) (by omega)
      refine ⟨r, hs r h1, ?_⟩
      rcases h2 with ⟨h2, h3⟩ | ⟨h2, h3, h4, h5⟩
      · refine .inl ⟨h2, fun j h6 h7 => ?_⟩
        by_cases e : j = i
        · subst e; exact hp
        · exact h3 j (by omega) h7
      · refine .inr ⟨by omega, h3, h4, fun j h6 h7 => ?_⟩
        by_cases e : j = i
        · subst e; exact hp
        · exact h5 j (by omega) h7
    · exact ⟨i, hs, .inr ⟨by omega, by omega, hp, fun j h1 h2 => by omega⟩⟩
theorem xor_nonneg (x y : Int) (hx : 0 ≤ x) (hx1 : x ≤ 9223372036854775807) (hy : 0 ≤ y) (hy1 : y ≤ 9223372036854775807) : 0 ≤ Go.bits .xor .i64 x y := by
  obtain ⟨a, rfl⟩ := Int.eq_ofNat_of_zero_le hx
  obtain ⟨b, rfl⟩ := Int.eq_ofNat_of_zero_le hy
  have h : a ^^^ b < 2 ^ 63 := Nat.xor_lt_two_pow (by omega) (by omega)
  have h1 : (BitVec.ofInt 64 (a : Int)).toNat = a := by rw [BitVec.ofInt_natCast, BitVec.toNat_ofNat]; exact Nat.mod_eq_of_lt (by omega)
  have h2 : (BitVec.ofInt 64 (b : Int)).toNat = b := by rw [BitVec.ofInt_natCast, BitVec.toNat_ofNat]; exact Nat.mod_eq_of_lt (by omega)
  show 0 ≤ IntKind.i64.wrap ((BitVec.ofInt 64 (a : Int) ^^^ BitVec.ofInt 64 (b : Int)).toNat : Int)
  rw [BitVec.toNat_xor, h1, h2]
  simp [IntKind.wrap, IntKind.bits, IntKind.signed]
  split <;> omega
def codeOk (b : List Int) : Prop := b.length ≤ 2000 ∧ ∀ x ∈ b, 0 ≤ x ∧ x ≤ 255
theorem rd_code {b : List Int} (h : codeOk b) (i : Int) : 0 ≤ rd b i ∧ rd b i ≤ 255 := by
  unfold rd
  rw [List.getD_eq_getElem?_getD]
  by_cases hi : i.toNat < b.length
  · rw [List.getElem?_eq_getElem hi]
    exact h.2 _ (List.getElem_mem _)
  · rw [List.getElem?_eq_none (by omega)]
    exact ⟨by decide, by decide⟩
theorem tmod_lt (x n : Int) (hx : 0 ≤ x) (hn : 0 < n) : 0 ≤ Int.tmod x n ∧ Int.tmod x n < n := by
  rw [Int.tmod_eq_emod_of_nonneg hx]
  exact ⟨Int.emod_nonneg _ (by omega), Int.emod_lt_of_pos _ hn⟩
theorem tdiv_le (x n : Int) (hx : 0 ≤ x) (hn : 0 < n) : 0 ≤ Int.tdiv x n ∧ Int.tdiv x n ≤ x := by
  rw [Int.tdiv_eq_ediv_of_nonneg hx]
  exact ⟨Int.ediv_nonneg hx (by omega), Int.ediv_le_self _ hx⟩
theorem pick_ev {b : List Int} (hb : codeOk b) (p n : Int) (h0 : 0 ≤ p) (h1 : p ≤ 1099511627776) : ∃ r, Ev (fun k => spec_l20Rd_pick.f k b p n) (r, p + 1) ∧ 0 ≤ r ∧ (0 < n → r < n) ∧ (n ≤ 0 → r = 0) := by
  have hl := hb.1
  unfold spec_l20Rd_pick.f
  rw [w64 (x := p + 1) (by omega) (by omega)]
  by_cases hn : n < 1
  · refine ⟨0, ev_ite (fun _ => ?_) (fun h => absurd hn h), Int.le_refl _, fun h => h, fun _ => rfl⟩
    refine Ev.step (fun k => rfl) ?_
    exact Ev.now _
  · simp only [if_neg hn]
    by_cases hz : (b.length : Int) = 0
    · refine ⟨0, Ev.step (fun k => rfl) (ev_ite (fun _ => Ev.now _) (fun h => absurd (by simpa using hz) h)), Int.le_refl _, fun h => h, fun _ => rfl⟩
    · have hz' : ¬ ((b.length : Int) == 0) = true := by simpa using hz
      have e0 : wrap64 (p + 1 - 1) = p := by unfold wrap64; omega
      by_cases hp : p < (b.length : Int)
      · obtain ⟨r0, r1⟩ := rd_code hb p
        obtain ⟨m0, m1⟩ := tmod_lt (rd b p) n r0 (by omega)
        refine ⟨Int.tmod (rd b p) n, Ev.step (fun k => rfl) (ev_ite (fun h => absurd h hz') (fun _ => ?_)), m0, fun _ => m1, fun h => by omega⟩
        simp only [e0]
        refine ev_ite (fun _ => ev_ite (fun _ => ev_ite (fun h => by omega) (fun _ => ev_ret ?_)) (fun h => by omega)) (fun h => absurd hp h)
        rw [w64 (by omega) (by omega)]
      · have hL : 0 < (b.length : Int) := by omega
        obtain ⟨i0, i1⟩ := tmod_lt p b.length h0 hL
        have e1 : wrap64 (wrap64 (p * 7) + 3) = p * 7 + 3 := by unfold wrap64; omega
        obtain ⟨j0, j1⟩ := tmod_lt (p * 7 + 3) b.length (by omega) hL
        obtain ⟨d0, d1⟩ := tdiv_le p b.length h0 hL
        obtain ⟨r0, r1⟩ := rd_code hb (Int.tmod p b.length)
        obtain ⟨s0, s1⟩ := rd_code hb (Int.tmod (p * 7 + 3) b.length)
        suffices hx : ∃ x : Int, 0 ≤ x ∧ Ev (fun k => spec_l20Rd_pick.j0 k n ((b.length : Int) == 0) b (p + 1)) (Int.tmod x n, p + 1) by
          obtain ⟨x, hx0, hx1⟩ := hx
          obtain ⟨m0, m1⟩ := tmod_lt x n hx0 (by omega)
          exact ⟨_, hx1, m0, fun _ => m1, fun h => by omega⟩
        have eA : ∀ c d q : Int, 0 ≤ c → c ≤ 255 → 0 ≤ d → d ≤ 255 → 0 ≤ q → q ≤ p → wrap64 (wrap64 (wrap64 (wrap64 (wrap64 c * 131) + wrap64 (wrap64 d * 1117)) + wrap64 (p * 29)) + wrap64 (wrap64 q * 53)) = c * 131 + d * 1117 + p * 29 + q * 53 := by
          intro c d q _ _ _ _ _ _
          unfold wrap64
          omega
        have eB := eA _ _ _ r0 r1 s0 s1 d0 d1
        obtain ⟨x, hx⟩ : ∃ x, x = rd b (Int.tmod p b.length) * 131 + rd b (Int.tmod (p * 7 + 3) b.length) * 1117 + p * 29 + (Int.tdiv p b.length) * 53 := ⟨_, rfl⟩
        rw [← hx] at eB
        obtain ⟨t0, t1⟩ := tdiv_le x 64 (by omega) (by omega)
        refine ⟨Go.bits .xor .i64 x (Int.tdiv x 64), xor_nonneg _ _ (by omega) (by omega) t0 (by omega), ?_⟩
        refine Ev.step (fun k => rfl) (ev_ite (fun h => absurd h hz') (fun _ => ?_))
        simp only [e0]
        refine ev_ite (fun h => absurd h hp) (fun _ => ev_ite (fun h => absurd h hz) (fun _ => ev_ite (fun _ => ev_ite (fun _ => ?_) (fun h => absurd i1 h)) (fun h => absurd i0 h)))
        simp only [e1]
        refine ev_ite (fun _ => ev_ite (fun _ => ev_ite (fun h => by omega) (fun _ => ev_ret ?_)) (fun h => absurd j1 h)) (fun h => absurd j0 h)
        simp only [eB]
        rw [w64 (x := Int.tdiv x 64) (by omega) (by omega)]
def TQ {α : Type} (g : Nat → Option α) (Q : α → Prop) : Prop := ∃ r, Ev g r ∧ Q r
theorem tq_ret {α : Type} {v : α} {Q : α → Prop} (h : Q v) : TQ (fun _ => some v) Q := ⟨v, Ev.now _, h⟩
theorem tq_ite {α : Type} {c : Prop} [Decidable c] {A B : Nat → Option α} {Q : α → Prop} (h1 : c → TQ A Q) (h2 : ¬ c → TQ B Q) : TQ (fun k => if c then A k else B k) Q := by
  by_cases h : c
  · simpa only [if_pos h] using h1 h
  · simpa only [if_neg h] using h2 h
theorem tq_bind {α β : Type} {g : Nat → Option α} {f : Nat → α → Option β} {Q : α → Prop} {R : β → Prop} (h : TQ g Q) (k : ∀ a, Q a → TQ (fun n => f n a) R) : TQ (fun n => (g n).bind (f n)) R := by
  obtain ⟨a, h1, h2⟩ := h
  obtain ⟨r, h3, h4⟩ := k a h2
  exact ⟨r, Ev.bind h1 h3, h4⟩
theorem tq_let {α β : Type} {v : α} {f : Nat → α → Option β} {R : β → Prop} (k : TQ (fun n => f n v) R) : TQ (fun n => (some v).bind (f n)) R := by
  obtain ⟨r, h3, h4⟩ := k
  exact ⟨r, Ev.bind (Ev.now _) h3, h4⟩
theorem tq_step {α : Type} {g f : Nat → Option α} {Q : α → Prop} (h : ∀ k, g (k + 1) = f k) (hf : TQ f Q) : TQ g Q := by
  obtain ⟨r, h1, h2⟩ := hf
  exact ⟨r, Ev.step h h1, h2⟩
theorem tq_weaken {α : Type} {g : Nat → Option α} {Q R : α → Prop} (h : TQ g Q) (k : ∀ a, Q a → R a) : TQ g R := by
  obtain ⟨r, h1, h2⟩ := h
  exact ⟨r, h1, k r h2⟩
theorem tq_pick {α : Type} {b : List Int} (hb : codeOk b) {p n : Int} {f : Nat → Int × Int → Option α} {R : α → Prop} (h0 : 0 ≤ p) (h1 : p ≤ 1099511627776) (k : ∀ r, 0 ≤ r → (0 < n → r < n) → TQ (fun m => f m (r, p + 1)) R) : TQ (fun m => (spec_l20Rd_pick.f m b p n).bind (f m)) R := by
  obtain ⟨r, h2, h3, h4, _⟩ := pick_ev hb p n h0 h1
  obtain ⟨a, h5, h6⟩ := k r h3 h4
  exact ⟨a, Ev.bind h2 h5, h6⟩
theorem odd_ev {b : List Int} (hb : codeOk b) (p n : Int) (h0 : 0 ≤ p) (h1 : p ≤ 1099511627776) : ∃ r p', Ev (fun k => spec_l20Rd_odd.f k b p n) (r, p') ∧ p ≤ p' ∧ p' ≤ p + 1 ∧ (n ≤ 0 → r = false) := by
  unfold spec_l20Rd_odd.f
  by_cases hn : n > 0
  · obtain ⟨r, hr, _⟩ := pick_ev hb p n h0 h1
    exact ⟨_, _, ev_ite (fun _ => Ev.bind hr (Ev.now _)) (fun h => absurd hn h), by omega, by omega, fun h => by omega⟩
  · exact ⟨false, p, ev_ite (fun h => absurd h hn) (fun _ => Ev.now _), by omega, by omega, fun _ => rfl⟩
theorem odd_tq {b : List Int} (hb : codeOk b) (p n : Int) (h0 : 0 ≤ p) (h1 : p ≤ 1099511627776) : TQ (fun k => spec_l20Rd_odd.f k b p n) (fun r => p ≤ r.2 ∧ r.2 ≤ p + 1 ∧ (n ≤ 0 → r.1 = false)) := by
  obtain ⟨r, p', h2, h3, h4, h5⟩ := odd_ev hb p n h0 h1
  exact ⟨_, h2, h3, h4, h5⟩
theorem bt_list (s : ByteArray) (i : Int) (h0 : 0 ≤ i) (h : i < s.size) : ∃ hh : i.toNat < s.toList.length, bt s i = ((s.toList[i.toNat]'hh).toNat : Int) := by
  have hl : s.toList.length = s.size := by rw [ByteArray.toList_eq, Array.length_toList]; rfl
  have hh : i.toNat < s.size := by omega
  refine ⟨by omega, ?_⟩
  unfold bt
  rw [dif_pos hh]
  have : s[i.toNat]'hh = s.toList[i.toNat]'(by omega) := by simp only [ByteArray.toList_eq]; rfl
  rw [this]
theorem size_list (s : ByteArray) : s.toList.length = s.size := by rw [ByteArray.toList_eq, Array.length_toList]; rfl
theorem extract_list (s : ByteArray) (a b : Nat) : (s.extract a b).toList = (s.toList.take b).drop a := by
  rw [ByteArray.toList_eq, ByteArray.toList_eq, ByteArray.data_extract, Array.toList_extract]
  simp [List.extract, List.drop_take]
theorem bytes_ext {a b : ByteArray} (h : a.toList = b.toList) : a = b := by
  rw [ByteArray.toList_eq, ByteArray.toList_eq] at h
  cases a; cases b
  simp only [ByteArray.mk.injEq]
  exact Array.toList_inj.1 h
theorem strOfNums_one (x : Int) : (strOfNums [x]).size = 1 := rfl
theorem l20Key_l0 {b : List Int} (hb : codeOk b) (d : Nat) : ∀ (s : ByteArray) (i p : Int), i = d → d ≤ 2 → s.size + d ≤ 5 → 0 ≤ p → p + d ≤ 1099511627776 → ∃ t p', Ev (fun k => spec_l20Key.l0 k s i b p) (t, p') ∧ p ≤ p' ∧ p' ≤ p + d ∧ t.size ≤ 5 := by
  induction d with
  | zero =>
    intro s i p hi _ hs h0 h1
    exact ⟨s, p, Ev.step (fun k => rfl) (ev_ite (fun h => by omega) (fun _ => Ev.now _)), by omega, by omega, by omega⟩
  | succ d ih =>
    intro s i p hi hd hs h0 h1
    obtain ⟨r, hr, _⟩ := pick_ev hb p 4 h0 (by omega)
    have hz : (s ++ strOfNums [(wrap64 (97 + r)) % 256]).size = s.size + 1 := by rw [ByteArray.size_append, strOfNums_one]
    obtain ⟨t, p', h2, h3, h4, h5⟩ := ih (s ++ strOfNums [(wrap64 (97 + r)) % 256]) (i - 1) (p + 1) (by omega) (by omega) (by omega) (by omega) (by omega)
    refine ⟨t, p', Ev.step (fun k => rfl) (ev_ite (fun _ => Ev.bind hr (Ev.bind (Ev.now _) (ev_ite (fun _ => ?_) (fun h => ?_)))) (fun h => by omega)), by omega, by omega, h5⟩
    · rw [w64 (x := i - 1) (by omega) (by omega)]
      exact h2
    · exfalso; apply h; rw [strOfNums_one]; omega
theorem tq_key0 {b : List Int} (hb : codeOk b) (d : Nat) (s : ByteArray) (i p : Int) (hi : i = d) (hd : d ≤ 2) (hs : s.size + d ≤ 5) (h0 : 0 ≤ p) (h1 : p + d ≤ 1099511627776) : TQ (fun k => spec_l20Key.l0 k s i b p) (fun r => p ≤ r.2 ∧ r.2 ≤ p + 2 ∧ r.1.size ≤ 5) := by
  obtain ⟨t, p', h2, h3, h4, h5⟩ := l20Key_l0 hb d s i p hi hd hs h0 h1
  exact ⟨_, h2, by show p ≤ p' ∧ p' ≤ p + 2 ∧ t.size ≤ 5; omega⟩
theorem l20Key_tq {b : List Int} (hb : codeOk b) (p n : Int) (h0 : 0 ≤ p) (h1 : p ≤ 1099511000000) : TQ (fun k => spec_l20Key.f k b p n) (fun r => p ≤ r.2 ∧ r.2 ≤ p + 10 ∧ r.1.size ≤ 5) := by
  unfold spec_l20Key.f
  refine tq_bind (odd_tq hb _ _ (by omega) (by omega)) ?_
  rintro ⟨o, p1⟩ hq
  dsimp only at hq ⊢
  refine tq_ite (fun _ => ?_) (fun _ => ?_)
  · refine tq_let ?_
    refine tq_pick hb (by omega) (by omega) (fun r r0 r1 => ?_)
    dsimp only
    refine tq_ite (fun _ => tq_ite (fun h => tq_ret ?_) (fun h => ?_)) (fun h => by omega)
    · refine ⟨by omega, by omega, ?_⟩
      have : r = 0 ∨ r = 1 ∨ r = 2 ∨ r = 3 ∨ r = 4 ∨ r = 5 := by omega
      rcases this with rfl | rfl | rfl | rfl | rfl | rfl <;> (dsimp only; decide)
    · simp only [List.length_cons, List.length_nil] at h; omega
  · refine tq_pick hb (by omega) (by omega) (fun q q0 q1 => ?_)
    dsimp only
    refine tq_ite (fun _ => ?_) (fun _ => ?_)
    · refine tq_let ?_
      refine tq_pick hb (by omega) (by omega) (fun r r0 r1 => ?_)
      dsimp only
      refine tq_ite (fun _ => tq_ite (fun h => tq_ret ?_) (fun h => ?_)) (fun h => by omega)
      · refine ⟨by omega, by omega, ?_⟩
        have : r = 0 ∨ r = 1 ∨ r = 2 ∨ r = 3 ∨ r = 4 := by omega
        rcases this with rfl | rfl | rfl | rfl | rfl <;> (dsimp only; decide)
      · simp only [List.length_cons, List.length_nil] at h; omega
    · refine tq_pick hb (by omega) (by omega) (fun r r0 r1 => ?_)
      dsimp only
      rw [w64 (by omega) (by omega)]
      refine tq_weaken (tq_key0 hb (1 + r).toNat (⟨#[]⟩ : ByteArray) (1 + r) (p1 + 1 + 1) (by omega) (by omega) (by show 0 + (1 + r).toNat ≤ 5; omega) (by omega) (by omega)) ?_
      rintro ⟨s, p2⟩ hq2
      dsimp only at hq2 ⊢
      omega
theorem l20Span_j0 {b : List Int} (s t : ByteArray) (p : Int) : TQ (fun k => spec_l20Span.j0 k s t b p) (fun r => r.2.2 = p) := by
  refine tq_step (fun k => rfl) ?_
  simp only [spec_l20Span.j0]
  exact tq_ite (fun _ => tq_ret rfl) (fun _ => tq_ite (fun _ => tq_ret rfl) (fun _ => tq_ret rfl))
theorem l20Span_tq {b : List Int} (hb : codeOk b) (p n : Int) (h0 : 0 ≤ p) (h1 : p ≤ 1099510800000) : TQ (fun k => spec_l20Span.f k b p n) (fun r => p ≤ r.2.2 ∧ r.2.2 ≤ p + 30) := by
  unfold spec_l20Span.f
  repeat' (first
    | (with_reducible refine tq_pick hb ?_ ?_ ?_; rotate_right; intro r_ r0_ r1_; try dsimp only)
    | (with_reducible refine tq_bind (odd_tq hb _ _ ?_ ?_) ?_; rotate_right; rintro ⟨o_, p_⟩ hq_; dsimp only at hq_ ⊢)
    | (with_reducible refine tq_bind (l20Key_tq hb _ _ ?_ ?_) ?_; rotate_right; rintro ⟨s_, p_⟩ hq_; dsimp only at hq_ ⊢)
    | (with_reducible refine tq_weaken (l20Span_j0 _ _ _) ?_; rintro ⟨y0_, y1_, y2_⟩ hq_; dsimp only at hq_ ⊢; omega)
    | (with_reducible refine tq_bind (l20Span_tq hb _ _ ?_ ?_) ?_; rotate_right; rintro ⟨y0_, y1_, y2_⟩ hq_; dsimp only at hq_ ⊢)
    | (with_reducible refine tq_bind (l20Cache_tq hb _ _ ?_ ?_) ?_; rotate_right; rintro ⟨c_, p_⟩ hq_; dsimp only at hq_ ⊢)
    | (exfalso; have h_ := div8 r_ (by omega) (by omega); first | omega | (simp only [List.length_cons, List.length_nil] at *; omega))
    | (with_reducible refine tq_bind (l20Value_tq hb _ _ ?_ ?_) ?_; rotate_right; rintro ⟨s_, p_⟩ hq_; dsimp only at hq_ ⊢)
    | (with_reducible refine tq_weaken (l20Cmd_j0 hb _ _ ?_ ?_ ?_) ?_; rotate_right; rintro ⟨y0_, y1_, y2_, y3_, y4_⟩ hq_; dsimp only at hq_ ⊢)
    | (with_reducible refine tq_ret ?_; refine ⟨by dsimp only; omega, by dsimp only; omega, ?_⟩; obtain rfl | rfl | rfl | rfl | rfl | rfl | rfl | rfl | rfl | rfl : r_ = 0 ∨ r_ = 1 ∨ r_ = 2 ∨ r_ = 3 ∨ r_ = 4 ∨ r_ = 5 ∨ r_ = 6 ∨ r_ = 7 ∨ r_ = 8 ∨ r_ = 9 := (by omega) <;> (dsimp only; decide))
    | (exact rdOf_size _ 5 (by decide) _)
    | (with_reducible refine tq_bind (l20Cmd_tq hb _ _ ?_ ?_) ?_; rotate_right; rintro ⟨y0_, y1_, y2_, y3_, y4_⟩ hq_; dsimp only at hq_ ⊢)
    | (with_reducible refine tq_let ?_; try dsimp only)
    | (with_reducible refine tq_ite (fun _ => ?_) (fun _ => ?_); all_goals try dsimp only)
    | (with_reducible refine tq_ret ?_; first | done | trivial | (dsimp only; omega) | (refine ⟨by dsimp only; omega, by dsimp only; omega, ?_⟩; first | omega | decide | (dsimp only; decide) | (dsimp only; omega)))
    | omega
    | decide
    | (exfalso; omega)
    | (exfalso; simp only [List.length_cons, List.length_nil] at *; omega))
def keyV (l : List UInt8) : Prop := 1 ≤ l.length ∧ l.length ≤ 4 ∧ ∀ b ∈ l, 97 ≤ b.toNat ∧ b.toNat ≤ 122
instance (l : List UInt8) : Decidable (keyV l) := by unfold keyV; infer_instance
def ivV (lo hi : List UInt8) : Prop := (lo = [] ∨ keyV lo) ∧ (hi = [] ∨ (keyV hi ∧ Op.bytesLess lo hi = true ∧ (lo ≠ [] ∨ hi ≠ [97])))
instance (lo hi : List UInt8) : Decidable (ivV lo hi) := by unfold ivV; infer_instance
theorem keyV_nil : ¬ keyV [] := fun h => absurd h.1 (by decide)
def apartV (l : List S35) (i : Int) : Prop := (0 ≤ (rd_T35 l i).f0 ∧ (rd_T35 l i).f0 ≤ 7) ∧ ∀ j, 0 ≤ j → j < i → (rd_T35 l j).f0 ≠ (rd_T35 l i).f0
def joinV (l : List S35) (i : Int) : Prop := 0 < i → (rd_T35 l (i - 1)).f1.f1.toList ≠ [] ∧ ¬ Op.bytesLess (rd_T35 l i).f1.f0.toList (rd_T35 l (i - 1)).f1.f1.toList = true
def cacheV (l : List S35) : Prop := ∀ i : Int, 0 ≤ i → i < l.length → ivV (rd_T35 l i).f1.f0.toList (rd_T35 l i).f1.f1.toList ∧ apartV l i ∧ joinV l i
theorem l1In_eq (a b c : Int) : spec_l1In.f a b c = some (decide (b ≤ a ∧ a ≤ c)) := by
  unfold spec_l1In.f
  split <;> rename_i h
  · exact congrArg some (dec_iff (by omega))
  · exact congrArg some (dec_f (by omega))
theorem spec_KeyValid_l0 (s : ByteArray) (hs : s.size ≤ 4) (d : Nat) : ∀ i : Int, 0 ≤ i → (s.size : Int) - i = d → Ev (fun k => spec_KeyValid.l0 k s i) (decide (∀ b ∈ s.toList.drop i.toNat, 97 ≤ b.toNat ∧ b.toNat ≤ 122)) := by
  induction d with
  | zero =>
    intro i h0 hd
    refine Ev.step (fun k => rfl) (ev_ite (fun h => by omega) (fun h => ev_ret (dec_t ?_)))
    rw [List.drop_of_length_le (by rw [size_list]; omega)]
    intro b hb; cases hb
  | succ d ih =>
    intro i h0 hd
    obtain ⟨hh, hb⟩ := bt_list s i h0 (by omega)
    have hdrop := List.drop_eq_getElem_cons hh
    refine Ev.step (fun k => rfl) (ev_ite (fun h => ev_ite (fun _ => ev_ite (fun h1 => ev_ret (dec_f ?_)) (fun h1 => ev_ite (fun h2 => ev_ret (dec_f ?_)) (fun h2 => ?_))) (fun h1 => by omega)) (fun h => by omega))
    · intro ha
      have := ha _ (by rw [hdrop]; exact List.mem_cons_self)
      omega
    · intro ha
      have := ha _ (by rw [hdrop]; exact List.mem_cons_self)
      omega
    · rw [w64 (by omega) (by omega)]
      refine ev_eq (ih (i + 1) (by omega) (by omega)) (dec_iff ?_)
      rw [hdrop, show (i + 1).toNat = i.toNat + 1 by omega]
      constructor
      · intro ha b hm
        rcases List.mem_cons.1 hm with rfl | hm
        · omega
        · exact ha b hm
      · intro ha b hm
        exact ha b (List.mem_cons_of_mem _ hm)
theorem spec_KeyValid_ev (s : ByteArray) : Ev (fun k => spec_KeyValid.f k s) (decide (keyV s.toList)) := by
  unfold spec_KeyValid.f
  have hs := size_list s
  simp only [l1In_eq, Option.bind_some, decide_eq_true_eq]
  refine ev_ite (fun h => ?_) (fun h => ev_ret (dec_f (by unfold keyV; omega)))
  refine ev_eq (spec_KeyValid_l0 s (by omega) s.size 0 (by omega) (by omega)) (dec_iff ?_)
  simp only [Int.toNat_zero, List.drop_zero]
  exact ⟨fun h' => ⟨by omega, by omega, h'⟩, fun h' => h'.2.2⟩
theorem spec_IntervalValid_ev (a b : ByteArray) : EvB (fun k => spec_IntervalValid.f k a b) (ivV a.toList b.toList) := by
  have ha := EvB.of_dec (spec_KeyValid_ev a)
  have hb := EvB.of_dec (spec_KeyValid_ev b)
  unfold spec_IntervalValid.f ivV
  generalize a.toList = x at *
  generalize b.toList = y at *
  refine evb_ite (fun ex => evb_ite (fun ey => evb_ret (by simp [ex, ey])) (fun ey => evb_test hb (fun hk => evb_ite (fun _ => evb_ite (fun hl => evb_ret ?_) (fun hl => evb_ret ?_)) (fun h => absurd rfl h)) (fun hk => evb_ite (fun h => by cases h) (fun _ => evb_ret ?_)))) (fun ex => evb_test ha (fun hx => evb_ite (fun _ => evb_ite (fun ey => evb_ret ?_) (fun ey => evb_test hb (fun hk => evb_ite (fun _ => evb_ite (fun hl => evb_ret ?_) (fun hl => evb_ret ?_)) (fun h => absurd rfl h)) (fun hk => evb_ite (fun h => by cases h) (fun _ => evb_ret ?_)))) (fun h => absurd rfl h)) (fun hx => evb_ite (fun h => by cases h) (fun _ => evb_ret ?_)))
  all_goals simp [*]
  all_goals (simp_all)
theorem pass_loop {β : Type} {g : Nat → Int → Option β} {n : Int} {p : Int → Prop} {out : β}
    (step : ∀ i, 0 ≤ i → i < n → (p i ∧ ∀ r, Ev (fun k => g k (i + 1)) r → Ev (fun k => g k i) r) ∨ (¬ p i ∧ Ev (fun k => g k i) out)) (d : Nat) : ∀ i, 0 ≤ i → n - i = d → ((∀ j, i ≤ j → j < n → p j) ∧ ∀ r, Ev (fun k => g k n) r → Ev (fun k => g k i) r) ∨ ((¬ ∀ j, i ≤ j → j < n → p j) ∧ Ev (fun k => g k i) out) := by
  induction d with
  | zero =>
    intro i h0 hd
    have e : i = n := by omega
    subst e
    exact .inl ⟨fun j h1 h2 => by omega, fun r h => h⟩
  | succ d ih =>
    intro i h0 hd
    rcases step i h0 (by omega) with ⟨hp, hs⟩ | ⟨hp, hs⟩
    · rcases ih (i + 1) (by omega) (by omega) with ⟨h1, h2⟩ | ⟨h1, h2⟩
      · refine .inl ⟨fun j h3 h4 => ?_, fun r h => hs r (h2 r h)⟩
        by_cases e : j = i
        · subst e; exact hp
        · exact h1 j (by omega) h4
      · exact .inr ⟨fun h => h1 (fun j h3 h4 => h j (by omega) h4), hs _ h2⟩
    · exact .inr ⟨fun h => hp (h i (by omega) (by omega)), hs⟩
theorem spec_CacheValid_ev (l : List S35) (hl : (l.length : Int) ≤ 1048576) : EvB (fun k => spec_CacheValid.f k l) (cacheV l) := by
  unfold spec_CacheValid.f
  refine all_loop (g := fun k i => spec_CacheValid.l0 k l i) (n := l.length) (p := fun i => ivV (rd_T35 l i).f1.f0.toList (rd_T35 l i).f1.f1.toList ∧ apartV l i ∧ joinV l i) (fun i h0 h1 => ?_) (Ev.step (fun k => rfl) (ev_ite (fun h => by omega) (fun _ => Ev.now _))) l.length 0 (by omega) (by omega)
  have hI := spec_IntervalValid_ev (rd_T35 l i).f1.f0 (rd_T35 l i).f1.f1
  by_cases c1 : ivV (rd_T35 l i).f1.f0.toList (rd_T35 l i).f1.f1.toList
  · by_cases c2 : 0 ≤ (rd_T35 l i).f0 ∧ (rd_T35 l i).f0 ≤ 7
    · have hs : ∀ r, Ev (fun k => spec_CacheValid.l1 k l i 0) r → Ev (fun k => spec_CacheValid.l0 k l i) r := fun r hr => Ev.step (fun k => rfl) (ev_ite (fun _ => ev_ite (fun _ => Ev.bind (hI.yes c1) (ev_ite (fun _ => Ev.bind (ev_con (l1In_eq _ _ _)) (Ev.step (fun k => rfl) (ev_ite (fun h => by simp [c2] at h) (fun _ => hr)))) (fun h => absurd rfl h))) (fun h => by omega)) (fun h => by omega))
      rcases pass_loop (g := fun k j => spec_CacheValid.l1 k l i j) (n := i) (p := fun j => (rd_T35 l j).f0 ≠ (rd_T35 l i).f0) (out := false) (fun j k0 k1 => by
        by_cases e : (rd_T35 l j).f0 = (rd_T35 l i).f0
        · exact .inr ⟨fun h => h e, Ev.step (fun k => rfl) (ev_ite (fun _ => ev_ite (fun _ => ev_ite (fun _ => ev_ite (fun _ => ev_ite (fun _ => ev_ite (fun _ => Ev.now _) (fun h => absurd e h)) (fun h => by omega)) (fun h => by omega)) (fun h => by omega)) (fun h => by omega)) (fun h => by omega))⟩
        · refine .inl ⟨e, fun r hr => Ev.step (fun k => rfl) (ev_ite (fun _ => ev_ite (fun _ => ev_ite (fun _ => ev_ite (fun _ => ev_ite (fun _ => ev_ite (fun h => absurd h e) (fun _ => ?_)) (fun h => by omega)) (fun h => by omega)) (fun h => by omega)) (fun h => by omega)) (fun h => by omega))⟩
          rw [w64 (by omega) (by omega)]
          exact hr) i.toNat 0 (by omega) (by omega) with ⟨c3, h3⟩ | ⟨c3, h3⟩
      · have c23 : apartV l i := ⟨c2, c3⟩
        by_cases c4 : i > 0
        · have ew : wrap64 (i - 1) = i - 1 := w64 (by omega) (by omega)
          by_cases c5 : (rd_T35 l (i - 1)).f1.f1.toList = []
          · refine .inr ⟨fun h => (h.2.2 c4).1 c5, hs _ (h3 _ (Ev.step (fun k => rfl) (ev_ite (fun h => by omega) (fun _ => ev_ite (fun _ => ?_) (fun h => by omega)))))⟩
            simp only [ew]
            exact ev_ite (fun _ => ev_ite (fun _ => ev_ite (fun _ => Ev.now _) (fun h => absurd c5 h)) (fun h => by omega)) (fun h => by omega)
          · by_cases c6 : Op.bytesLess (rd_T35 l i).f1.f0.toList (rd_T35 l (i - 1)).f1.f1.toList = true
            · refine .inr ⟨fun h => (h.2.2 c4).2 c6, hs _ (h3 _ (Ev.step (fun k => rfl) (ev_ite (fun h => by omega) (fun _ => ev_ite (fun _ => ?_) (fun h => by omega)))))⟩
              simp only [ew]
              exact ev_ite (fun _ => ev_ite (fun _ => ev_ite (fun h => absurd h c5) (fun h => ev_ite (fun _ => ev_ite (fun _ => ev_ite (fun _ => Ev.now _) (fun h => absurd c6 h)) (fun h => by omega)) (fun h => by omega))) (fun h => by omega)) (fun h => by omega)
            · refine .inl ⟨⟨c1, c23, fun _ => ⟨c5, c6⟩⟩, fun r hr => hs _ (h3 _ (Ev.step (fun k => rfl) (ev_ite (fun h => by omega) (fun _ => ev_ite (fun _ => ?_) (fun h => by omega)))))⟩
              simp only [ew]
              rw [w64 (by omega) (by omega)]
              exact ev_ite (fun _ => ev_ite (fun _ => ev_ite (fun h => absurd h c5) (fun h => ev_ite (fun _ => ev_ite (fun _ => ev_ite (fun h => absurd h c6) (fun _ => hr)) (fun h => by omega)) (fun h => by omega))) (fun h => by omega)) (fun h => by omega)
        · refine .inl ⟨⟨c1, c23, fun h => absurd h c4⟩, fun r hr => hs _ (h3 _ (Ev.step (fun k => rfl) (ev_ite (fun h => by omega) (fun _ => ev_ite (fun h => absurd h c4) (fun _ => ?_)))))⟩
          rw [w64 (by omega) (by omega)]
          exact hr
      · exact .inr ⟨fun h => c3 h.2.1.2, hs _ h3⟩
    · refine .inr ⟨fun h => c2 h.2.1.1, Ev.step (fun k => rfl) (ev_ite (fun _ => ev_ite (fun _ => Ev.bind (hI.yes c1) (ev_ite (fun _ => Ev.bind (ev_con (l1In_eq _ _ _)) (Ev.step (fun k => rfl) (ev_ite (fun _ => Ev.now _) (fun h => absurd (by simp only [Bool.not_eq_true', decide_eq_false_iff_not]; exact c2) h)))) (fun h => absurd rfl h))) (fun h => by omega)) (fun h => by omega))⟩
  · exact .inr ⟨fun h => c1 h.1, Ev.step (fun k => rfl) (ev_ite (fun _ => ev_ite (fun _ => Ev.bind (hI.no c1) (ev_ite (fun h => by cases h) (fun _ => Ev.step (fun k => rfl) (Ev.now _)))) (fun h => by omega)) (fun h => by omega))⟩
theorem tq_b {g : Nat → Option Bool} {P : Prop} (h : EvB g P) : TQ g (fun _ => True) := by
  obtain ⟨b, h1, _⟩ := h
  exact ⟨b, h1, trivial⟩
theorem spec_IntervalMeet_tq (a b c d : ByteArray) : TQ (fun k => spec_IntervalMeet.f k a b c d) (fun _ => True) := by
  have h2 : ∀ e c d f g, TQ (fun k => spec_IntervalMeet.j2 k e c d f g) (fun _ => True) := by
    intro e c d f g
    refine tq_step (fun k => rfl) ?_
    simp only [spec_IntervalMeet.j2]
    exact tq_ite (fun _ => tq_bind (tq_b (spec_IntervalValid_ev _ _)) (fun r _ => tq_ite (fun _ => tq_ret trivial) (fun _ => tq_ret trivial))) (fun _ => tq_bind (tq_b (spec_IntervalValid_ev _ _)) (fun r _ => tq_ite (fun _ => tq_ret trivial) (fun _ => tq_ret trivial)))
  have h1 : ∀ a b c d e f, TQ (fun k => spec_IntervalMeet.j1 k a b c d e f) (fun _ => True) := by
    intro a b c d e f
    refine tq_step (fun k => rfl) ?_
    simp only [spec_IntervalMeet.j1]
    exact tq_ite (fun _ => h2 _ _ _ _ _) (fun _ => tq_ite (fun _ => h2 _ _ _ _ _) (fun _ => h2 _ _ _ _ _))
  have h0 : ∀ e a b c d, TQ (fun k => spec_IntervalMeet.j0 k e a b c d) (fun _ => True) := by
    intro e a b c d
    refine tq_step (fun k => rfl) ?_
    simp only [spec_IntervalMeet.j0]
    exact tq_ite (fun _ => tq_ret trivial) (fun _ => tq_ite (fun _ => h1 _ _ _ _ _ _) (fun _ => h1 _ _ _ _ _ _))
  unfold spec_IntervalMeet.f
  exact tq_bind (tq_b (spec_IntervalValid_ev _ _)) (fun r _ => tq_ite (fun _ => tq_bind (tq_b (spec_IntervalValid_ev _ _)) (fun r _ => h0 _ _ _ _ _)) (fun _ => h0 _ _ _ _ _))
theorem spec_CacheLearn_l0 (l : List S35) (hl : (l.length : Int) ≤ 1048576) (n : Int) (a c : ByteArray) (d : Nat) : ∀ (i : Int) (s : List S35) (b : Bool), 0 ≤ i → (l.length : Int) - i = d → (b = true → (s.length : Int) ≤ i + 1) → (b = false → (s.length : Int) ≤ i) → TQ (fun k => spec_CacheLearn.l0 k l s b i n a c) (fun r => r.length ≤ l.length + 1) := by
  induction d with
  | zero =>
    intro i s b h0 hd h1 h2
    refine tq_step (fun k => rfl) ?_
    simp only [spec_CacheLearn.l0]
    refine tq_ite (fun h => by omega) (fun _ => tq_ite (fun hb => tq_ret ?_) (fun hb => tq_ite (fun _ => tq_ret ?_) (fun h => ?_)))
    · have := h1 hb; omega
    · have := h2 (by simpa using hb); rw [List.length_append, List.length_cons, List.length_nil]; omega
    · have := h2 (by simpa using hb); exfalso; apply h; omega
  | succ d ih =>
    intro i s b h0 hd h1 h2
    have ew : wrap64 (i + 1) = i + 1 := w64 (by omega) (by omega)
    have hb : (s.length : Int) ≤ i + 1 := by cases b <;> simp at h1 h2 <;> omega
    have hj : ∀ e, TQ (fun k => spec_CacheLearn.j2 k l s b i e n a c) (fun r => r.length ≤ l.length + 1) := by
      intro e
      refine tq_step (fun k => rfl) ?_
      simp only [spec_CacheLearn.j2, ew]
      refine tq_ite (fun _ => ih (i + 1) s b (by omega) (by omega) (fun h => by omega) (fun h => by have := h2 h; omega)) (fun _ => tq_ite (fun hp => tq_ite (fun _ => tq_ite (fun _ => tq_ite (fun _ => ?_) (fun h => ?_)) (fun h => by omega)) (fun h => by omega)) (fun hp => tq_ite (fun _ => tq_ite (fun _ => tq_ite (fun _ => tq_ite (fun _ => tq_let (tq_ite (fun _ => ?_) (fun h => ?_))) (fun h => ?_)) (fun _ => tq_ite (fun _ => ?_) (fun h => ?_))) (fun h => by omega)) (fun h => by omega)))
      · exact ih (i + 1) _ b (by omega) (by omega) (fun h => by rw [List.length_append, List.length_cons, List.length_nil]; omega) (fun h => by rw [hp] at h; cases h)
      · exfalso; apply h; omega
      · have := h2 (by simpa using hp)
        exact ih (i + 1) _ true (by omega) (by omega) (fun h => by rw [List.length_append, List.length_append, List.length_cons, List.length_nil, List.length_cons, List.length_nil]; omega) (fun h => by cases h)
      · exfalso; apply h; rw [List.length_append, List.length_cons, List.length_nil]; omega
      · exfalso; apply h; omega
      · have := h2 (by simpa using hp)
        exact ih (i + 1) _ b (by omega) (by omega) (fun h => absurd h hp) (fun h => by rw [List.length_append, List.length_cons, List.length_nil]; omega)
      · exfalso; apply h; omega
    refine tq_step (fun k => rfl) ?_
    simp only [spec_CacheLearn.l0]
    exact tq_ite (fun _ => tq_ite (fun _ => tq_bind (spec_IntervalMeet_tq _ _ _ _) (fun r _ => tq_ite (fun _ => hj _) (fun _ => hj _))) (fun h => by omega)) (fun h => by omega)
theorem spec_CacheLearn_tq (l : List S35) (hl : (l.length : Int) ≤ 1048576) (n : Int) (a c : ByteArray) : TQ (fun k => spec_CacheLearn.f k l n a c) (fun r => r.length ≤ l.length + 1) := by
  have hj : ∀ e, TQ (fun k => spec_CacheLearn.j0 k l [] e n a c) (fun r => r.length ≤ l.length + 1) := by
    intro e
    refine tq_step (fun k => rfl) ?_
    simp only [spec_CacheLearn.j0]
    exact tq_ite (fun _ => tq_ret (Nat.zero_le _)) (fun _ => spec_CacheLearn_l0 l hl n a c l.length 0 [] false (by omega) (by omega) (fun h => by cases h) (fun _ => by simp))
  unfold spec_CacheLearn.f
  exact tq_let (tq_bind (tq_b (spec_CacheValid_ev _ hl)) (fun r _ => tq_ite (fun _ => tq_bind (tq_b (spec_CacheValid_ev _ (by simp))) (fun r _ => hj _)) (fun _ => hj _)))
theorem l20Cache_l0 {b : List Int} (hb : codeOk b) (n : Int) (d : Nat) : ∀ (s : List S35) (i p : Int), i = d → d ≤ 4 → (s.length : Int) + d ≤ 4 → 0 ≤ p → p + 100 * d ≤ 1099510700000 → TQ (fun k => spec_l20Cache.l0 k n s i b p) (fun r => (r.1.length : Int) ≤ 8 ∧ p ≤ r.2 ∧ r.2 ≤ p + 100 * d + 100) := by
  induction d with
  | zero =>
    intro s i p hi hd hs h0 h1
    refine tq_step (fun k => rfl) ?_
    simp only [spec_l20Cache.l0]
    refine tq_ite (fun h => by omega) (fun _ => tq_bind (odd_tq hb _ _ (by omega) (by omega)) ?_)
    rintro ⟨o, p1⟩ hq
    dsimp only at hq ⊢
    refine tq_ite (fun _ => tq_pick hb (by omega) (by omega) (fun r r0 r1 => ?_)) (fun _ => tq_ret ⟨by show (s.length : Int) ≤ 8; omega, by show p ≤ p1; omega, by show p1 ≤ _; omega⟩)
    dsimp only
    refine tq_ite (fun _ => tq_ite (fun _ => tq_ret ⟨?_, by show p ≤ p1 + 1; omega, by show p1 + 1 ≤ _; omega⟩) (fun h => by exfalso; apply h; omega)) (fun _ => tq_ite (fun _ => tq_ite (fun _ => tq_ret ⟨?_, by show p ≤ p1 + 1; omega, by show p1 + 1 ≤ _; omega⟩) (fun h => by exfalso; apply h; omega)) (fun _ => tq_pick hb (by omega) (by omega) (fun r r0 r1 => tq_bind (l20Span_tq hb _ _ (by dsimp only; omega) (by dsimp only; omega)) ?_)))
    · simp only [List.length_append, List.length_cons, List.length_nil]; omega
    · simp only [List.length_append]; omega
    · rintro ⟨y0, y1, y2⟩ hq
      dsimp only at hq ⊢
      refine tq_ite (fun _ => tq_ret ⟨?_, by show p ≤ y2; omega, by show y2 ≤ _; omega⟩) (fun h => by exfalso; apply h; omega)
      simp only [List.length_append, List.length_cons, List.length_nil]; omega
  | succ d ih =>
    intro s i p hi hd hs h0 h1
    refine tq_step (fun k => rfl) ?_
    simp only [spec_l20Cache.l0]
    refine tq_ite (fun _ => tq_pick hb (by omega) (by omega) (fun r r0 r1 => tq_bind (l20Span_tq hb _ _ (by dsimp only; omega) (by dsimp only; omega)) ?_)) (fun h => by omega)
    rintro ⟨y0, y1, y2⟩ hq
    dsimp only at hq ⊢
    refine tq_bind (spec_CacheLearn_tq s (by omega) _ _ _) (fun t ht => ?_)
    rw [w64 (x := i - 1) (by omega) (by omega)]
    refine tq_weaken (ih t (i - 1) y2 (by omega) (by omega) (by omega) (by omega) (by omega)) ?_
    rintro ⟨u, p2⟩ hq2
    dsimp only at hq2 ⊢
    omega
theorem l20Cache_tq {b : List Int} (hb : codeOk b) (p n : Int) (h0 : 0 ≤ p) (h1 : p ≤ 1099510600000) : TQ (fun k => spec_l20Cache.f k b p n) (fun r => (r.1.length : Int) ≤ 8 ∧ p ≤ r.2 ∧ r.2 ≤ p + 600) := by
  unfold spec_l20Cache.f
  refine tq_pick hb (by omega) (by omega) (fun r r0 r1 => ?_)
  dsimp only
  refine tq_weaken (l20Cache_l0 hb n r.toNat [] r (p + 1) (by omega) (by omega) (by simp; omega) (by omega) (by omega)) ?_
  rintro ⟨u, p2⟩ hq2
  dsimp only at hq2 ⊢
  omega
theorem rdOf_size (l : List ByteArray) (n : Nat) (h : ∀ x ∈ l, x.size ≤ n) (r : Int) : (rdOf ByteArray.empty l r).size ≤ n := by
  unfold rdOf
  rw [List.getD_eq_getElem?_getD]
  by_cases hr : r.toNat < l.length
  · rw [List.getElem?_eq_getElem hr]; exact h _ (List.getElem_mem _)
  · rw [List.getElem?_eq_none (by omega)]; exact Nat.zero_le _
theorem div8 (r : Int) (h0 : 0 ≤ r) (h1 : r < 9) : 0 ≤ wrap64 (Int.tdiv r 8) ∧ wrap64 (Int.tdiv r 8) < 2 := by
  rw [Int.tdiv_eq_ediv_of_nonneg h0, w64 (by omega) (by omega)]
  omega
theorem l20Value_tq {b : List Int} (hb : codeOk b) (p n : Int) (h0 : 0 ≤ p) (h1 : p ≤ 1099511000000) : TQ (fun k => spec_l20Value.f k b p n) (fun r => p ≤ r.2 ∧ r.2 ≤ p + 4) := by
  unfold spec_l20Value.f
  repeat' (first
    | (with_reducible refine tq_pick hb ?_ ?_ ?_; rotate_right; intro r_ r0_ r1_; try dsimp only)
    | (with_reducible refine tq_bind (odd_tq hb _ _ ?_ ?_) ?_; rotate_right; rintro ⟨o_, p_⟩ hq_; dsimp only at hq_ ⊢)
    | (with_reducible refine tq_bind (l20Key_tq hb _ _ ?_ ?_) ?_; rotate_right; rintro ⟨s_, p_⟩ hq_; dsimp only at hq_ ⊢)
    | (with_reducible refine tq_weaken (l20Span_j0 _ _ _) ?_; rintro ⟨y0_, y1_, y2_⟩ hq_; dsimp only at hq_ ⊢; omega)
    | (with_reducible refine tq_bind (l20Span_tq hb _ _ ?_ ?_) ?_; rotate_right; rintro ⟨y0_, y1_, y2_⟩ hq_; dsimp only at hq_ ⊢)
    | (with_reducible refine tq_bind (l20Cache_tq hb _ _ ?_ ?_) ?_; rotate_right; rintro ⟨c_, p_⟩ hq_; dsimp only at hq_ ⊢)
    | (exfalso; have h_ := div8 r_ (by omega) (by omega); first | omega | (simp only [List.length_cons, List.length_nil] at *; omega))
    | (with_reducible refine tq_bind (l20Value_tq hb _ _ ?_ ?_) ?_; rotate_right; rintro ⟨s_, p_⟩ hq_; dsimp only at hq_ ⊢)
    | (with_reducible refine tq_weaken (l20Cmd_j0 hb _ _ ?_ ?_ ?_) ?_; rotate_right; rintro ⟨y0_, y1_, y2_, y3_, y4_⟩ hq_; dsimp only at hq_ ⊢)
    | (with_reducible refine tq_ret ?_; refine ⟨by dsimp only; omega, by dsimp only; omega, ?_⟩; obtain rfl | rfl | rfl | rfl | rfl | rfl | rfl | rfl | rfl | rfl : r_ = 0 ∨ r_ = 1 ∨ r_ = 2 ∨ r_ = 3 ∨ r_ = 4 ∨ r_ = 5 ∨ r_ = 6 ∨ r_ = 7 ∨ r_ = 8 ∨ r_ = 9 := (by omega) <;> (dsimp only; decide))
    | (exact rdOf_size _ 5 (by decide) _)
    | (with_reducible refine tq_bind (l20Cmd_tq hb _ _ ?_ ?_) ?_; rotate_right; rintro ⟨y0_, y1_, y2_, y3_, y4_⟩ hq_; dsimp only at hq_ ⊢)
    | (with_reducible refine tq_let ?_; try dsimp only)
    | (with_reducible refine tq_ite (fun _ => ?_) (fun _ => ?_); all_goals try dsimp only)
    | (with_reducible refine tq_ret ?_; first | done | trivial | (dsimp only; omega) | (refine ⟨by dsimp only; omega, by dsimp only; omega, ?_⟩; first | omega | decide | (dsimp only; decide) | (dsimp only; omega)))
    | omega
    | decide
    | (exfalso; omega)
    | (exfalso; simp only [List.length_cons, List.length_nil] at *; omega))
theorem l20Cmd_j0 {b : List Int} (hb : codeOk b) (s : ByteArray) (p : Int) (hs : s.size ≤ 5) (h0 : 0 ≤ p) (h1 : p ≤ 1099510900000) : TQ (fun k => spec_l20Cmd.j0 k s b p) (fun r => p ≤ r.2.2.2.2 ∧ r.2.2.2.2 ≤ p + 6 ∧ r.2.1.size ≤ 5) := by
  refine tq_step (fun k => rfl) ?_
  simp only [spec_l20Cmd.j0]
  repeat' (first
    | (with_reducible refine tq_pick hb ?_ ?_ ?_; rotate_right; intro r_ r0_ r1_; try dsimp only)
    | (with_reducible refine tq_bind (odd_tq hb _ _ ?_ ?_) ?_; rotate_right; rintro ⟨o_, p_⟩ hq_; dsimp only at hq_ ⊢)
    | (with_reducible refine tq_bind (l20Key_tq hb _ _ ?_ ?_) ?_; rotate_right; rintro ⟨s_, p_⟩ hq_; dsimp only at hq_ ⊢)
    | (with_reducible refine tq_weaken (l20Span_j0 _ _ _) ?_; rintro ⟨y0_, y1_, y2_⟩ hq_; dsimp only at hq_ ⊢; omega)
    | (with_reducible refine tq_bind (l20Span_tq hb _ _ ?_ ?_) ?_; rotate_right; rintro ⟨y0_, y1_, y2_⟩ hq_; dsimp only at hq_ ⊢)
    | (with_reducible refine tq_bind (l20Cache_tq hb _ _ ?_ ?_) ?_; rotate_right; rintro ⟨c_, p_⟩ hq_; dsimp only at hq_ ⊢)
    | (exfalso; have h_ := div8 r_ (by omega) (by omega); first | omega | (simp only [List.length_cons, List.length_nil] at *; omega))
    | (with_reducible refine tq_bind (l20Value_tq hb _ _ ?_ ?_) ?_; rotate_right; rintro ⟨s_, p_⟩ hq_; dsimp only at hq_ ⊢)
    | (with_reducible refine tq_weaken (l20Cmd_j0 hb _ _ ?_ ?_ ?_) ?_; rotate_right; rintro ⟨y0_, y1_, y2_, y3_, y4_⟩ hq_; dsimp only at hq_ ⊢)
    | (with_reducible refine tq_ret ?_; refine ⟨by dsimp only; omega, by dsimp only; omega, ?_⟩; obtain rfl | rfl | rfl | rfl | rfl | rfl | rfl | rfl | rfl | rfl : r_ = 0 ∨ r_ = 1 ∨ r_ = 2 ∨ r_ = 3 ∨ r_ = 4 ∨ r_ = 5 ∨ r_ = 6 ∨ r_ = 7 ∨ r_ = 8 ∨ r_ = 9 := (by omega) <;> (dsimp only; decide))
    | (exact rdOf_size _ 5 (by decide) _)
    | (with_reducible refine tq_bind (l20Cmd_tq hb _ _ ?_ ?_) ?_; rotate_right; rintro ⟨y0_, y1_, y2_, y3_, y4_⟩ hq_; dsimp only at hq_ ⊢)
    | (with_reducible refine tq_let ?_; try dsimp only)
    | (with_reducible refine tq_ite (fun _ => ?_) (fun _ => ?_); all_goals try dsimp only)
    | (with_reducible refine tq_ret ?_; first | done | trivial | (dsimp only; omega) | (refine ⟨by dsimp only; omega, by dsimp only; omega, ?_⟩; first | omega | decide | (dsimp only; decide) | (dsimp only; omega)))
    | omega
    | decide
    | (exfalso; omega)
    | (exfalso; simp only [List.length_cons, List.length_nil] at *; omega))
theorem l20Cmd_tq {b : List Int} (hb : codeOk b) (p n : Int) (h0 : 0 ≤ p) (h1 : p ≤ 1099510800000) : TQ (fun k => spec_l20Cmd.f k b p n) (fun r => p ≤ r.2.2.2.2 ∧ r.2.2.2.2 ≤ p + 30 ∧ r.2.1.size ≤ 5) := by
  unfold spec_l20Cmd.f
  repeat' (first
    | (with_reducible refine tq_pick hb ?_ ?_ ?_; rotate_right; intro r_ r0_ r1_; try dsimp only)
    | (with_reducible refine tq_bind (odd_tq hb _ _ ?_ ?_) ?_; rotate_right; rintro ⟨o_, p_⟩ hq_; dsimp only at hq_ ⊢)
    | (with_reducible refine tq_bind (l20Key_tq hb _ _ ?_ ?_) ?_; rotate_right; rintro ⟨s_, p_⟩ hq_; dsimp only at hq_ ⊢)
    | (with_reducible refine tq_weaken (l20Span_j0 _ _ _) ?_; rintro ⟨y0_, y1_, y2_⟩ hq_; dsimp only at hq_ ⊢; omega)
    | (with_reducible refine tq_bind (l20Span_tq hb _ _ ?_ ?_) ?_; rotate_right; rintro ⟨y0_, y1_, y2_⟩ hq_; dsimp only at hq_ ⊢)
    | (with_reducible refine tq_bind (l20Cache_tq hb _ _ ?_ ?_) ?_; rotate_right; rintro ⟨c_, p_⟩ hq_; dsimp only at hq_ ⊢)
    | (exfalso; have h_ := div8 r_ (by omega) (by omega); first | omega | (simp only [List.length_cons, List.length_nil] at *; omega))
    | (with_reducible refine tq_bind (l20Value_tq hb _ _ ?_ ?_) ?_; rotate_right; rintro ⟨s_, p_⟩ hq_; dsimp only at hq_ ⊢)
    | (with_reducible refine tq_weaken (l20Cmd_j0 hb _ _ ?_ ?_ ?_) ?_; rotate_right; rintro ⟨y0_, y1_, y2_, y3_, y4_⟩ hq_; dsimp only at hq_ ⊢)
    | (with_reducible refine tq_ret ?_; refine ⟨by dsimp only; omega, by dsimp only; omega, ?_⟩; obtain rfl | rfl | rfl | rfl | rfl | rfl | rfl | rfl | rfl | rfl : r_ = 0 ∨ r_ = 1 ∨ r_ = 2 ∨ r_ = 3 ∨ r_ = 4 ∨ r_ = 5 ∨ r_ = 6 ∨ r_ = 7 ∨ r_ = 8 ∨ r_ = 9 := (by omega) <;> (dsimp only; decide))
    | (exact rdOf_size _ 5 (by decide) _)
    | (with_reducible refine tq_bind (l20Cmd_tq hb _ _ ?_ ?_) ?_; rotate_right; rintro ⟨y0_, y1_, y2_, y3_, y4_⟩ hq_; dsimp only at hq_ ⊢)
    | (with_reducible refine tq_let ?_; try dsimp only)
    | (with_reducible refine tq_ite (fun _ => ?_) (fun _ => ?_); all_goals try dsimp only)
    | (with_reducible refine tq_ret ?_; first | done | trivial | (dsimp only; omega) | (refine ⟨by dsimp only; omega, by dsimp only; omega, ?_⟩; first | omega | decide | (dsimp only; decide) | (dsimp only; omega)))
    | omega
    | decide
    | (exfalso; omega)
    | (exfalso; simp only [List.length_cons, List.length_nil] at *; omega))
theorem l20Client_j1 {b : List Int} (hb : codeOk b) (c : List S35) (hc : (c.length : Int) ≤ 8) (n sq : Int) (bz : Bool) (kd : Int) (key : ByteArray) (v old ca p : Int) (h0 : 0 ≤ p) (h1 : p ≤ 1099510000000) : TQ (fun k => spec_l20Client.j1 k n b p c sq bz kd key v old ca) (fun r => (r.1.length : Int) ≤ 8 ∧ p ≤ r.2.2.2.2.2.2.2.2 ∧ r.2.2.2.2.2.2.2.2 ≤ p + 700) := by
  refine tq_step (fun k => rfl) ?_
  simp only [spec_l20Client.j1]
  repeat' (first
    | (with_reducible refine tq_pick hb ?_ ?_ ?_; rotate_right; intro r_ r0_ r1_; try dsimp only)
    | (with_reducible refine tq_bind (odd_tq hb _ _ ?_ ?_) ?_; rotate_right; rintro ⟨o_, p_⟩ hq_; dsimp only at hq_ ⊢)
    | (with_reducible refine tq_bind (l20Key_tq hb _ _ ?_ ?_) ?_; rotate_right; rintro ⟨s_, p_⟩ hq_; dsimp only at hq_ ⊢)
    | (with_reducible refine tq_weaken (l20Span_j0 _ _ _) ?_; rintro ⟨y0_, y1_, y2_⟩ hq_; dsimp only at hq_ ⊢; omega)
    | (with_reducible refine tq_bind (l20Span_tq hb _ _ ?_ ?_) ?_; rotate_right; rintro ⟨y0_, y1_, y2_⟩ hq_; dsimp only at hq_ ⊢)
    | (with_reducible refine tq_bind (l20Cache_tq hb _ _ ?_ ?_) ?_; rotate_right; rintro ⟨c_, p_⟩ hq_; dsimp only at hq_ ⊢)
    | (exfalso; have h_ := div8 r_ (by omega) (by omega); first | omega | (simp only [List.length_cons, List.length_nil] at *; omega))
    | (with_reducible refine tq_bind (l20Value_tq hb _ _ ?_ ?_) ?_; rotate_right; rintro ⟨s_, p_⟩ hq_; dsimp only at hq_ ⊢)
    | (with_reducible refine tq_weaken (l20Cmd_j0 hb _ _ ?_ ?_ ?_) ?_; rotate_right; rintro ⟨y0_, y1_, y2_, y3_, y4_⟩ hq_; dsimp only at hq_ ⊢)
    | (with_reducible refine tq_ret ?_; refine ⟨by dsimp only; omega, by dsimp only; omega, ?_⟩; obtain rfl | rfl | rfl | rfl | rfl | rfl | rfl | rfl | rfl | rfl : r_ = 0 ∨ r_ = 1 ∨ r_ = 2 ∨ r_ = 3 ∨ r_ = 4 ∨ r_ = 5 ∨ r_ = 6 ∨ r_ = 7 ∨ r_ = 8 ∨ r_ = 9 := (by omega) <;> (dsimp only; decide))
    | (exact rdOf_size _ 5 (by decide) _)
    | (with_reducible refine tq_bind (l20Cmd_tq hb _ _ ?_ ?_) ?_; rotate_right; rintro ⟨y0_, y1_, y2_, y3_, y4_⟩ hq_; dsimp only at hq_ ⊢)
    | (with_reducible refine tq_let ?_; try dsimp only)
    | (with_reducible refine tq_ite (fun _ => ?_) (fun _ => ?_); all_goals try dsimp only)
    | (with_reducible refine tq_ret ?_; first | done | trivial | (dsimp only; omega) | (refine ⟨by dsimp only; omega, by dsimp only; omega, ?_⟩; first | omega | decide | (dsimp only; decide) | (dsimp only; omega)))
    | omega
    | decide
    | (exfalso; omega)
    | (exfalso; simp only [List.length_cons, List.length_nil] at *; omega))
theorem l20Client_j0 {b : List Int} (hb : codeOk b) (c : List S35) (hc : (c.length : Int) ≤ 8) (n sq : Int) (bz : Bool) (kd : Int) (key : ByteArray) (v old ca p : Int) (h0 : 0 ≤ p) (h1 : p ≤ 1099509999000) : TQ (fun k => spec_l20Client.j0 k n b p c sq bz kd key v old ca) (fun r => (r.1.length : Int) ≤ 8 ∧ p ≤ r.2.2.2.2.2.2.2.2 ∧ r.2.2.2.2.2.2.2.2 ≤ p + 800) := by
  refine tq_step (fun k => rfl) ?_
  simp only [spec_l20Client.j0]
  refine tq_pick hb (by omega) (by omega) (fun r r0 r1 => ?_)
  refine tq_ite (fun _ => tq_weaken (l20Client_j1 hb c hc _ _ _ _ _ _ _ _ _ (by dsimp only; omega) (by dsimp only; omega)) ?_) (fun _ => tq_weaken (l20Client_j1 hb c hc _ _ _ _ _ _ _ _ _ (by dsimp only; omega) (by dsimp only; omega)) ?_)
  · rintro ⟨y0, y1, y2, y3, y4, y5, y6, y7, y8⟩ hq
    dsimp only at hq ⊢
    omega
  · rintro ⟨y0, y1, y2, y3, y4, y5, y6, y7, y8⟩ hq
    dsimp only at hq ⊢
    omega
theorem l20Client_tq {b : List Int} (hb : codeOk b) (p n : Int) (h0 : 0 ≤ p) (h1 : p ≤ 1099509000000) : TQ (fun k => spec_l20Client.f k b p n) (fun r => (r.1.length : Int) ≤ 8 ∧ p ≤ r.2.2.2.2.2.2.2.2 ∧ r.2.2.2.2.2.2.2.2 ≤ p + 2000) := by
  unfold spec_l20Client.f
  refine tq_bind (l20Cache_tq hb _ _ (by omega) (by omega)) ?_
  rintro ⟨c_, p_⟩ hq_
  dsimp only at hq_ ⊢
  refine tq_pick hb (by omega) (by omega) (fun r r0 r1 => tq_pick hb (by dsimp only; omega) (by dsimp only; omega) (fun s s0 s1 => ?_))
  dsimp only
  refine tq_ite (fun _ => tq_pick hb (by omega) (by omega) (fun t t0 t1 => ?_)) (fun _ => tq_weaken (l20Client_j0 hb c_ hq_.1 _ _ _ _ _ _ _ _ _ (by omega) (by omega)) ?_)
  · dsimp only
    refine tq_bind (l20Cmd_tq hb _ _ (by omega) (by omega)) ?_
    rintro ⟨y0, y1, y2, y3, y4⟩ hq2
    dsimp only at hq2 ⊢
    refine tq_pick hb (by omega) (by omega) (fun u u0 u1 => tq_weaken (l20Client_j0 hb c_ hq_.1 _ _ _ _ _ _ _ _ _ (by dsimp only; omega) (by dsimp only; omega)) ?_)
    rintro ⟨z0, z1, z2, z3, z4, z5, z6, z7, z8⟩ hq
    dsimp only at hq ⊢
    omega
  · rintro ⟨z0, z1, z2, z3, z4, z5, z6, z7, z8⟩ hq
    dsimp only at hq ⊢
    omega
def cmdV (kd : Int) (key : List UInt8) (v old : Int) : Prop :=
  (1 ≤ kd ∧ kd ≤ 5) ∧ (keyV key ∨ (kd = 5 ∧ key = [])) ∧ ((kd = 2 ∧ 0 ≤ v ∧ v ≤ 999 ∧ old = 0) ∨ (kd = 4 ∧ 0 ≤ v ∧ v ≤ 999 ∧ -1 ≤ old ∧ old ≤ 999) ∨ (kd ≠ 2 ∧ kd ≠ 4 ∧ v = 0 ∧ old = 0))
instance (kd : Int) (key : List UInt8) (v old : Int) : Decidable (cmdV kd key v old) := by unfold cmdV; infer_instance
def wishV (kd : Int) (key : List UInt8) (v old : Int) : Prop := cmdV kd key v old ∧ kd ≠ 5
instance (kd : Int) (key : List UInt8) (v old : Int) : Decidable (wishV kd key v old) := by unfold wishV; infer_instance
def callerV (c : List S35) (sq : Int) (bz : Bool) (kd : Int) (key : List UInt8) (v old ca : Int) : Prop := cacheV c ∧ (0 ≤ sq ∧ sq ≤ 999) ∧ ((bz = true ∧ 1 ≤ sq ∧ wishV kd key v old ∧ 0 ≤ ca ∧ ca ≤ 200) ∨ (bz = false ∧ kd = 0 ∧ key = [] ∧ v = 0 ∧ old = 0 ∧ ca = 0))
theorem spec_CommandValid_ev (a0 : Int) (a1 : ByteArray) (a2 a3 : Int) : Ev (fun k => spec_CommandValid.f k a0 a1 a2 a3) (decide (cmdV a0 a1.toList a2 a3)) := by
  obtain ⟨K, hK⟩ := spec_KeyValid_ev a1
  refine ⟨K + 2, fun k hk => ?_⟩
  obtain ⟨m, rfl⟩ : ∃ m, k = m + 2 := ⟨k - 2, by omega⟩
  have hK2 := hK (m + 2) (by omega)
  simp only at hK2
  simp only [spec_CommandValid.f, spec_CommandValid.j0, spec_CommandValid.j1, hK2, l1In_eq, Option.bind_some, decide_eq_true_eq]
  unfold cmdV
  generalize a1.toList = l
  by_cases e1 : a0 = 1 <;> by_cases e2 : a0 = 2 <;> by_cases e3 : a0 = 3 <;> by_cases e4 : a0 = 4 <;> by_cases e5 : a0 = 5 <;> first | omega | skip
  all_goals (try subst a0)
  all_goals (by_cases k1 : keyV l <;> by_cases k2 : l = [] <;> by_cases k3 : (0 ≤ a2 ∧ a2 ≤ 999) <;> by_cases k4 : (-1 ≤ a3 ∧ a3 ≤ 999) <;> by_cases k5 : a3 = -1 <;> by_cases k6 : (0 ≤ a3 ∧ a3 ≤ 999) <;> first | omega | (simp [*]; done) | (simp [*]; omega) | (simp [*] <;> grind))
theorem spec_l25Wish_ev (a0 : Int) (a1 : ByteArray) (a2 a3 : Int) : Ev (fun k => spec_l25Wish.f k a0 a1 a2 a3) (decide (wishV a0 a1.toList a2 a3)) := by
  unfold spec_l25Wish.f
  refine Ev.bind (spec_CommandValid_ev a0 a1 a2 a3) (ev_ite (fun h => ev_ret ?_) (fun h => ev_ret (dec_f (fun h' => h (decide_eq_true h'.1)))))
  have h := of_decide_eq_true h
  unfold wishV
  by_cases e : a0 = 5 <;> simp [e, h]
theorem ev_pos {α : Type} {c : Prop} [Decidable c] {A B : Nat → Option α} {r : α} (h : c) (k : Ev A r) : Ev (fun k => if c then A k else B k) r := ev_ite (fun _ => k) (fun h' => absurd h h')
theorem ev_neg {α : Type} {c : Prop} [Decidable c] {A B : Nat → Option α} {r : α} (h : ¬ c) (k : Ev B r) : Ev (fun k => if c then A k else B k) r := ev_ite (fun h' => absurd h' h) (fun _ => k)
theorem ev_let {α β : Type} {v : α} {f : Nat → α → Option β} {r : β} (k : Ev (fun n => f n v) r) : Ev (fun n => (some v).bind (f n)) r := k
theorem spec_CallerValid_ev (c : List S35) (hl : (c.length : Int) ≤ 1048576) (sq : Int) (bz : Bool) (kd : Int) (key : ByteArray) (v old ca : Int) : EvB (fun k => spec_CallerValid.f k c sq bz kd key v old ca) (callerV c sq bz kd key.toList v old ca) := by
  unfold spec_CallerValid.f callerV
  refine evb_test (spec_CacheValid_ev c hl) (fun h1 => ?_) (fun h1 => EvB.of_no (ev_neg (by decide) (Ev.step (fun k => rfl) (Ev.now _))) (fun h => h1 h.1))
  have hq : ∀ b, (∃ r, Ev (fun k => spec_CallerValid.j0 k b c sq bz kd key v old ca) r ∧ (r = true ↔ b = false ∧ ((bz = true ∧ 1 ≤ sq ∧ wishV kd key.toList v old ∧ 0 ≤ ca ∧ ca ≤ 200) ∨ (bz = false ∧ kd = 0 ∧ key.toList = [] ∧ v = 0 ∧ old = 0 ∧ ca = 0)))) := by
    intro b
    cases b with
    | true => exact ⟨false, Ev.step (fun k => rfl) (Ev.now _), by simp⟩
    | false =>
      have hw := EvB.of_dec (spec_l25Wish_ev kd key v old)
      cases bz with
      | true =>
        by_cases h3 : sq ≥ 1
        · by_cases h4 : wishV kd key.toList v old
          · refine ⟨decide (0 ≤ ca ∧ ca ≤ 200), Ev.step (fun k => rfl) ?_, by simp [h4]; omega⟩
            simp only [spec_CallerValid.j0]
            exact ev_neg (by decide) (ev_pos trivial (ev_pos h3 (Ev.bind (hw.yes h4) (ev_pos rfl (Ev.bind (ev_con (l1In_eq _ _ _)) (Ev.now _))))))
          · refine ⟨false, Ev.step (fun k => rfl) ?_, by simp [h4]⟩
            simp only [spec_CallerValid.j0]
            exact ev_neg (by decide) (ev_pos trivial (ev_pos h3 (Ev.bind (hw.no h4) (ev_neg (by decide) (Ev.now _)))))
        · refine ⟨false, Ev.step (fun k => rfl) ?_, by simp; omega⟩
          simp only [spec_CallerValid.j0]
          exact ev_neg (by decide) (ev_pos trivial (ev_neg h3 (Ev.now _)))
      | false =>
        refine ⟨decide (kd = 0 ∧ key.toList = [] ∧ v = 0 ∧ old = 0 ∧ ca = 0), Ev.step (fun k => rfl) ?_, by simp⟩
        simp only [spec_CallerValid.j0]
        refine ev_neg (by decide) (ev_neg (by decide) (ev_ite (fun h => ev_ret ?_) (fun h => ev_ret ?_)))
        · simp at h
          by_cases e : ca = 0 <;> simp [h, e]
        · simp at h
          simp only [eq_comm (a := false), decide_eq_false_iff_not]
          exact fun h' => h h'.1 h'.2.1 h'.2.2.1 h'.2.2.2.1
  obtain ⟨r, h2, h3⟩ := hq (!decide (0 ≤ sq ∧ sq ≤ 999))
  refine ⟨r, ev_pos rfl (Ev.bind (ev_con (l1In_eq _ _ _)) h2), h3.trans ?_⟩
  simp [h1]
theorem rd_take_R (l : List S35) (n : Nat) (i : Int) (h0 : 0 ≤ i) (h1 : i < n) : rd_T35 (l.take n) i = rd_T35 l i := by
  unfold rd_T35
  rw [List.getD_eq_getElem?_getD, List.getD_eq_getElem?_getD, List.getElem?_take_of_lt (by omega)]
theorem impl_routePlace_ev (l : List S35) (hl : (l.length : Int) ≤ 1048576) (x : Int) : ∃ r, Ev (fun k => impl_routePlace.f k l x) r ∧ firstAt (fun j => (rd_T35 l j).f0 = x) l.length 0 r := by
  unfold impl_routePlace.f
  refine first_loop (g := fun k i => impl_routePlace.l0 k x l l.length i) (fun i h0 h1 => ?_) (Ev.step (fun k => rfl) (ev_ite (fun h => by omega) (fun _ => Ev.now _))) l.length 0 (by omega) (by omega)
  by_cases e : (rd_T35 l i).f0 = x
  · exact .inr ⟨e, Ev.step (fun k => rfl) (ev_ite (fun _ => ev_ite (fun _ => ev_ite (fun _ => ev_ite (fun _ => Ev.now _) (fun h => absurd e h)) (fun h => by omega)) (fun h => by omega)) (fun h => by omega))⟩
  · refine .inl ⟨e, fun r hr => Ev.step (fun k => rfl) (ev_ite (fun _ => ev_ite (fun _ => ev_ite (fun _ => ev_ite (fun h => absurd h e) (fun _ => ?_)) (fun h => by omega)) (fun h => by omega)) (fun h => by omega))⟩
    rw [w64 (by omega) (by omega)]
    exact hr
theorem shardNumber_eq (a : Int) : impl_shardNumber.f a = some (decide (0 ≤ a ∧ a ≤ 7)) := by
  unfold impl_shardNumber.f
  split
  · exact congrArg some (dec_iff (by omega))
  · exact congrArg some (dec_f (by omega))
theorem impl_numbersDiffer_ev (l : List S35) (hl : (l.length : Int) ≤ 1048576) : EvB (fun k => impl_numbersDiffer.f k l) (∀ i : Int, 0 ≤ i → i < l.length → apartV l i) := by
  unfold impl_numbersDiffer.f
  refine all_loop (g := fun k i => impl_numbersDiffer.l0 k l l l.length i) (n := l.length) (p := fun i => apartV l i) (fun i h0 h1 => ?_) (Ev.step (fun k => rfl) (ev_ite (fun h => by omega) (fun _ => Ev.now _))) l.length 0 (by omega) (by omega)
  by_cases c2 : 0 ≤ (rd_T35 l i).f0 ∧ (rd_T35 l i).f0 ≤ 7
  · have ht : (l.take i.toNat).length = i.toNat := by rw [List.length_take]; omega
    obtain ⟨q, hq, hq2⟩ := impl_routePlace_ev (l.take i.toNat) (by omega) (rd_T35 l i).f0
    rw [ht] at hq2
    rcases hq2 with ⟨k1, k2⟩ | ⟨k1, k2, k3, k4⟩
    · refine .inl ⟨⟨c2, fun j j0 j1 => by have : ¬ (rd_T35 (l.take i.toNat) j).f0 = (rd_T35 l i).f0 := k2 j j0 (by omega); rwa [rd_take_R l _ j j0 (by omega)] at this⟩, fun r hr => Ev.step (fun k => rfl) (ev_ite (fun _ => ev_ite (fun _ => ev_ite (fun _ => Ev.bind (ev_con (shardNumber_eq _)) (ev_ite (fun _ => ev_ite (fun _ => Ev.bind hq (ev_ite (fun h => by omega) (fun _ => ?_))) (fun h => by omega)) (fun h => absurd (decide_eq_true c2) h))) (fun h => by omega)) (fun h => by omega)) (fun h => by omega))⟩
      rw [w64 (by omega) (by omega)]
      exact hr
    · refine .inr ⟨fun h => ?_, Ev.step (fun k => rfl) (ev_ite (fun _ => ev_ite (fun _ => ev_ite (fun _ => Ev.bind (ev_con (shardNumber_eq _)) (ev_ite (fun _ => ev_ite (fun _ => Ev.bind hq (ev_ite (fun _ => Ev.now _) (fun h => by omega))) (fun h => by omega)) (fun h => absurd (decide_eq_true c2) h))) (fun h => by omega)) (fun h => by omega)) (fun h => by omega))⟩
      have k3 : (rd_T35 (l.take i.toNat) q).f0 = (rd_T35 l i).f0 := k3
      rw [rd_take_R l _ q k1 (by omega)] at k3
      exact h.2 q k1 (by omega) k3
  · exact .inr ⟨fun h => c2 h.1, Ev.step (fun k => rfl) (ev_ite (fun _ => ev_ite (fun _ => ev_ite (fun _ => Ev.bind (ev_con (shardNumber_eq _)) (ev_ite (fun h => absurd (of_decide_eq_true h) c2) (fun _ => Ev.now _))) (fun h => by omega)) (fun h => by omega)) (fun h => by omega))⟩
theorem bt_head (s : ByteArray) (h : 0 < s.size) : ∃ b l, s.toList = b :: l ∧ bt s 0 = (b.toNat : Int) := by
  obtain ⟨hh, hb⟩ := bt_list s 0 (by omega) (by omega)
  have hdrop := List.drop_eq_getElem_cons hh
  simp only [Int.toNat_zero, List.drop_zero] at hdrop
  exact ⟨_, _, hdrop, hb⟩
theorem impl_lettersOnly_ev (d : Nat) : ∀ s : ByteArray, s.size = d → d ≤ 100 → Ev (fun k => impl_lettersOnly.f k s) (decide (∀ b ∈ s.toList, 97 ≤ b.toNat ∧ b.toNat ≤ 122)) := by
  induction d with
  | zero =>
    intro s hs _
    have hn : s.toList = [] := List.length_eq_zero_iff.1 (by rw [size_list, hs])
    refine Ev.step (fun k => rfl) (ev_ite (fun h => ev_ret (dec_t ?_)) (fun h => absurd hn h))
    rw [hn]; intro b hb; cases hb
  | succ d ih =>
    intro s hs hle
    obtain ⟨c, l, hc, hb⟩ := bt_head s (by omega)
    have hex : (s.extract 1 s.size).toList = l := by
      rw [extract_list, List.take_of_length_le (by rw [size_list]; omega), hc, List.drop_one, List.tail_cons]
    have hl : l.length = d := by have := size_list s; rw [hc, List.length_cons] at this; omega
    refine Ev.step (fun k => rfl) (ev_ite (fun h => ?_) (fun h => ev_ite (fun _ => ev_ite (fun h1 => ev_ite (fun h2 => ev_ite (fun _ => ?_) (fun h3 => by omega)) (fun h2 => ev_ret (dec_f ?_))) (fun h1 => ev_ret (dec_f ?_))) (fun h1 => by omega)))
    · rw [hc] at h; cases h
    · refine ev_id (ev_eq (ih (s.extract 1 s.size) (by rw [← size_list, hex, hl]) (by omega)) (dec_iff ?_))
      rw [hex, hc]
      constructor
      · intro ha b hm
        rcases List.mem_cons.1 hm with rfl | hm
        · omega
        · exact ha b hm
      · intro ha b hm
        exact ha b (List.mem_cons_of_mem _ hm)
    · intro ha
      have := ha c (by rw [hc]; exact List.mem_cons_self)
      omega
    · intro ha
      have := ha c (by rw [hc]; exact List.mem_cons_self)
      omega
theorem impl_KeyValid_ev (s : ByteArray) : Ev (fun k => impl_KeyValid.f k s) (decide (keyV s.toList)) := by
  unfold impl_KeyValid.f
  have hs := size_list s
  refine ev_ite (fun h => ev_ret (dec_f (by unfold keyV; omega))) (fun h => ev_ite (fun h1 => ev_ret (dec_f (by unfold keyV; omega))) (fun h1 => ev_id ?_))
  refine ev_eq (impl_lettersOnly_ev s.size s rfl (by omega)) (dec_iff ?_)
  exact ⟨fun h' => ⟨by omega, by omega, h'⟩, fun h' => h'.2.2⟩
theorem less_low (y : List UInt8) (h : keyV y) : Op.bytesLess [97] y = true ↔ y ≠ [97] := by
  rcases y with _ | ⟨c, t⟩
  · exact absurd h keyV_nil
  have hc := h.2.2 c List.mem_cons_self
  rcases t with _ | ⟨d, t⟩
  · simp only [Op.bytesLess]
    have : (97 < c) ↔ c ≠ 97 := by
      constructor
      · intro h e; subst e; revert h; decide
      · intro h
        rw [UInt8.lt_iff_toNat_lt]
        have : c.toNat ≠ 97 := fun e => h (UInt8.toNat_inj.1 e)
        have : (97 : UInt8).toNat = 97 := rfl
        omega
    simpa using this
  · simp only [Op.bytesLess]
    by_cases e : c = 97
    · subst e; simp
    · have : (97 : UInt8) < c := by
        rw [UInt8.lt_iff_toNat_lt]
        have : c.toNat ≠ 97 := fun e' => e (UInt8.toNat_inj.1 e')
        have : (97 : UInt8).toNat = 97 := rfl
        omega
      simp [this]
theorem less_nil (y : List UInt8) (h : y ≠ []) : Op.bytesLess [] y = true := by
  cases y with
  | nil => exact absurd rfl h
  | cons => rfl
theorem low_list : ((⟨#[97]⟩ : ByteArray)).toList = [97] := by rw [ByteArray.toList_eq]
theorem impl_IntervalValid_ev (a b : ByteArray) : EvB (fun k => impl_IntervalValid.f k a b) (ivV a.toList b.toList) := by
  have ha := EvB.of_dec (impl_KeyValid_ev a)
  have hb := EvB.of_dec (impl_KeyValid_ev b)
  unfold impl_IntervalValid.f ivV impl_lowestKey.f
  refine evb_ite (fun ex => ?_) (fun ex => ?_)
  · simp only [if_pos ex, Option.bind_some, low_list, ex]
    generalize b.toList = y at *
    refine evb_ite (fun ey => evb_ret (by simp [ey])) (fun ey => evb_test hb (fun hk => evb_ite (fun _ => evb_ret ?_) (fun h => absurd rfl h)) (fun hk => evb_ite (fun h => by cases h) (fun _ => evb_ret ?_)))
    · rw [low_list, less_low y hk]
      simp [hk, ey, less_nil y ey]
    · simp [hk, ey]
  · simp only [if_neg ex, Option.bind_some]
    generalize a.toList = x at *
    generalize b.toList = y at *
    refine evb_test ha (fun hx => evb_ite (fun _ => evb_ite (fun ey => evb_ret ?_) (fun ey => evb_test hb (fun hk => evb_ite (fun _ => evb_ret ?_) (fun h => absurd rfl h)) (fun hk => evb_ite (fun h => by cases h) (fun _ => evb_ret ?_)))) (fun h => absurd rfl h)) (fun hx => evb_ite (fun h => by cases h) (fun _ => evb_ret ?_))
    all_goals simp [*]
theorem pig (m : Nat) : ∀ l : List Nat, l.Nodup → (∀ x ∈ l, x < m) → l.length ≤ m := by
  induction m with
  | zero => intro l _ h; cases l with
    | nil => exact Nat.le_refl _
    | cons a t => exact absurd (h a List.mem_cons_self) (by omega)
  | succ m ih =>
    intro l hn h
    by_cases hm : m ∈ l
    · have h1 := ih (l.erase m) (hn.erase m) (fun x hx => by
        have hx' := (hn.mem_erase_iff).1 hx
        have := h x hx'.2
        have := hx'.1
        omega)
      rw [List.length_erase_of_mem hm] at h1
      omega
    · have h1 := ih l hn (fun x hx => by
        have := h x hx
        have : x ≠ m := fun e => hm (e ▸ hx)
        omega)
      omega
theorem apart_eight (l : List S35) (h : ∀ i : Int, 0 ≤ i → i < l.length → apartV l i) : l.length ≤ 8 := by
  have hg : ∀ (i : Nat) (hi : i < l.length), rd_T35 l (i : Int) = l[i] := fun i hi => by
    unfold rd_T35
    rw [Int.toNat_natCast, List.getD_eq_getElem?_getD, List.getElem?_eq_getElem hi]
    rfl
  have h8 := pig 8 (l.map (fun y => y.f0.toNat)) (by
    rw [List.Nodup, List.pairwise_iff_getElem]
    intro i j hi hj hij
    rw [List.length_map] at hi hj
    simp only [List.getElem_map]
    have h1 := h j (by omega) (by omega)
    have h2 := h i (by omega) (by omega)
    have h3 := h1.2 i (by omega) (by omega)
    have h4 := h1.1
    have h5 := h2.1
    rw [hg i hi, hg j hj] at h3
    rw [hg j hj] at h4
    rw [hg i hi] at h5
    omega) (by
    intro x hx
    obtain ⟨y, hy, rfl⟩ := List.mem_map.1 hx
    obtain ⟨i, hi, rfl⟩ := List.mem_iff_getElem.1 hy
    have h1 := (h i (by omega) (by omega)).1
    rw [hg i hi] at h1
    omega)
  rwa [List.length_map] at h8
theorem impl_CacheValid_ev (l : List S35) (hl : (l.length : Int) ≤ 1048576) : EvB (fun k => impl_CacheValid.f k l) (cacheV l) := by
  unfold impl_CacheValid.f
  refine evb_ite (fun h => EvB.of_no (Ev.step (fun k => rfl) (Ev.now _)) (fun hc => ?_)) (fun h => ?_)
  · have := apart_eight l (fun i h0 h1 => (hc i h0 h1).2.1)
    omega
  refine evb_test (impl_numbersDiffer_ev l hl) (fun hn => ?_) (fun hn => EvB.of_no (Ev.step (fun k => rfl) (Ev.now _)) (fun hc => hn (fun i h0 h1 => (hc i h0 h1).2.1)))
  refine EvB.step (f := fun k => impl_CacheValid.l0 k l l l.length 0) (fun k => rfl) ?_
  refine (all_loop (g := fun k i => impl_CacheValid.l0 k l l l.length i) (n := l.length) (p := fun i => ivV (rd_T35 l i).f1.f0.toList (rd_T35 l i).f1.f1.toList ∧ joinV l i) (fun i h0 h1 => ?_) (Ev.step (fun k => rfl) (ev_ite (fun h => by omega) (fun _ => Ev.now _))) l.length 0 (by omega) (by omega)).iff ⟨fun h' i h0 h1 => ⟨(h' i h0 h1).1, hn i h0 h1, (h' i h0 h1).2⟩, fun h' i h0 h1 => ⟨(h' i h0 h1).1, (h' i h0 h1).2.2⟩⟩
  have hI := impl_IntervalValid_ev (rd_T35 l i).f1.f0 (rd_T35 l i).f1.f1
  by_cases c1 : ivV (rd_T35 l i).f1.f0.toList (rd_T35 l i).f1.f1.toList
  · by_cases c4 : i > 0
    · have ew : wrap64 (i - 1) = i - 1 := w64 (by omega) (by omega)
      have hs : ∀ r, Ev (fun k => if (rd_T35 l (i - 1)).f1.f1.toList = ([] : List UInt8) then some false else if Op.bytesLess (rd_T35 l i).f1.f0.toList (rd_T35 l (i - 1)).f1.f1.toList = true then some false else impl_CacheValid.l0 k l l l.length (i + 1)) r → Ev (fun k => impl_CacheValid.l0 k l l l.length i) r := fun r hr => Ev.step (fun k => rfl) (ev_ite (fun _ => ev_ite (fun _ => ev_ite (fun _ => Ev.bind (hI.yes c1) (ev_ite (fun _ => ev_ite (fun _ => by
        simp only [ew]
        rw [w64 (x := i + 1) (by omega) (by omega)]
        exact ev_ite (fun _ => ev_ite (fun _ => hr) (fun h => by omega)) (fun h => by omega)) (fun h => absurd c4 h)) (fun h => absurd rfl h))) (fun h => by omega)) (fun h => by omega)) (fun h => by omega))
      by_cases c5 : (rd_T35 l (i - 1)).f1.f1.toList = []
      · exact .inr ⟨fun h => (h.2 c4).1 c5, hs _ (ev_ite (fun _ => Ev.now _) (fun h => absurd c5 h))⟩
      · by_cases c6 : Op.bytesLess (rd_T35 l i).f1.f0.toList (rd_T35 l (i - 1)).f1.f1.toList = true
        · exact .inr ⟨fun h => (h.2 c4).2 c6, hs _ (ev_ite (fun h => absurd h c5) (fun _ => ev_ite (fun _ => Ev.now _) (fun h => absurd c6 h)))⟩
        · exact .inl ⟨⟨c1, fun _ => ⟨c5, c6⟩⟩, fun r hr => hs _ (ev_ite (fun h => absurd h c5) (fun _ => ev_ite (fun h => absurd h c6) (fun _ => hr)))⟩
    · refine .inl ⟨⟨c1, fun h => absurd h c4⟩, fun r hr => Ev.step (fun k => rfl) (ev_ite (fun _ => ev_ite (fun _ => ev_ite (fun _ => Ev.bind (hI.yes c1) (ev_ite (fun _ => ev_ite (fun h => absurd h c4) (fun _ => ?_)) (fun h => absurd rfl h))) (fun h => by omega)) (fun h => by omega)) (fun h => by omega))⟩
      rw [w64 (by omega) (by omega)]
      exact hr
  · exact .inr ⟨fun h => c1 h.1, Ev.step (fun k => rfl) (ev_ite (fun _ => ev_ite (fun _ => ev_ite (fun _ => Ev.bind (hI.no c1) (ev_ite (fun h => by cases h) (fun _ => Ev.now _))) (fun h => by omega)) (fun h => by omega)) (fun h => by omega))⟩
theorem valueValid_eq (a : Int) : impl_valueValid.f a = some (decide (0 ≤ a ∧ a ≤ 999)) := by
  unfold impl_valueValid.f
  split
  · exact congrArg some (dec_iff (by omega))
  · exact congrArg some (dec_f (by omega))
theorem impl_CommandValid_ev (a0 : Int) (a1 : ByteArray) (a2 a3 : Int) : Ev (fun k => impl_CommandValid.f k a0 a1 a2 a3) (decide (cmdV a0 a1.toList a2 a3)) := by
  obtain ⟨K, hK⟩ := impl_KeyValid_ev a1
  refine ⟨K + 2, fun k hk => ?_⟩
  obtain ⟨m, rfl⟩ : ∃ m, k = m + 2 := ⟨k - 2, by omega⟩
  have hK1 := hK (m + 1) (by omega)
  simp only at hK1
  simp only [impl_CommandValid.f, impl_CommandValid.j0, impl_CommandValid.j1, hK1, valueValid_eq, Option.bind_some, decide_eq_true_eq]
  unfold cmdV
  generalize a1.toList = l
  by_cases e0 : 1 ≤ a0 ∧ a0 ≤ 5
  · by_cases e1 : a0 = 1 <;> by_cases e2 : a0 = 2 <;> by_cases e3 : a0 = 3 <;> by_cases e4 : a0 = 4 <;> by_cases e5 : a0 = 5 <;> first | omega | skip
    all_goals (try subst a0)
    all_goals (by_cases k1 : keyV l <;> by_cases k2 : l = [] <;> by_cases k3 : (0 ≤ a2 ∧ a2 ≤ 999) <;> by_cases k4 : (-1 ≤ a3 ∧ a3 ≤ 999) <;> by_cases k5 : a3 = -1 <;> by_cases k6 : (0 ≤ a3 ∧ a3 ≤ 999) <;> first | omega | (simp [*]; done) | (simp [*]; omega) | (simp [*] <;> grind))
  · by_cases e1 : a0 < 1 <;> simp [e1] <;> grind
theorem impl_wishValid_ev (a0 : Int) (a1 : ByteArray) (a2 a3 : Int) : Ev (fun k => impl_wishValid.f k a0 a1 a2 a3) (decide (wishV a0 a1.toList a2 a3)) := by
  unfold impl_wishValid.f
  refine Ev.bind (impl_CommandValid_ev a0 a1 a2 a3) (ev_ite (fun h => ev_ret ?_) (fun h => ev_ret (dec_f (fun h' => h (decide_eq_true h'.1)))))
  have h := of_decide_eq_true h
  unfold wishV
  by_cases e : a0 = 5 <;> simp [e, h]
theorem timeValid_eq (a : Int) : impl_timeValid.f a = some (decide (0 ≤ a ∧ a ≤ 200)) := by
  unfold impl_timeValid.f
  split
  · exact congrArg some (dec_iff (by omega))
  · exact congrArg some (dec_f (by omega))
theorem impl_CallerValid_ev (c : List S35) (hl : (c.length : Int) ≤ 1048576) (sq : Int) (bz : Bool) (kd : Int) (key : ByteArray) (v old ca : Int) : EvB (fun k => impl_CallerValid.f k c sq bz kd key v old ca) (callerV c sq bz kd key.toList v old ca) := by
  unfold impl_CallerValid.f callerV
  refine evb_test (impl_CacheValid_ev c hl) (fun h1 => ?_) (fun h1 => EvB.of_no (ev_neg (by decide) (Ev.step (fun k => rfl) (Ev.now _))) (fun h => h1 h.1))
  have hq : ∀ b, (∃ r, Ev (fun k => impl_CallerValid.j0 k b c sq bz kd key v old ca) r ∧ (r = true ↔ b = false ∧ ((bz = true ∧ 1 ≤ sq ∧ wishV kd key.toList v old ∧ 0 ≤ ca ∧ ca ≤ 200) ∨ (bz = false ∧ kd = 0 ∧ key.toList = [] ∧ v = 0 ∧ old = 0 ∧ ca = 0)))) := by
    intro b
    cases b with
    | true => exact ⟨false, Ev.step (fun k => rfl) (Ev.now _), by simp⟩
    | false =>
      have hw := EvB.of_dec (impl_wishValid_ev kd key v old)
      cases bz with
      | true =>
        by_cases h3 : sq ≥ 1
        · by_cases h4 : wishV kd key.toList v old
          · refine ⟨decide (0 ≤ ca ∧ ca ≤ 200), Ev.step (fun k => rfl) ?_, by simp [h4]; omega⟩
            simp only [impl_CallerValid.j0]
            exact ev_neg (by decide) (ev_pos trivial (ev_pos h3 (Ev.bind (hw.yes h4) (ev_pos rfl (Ev.bind (ev_con (timeValid_eq _)) (Ev.now _))))))
          · refine ⟨false, Ev.step (fun k => rfl) ?_, by simp [h4]⟩
            simp only [impl_CallerValid.j0]
            exact ev_neg (by decide) (ev_pos trivial (ev_pos h3 (Ev.bind (hw.no h4) (ev_neg (by decide) (Ev.now _)))))
        · refine ⟨false, Ev.step (fun k => rfl) ?_, by simp; omega⟩
          simp only [impl_CallerValid.j0]
          exact ev_neg (by decide) (ev_pos trivial (ev_neg h3 (Ev.now _)))
      | false =>
        refine ⟨decide (kd = 0 ∧ key.toList = [] ∧ v = 0 ∧ old = 0 ∧ ca = 0), Ev.step (fun k => rfl) ?_, by simp⟩
        simp only [impl_CallerValid.j0]
        refine ev_neg (by decide) (ev_neg (by decide) (ev_ite (fun h => ev_ret ?_) (fun h => ev_ret ?_)))
        · simp at h
          by_cases e : ca = 0 <;> simp [h, e]
        · simp at h
          simp only [eq_comm (a := false), decide_eq_false_iff_not]
          exact fun h' => h h'.1 h'.2.1 h'.2.2.1 h'.2.2.2.1
  by_cases hs : sq < 0
  · obtain ⟨r, h2, h3⟩ := hq true
    refine ⟨r, ev_pos rfl (ev_pos hs h2), h3.trans ?_⟩
    simp [h1]; omega
  · obtain ⟨r, h2, h3⟩ := hq (decide (sq > 999))
    refine ⟨r, ev_pos rfl (ev_neg hs h2), h3.trans ?_⟩
    simp [h1]; omega
theorem copy_eq (l : List S35) (hl : (l.length : Int) ≤ 1048576) : impl_Route.f l = some l := by
  unfold impl_Route.f
  rw [if_pos (by simp only [List.length_nil]; omega)]
  rfl
def zeroCaller (b : Bool) : List S35 × Int × Bool × Int × ByteArray × Int × Int × Int × Bool := ([], 0, false, 0, (⟨#[]⟩ : ByteArray), 0, 0, 0, b)
def giveR (c : List S35) (sq : Int) (bz : Bool) (kd : Int) (key : ByteArray) (v old ca : Int) (r : List S35 × Int × Bool × Int × ByteArray × Int × Int × Int × Bool) : Prop := (callerV c sq bz kd key.toList v old ca → r = (c, sq, false, 0, (⟨#[]⟩ : ByteArray), 0, 0, 0, bz)) ∧ (¬ callerV c sq bz kd key.toList v old ca → r = zeroCaller false)
theorem giveR_unique {c : List S35} {sq : Int} {bz : Bool} {kd : Int} {key : ByteArray} {v old ca : Int} {r s : List S35 × Int × Bool × Int × ByteArray × Int × Int × Int × Bool} (h : giveR c sq bz kd key v old ca r) (h' : giveR c sq bz kd key v old ca s) : r = s := by
  by_cases hc : callerV c sq bz kd key.toList v old ca
  · rw [h.1 hc, h'.1 hc]
  · rw [h.2 hc, h'.2 hc]
theorem spec_GiveUp_ev (c : List S35) (hl : (c.length : Int) ≤ 1048576) (sq : Int) (bz : Bool) (kd : Int) (key : ByteArray) (v old ca : Int) : ∃ r, Ev (fun k => spec_GiveUp.f k c sq bz kd key v old ca) r ∧ giveR c sq bz kd key v old ca r := by
  have hv := spec_CallerValid_ev c hl sq bz kd key v old ca
  unfold spec_GiveUp.f
  by_cases h1 : callerV c sq bz kd key.toList v old ca
  · refine ⟨(c, sq, false, 0, (⟨#[]⟩ : ByteArray), 0, 0, 0, bz), Ev.bind (hv.yes h1) (ev_pos rfl (ev_let ?_)), fun _ => rfl, fun h => absurd h1 h⟩
    simp only [List.nil_append, List.length_nil, Nat.zero_add]
    exact ev_pos (by omega) (Ev.now _)
  · exact ⟨zeroCaller false, Ev.bind (hv.no h1) (ev_neg (by decide) (Ev.now _)), fun h => absurd h h1, fun _ => rfl⟩
theorem impl_GiveUp_ev (c : List S35) (hl : (c.length : Int) ≤ 1048576) (sq : Int) (bz : Bool) (kd : Int) (key : ByteArray) (v old ca : Int) : ∃ r, Ev (fun k => impl_GiveUp.f k c sq bz kd key v old ca) r ∧ giveR c sq bz kd key v old ca r := by
  have hv := impl_CallerValid_ev c hl sq bz kd key v old ca
  have hcp : impl_Route.f c = some c := copy_eq c hl
  have e1 : impl_idleCaller.f c sq bz kd key v old ca = some (c, sq, false, 0, (⟨#[]⟩ : ByteArray), 0, 0, 0) := by unfold impl_idleCaller.f; rw [hcp]; rfl
  have e2 : impl_copyCaller.f c sq bz kd key v old ca = some (c, sq, bz, kd, key, v, old, ca) := by unfold impl_copyCaller.f; rw [hcp]; rfl
  unfold impl_GiveUp.f
  by_cases h1 : callerV c sq bz kd key.toList v old ca
  · refine ⟨(c, sq, false, 0, (⟨#[]⟩ : ByteArray), 0, 0, 0, bz), Ev.bind (hv.yes h1) (ev_pos rfl ?_), fun _ => rfl, fun h => absurd h1 h⟩
    refine ev_ite (fun hb => Ev.bind (ev_con e1) (ev_ret ?_)) (fun hb => Ev.bind (ev_con e2) (ev_ret ?_))
    · simp [hb]
    · rcases h1.2.2 with h | ⟨h2, h3, h4, h5, h6, h7⟩
      · exact absurd h.1 hb
      · have hk : key = (⟨#[]⟩ : ByteArray) := bytes_ext (by rw [h4, ByteArray.toList_eq])
        simp [h2, h3, h5, h6, h7, hk]
  · exact ⟨zeroCaller false, Ev.bind (hv.no h1) (ev_neg (by decide) (Ev.now _)), fun h => absurd h h1, fun _ => rfl⟩
theorem sameRoutes_refl (l : List S35) (hl : (l.length : Int) ≤ 1048576) : Ev (fun k => laws_sameRoutes.f k l l) true := by
  unfold laws_sameRoutes.f
  refine ev_ite (fun _ => ?_) (fun h => absurd rfl h)
  refine (all_loop (g := fun k i => laws_sameRoutes.l0 k l l i) (n := l.length) (p := fun _ => True) (fun i h0 h1 => .inl ⟨trivial, fun r hr => ?_⟩) (Ev.step (fun k => rfl) (ev_ite (fun h => by omega) (fun _ => Ev.now _))) l.length 0 (by omega) (by omega)).yes (fun _ _ _ => trivial)
  refine Ev.step (fun k => rfl) (ev_ite (fun _ => ev_ite (fun _ => ev_ite (fun _ => ev_ite (fun h => by simp at h) (fun _ => ?_)) (fun h => by omega)) (fun h => by omega)) (fun h => by omega))
  rw [w64 (by omega) (by omega)]
  exact hr
theorem cache_nil : cacheV ([] : List S35) := fun i h0 h1 => by simp at h1; omega
theorem open_ev (b : List Int) : spec_l20Open.f b = some (b.take 2000, 0) := by
  unfold spec_l20Open.f
  by_cases h : (b.length : Int) > 2000
  · rw [if_pos h, if_pos (by omega)]
  · rw [if_neg h, List.take_of_length_le (by omega)]
theorem take_ok (b : List Int) (hb : ∀ x ∈ b, (Lit.int .u8 x).wf = true) : codeOk (b.take 2000) := by
  refine ⟨by rw [List.length_take]; omega, fun x hx => ?_⟩
  have := hb x (List.mem_of_mem_take hx)
  simpa [Lit.wf, IntKind.wrap, IntKind.bits, IntKind.signed, IntKind.min, IntKind.max] using this
theorem alive_ev : Ev (fun k => laws_alive.f k) true := by
  refine ⟨100, fun k hk => ?_⟩
  obtain ⟨m, rfl⟩ : ∃ m, k = m + 100 := ⟨k - 100, by omega⟩
  have hm := @laws_alive.mono
  have h0 : laws_alive.f 100 = some true := by decide +kernel
  clear hk
  induction m with
  | zero => exact h0
  | succ m ih => rw [show m + 1 + 100 = (m + 100) + 1 by omega]; exact hm _ _ ih
theorem DrawGiveUp_tq {l : List Int} (hw : ∀ x ∈ l, (Lit.int .u8 x).wf = true) : TQ (fun k => spec_DrawGiveUp.f k l) (fun r => (r.1.length : Int) ≤ 8) := by
  have hb := take_ok l hw
  unfold spec_DrawGiveUp.f
  simp only [open_ev, Option.bind_some]
  refine tq_bind (l20Client_tq hb _ _ (by omega) (by omega)) ?_
  rintro ⟨z0, z1, z2, z3, z4, z5, z6, z7, z8⟩ hq
  exact tq_ret hq.1
theorem sameClient_refl (c : List S35) (hl : (c.length : Int) ≤ 1048576) (sq : Int) (bz : Bool) (kd : Int) (key : ByteArray) (v old ca : Int) : Ev (fun k => laws_sameClient.f k c sq bz kd key v old ca c sq bz kd key v old ca) true := by
  unfold laws_sameClient.f
  refine Ev.bind (sameRoutes_refl c hl) (ev_pos rfl (ev_pos rfl (ev_pos (by simp) (ev_pos (by simp) (ev_ret ?_)))))
  simp
theorem FnGiveUp : laws_FnGiveUp.Pure := by
  intro l _ _ hw
  refine ev_rounds ?_
  unfold laws_FnGiveUp.f
  refine ev_ite (fun _ => Ev.now _) (fun _ => ?_)
  obtain ⟨⟨c, sq, bz, kd, key, v, old, ca⟩, hy, hn⟩ := DrawGiveUp_tq hw
  dsimp only at hn
  obtain ⟨t, h1, h2⟩ := spec_GiveUp_ev c (by omega) sq bz kd key v old ca
  obtain ⟨t', h1', h2'⟩ := impl_GiveUp_ev c (by omega) sq bz kd key v old ca
  obtain rfl := giveR_unique h2 h2'
  obtain ⟨c', sq', b', hb', hk', hc', hs'⟩ : ∃ c' sq' b', t = (c', sq', false, 0, (⟨#[]⟩ : ByteArray), 0, 0, 0, b') ∧ callerV c' sq' false 0 [] 0 0 0 ∧ (c'.length : Int) ≤ 8 ∧ (callerV c sq bz kd key.toList v old ca → c' = c ∧ sq' = sq) := by
    by_cases hc : callerV c sq bz kd key.toList v old ca
    · exact ⟨c, sq, bz, h2.1 hc, ⟨hc.1, hc.2.1, .inr ⟨rfl, rfl, rfl, rfl, rfl, rfl⟩⟩, hn, fun _ => ⟨rfl, rfl⟩⟩
    · exact ⟨[], 0, false, h2.2 hc, ⟨cache_nil, by omega, .inr ⟨rfl, rfl, rfl, rfl, rfl, rfl⟩⟩, by decide, fun h => absurd h hc⟩
  subst hb'
  have e0 : (⟨#[]⟩ : ByteArray).toList = [] := by rw [ByteArray.toList_eq]
  refine Ev.bind hy (Ev.bind h1' (Ev.bind h1 (Ev.bind (sameClient_refl c' (by omega) _ _ _ _ _ _ _) (ev_pos rfl (Ev.step (fun k => rfl) ?_)))))
  dsimp only
  simp only [laws_FnGiveUp.j0, bne_self_eq_false]
  obtain ⟨u, u1, u2⟩ := impl_GiveUp_ev c' (by omega) sq' false 0 (⟨#[]⟩ : ByteArray) 0 0 0
  rw [← e0] at hk'
  have e := u2.1 hk'
  subst e
  refine ev_neg (by decide) (Ev.bind u1 (Ev.bind ((impl_CallerValid_ev c' (by omega) sq' false 0 (⟨#[]⟩ : ByteArray) 0 0 0).yes hk') (ev_pos rfl (ev_neg (by decide) (ev_neg (by simp) (ev_test (impl_CallerValid_ev c (by omega) sq bz kd key v old ca) (fun hv => ?_) (fun _ => ev_neg (by decide) (ev_id alive_ev))))))))
  obtain ⟨ec, es⟩ := hs' hv
  subst ec
  subst es
  exact ev_pos rfl (Ev.bind (sameRoutes_refl c' (by omega)) (ev_pos rfl (ev_pos rfl (ev_id alive_ev))))

end Go.Proofs.Ytkjkokljgbpbbaa.Pure
