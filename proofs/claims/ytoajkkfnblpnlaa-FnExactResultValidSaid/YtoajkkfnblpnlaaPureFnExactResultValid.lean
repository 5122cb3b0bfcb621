/- The law FnExactResultValid as a statement over numbers and lists alone: it comes to true at every input; under no condition. -/
import Derived.Test.YtoajkkfnblpnlaaPFnExactResultValidx
import Derived.Laws.Strings
set_option linter.unusedVariables false
set_option linter.unusedSimpArgs false
namespace Go.Proofs.Ytoajkkfnblpnlaa.Pure
open Go.RowKit Go.Proofs.Ytoajkkfnblpnlaa.PFnExactResultValid Go.Proofs.YtoajkkfnblpnlaaW.PrintWords Go.Proofs.YtoajkkfnblpnlaaW.PrintLast Go.Proofs.YtoajkkfnblpnlaaW.PrintMore

theorem ev_ite {α : Type} {c : Prop} [Decidable c] {A B : Nat → Option α} {r : α} (h1 : c → Ev A r) (h2 : ¬ c → Ev B r) : Ev (fun k => if c then A k else B k) r := by
  by_cases h : c
  · simpa only [if_pos h] using h1 h
  · simpa only [if_neg h] using h2 h
theorem ev_ret {α : Type} {v r : α} (h : v = r) : Ev (fun _ => some v) r := by subst h; exact Ev.now _
theorem ev_con {α : Type} {o : Option α} {r : α} (h : o = some r) : Ev (fun _ => o) r := by subst h; exact Ev.now _
theorem ev_eq {α : Type} {g : Nat → Option α} {a b : α} (h : Ev g a) (e : a = b) : Ev g b := e ▸ h
theorem ev_id {α : Type} {g : Nat → Option α} {r : α} (h : Ev g r) : Ev (fun k => (g k).bind fun t => some t) r := h.congr (fun k => by cases g k <;> rfl)
theorem ev_rounds {α : Type} {g : Nat → Option α} {r : α} (h : Ev g r) : ∃ k, g k = some r := h.rounds
theorem ev_two {α β : Type} {g : Nat → Option α} {f : Nat → Option β} {a : α} {b : β} (h : Ev g a) (h' : Ev f b) : ∃ K, ∀ k, K ≤ k → g k = some a ∧ f k = some b := by
  obtain ⟨K, h⟩ := h
  obtain ⟨K', h'⟩ := h'
  exact ⟨max K K', fun k hk => ⟨h k (by omega), h' k (by omega)⟩⟩
theorem dec_iff {p q : Prop} [Decidable p] [Decidable q] (h : p ↔ q) : decide p = decide q := by simp [h]
theorem dec_t {p : Prop} [Decidable p] (h : p) : true = decide p := (decide_eq_true h).symm
theorem dec_f {p : Prop} [Decidable p] (h : ¬ p) : false = decide p := (decide_eq_false h).symm
/-- 64 bits hold it. -/
theorem w64 {x : Int} (h0 : -9223372036854775808 ≤ x) (h1 : x ≤ 9223372036854775807) : wrap64 x = x := by unfold wrap64; omega

theorem bt_list (s : ByteArray) (i : Int) (h0 : 0 ≤ i) (h : i < s.size) : ∃ hh : i.toNat < s.toList.length, bt s i = ((s.toList[i.toNat]'hh).toNat : Int) := by
  have hl : s.toList.length = s.size := by rw [ByteArray.toList_eq, Array.length_toList]; rfl
  have hh : i.toNat < s.size := by omega
  refine ⟨by omega, ?_⟩
  unfold bt
  rw [dif_pos hh]
  have : s[i.toNat]'hh = s.toList[i.toNat]'(by omega) := by simp only [ByteArray.toList_eq]; rfl
  rw [this]
theorem size_list (s : ByteArray) : s.toList.length = s.size := by rw [ByteArray.toList_eq, Array.length_toList]; rfl
theorem extract_list (s : ByteArray) (a b : Nat) : (s.extract a b).toList = (s.toList.take b).drop a := by
  rw [ByteArray.toList_eq, ByteArray.toList_eq, ByteArray.data_extract, Array.toList_extract]
  simp [List.extract, List.drop_take]
theorem bytes_ext {a b : ByteArray} (h : a.toList = b.toList) : a = b := by
  rw [ByteArray.toList_eq, ByteArray.toList_eq] at h
  cases a; cases b
  simp only [ByteArray.mk.injEq]
  exact Array.toList_inj.1 h

/-- A valid key. -/
def keyV (l : List UInt8) : Prop := 1 ≤ l.length ∧ l.length ≤ 4 ∧ ∀ b ∈ l, 97 ≤ b.toNat ∧ b.toNat ≤ 122
instance (l : List UInt8) : Decidable (keyV l) := by unfold keyV; infer_instance

def cmdV (kd : Int) (key : List UInt8) (v old : Int) : Prop :=
  (1 ≤ kd ∧ kd ≤ 5) ∧ (keyV key ∨ (kd = 5 ∧ key = [])) ∧ ((kd = 2 ∧ 0 ≤ v ∧ v ≤ 999 ∧ old = 0) ∨ (kd = 4 ∧ 0 ≤ v ∧ v ≤ 999 ∧ -1 ≤ old ∧ old ≤ 999) ∨ (kd ≠ 2 ∧ kd ≠ 4 ∧ v = 0 ∧ old = 0))
instance (kd : Int) (key : List UInt8) (v old : Int) : Decidable (cmdV kd key v old) := by unfold cmdV; infer_instance

def wishV (kd : Int) (key : List UInt8) (v old : Int) : Prop := cmdV kd key v old ∧ kd ≠ 5
instance (kd : Int) (key : List UInt8) (v old : Int) : Decidable (wishV kd key v old) := by unfold wishV; infer_instance

def resV (cl sq kd : Int) (key : List UInt8) (v old rep ca re : Int) : Prop := (1 ≤ cl ∧ cl ≤ 3) ∧ (1 ≤ sq ∧ sq ≤ 999) ∧ wishV kd key v old ∧ (-4 ≤ rep ∧ rep ≤ 999) ∧ (0 ≤ re ∧ re ≤ 200) ∧ 0 ≤ ca ∧ ca ≤ re
instance (cl sq kd : Int) (key : List UInt8) (v old rep ca re : Int) : Decidable (resV cl sq kd key v old rep ca re) := by unfold resV; infer_instance

theorem l1In_eq (a b c : Int) : spec_l1In.f a b c = some (decide (b ≤ a ∧ a ≤ c)) := by
  unfold spec_l1In.f
  split <;> rename_i h
  · exact congrArg some (dec_iff (by omega))
  · exact congrArg some (dec_f (by omega))

theorem spec_KeyValid_l0 (s : ByteArray) (hs : s.size ≤ 4) (d : Nat) : ∀ i : Int, 0 ≤ i → (s.size : Int) - i = d → Ev (fun k => spec_KeyValid.l0 k s i) (decide (∀ b ∈ s.toList.drop i.toNat, 97 ≤ b.toNat ∧ b.toNat ≤ 122)) := by
  induction d with
  | zero =>
    intro i h0 hd
    refine Ev.step (fun k => rfl) (ev_ite (fun h => by omega) (fun h => ev_ret (dec_t ?_)))
    rw [List.drop_of_length_le (by rw [size_list]; omega)]
    intro b hb; cases hb
  | succ d ih =>
    intro i h0 hd
    obtain ⟨hh, hb⟩ := bt_list s i h0 (by omega)
    have hdrop := List.drop_eq_getElem_cons hh
    refine Ev.step (fun k => rfl) (ev_ite (fun h => ev_ite (fun _ => ev_ite (fun h1 => ev_ret (dec_f ?_)) (fun h1 => ev_ite (fun h2 => ev_ret (dec_f ?_)) (fun h2 => ?_))) (fun h1 => by omega)) (fun h => by omega))
    · intro ha
      have := ha _ (by rw [hdrop]; exact List.mem_cons_self)
      omega
    · intro ha
      have := ha _ (by rw [hdrop]; exact List.mem_cons_self)
      omega
    · rw [w64 (by omega) (by omega)]
      refine ev_eq (ih (i + 1) (by omega) (by omega)) (dec_iff ?_)
      rw [hdrop, show (i + 1).toNat = i.toNat + 1 by omega]
      constructor
      · intro ha b hm
        rcases List.mem_cons.1 hm with rfl | hm
        · omega
        · exact ha b hm
      · intro ha b hm
        exact ha b (List.mem_cons_of_mem _ hm)
theorem spec_KeyValid_ev (s : ByteArray) : Ev (fun k => spec_KeyValid.f k s) (decide (keyV s.toList)) := by
  unfold spec_KeyValid.f
  have hs := size_list s
  simp only [l1In_eq, Option.bind_some, decide_eq_true_eq]
  refine ev_ite (fun h => ?_) (fun h => ev_ret (dec_f (by unfold keyV; omega)))
  refine ev_eq (spec_KeyValid_l0 s (by omega) s.size 0 (by omega) (by omega)) (dec_iff ?_)
  simp only [Int.toNat_zero, List.drop_zero]
  exact ⟨fun h' => ⟨by omega, by omega, h'⟩, fun h' => h'.2.2⟩

theorem spec_CommandValid_ev (a0 : Int) (a1 : ByteArray) (a2 a3 : Int) : Ev (fun k => spec_CommandValid.f k a0 a1 a2 a3) (decide (cmdV a0 a1.toList a2 a3)) := by
  obtain ⟨K, hK⟩ := spec_KeyValid_ev a1
  refine ⟨K + 2, fun k hk => ?_⟩
  obtain ⟨m, rfl⟩ : ∃ m, k = m + 2 := ⟨k - 2, by omega⟩
  have hK2 := hK (m + 2) (by omega)
  simp only at hK2
  simp only [spec_CommandValid.f, spec_CommandValid.j0, spec_CommandValid.j1, hK2, l1In_eq, Option.bind_some, decide_eq_true_eq]
  unfold cmdV
  generalize a1.toList = l
  by_cases e1 : a0 = 1 <;> by_cases e2 : a0 = 2 <;> by_cases e3 : a0 = 3 <;> by_cases e4 : a0 = 4 <;> by_cases e5 : a0 = 5 <;> first | omega | skip
  all_goals (try subst a0)
  all_goals (by_cases k1 : keyV l <;> by_cases k2 : l = [] <;> by_cases k3 : (0 ≤ a2 ∧ a2 ≤ 999) <;> by_cases k4 : (-1 ≤ a3 ∧ a3 ≤ 999) <;> by_cases k5 : a3 = -1 <;> by_cases k6 : (0 ≤ a3 ∧ a3 ≤ 999) <;> first | omega | (simp [*]; done) | (simp [*]; omega) | (simp [*] <;> grind))

theorem spec_l25Wish_ev (a0 : Int) (a1 : ByteArray) (a2 a3 : Int) : Ev (fun k => spec_l25Wish.f k a0 a1 a2 a3) (decide (wishV a0 a1.toList a2 a3)) := by
  unfold spec_l25Wish.f
  refine Ev.bind (spec_CommandValid_ev a0 a1 a2 a3) (ev_ite (fun h => ev_ret ?_) (fun h => ev_ret (dec_f (fun h' => h (decide_eq_true h'.1)))))
  have h := of_decide_eq_true h
  unfold wishV
  by_cases e : a0 = 5 <;> simp [e, h]

theorem spec_ResultValid_ev (a0 a1 a2 : Int) (a3 : ByteArray) (a4 a5 a6 a7 a8 : Int) : Ev (fun k => spec_ResultValid.f k a0 a1 a2 a3 a4 a5 a6 a7 a8) (decide (resV a0 a1 a2 a3.toList a4 a5 a6 a7 a8)) := by
  obtain ⟨K, hK⟩ := spec_l25Wish_ev a2 a3 a4 a5
  refine ⟨K, fun k hk => ?_⟩
  have hK := hK k hk
  simp only at hK
  simp only [spec_ResultValid.f, hK, l1In_eq, Option.bind_some, decide_eq_true_eq]
  unfold resV
  by_cases k1 : wishV a2 a3.toList a4 a5 <;> by_cases k2 : 1 ≤ a0 ∧ a0 ≤ 3 <;> by_cases k3 : 1 ≤ a1 ∧ a1 ≤ 999 <;> by_cases k4 : -4 ≤ a6 ∧ a6 ≤ 999 <;> by_cases k5 : 0 ≤ a8 ∧ a8 ≤ 200 <;> simp [*]

theorem bt_head (s : ByteArray) (h : 0 < s.size) : ∃ b l, s.toList = b :: l ∧ bt s 0 = (b.toNat : Int) := by
  obtain ⟨hh, hb⟩ := bt_list s 0 (by omega) (by omega)
  have hdrop := List.drop_eq_getElem_cons hh
  simp only [Int.toNat_zero, List.drop_zero] at hdrop
  exact ⟨_, _, hdrop, hb⟩
theorem impl_lettersOnly_ev (d : Nat) : ∀ s : ByteArray, s.size = d → d ≤ 100 → Ev (fun k => impl_lettersOnly.f k s) (decide (∀ b ∈ s.toList, 97 ≤ b.toNat ∧ b.toNat ≤ 122)) := by
  induction d with
  | zero =>
    intro s hs _
    have hn : s.toList = [] := List.length_eq_zero_iff.1 (by rw [size_list, hs])
    refine Ev.step (fun k => rfl) (ev_ite (fun h => ev_ret (dec_t ?_)) (fun h => absurd hn h))
    rw [hn]; intro b hb; cases hb
  | succ d ih =>
    intro s hs hle
    obtain ⟨c, l, hc, hb⟩ := bt_head s (by omega)
    have hex : (s.extract 1 s.size).toList = l := by
      rw [extract_list, List.take_of_length_le (by rw [size_list]; omega), hc, List.drop_one, List.tail_cons]
    have hl : l.length = d := by have := size_list s; rw [hc, List.length_cons] at this; omega
    refine Ev.step (fun k => rfl) (ev_ite (fun h => ?_) (fun h => ev_ite (fun _ => ev_ite (fun h1 => ev_ite (fun h2 => ev_ite (fun _ => ?_) (fun h3 => by omega)) (fun h2 => ev_ret (dec_f ?_))) (fun h1 => ev_ret (dec_f ?_))) (fun h1 => by omega)))
    · rw [hc] at h; cases h
    · refine ev_id (ev_eq (ih (s.extract 1 s.size) (by rw [← size_list, hex, hl]) (by omega)) (dec_iff ?_))
      rw [hex, hc]
      constructor
      · intro ha b hm
        rcases List.mem_cons.1 hm with rfl | hm
        · omega
        · exact ha b hm
      · intro ha b hm
        exact ha b (List.mem_cons_of_mem _ hm)
    · intro ha
      have := ha c (by rw [hc]; exact List.mem_cons_self)
      omega
    · intro ha
      have := ha c (by rw [hc]; exact List.mem_cons_self)
      omega

theorem impl_KeyValid_ev (s : ByteArray) : Ev (fun k => impl_KeyValid.f k s) (decide (keyV s.toList)) := by
  unfold impl_KeyValid.f
  have hs := size_list s
  refine ev_ite (fun h => ev_ret (dec_f (by unfold keyV; omega))) (fun h => ev_ite (fun h1 => ev_ret (dec_f (by unfold keyV; omega))) (fun h1 => ev_id ?_))
  refine ev_eq (impl_lettersOnly_ev s.size s rfl (by omega)) (dec_iff ?_)
  exact ⟨fun h' => ⟨by omega, by omega, h'⟩, fun h' => h'.2.2⟩

theorem valueValid_eq (a : Int) : impl_valueValid.f a = some (decide (0 ≤ a ∧ a ≤ 999)) := by
  unfold impl_valueValid.f
  split
  · exact congrArg some (dec_iff (by omega))
  · exact congrArg some (dec_f (by omega))
theorem impl_CommandValid_ev (a0 : Int) (a1 : ByteArray) (a2 a3 : Int) : Ev (fun k => impl_CommandValid.f k a0 a1 a2 a3) (decide (cmdV a0 a1.toList a2 a3)) := by
  obtain ⟨K, hK⟩ := impl_KeyValid_ev a1
  refine ⟨K + 2, fun k hk => ?_⟩
  obtain ⟨m, rfl⟩ : ∃ m, k = m + 2 := ⟨k - 2, by omega⟩
  have hK1 := hK (m + 1) (by omega)
  simp only at hK1
  simp only [impl_CommandValid.f, impl_CommandValid.j0, impl_CommandValid.j1, hK1, valueValid_eq, Option.bind_some, decide_eq_true_eq]
  unfold cmdV
  generalize a1.toList = l
  by_cases e0 : 1 ≤ a0 ∧ a0 ≤ 5
  · by_cases e1 : a0 = 1 <;> by_cases e2 : a0 = 2 <;> by_cases e3 : a0 = 3 <;> by_cases e4 : a0 = 4 <;> by_cases e5 : a0 = 5 <;> first | omega | skip
    all_goals (try subst a0)
    all_goals (by_cases k1 : keyV l <;> by_cases k2 : l = [] <;> by_cases k3 : (0 ≤ a2 ∧ a2 ≤ 999) <;> by_cases k4 : (-1 ≤ a3 ∧ a3 ≤ 999) <;> by_cases k5 : a3 = -1 <;> by_cases k6 : (0 ≤ a3 ∧ a3 ≤ 999) <;> first | omega | (simp [*]; done) | (simp [*]; omega) | (simp [*] <;> grind))
  · by_cases e1 : a0 < 1 <;> simp [e1] <;> grind

theorem impl_wishValid_ev (a0 : Int) (a1 : ByteArray) (a2 a3 : Int) : Ev (fun k => impl_wishValid.f k a0 a1 a2 a3) (decide (wishV a0 a1.toList a2 a3)) := by
  unfold impl_wishValid.f
  refine Ev.bind (impl_CommandValid_ev a0 a1 a2 a3) (ev_ite (fun h => ev_ret ?_) (fun h => ev_ret (dec_f (fun h' => h (decide_eq_true h'.1)))))
  have h := of_decide_eq_true h
  unfold wishV
  by_cases e : a0 = 5 <;> simp [e, h]

theorem clientNumber_eq (a : Int) : impl_clientNumber.f a = some (decide (1 ≤ a ∧ a ≤ 3)) := by
  unfold impl_clientNumber.f
  split
  · exact congrArg some (dec_iff (by omega))
  · exact congrArg some (dec_f (by omega))

theorem seqValid_eq (a : Int) : impl_seqValid.f a = some (decide (1 ≤ a ∧ a ≤ 999)) := by
  unfold impl_seqValid.f
  split
  · exact congrArg some (dec_iff (by omega))
  · exact congrArg some (dec_f (by omega))

theorem replyValid_eq (a : Int) : impl_replyValid.f a = some (decide (-4 ≤ a ∧ a ≤ 999)) := by
  unfold impl_replyValid.f
  split
  · exact congrArg some (dec_iff (by omega))
  · exact congrArg some (dec_f (by omega))

theorem timeValid_eq (a : Int) : impl_timeValid.f a = some (decide (0 ≤ a ∧ a ≤ 200)) := by
  unfold impl_timeValid.f
  split
  · exact congrArg some (dec_iff (by omega))
  · exact congrArg some (dec_f (by omega))

theorem impl_ResultValid_ev (a0 a1 a2 : Int) (a3 : ByteArray) (a4 a5 a6 a7 a8 : Int) : Ev (fun k => impl_ResultValid.f k a0 a1 a2 a3 a4 a5 a6 a7 a8) (decide (resV a0 a1 a2 a3.toList a4 a5 a6 a7 a8)) := by
  obtain ⟨K, hK⟩ := impl_wishValid_ev a2 a3 a4 a5
  refine ⟨K, fun k hk => ?_⟩
  have hK := hK k hk
  simp only at hK
  simp only [impl_ResultValid.f, hK, clientNumber_eq, seqValid_eq, replyValid_eq, timeValid_eq, Option.bind_some, decide_eq_true_eq]
  unfold resV
  by_cases k1 : wishV a2 a3.toList a4 a5 <;> by_cases k2 : 1 ≤ a0 ∧ a0 ≤ 3 <;> by_cases k3 : 1 ≤ a1 ∧ a1 ≤ 999 <;> by_cases k4 : -4 ≤ a6 ∧ a6 ≤ 999 <;> by_cases k5 : 0 ≤ a8 ∧ a8 ≤ 200 <;> by_cases k6 : 0 ≤ a7 <;> simp [*]

theorem FnExactResultValid : laws_FnExactResultValid.Pure := by
  intro a0 a1 a2 a3 a4 a5 a6 a7 a8 _ _ _ _ _ _ _ _ _
  obtain ⟨K, hK⟩ := ev_two (spec_ResultValid_ev a0 a1 a2 a3 a4 a5 a6 a7 a8) (impl_ResultValid_ev a0 a1 a2 a3 a4 a5 a6 a7 a8)
  obtain ⟨h1, h2⟩ := hK K (Nat.le_refl _)
  refine ⟨K, ?_⟩
  unfold laws_FnExactResultValid.f laws_szResult.f laws_szCommand.f laws_toResult.f laws_toCommand.f
  simp only [Option.bind_some, h1, h2]
  by_cases hs : wrap64 (1048576 - (a3.size : Int)) < 0
  · simp [hs]
  · simp [hs]


end Go.Proofs.Ytoajkkfnblpnlaa.Pure
