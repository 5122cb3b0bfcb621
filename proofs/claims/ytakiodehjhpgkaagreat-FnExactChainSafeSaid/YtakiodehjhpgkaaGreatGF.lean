/- Lemmas of this claim: walks through code, values and memory, and the contracts of functions; under no condition beyond those that each states. -/
import Derived.Test.YtakiodehjhpgkaaGreatGE
set_option maxRecDepth 100000
set_option linter.unusedVariables false
set_option linter.unusedSimpArgs false
namespace Go.YtakiodehjhpgkaaGreatMc
open Go.Proofs
/-! ### What is valid is small, and stays valid -/
theorem keyOk_len {k : List UInt8} (h : keyOk k = true) : k.length ≤ 4 := by
  simp only [keyOk, Bool.and_eq_true, decide_eq_true_eq] at h; exact h.1.2
theorem ivOk_len {v : Iv} (h : ivOk v = true) : v.lo.length ≤ 4 ∧ v.hi.length ≤ 4 := by
  simp only [ivOk, Bool.and_eq_true, Bool.or_eq_true, beq_iff_eq] at h
  refine ⟨?_, ?_⟩
  · rcases h.1.1 with e | e
    · rw [e]; simp
    · exact keyOk_len e
  · rcases h.1.2 with e | e
    · rw [e]; simp
    · exact keyOk_len e
theorem cutOk_key {v : Iv} {k : List UInt8} (h : cutOk v k = true) : keyOk k = true := by
  simp only [cutOk, Bool.and_eq_true] at h; exact h.1.1.2
theorem stOk_sm {s : Stt} (h : stOk s = true) : s.Sm := by
  obtain ⟨h1, h2, h3, h4, h5⟩ := stOk_d h
  have a := ivOk_len h1
  have b := pairs48 h2
  have c := ses4 h3
  refine ⟨⟨by omega, by omega⟩, by omega, fun p hp => ⟨?_⟩, by omega, ?_⟩
  · obtain ⟨i, hi⟩ := List.getElem?_of_mem hp
    have hlt := (List.getElem?_eq_some_iff.1 hi).1
    have := keyOk_len (pair_key h2 hlt)
    rw [(List.getElem?_eq_some_iff.1 hi).2] at this; omega
  · rcases h5 with e | ⟨_, e⟩
    · rw [e]; simp
    · have := keyOk_len (cutOk_key e); omega
theorem entOk_d {e : Ent} (h : entOk e = true) : inR e.client 0 3 = true ∧ inR e.seq 1 999 = true ∧ cmdOk e.cmd = true := by
  simpa [entOk, and_assoc] using h
theorem pget_mem {l : List Pr} {k : List UInt8} (h : fndP k l = true) : (⟨k, pget l k⟩ : Pr) ∈ l := List.mem_of_getElem? (fndP_key h)
theorem prs_val {l : List Pr} (h : pairsOk l = true) {p : Pr} (hp : p ∈ l) : keyOk p.key = true ∧ inR p.val 0 999 = true := by
  have := ((pairsOk_iff l).1 h).2.1
  have := List.all_eq_true.1 this p hp
  simpa [prQ] using this
theorem pairGet_in (l : List Pr) (k : List UInt8) : inR (pairGet l k) (-1) 999 = true := by
  unfold pairGet
  split
  · rename_i h
    simp only [Bool.and_eq_true] at h
    have := (prs_val h.1 (pget_mem h.2)).2
    simp [inR] at *; omega
  · simp [inR]
theorem applyCmd_in {l : List Pr} {c : Cmd} (h : pairsOk l = true) (hc : cmdOk c = true) (hk : c.kind ≠ 5) : inR (applyCmd l c).2 (-2) 999 = true := by
  have := pairGet_in l c.key
  unfold applyCmd
  rw [if_pos (by simp [h, hc, hk])]
  simp [inR] at *
  repeat' split
  all_goals first | (simp at *; omega) | omega
theorem ses1 {c q r : Int} (h1 : inR c 0 3 = true) (h2 : inR q 1 999 = true) (h3 : inR r (-2) 999 = true) : sesOk [⟨c, q, r⟩] = true := by
  rw [sesOk_iff]; simp [seQ, h1, h2, h3]
theorem applyEnt_ok {s : Stt} {e : Ent} (h : stOk s = true) (he : entOk e = true) : stOk (applyEnt s e).1 = true := by
  unfold applyEnt
  rw [if_pos (by simp [h, he])]
  split
  · split <;> exact h
  · split
    · exact h
    · rename_i hn
      simp only [Bool.or_eq_true, Bool.not_eq_true', not_or, Bool.not_eq_true, Bool.not_eq_false] at hn
      obtain ⟨hs, ht⟩ := hn
      obtain ⟨h1, h2, h3, h4, h5⟩ := stOk_d h
      have hkn := sesPut_ok s.known
      unfold noted doneCmd
      split
      · rename_i hk
        simp only [stOk, Bool.and_eq_true, Bool.or_eq_true, decide_eq_true_eq]
        refine ⟨⟨⟨⟨h1, h2⟩, hkn _⟩, h4⟩, ?_⟩
        simp only [takes, hk, if_true, Bool.or_eq_true, decide_eq_true_eq] at ht
        exact ht.imp id fun x => ⟨trivial, x⟩
      · rename_i hk
        simp only [stOk, Bool.and_eq_true, Bool.or_eq_true, decide_eq_true_eq]
        refine ⟨⟨⟨⟨h1, applyCmd_ok ..⟩, hkn _⟩, ?_⟩, h5⟩
        simp only [hasAll, List.all_eq_true] at h4 ⊢
        intro p hp
        rcases applyCmd_mem hp with hp | hp
        · exact h4 p hp
        · simp only [takes, hk, if_false] at ht
          rw [hp]; exact ht
/-! ### Replay -/
abbrev zSt : List C := [.t (.s []), .t (.s []), .emp, .emp, .t (.b false), .t (.s [])]
def runE (s : Stt) : List Ent → Stt × List Int
  | [] => (s, [])
  | e :: l => ((runE (applyEnt s e).1 l).1, (applyEnt s e).2 :: (runE (applyEnt s e).1 l).2)
def replay (s : Stt) (l : List Ent) : Stt × List Int := if stOk s && logOk l then runE s l else (zStt, [])
abbrev RI (r : Stt × List Int) : V := .tu [.ag (tc r.1.e), Lx eI r.2]
theorem logOk_d {l : List Ent} (h : logOk l = true) : l.length ≤ 24 ∧ ∀ e ∈ l, entOk e = true := by
  simpa [logOk, List.all_eq_true] using h
theorem replay_impl (s : Stt) (l : List Ent) (hs : s.Sm) : Pu Tryz.prog 92 [A s.e, L Ent.e l] (RI (replay s l)) := by
  have e1 := stOk_impl s hs
  have e2 := logOk_impl l
  by_cases h : stOk s = true
  · by_cases hl : logOk l = true
    · rw [h] at e1; rw [hl] at e2
      obtain ⟨h24, hle⟩ := logOk_d hl
      refine Pu.of D Tryz.func92 rfl rfl rfl ?_
      repeat' (first
    | (refine W.cond rfl ?_ ?_ <;> intro hb <;> try simp at hb)
    | refine cl (e1) ?_
    | refine cl (e2) ?_
    | refine cl (copySt_impl s hs) ?_
    | refine goO ?_
    | refine goS ?_
    | (refine WO.gs _ rfl rfl rfl ?_ ?_ <;> intro hb <;> simp only [hb] <;> try simp at hb))
      all_goals first | (exfalso; simp_all; done) | skip
      refine W.ghe eI 7 1 (by decide) rfl ?_
      refine W.loop (σ := Nat × Stt × List Int) (fun q => [(24, I q.1), (23, I l.length), (22, L Ent.e l), (7, .c (.sl 3 q.2.2.length 0 q.2.2.length)), (6, .c (.ptr 2 0)), (4, .c (.ptr 1 0)), (2, .c (.ptr 0 0))]) (fun q => [.box (tc s.e), .box zSt, .box (tc q.2.1.e), .arr (Rs eI q.2.2) 1])
        (fun q => q.1 ≤ l.length ∧ q.2.2.length = q.1 ∧ stOk q.2.1 = true ∧ runE s l = ((runE q.2.1 (l.drop q.1)).1, q.2.2 ++ (runE q.2.1 (l.drop q.1)).2)) (fun q => l.length - q.1) 4 (fun _ _ => rfl) (0, s, []) ⟨by simp, rfl, h, by simp⟩ rfl (.cons rfl rfl (.cons rfl rfl (.cons rfl rfl (.cons rfl rfl (.cons rfl rfl (.cons rfl rfl (.cons rfl rfl (.nil)))))))) ?_
      rintro ⟨k, t, acc⟩ ⟨hk1, hk2, ht, hy⟩
      dsimp only at hk1 hk2 ht hy
      have hsm := stOk_sm ht
      by_cases hlt : k < l.length
      · rw [drop_cons hlt, runE] at hy
        repeat' (first
    | (refine W.cond rfl ?_ ?_ <;> intro hb <;> try simp at hb)
    | refine cl (applyEnt_impl t l[k] hsm) ?_
    | refine OpK.of (OpOk.bldF D [(applyEnt t l[k]).2] eI rfl rfl rfl rfl (by decide) (by decide) (by decide) rfl rfl rfl) ?_
    | refine OpK.of (OpOk.apM D rfl rfl rfl rfl rfl rfl rfl rfl (by first | rfl | simp) rfl rfl (fun _ => rfl) (by first | assumption | omega | (simp; omega)) (by decide)) ?_
    | refine goO ?_
    | refine goS ?_
    | (refine WO.gs _ rfl rfl rfl ?_ ?_ <;> intro hb <;> simp only [hb] <;> try simp at hb))
        all_goals first
          | (exfalso; omega)
          | exact ⟨(k + 1, (applyEnt t l[k]).1, acc ++ [(applyEnt t l[k]).2]), ⟨hlt, by simp [hk2], applyEnt_ok ht (hle _ (List.getElem_mem _)), by rw [hy]; simp⟩, by dsimp only; omega, (.cons rfl rfl (.cons rfl rfl (.cons rfl rfl (.cons rfl rfl (.cons rfl rfl (.cons rfl rfl (.cons rfl rfl (.nil)))))))), rfl, LH.lows (by repeat' (first | exact .nil | refine .box rfl ?_ | refine .arr (rs_low _ _ _) ?_ | refine .dead ?_ | fail))⟩
      · repeat' (first
    | (refine W.cond rfl ?_ ?_ <;> intro hb <;> try simp at hb)
    | refine goO ?_
    | refine goS ?_
    | (refine WO.gs _ rfl rfl rfl ?_ ?_ <;> intro hb <;> simp only [hb] <;> try simp at hb))
        all_goals first
          | (exfalso; omega)
          | (rw [drop_nil (by omega), runE] at hy
             refine ⟨.inr rfl, _, _, rfl, .cons (.ag (.cons (by first | exact .emp | exact .full rfl rfl rfl | exact .id rfl | fail) (.cons (by first | exact .emp | exact .full rfl rfl rfl | exact .id rfl | fail) (.cons (by first | exact .emp | exact .full rfl rfl rfl | exact .id rfl | fail) (.cons (by first | exact .emp | exact .full rfl rfl rfl | exact .id rfl | fail) (.cons (by first | exact .emp | exact .full rfl rfl rfl | exact .id rfl | fail) (.cons (by first | exact .emp | exact .full rfl rfl rfl | exact .id rfl | fail) .nil))))))) (.cons (.c (by first | exact .emp | exact .full rfl rfl rfl | exact .id rfl | fail)) (.nil)), ?_⟩
             simp only [resV, X.v, replay, h, hl, hy, List.append_nil]; rfl)
    · rw [h] at e1; rw [show logOk l = false by simpa using hl] at e2
      refine Pu.of D Tryz.func92 rfl rfl rfl ?_
      repeat' (first
    | (refine W.cond rfl ?_ ?_ <;> intro hb <;> try simp at hb)
    | refine cl (e1) ?_
    | refine cl (e2) ?_
    | refine goO ?_
    | refine goS ?_
    | (refine WO.gs _ rfl rfl rfl ?_ ?_ <;> intro hb <;> simp only [hb] <;> try simp at hb))
      all_goals first
        | (exfalso; simp_all; done)
        | (refine ⟨.inr rfl, _, _, rfl, .cons (.ag (.cons (by first | exact .emp | exact .full rfl rfl rfl | exact .id rfl | fail) (.cons (by first | exact .emp | exact .full rfl rfl rfl | exact .id rfl | fail) (.cons (by first | exact .emp | exact .full rfl rfl rfl | exact .id rfl | fail) (.cons (by first | exact .emp | exact .full rfl rfl rfl | exact .id rfl | fail) (.cons (by first | exact .emp | exact .full rfl rfl rfl | exact .id rfl | fail) (.cons (by first | exact .emp | exact .full rfl rfl rfl | exact .id rfl | fail) .nil))))))) (.cons (.c (by first | exact .emp | exact .full rfl rfl rfl | exact .id rfl | fail)) (.nil)), ?_⟩; simp [resV, X.v, replay, hl]; rfl)
  · rw [show stOk s = false by simpa using h] at e1
    refine Pu.of D Tryz.func92 rfl rfl rfl ?_
    repeat' (first
    | (refine W.cond rfl ?_ ?_ <;> intro hb <;> try simp at hb)
    | refine cl (e1) ?_
    | refine goO ?_
    | refine goS ?_
    | (refine WO.gs _ rfl rfl rfl ?_ ?_ <;> intro hb <;> simp only [hb] <;> try simp at hb))
    all_goals first
      | (exfalso; simp_all; done)
      | (refine ⟨.inr rfl, _, _, rfl, .cons (.ag (.cons (by first | exact .emp | exact .full rfl rfl rfl | exact .id rfl | fail) (.cons (by first | exact .emp | exact .full rfl rfl rfl | exact .id rfl | fail) (.cons (by first | exact .emp | exact .full rfl rfl rfl | exact .id rfl | fail) (.cons (by first | exact .emp | exact .full rfl rfl rfl | exact .id rfl | fail) (.cons (by first | exact .emp | exact .full rfl rfl rfl | exact .id rfl | fail) (.cons (by first | exact .emp | exact .full rfl rfl rfl | exact .id rfl | fail) .nil))))))) (.cons (.c (by first | exact .emp | exact .full rfl rfl rfl | exact .id rfl | fail)) (.nil)), ?_⟩; simp [resV, X.v, replay, h]; rfl)
end Go.YtakiodehjhpgkaaGreatMc

namespace Go.YtakiodehjhpgkaaGreatMc
open Go.Proofs
/-! ### The reference: pairs -/
theorem place_spec (l : List Pr) (k : List UInt8) (hl : l.length ≤ 1048576) : Pu Tryz.prog 336 [L Pr.e l, Sx k] (I (plcP k l)) := by
  have hp := plcBy_le (fun p : Pr => lt p.key k) l
  change plcP k l ≤ l.length at hp
  refine Pu.of D Tryz.func336 rfl rfl rfl ?_
  repeat' (first
    | (refine W.cond rfl ?_ ?_ <;> intro hb <;> try simp at hb)
    | refine goO ?_
    | refine goS ?_
    | (refine WO.gs _ rfl rfl rfl ?_ ?_ <;> intro hb <;> simp only [hb] <;> try simp at hb))
  refine W.loop (σ := Nat) (fun i => [(5, I i), (1, Sx k), (0, L Pr.e l)]) (fun _ => []) (fun i => i ≤ plcP k l) (fun i => l.length - i) 0 (fun _ _ => rfl) 0 (Nat.zero_le _) rfl (.cons rfl rfl (.cons rfl rfl (.cons rfl rfl (.nil)))) ?_
  intro i hi
  have ha : ∀ (h : i < l.length), lt l[i].key k = true → i < plcP k l := fun h e => by
    rcases Nat.eq_or_lt_of_le hi with g | g
    · subst g
      have h2 : lt l[plcP k l].key k = false := plcBy_at (fun p : Pr => lt p.key k) l h
      rw [h2] at e; cases e
    · exact g
  have hb' : ∀ (h : i < l.length), lt l[i].key k = false → i = plcP k l := fun h e => by
    rcases Nat.eq_or_lt_of_le hi with g | g
    · exact g
    · have h2 : lt l[i].key k = true := plcBy_lt (fun p : Pr => lt p.key k) l i h g
      rw [e] at h2; cases h2
  repeat' (first
    | (refine W.cond rfl ?_ ?_ <;> intro hb <;> try simp at hb)
    | refine goO ?_
    | refine goS ?_
    | (refine WO.gs _ rfl rfl rfl ?_ ?_ <;> intro hb <;> simp only [hb] <;> try simp at hb))
  all_goals first
    | (have hlt : i < l.length := by assumption
       exact ⟨i + 1, ha hlt (by assumption), by omega, (.cons rfl rfl (.cons rfl rfl (.cons rfl rfl (.nil)))), rfl, rfl⟩)
    | (have hlt : i < l.length := by assumption
       have := hb' hlt (by assumption)
       refine ⟨.inr rfl, _, _, rfl, .cons (.c (.id rfl)) .nil, ?_⟩; simp [resV, X.v, ← this]; done)
    | (refine ⟨.inr rfl, _, _, rfl, .cons (.c (.id rfl)) .nil, ?_⟩; have : i = plcP k l := by omega
       simp [resV, X.v, ← this]; done)
theorem fndP_iff (l : List Pr) (k : List UInt8) (h : plcP k l < l.length) : fndP k l = decide (l[plcP k l].key = k) := by
  unfold fndP; rw [List.getElem?_eq_getElem h]; rfl
theorem fndP_no (l : List Pr) (k : List UInt8) (h : ¬ plcP k l < l.length) : fndP k l = false := by
  unfold fndP; rw [List.getElem?_eq_none (by omega)]; rfl
theorem pairGet_spec (l : List Pr) (k : List UInt8) (hs : l.length ≤ 1048576) : Pu Tryz.prog 312 [L Pr.e l, Sx k] (I (pairGet l k)) := by
  have e1 := pairsOk_spec l
  by_cases h : pairsOk l = true
  · rw [h] at e1
    by_cases h0 : plcP k l < l.length
    · have hf := fndP_iff l k h0
      refine Pu.of D Tryz.func312 rfl rfl rfl ?_
      repeat' (first
    | (refine W.cond rfl ?_ ?_ <;> intro hb <;> try simp at hb)
    | refine cl (e1) ?_
    | refine cl (place_spec l k hs) ?_
    | refine goO ?_
    | refine goS ?_
    | (refine WO.gs _ rfl rfl rfl ?_ ?_ <;> intro hb <;> simp only [hb] <;> try simp at hb))
      all_goals first
        | (exfalso; omega)
        | (refine ⟨.inr rfl, _, _, rfl, .cons (.c (.id rfl)) .nil, ?_⟩; simp_all [resV, X.v, pairGet, pget]; done)
    · have hf := fndP_no l k h0
      have hp := plcBy_le (fun p : Pr => lt p.key k) l
      change plcP k l ≤ l.length at hp
      refine Pu.of D Tryz.func312 rfl rfl rfl ?_
      repeat' (first
    | (refine W.cond rfl ?_ ?_ <;> intro hb <;> try simp at hb)
    | refine cl (e1) ?_
    | refine cl (place_spec l k hs) ?_
    | refine goO ?_
    | refine goS ?_
    | (refine WO.gs _ rfl rfl rfl ?_ ?_ <;> intro hb <;> simp only [hb] <;> try simp at hb))
      all_goals first
        | (exfalso; omega)
        | (exfalso; simp_all; done)
        | (refine ⟨.inr rfl, _, _, rfl, .cons (.c (.id rfl)) .nil, ?_⟩; simp_all [resV, X.v, pairGet, pget]; done)
  · rw [show pairsOk l = false by simpa using h] at e1
    refine Pu.of D Tryz.func312 rfl rfl rfl ?_
    repeat' (first
    | (refine W.cond rfl ?_ ?_ <;> intro hb <;> try simp at hb)
    | refine cl (e1) ?_
    | refine cl (place_spec l k hs) ?_
    | refine goO ?_
    | refine goS ?_
    | (refine WO.gs _ rfl rfl rfl ?_ ?_ <;> intro hb <;> simp only [hb] <;> try simp at hb))
    all_goals first
      | (exfalso; simp_all; done)
      | (refine ⟨.inr rfl, _, _, rfl, .cons (.c (.id rfl)) .nil, ?_⟩; simp [resV, X.v, pairGet, h]; done)
end Go.YtakiodehjhpgkaaGreatMc

namespace Go.YtakiodehjhpgkaaGreatMc
open Go.Proofs
theorem set_take (l : List Pr) (k : List UInt8) (v : Int) (h : plcP k l < l.length) (hk : l[plcP k l].key = k) : l.set (plcP k l) ⟨l[plcP k l].key, v⟩ = l.take (plcP k l) ++ [⟨k, v⟩] ++ l.drop (plcP k l + 1) := by
  rw [hk, List.set_eq_take_append_cons_drop, if_pos h]; simp
set_option maxHeartbeats 4000000 in
theorem pairPut_spec (l : List Pr) (k : List UInt8) (v : Int) (hs : l.length ≤ 1048576) : Pu Tryz.prog 314 [L Pr.e l, Sx k, I v] (PB (pairPut l k v)) := by
  have e1 := pairsOk_spec l
  by_cases h : pairsOk l = true
  · rw [h] at e1
    have h48 := pairs48 h
    have hp := plcBy_le (fun p : Pr => lt p.key k) l
    change plcP k l ≤ l.length at hp
    by_cases hkv : keyOk k = true ∧ inR v 0 999 = true
    · have e2 := keyOk_spec k
      have e3 := in_ok v 0 999
      rw [hkv.1] at e2; rw [hkv.2] at e3
      by_cases hf : fndP k l = true
      · have h0 := fndP_lt hf
        have hk : l[plcP k l].key = k := by rw [fndP_iff l k h0] at hf; simpa using hf
        refine Pu.of D Tryz.func314 rfl rfl rfl ?_
        repeat' (first
    | (refine W.cond rfl ?_ ?_ <;> intro hb <;> try simp at hb)
    | refine cl (e1) ?_
    | refine cl (e2) ?_
    | refine cl (e3) ?_
    | refine cl (place_spec l k hs) ?_
    | refine OpK.of (OpOk.bldE D rfl rfl rfl rfl) ?_
    | refine OpK.of (OpOk.cpO D rfl rfl rfl rfl rfl rfl rfl rfl (by decide) (fun _ => rfl) (by first | assumption | omega | (simp; omega)) (by decide)) ?_
    | refine OpK.of (OpOk.ixA D rfl rfl rfl rfl rfl rfl rfl (rs_len _ _).symm rfl (by omega) (by omega)) ?_
    | refine OpK.of (OpOk.faA D rfl rfl rfl rfl (by decide) rfl rfl (rs_len _ _).symm) ?_
    | refine OpK.of (OpOk.stA D rfl rfl rfl rfl (rs_len _ _).symm (rs_get _ _ _ (by simp; omega)) rfl rfl rfl rfl (Nat.le_of_ble_eq_true rfl)) ?_
    | refine goO ?_
    | refine goS ?_
    | (refine WO.gs _ rfl rfl rfl ?_ ?_ <;> intro hb <;> simp only [hb] <;> try simp at hb))
        all_goals clear e1 e2 e3
        all_goals first
          | (exfalso; first | omega | contradiction | (simp_all; done))
          | (refine ⟨.inr rfl, _, _, rfl, .cons (.c (.fulln (l.set (0 + ((plcP k l : Nat) : Int).toNat) ⟨(l[0 + ((plcP k l : Nat) : Int).toNat]'(by simp; omega)).key, v⟩) (by simp) rfl rfl (rs_set Pr.e l _ ⟨(l[0 + ((plcP k l : Nat) : Int).toNat]'(by simp; omega)).key, v⟩))) (.cons (.c (.id rfl)) .nil), ?_⟩
             have := set_take l k v h0 hk
             simp only [resV, pairPut, h, hkv.1, hkv.2, hf, Bool.and_self, if_true]
             rw [← this]; simp)
      · refine Pu.of D Tryz.func314 rfl rfl rfl ?_
        repeat' (first
    | (refine W.cond rfl ?_ ?_ <;> intro hb <;> try simp at hb)
    | refine cl (e1) ?_
    | refine cl (e2) ?_
    | refine cl (e3) ?_
    | refine cl (place_spec l k hs) ?_
    | refine OpK.of (OpOk.bldE D rfl rfl rfl rfl) ?_
    | refine OpK.of (OpOk.cpO D rfl rfl rfl rfl rfl rfl rfl rfl (by decide) (fun _ => rfl) (by first | assumption | omega | (simp; omega)) (by decide)) ?_
    | refine OpK.of (OpOk.bldF D [⟨k, v⟩] Pr.e rfl rfl rfl rfl (by decide) (by decide) (by decide) rfl rfl rfl) ?_
    | refine OpK.of (OpOk.apM D rfl rfl rfl rfl rfl rfl rfl rfl (by first | rfl | simp) rfl rfl (fun _ => rfl) (by first | assumption | omega | (simp; omega)) (by decide)) ?_
    | refine OpK.of (OpOk.slMt D rfl rfl rfl rfl rfl (fun _ => rfl) rfl (by omega)) ?_
    | refine OpK.of (OpOk.slMd D rfl rfl rfl rfl rfl (fun _ => rfl) rfl (by omega)) ?_
    | refine goO ?_
    | refine goS ?_
    | (refine WO.gs _ rfl rfl rfl ?_ ?_ <;> intro hb <;> simp only [hb] <;> try simp at hb))
        all_goals clear e1 e2 e3
        all_goals first
          | (exfalso; omega)
          | (exfalso; have hf2 := fndP_iff l k (by assumption); simp_all; done)
          | (refine ⟨.inr rfl, _, _, rfl, .cons (.c (by first | exact .emp | exact .full rfl rfl rfl | exact .id rfl | fail)) (.cons (.c (by first | exact .emp | exact .full rfl rfl rfl | exact .id rfl | fail)) (.nil)), ?_⟩; simp only [resV, X.v, pairPut, h, hkv.1, hkv.2, hf, Bool.and_self, if_true]; (repeat' split) <;> first | (exfalso; simp_all; omega) | (simp; done) | (exfalso; simp_all; done))
    · refine Pu.of D Tryz.func314 rfl rfl rfl ?_
      repeat' (first
    | (refine W.cond rfl ?_ ?_ <;> intro hb <;> try simp at hb)
    | refine cl (e1) ?_
    | refine cl (keyOk_spec k) ?_
    | refine cl (in_ok v 0 999) ?_
    | refine OpK.of (OpOk.bldE D rfl rfl rfl rfl) ?_
    | refine goO ?_
    | refine goS ?_
    | (refine WO.gs _ rfl rfl rfl ?_ ?_ <;> intro hb <;> simp only [hb] <;> try simp at hb))
      all_goals first
        | (exfalso; simp_all; done)
        | (refine ⟨.inr rfl, _, _, rfl, .cons (.c (by first | exact .emp | exact .full rfl rfl rfl | exact .id rfl | fail)) (.cons (.c (by first | exact .emp | exact .full rfl rfl rfl | exact .id rfl | fail)) (.nil)), ?_⟩; simp only [resV, X.v, pairPut]; rw [if_neg (by simp_all)]; rfl)
  · rw [show pairsOk l = false by simpa using h] at e1
    refine Pu.of D Tryz.func314 rfl rfl rfl ?_
    repeat' (first
    | (refine W.cond rfl ?_ ?_ <;> intro hb <;> try simp at hb)
    | refine cl (e1) ?_
    | refine OpK.of (OpOk.bldE D rfl rfl rfl rfl) ?_
    | refine goO ?_
    | refine goS ?_
    | (refine WO.gs _ rfl rfl rfl ?_ ?_ <;> intro hb <;> simp only [hb] <;> try simp at hb))
    all_goals first
      | (exfalso; simp_all; done)
      | (refine ⟨.inr rfl, _, _, rfl, .cons (.c (by first | exact .emp | exact .full rfl rfl rfl | exact .id rfl | fail)) (.cons (.c (by first | exact .emp | exact .full rfl rfl rfl | exact .id rfl | fail)) (.nil)), ?_⟩; simp [resV, X.v, pairPut, h]; done)
set_option maxHeartbeats 4000000 in
theorem pairDrop_spec (l : List Pr) (k : List UInt8) (hs : l.length ≤ 1048576) : Pu Tryz.prog 313 [L Pr.e l, Sx k] (PB (pairDrop l k)) := by
  have e1 := pairsOk_spec l
  by_cases h : pairsOk l = true
  · rw [h] at e1
    have h48 := pairs48 h
    have hp := plcBy_le (fun p : Pr => lt p.key k) l
    change plcP k l ≤ l.length at hp
    by_cases hf : fndP k l = true
    · have h0 := fndP_lt hf
      have hk : l[plcP k l].key = k := by rw [fndP_iff l k h0] at hf; simpa using hf
      refine Pu.of D Tryz.func313 rfl rfl rfl ?_
      repeat' (first
    | (refine W.cond rfl ?_ ?_ <;> intro hb <;> try simp at hb)
    | refine cl (e1) ?_
    | refine cl (place_spec l k hs) ?_
    | refine OpK.of (OpOk.bldE D rfl rfl rfl rfl) ?_
    | refine OpK.of (OpOk.cpO D rfl rfl rfl rfl rfl rfl rfl rfl (by decide) (fun _ => rfl) (by first | assumption | omega | (simp; omega)) (by decide)) ?_
    | refine OpK.of (OpOk.apM D rfl rfl rfl rfl rfl rfl rfl rfl (by first | rfl | simp) rfl rfl (fun _ => rfl) (by first | assumption | omega | (simp; omega)) (by decide)) ?_
    | refine OpK.of (OpOk.slMt D rfl rfl rfl rfl rfl (fun _ => rfl) rfl (by omega)) ?_
    | refine OpK.of (OpOk.slMd D rfl rfl rfl rfl rfl (fun _ => rfl) rfl (by omega)) ?_
    | refine goO ?_
    | refine goS ?_
    | (refine WO.gs _ rfl rfl rfl ?_ ?_ <;> intro hb <;> simp only [hb] <;> try simp at hb))
      all_goals clear e1
      all_goals first
        | (exfalso; first | omega | contradiction | (simp_all; done))
        | (refine ⟨.inr rfl, _, _, rfl, .cons (.c (by first | exact .emp | exact .full rfl rfl rfl | exact .id rfl | fail)) (.cons (.c (by first | exact .emp | exact .full rfl rfl rfl | exact .id rfl | fail)) (.nil)), ?_⟩; have e : (((plcP k l : Nat) : Int) + 1).toNat = plcP k l + 1 := by omega
           simp only [resV, X.v, pairDrop, h, hf, if_true]; simp [e]; done)
    · refine Pu.of D Tryz.func313 rfl rfl rfl ?_
      repeat' (first
    | (refine W.cond rfl ?_ ?_ <;> intro hb <;> try simp at hb)
    | refine cl (e1) ?_
    | refine cl (place_spec l k hs) ?_
    | refine OpK.of (OpOk.bldE D rfl rfl rfl rfl) ?_
    | refine OpK.of (OpOk.cpO D rfl rfl rfl rfl rfl rfl rfl rfl (by decide) (fun _ => rfl) (by first | assumption | omega | (simp; omega)) (by decide)) ?_
    | refine OpK.of (OpOk.apM D rfl rfl rfl rfl rfl rfl rfl rfl (by first | rfl | simp) rfl rfl (fun _ => rfl) (by first | assumption | omega | (simp; omega)) (by decide)) ?_
    | refine OpK.of (OpOk.slMt D rfl rfl rfl rfl rfl (fun _ => rfl) rfl (by omega)) ?_
    | refine OpK.of (OpOk.slMd D rfl rfl rfl rfl rfl (fun _ => rfl) rfl (by omega)) ?_
    | refine goO ?_
    | refine goS ?_
    | (refine WO.gs _ rfl rfl rfl ?_ ?_ <;> intro hb <;> simp only [hb] <;> try simp at hb))
      all_goals clear e1
      all_goals first
        | (exfalso; have hf2 := fndP_iff l k (by omega); simp_all; done)
        | (refine ⟨.inr rfl, _, _, rfl, .cons (.c (by first | exact .emp | exact .full rfl rfl rfl | exact .id rfl | fail)) (.cons (.c (by first | exact .emp | exact .full rfl rfl rfl | exact .id rfl | fail)) (.nil)), ?_⟩; simp [resV, X.v, pairDrop, h, hf]; done)
  · rw [show pairsOk l = false by simpa using h] at e1
    refine Pu.of D Tryz.func313 rfl rfl rfl ?_
    repeat' (first
    | (refine W.cond rfl ?_ ?_ <;> intro hb <;> try simp at hb)
    | refine cl (e1) ?_
    | refine OpK.of (OpOk.bldE D rfl rfl rfl rfl) ?_
    | refine goO ?_
    | refine goS ?_
    | (refine WO.gs _ rfl rfl rfl ?_ ?_ <;> intro hb <;> simp only [hb] <;> try simp at hb))
    all_goals first
      | (exfalso; simp_all; done)
      | (refine ⟨.inr rfl, _, _, rfl, .cons (.c (by first | exact .emp | exact .full rfl rfl rfl | exact .id rfl | fail)) (.cons (.c (by first | exact .emp | exact .full rfl rfl rfl | exact .id rfl | fail)) (.nil)), ?_⟩; simp [resV, X.v, pairDrop, h]; done)
end Go.YtakiodehjhpgkaaGreatMc

namespace Go.YtakiodehjhpgkaaGreatMc
open Go.Proofs
set_option maxHeartbeats 4000000 in
theorem applyCmd_spec (l : List Pr) (c : Cmd) (hs : l.length ≤ 1048576) : Pu Tryz.prog 276 [L Pr.e l, A c.e] (PI (applyCmd l c)) := by
  have hg := pairGet_in l c.key
  simp only [inR, Bool.and_eq_true, decide_eq_true_eq] at hg
  refine Pu.of D Tryz.func276 rfl rfl rfl ?_
  repeat' (first
    | (refine W.cond rfl ?_ ?_ <;> intro hb <;> try simp at hb)
    | refine cl (pairsOk_spec l) ?_
    | refine cl (cmdOk_spec c) ?_
    | refine cl (pairGet_spec l c.key hs) ?_
    | refine cl (pairDrop_spec l c.key hs) ?_
    | refine cl (pairPut_spec l c.key c.val hs) ?_
    | refine OpK.of (OpOk.bldE D rfl rfl rfl rfl) ?_
    | refine OpK.of (OpOk.cpM D rfl rfl rfl rfl rfl rfl rfl rfl (by decide) (fun _ => rfl) (by first | assumption | omega | (simp; omega)) (by decide)) ?_
    | refine goO ?_
    | refine goS ?_
    | (refine WO.gs _ rfl rfl rfl ?_ ?_ <;> intro hb <;> simp only [hb] <;> try simp at hb))
  all_goals (refine ⟨.inr rfl, _, _, rfl, .cons (.c (by first | exact .emp | exact .full rfl rfl rfl | exact .id rfl | fail)) (.cons (.c (by first | exact .emp | exact .full rfl rfl rfl | exact .id rfl | fail)) (.nil)), ?_⟩; simp only [resV, X.v]; unfold applyCmd; (repeat' split) <;> first | rfl | (exfalso; simp_all; done) | (exfalso; simp_all; omega) | (simp_all; done))
/-! ### The reference: sessions -/
theorem find_spec (l : List Ses) (c : Int) (h : sesOk l = true) : Pu Tryz.prog 275 [L Ses.e l, I c] (A (if fndS c l then sesAt l c else ⟨0, 0, 0⟩).e) := by
  have h4 := ses4 h
  have hp := plcBy_le (fun x : Ses => decide (x.client < c)) l
  change plcS c l ≤ l.length at hp
  refine Pu.of D Tryz.func275 rfl rfl rfl ?_
  repeat' (first
    | (refine W.cond rfl ?_ ?_ <;> intro hb <;> try simp at hb)
    | refine goO ?_
    | refine goS ?_
    | (refine WO.gs _ rfl rfl rfl ?_ ?_ <;> intro hb <;> simp only [hb] <;> try simp at hb))
  refine W.loop (σ := Nat) (fun i => [(5, I i), (4, .c (.ptr 0 0)), (1, I c), (0, L Ses.e l)]) (fun _ => [.box [.t (tI 0), .t (tI 0), .t (tI 0)]]) (fun i => i ≤ l.length ∧ ∀ j (hj : j < l.length), j < i → l[j].client ≠ c) (fun i => l.length - i) 1 (fun _ _ => rfl) 0 ⟨Nat.zero_le _, fun j _ h => by omega⟩ rfl (.cons rfl rfl (.cons rfl rfl (.cons rfl rfl (.cons rfl rfl (.nil))))) ?_
  rintro i ⟨hi, hn⟩
  repeat' (first
    | (refine W.cond rfl ?_ ?_ <;> intro hb <;> try simp at hb)
    | refine goO ?_
    | refine goS ?_
    | (refine WO.gs _ rfl rfl rfl ?_ ?_ <;> intro hb <;> simp only [hb] <;> try simp at hb))
  · have hlt : i < l.length := by assumption
    have e : i = plcS c l := by
      have h1 : ¬ i < plcS c l := fun g => by have := (plcS_iff h c i hlt).2 g; omega
      rcases Nat.lt_or_ge (plcS c l) i with g | g
      · have := ses_lt h (plcS c l) i hlt g
        have h2 := plcBy_at (fun x : Ses => decide (x.client < c)) l (by show plcS c l < l.length; omega)
        have h3 : ¬ l[plcS c l].client < c := by simpa [plcS] using h2
        omega
      · omega
    have hf : fndS c l = true := by unfold fndS; rw [← e, List.getElem?_eq_getElem hlt]; simp [fat, hb]
    refine ⟨.inr rfl, _, _, rfl, .cons (.ag (.cons (by first | exact .emp | exact .full rfl rfl rfl | exact .id rfl | fail) (.cons (by first | exact .emp | exact .full rfl rfl rfl | exact .id rfl | fail) (.cons (by first | exact .emp | exact .full rfl rfl rfl | exact .id rfl | fail) .nil)))) (.nil), ?_⟩
    have := sesAt_eq (fndS_lt hf)
    simp only [resV, X.v, hf, if_true, this]
    simp only [← e]; rfl
  · have hlt : i < l.length := by assumption
    refine ⟨i + 1, ⟨hlt, fun j hj hji => ?_⟩, by omega, (.cons rfl rfl (.cons rfl rfl (.cons rfl rfl (.cons rfl rfl (.nil))))), rfl, rfl⟩
    rcases Nat.lt_or_ge j i with g | g
    · exact hn j hj g
    · have : j = i := by omega
      subst this; exact hb
  · have hf : fndS c l = false := by
      cases hq : fndS c l with
      | false => rfl
      | true =>
        have h0 := fndS_lt hq
        have := sesAt_cl hq
        rw [sesAt_eq h0] at this
        exact absurd this (hn _ h0 (by omega))
    refine ⟨.inr rfl, _, _, rfl, .cons (.ag (.cons (by first | exact .emp | exact .full rfl rfl rfl | exact .id rfl | fail) (.cons (by first | exact .emp | exact .full rfl rfl rfl | exact .id rfl | fail) (.cons (by first | exact .emp | exact .full rfl rfl rfl | exact .id rfl | fail) .nil)))) (.nil), ?_⟩
    simp only [resV, X.v, hf]; rfl
theorem sesSeq_spec (l : List Ses) (c : Int) (h : sesOk l = true) (hc : inR c 0 3 = true) : Pu Tryz.prog 315 [L Ses.e l, I c] (I (if fndS c l then (sesAt l c).seq else 0)) := by
  have e1 := sesOk_spec l (by have := ses4 h; omega)
  have e2 := in_ok c 0 3
  rw [h] at e1; rw [hc] at e2
  refine Pu.of D Tryz.func315 rfl rfl rfl ?_
  repeat' (first
    | (refine W.cond rfl ?_ ?_ <;> intro hb <;> try simp at hb)
    | refine cl (e1) ?_
    | refine cl (e2) ?_
    | refine cl (find_spec l c h) ?_
    | refine OpK.of (OpOk.fld D 3 rfl rfl rfl rfl (by kernel_rfl) rfl rfl (fun _ h1 h2 => by cases h1; cases h2) rfl rfl) ?_
    | refine goO ?_
    | refine goS ?_
    | (refine WO.gs _ rfl rfl rfl ?_ ?_ <;> intro hb <;> simp only [hb] <;> try simp at hb))
  all_goals (refine ⟨.inr rfl, _, _, rfl, .cons (.c (.id rfl)) .nil, ?_⟩; cases fndS c l <;> rfl)
end Go.YtakiodehjhpgkaaGreatMc

namespace Go.YtakiodehjhpgkaaGreatMc
open Go.Proofs
theorem cl_ge {l : List Ses} (h : sesOk l = true) (c : Int) (i : Nat) (hi : i < l.length) : c ≤ l[i].client ↔ plcS c l ≤ i := by
  have := plcS_iff h c i hi; omega
theorem cl_eq {l : List Ses} (h : sesOk l = true) (c : Int) (i : Nat) (hi : i < l.length) : l[i].client = c ↔ (fndS c l = true ∧ i = plcS c l) := by
  constructor
  · intro e
    have hge := (cl_ge h c i hi).1 (by omega)
    rcases Nat.eq_or_lt_of_le hge with g | g
    · refine ⟨?_, g.symm⟩
      unfold fndS; rw [g, List.getElem?_eq_getElem hi]; simp [fat, e]
    · have h1 := ses_lt h (plcS c l) i hi g
      have h2 := (cl_ge h c (plcS c l) (by omega)).2 (Nat.le_refl _)
      omega
  · rintro ⟨hf, rfl⟩
    have := sesAt_cl hf
    rwa [sesAt_eq (fndS_lt hf)] at this
/-- What is still to come. -/
def toCome (l : List Ses) (s : Ses) (k : Nat) : List Ses :=
  if k ≤ plcS s.client l then (l.drop k).take (plcS s.client l - k) ++ [s] ++ l.drop (if fndS s.client l then plcS s.client l + 1 else plcS s.client l) else l.drop k
set_option maxHeartbeats 4000000 in
theorem sesPut_spec (l : List Ses) (s : Ses) (hs : l.length ≤ 1048576) : Pu Tryz.prog 277 [L Ses.e l, A s.e] (SB (sesPut l s)) := by
  have e1 := sesOk_spec l hs
  have e2 := sesOk_spec [s] (by simp)
  by_cases hv : sesOk l = true ∧ sesOk [s] = true
  · obtain ⟨h, h1⟩ := hv
    rw [h] at e1; rw [h1] at e2
    have h4 := ses4 h
    have hc : inR s.client 0 3 = true := by have := ((sesOk_iff [s]).1 h1).1; simp [seQ] at this; exact this.1.1
    have e3 := sesSeq_spec l s.client h hc
    have hq1 : 1 ≤ s.seq := by have := ((sesOk_iff [s]).1 h1).1; simp [seQ, inR] at this; omega
    have hpl := plcBy_le (fun x : Ses => decide (x.client < s.client)) l
    change plcS s.client l ≤ l.length at hpl
    refine Pu.of D Tryz.func277 rfl rfl rfl ?_
    repeat' (first
    | (refine W.cond rfl ?_ ?_ <;> intro hb <;> try simp at hb)
    | refine cl (e1) ?_
    | refine cl (e2) ?_
    | refine cl (e3) ?_
    | refine OpK.of (OpOk.bldE D rfl rfl rfl rfl) ?_
    | refine OpD.of (OpOk.bldE D rfl rfl rfl rfl) ?_
    | refine OpK.of (OpOk.bldF D [s] Ses.e rfl rfl rfl rfl (by decide) (by decide) (by decide) rfl rfl rfl) ?_
    | refine OpD.of (OpOk.bldF D [s] Ses.e rfl rfl rfl rfl (by decide) (by decide) (by decide) rfl rfl rfl) ?_
    | refine OpK.of (OpOk.cpM D rfl rfl rfl rfl rfl rfl rfl rfl (by decide) (fun _ => rfl) (by first | assumption | omega | (simp; omega)) (by decide)) ?_
    | refine OpD.of (OpOk.cpM D rfl rfl rfl rfl rfl rfl rfl rfl (by decide) (fun _ => rfl) (by first | assumption | omega | (simp; omega)) (by decide)) ?_
    | refine goO ?_
    | refine goS ?_
    | (refine WO.gs _ rfl rfl rfl ?_ ?_ <;> intro hb <;> simp only [hb] <;> try simp at hb)
    | (refine WD.gs _ rfl rfl rfl ?_ ?_ <;> intro hb <;> simp only [hb] <;> try simp at hb))
    all_goals clear e1 e2 e3
    all_goals first
      | (exfalso; simp_all; done)
      | (refine ⟨.inr rfl, _, _, rfl, .cons (.c (by first | exact .emp | exact .full rfl rfl rfl | exact .id rfl | fail)) (.cons (.c (by first | exact .emp | exact .full rfl rfl rfl | exact .id rfl | fail)) (.nil)), ?_⟩; simp only [resV, X.v]; unfold sesPut; rw [if_pos (by simp [h, h1])]
         cases hf : fndS s.client l with
         | true => rw [hf] at hb; simp at hb; simp [hb]; done
         | false => exfalso; rw [hf] at hb; simp at hb; omega)
      | skip
    have hfin : sesPut l s = (toCome l s 0, true) := by
      unfold sesPut toCome
      rw [if_pos (by simp [h, h1]), if_pos (Nat.zero_le _)]
      cases hf : fndS s.client l with
      | true => rw [hf] at hb; simp at hb; simp [hb]
      | false => simp
    refine W.ghe Ses.e 6 3 (by decide) rfl ?_
    refine W.loop (σ := Nat × List Ses) (fun q => [(8, I q.1), (7, B (decide (plcS s.client l < q.1))), (6, .c (.sl 1 q.2.length 0 q.2.length)), (3, .c (.ptr 0 0)), (0, L Ses.e l)]) (fun q => [.box (tc s.e), .arr (Rs Ses.e q.2) 3])
      (fun q => q.1 ≤ l.length ∧ toCome l s 0 = q.2 ++ toCome l s q.1) (fun q => l.length - q.1) 2 (fun _ _ => rfl) (0, []) ⟨by simp, by simp⟩ rfl (.cons rfl rfl (.cons rfl rfl (.cons rfl rfl (.cons rfl rfl (.cons rfl rfl (.nil)))))) ?_
    rintro ⟨k, out⟩ ⟨hk, hy⟩
    dsimp only at hk hy
    have hlen : out.length ≤ 9 := by
      have := congrArg List.length hy
      have h0 : (toCome l s 0).length ≤ 9 := by unfold toCome; split <;> simp <;> omega
      simp at this; omega
    by_cases hlt : k < l.length
    · have hge := cl_ge h s.client k hlt
      have heq := cl_eq h s.client k hlt
      rcases Nat.lt_trichotomy k (plcS s.client l) with g | g | g
      · have hd : decide (plcS s.client l < k) = false := by simp; omega
        have hd2 : decide (plcS s.client l < k + 1) = false := by simp; omega
        have hF : toCome l s k = l[k] :: toCome l s (k + 1) := by
          unfold toCome; rw [if_pos (show k ≤ plcS s.client l by omega), if_pos (show k + 1 ≤ plcS s.client l by omega), drop_cons hlt, show plcS s.client l - k = (plcS s.client l - (k + 1)) + 1 by omega]; simp only [List.take_succ_cons, List.cons_append]
        rw [hd]
        repeat' (first
    | (refine W.cond rfl ?_ ?_ <;> intro hb <;> try simp at hb)
    | refine OpK.of (OpOk.bldF D [l[k]] Ses.e rfl rfl rfl rfl (by decide) (by decide) (by decide) rfl rfl rfl) ?_
    | refine OpD.of (OpOk.bldF D [l[k]] Ses.e rfl rfl rfl rfl (by decide) (by decide) (by decide) rfl rfl rfl) ?_
    | refine OpK.of (OpOk.apM D rfl rfl rfl rfl rfl rfl rfl rfl (by first | rfl | simp) rfl rfl (fun _ => rfl) (by first | assumption | omega | (simp; omega)) (by decide)) ?_
    | refine OpD.of (OpOk.apM D rfl rfl rfl rfl rfl rfl rfl rfl (by first | rfl | simp) rfl rfl (fun _ => rfl) (by first | assumption | omega | (simp; omega)) (by decide)) ?_
    | refine goO ?_
    | refine goS ?_
    | (refine WO.gs _ rfl rfl rfl ?_ ?_ <;> intro hb <;> simp only [hb] <;> try simp at hb)
    | (refine WD.gs _ rfl rfl rfl ?_ ?_ <;> intro hb <;> simp only [hb] <;> try simp at hb))
        all_goals first
          | (exfalso; omega)
          | (exfalso; have := heq.1 (by assumption); omega)
          | exact ⟨(k + 1, out ++ [l[k]]), ⟨by dsimp only; omega, by rw [hy, hF]; simp⟩, by dsimp only; omega, by dsimp only; rw [hd2]; exact (.cons rfl rfl (.cons rfl rfl (.cons rfl rfl (.cons rfl rfl (.cons rfl rfl (.nil)))))), rfl, LH.lows (by repeat' (first | exact .nil | refine .box rfl ?_ | refine .arr (rs_low _ _ _) ?_ | refine .dead ?_ | fail))⟩
      · have hd : decide (plcS s.client l < k) = false := by simp; omega
        have hd2 : decide (plcS s.client l < k + 1) = true := by simp; omega
        rw [hd]
        by_cases hf : fndS s.client l = true
        · have hF : toCome l s k = [s] ++ toCome l s (k + 1) := by
            unfold toCome; rw [if_pos (show k ≤ plcS s.client l by omega), if_neg (show ¬ k + 1 ≤ plcS s.client l by omega), if_pos hf, g]; simp
          repeat' (first
    | (refine W.cond rfl ?_ ?_ <;> intro hb <;> try simp at hb)
    | refine OpK.of (OpOk.bldF D [s] Ses.e rfl rfl rfl rfl (by decide) (by decide) (by decide) rfl rfl rfl) ?_
    | refine OpD.of (OpOk.bldF D [s] Ses.e rfl rfl rfl rfl (by decide) (by decide) (by decide) rfl rfl rfl) ?_
    | refine OpK.of (OpOk.apM D rfl rfl rfl rfl rfl rfl rfl rfl (by first | rfl | simp) rfl rfl (fun _ => rfl) (by first | assumption | omega | (simp; omega)) (by decide)) ?_
    | refine OpD.of (OpOk.apM D rfl rfl rfl rfl rfl rfl rfl rfl (by first | rfl | simp) rfl rfl (fun _ => rfl) (by first | assumption | omega | (simp; omega)) (by decide)) ?_
    | refine goO ?_
    | refine goS ?_
    | (refine WO.gs _ rfl rfl rfl ?_ ?_ <;> intro hb <;> simp only [hb] <;> try simp at hb)
    | (refine WD.gs _ rfl rfl rfl ?_ ?_ <;> intro hb <;> simp only [hb] <;> try simp at hb))
          all_goals first
            | (exfalso; omega)
            | (exfalso; have := heq.2 ⟨hf, g⟩; contradiction)
            | exact ⟨(k + 1, out ++ [s]), ⟨by dsimp only; omega, by rw [hy, hF]; simp⟩, by dsimp only; omega, by dsimp only; rw [hd2]; exact (.cons rfl rfl (.cons rfl rfl (.cons rfl rfl (.cons rfl rfl (.cons rfl rfl (.nil)))))), rfl, LH.lows (by repeat' (first | exact .nil | refine .box rfl ?_ | refine .arr (rs_low _ _ _) ?_ | refine .dead ?_ | fail))⟩
        · have hF : toCome l s k = [s] ++ ([l[k]] ++ toCome l s (k + 1)) := by
            unfold toCome; rw [if_pos (show k ≤ plcS s.client l by omega), if_neg (show ¬ k + 1 ≤ plcS s.client l by omega), if_neg hf, ← g, drop_cons hlt]; simp
          repeat' (first
    | (refine W.cond rfl ?_ ?_ <;> intro hb <;> try simp at hb)
    | refine OpK.of (OpOk.bldF D [s] Ses.e rfl rfl rfl rfl (by decide) (by decide) (by decide) rfl rfl rfl) ?_
    | refine OpD.of (OpOk.bldF D [s] Ses.e rfl rfl rfl rfl (by decide) (by decide) (by decide) rfl rfl rfl) ?_
    | refine OpK.of (OpOk.bldF D [l[k]] Ses.e rfl rfl rfl rfl (by decide) (by decide) (by decide) rfl rfl rfl) ?_
    | refine OpD.of (OpOk.bldF D [l[k]] Ses.e rfl rfl rfl rfl (by decide) (by decide) (by decide) rfl rfl rfl) ?_
    | refine OpK.of (OpOk.apM D rfl rfl rfl rfl rfl rfl rfl rfl (by first | rfl | simp) rfl rfl (fun _ => rfl) (by first | assumption | omega | (simp; omega)) (by decide)) ?_
    | refine OpD.of (OpOk.apM D rfl rfl rfl rfl rfl rfl rfl rfl (by first | rfl | simp) rfl rfl (fun _ => rfl) (by first | assumption | omega | (simp; omega)) (by decide)) ?_
    | refine goO ?_
    | refine goS ?_
    | (refine WO.gs _ rfl rfl rfl ?_ ?_ <;> intro hb <;> simp only [hb] <;> try simp at hb)
    | (refine WD.gs _ rfl rfl rfl ?_ ?_ <;> intro hb <;> simp only [hb] <;> try simp at hb))
          all_goals first
            | (exfalso; omega)
            | (exfalso; have := heq.1 (by assumption); exact hf this.1)
            | exact ⟨(k + 1, out ++ [s] ++ [l[k]]), ⟨by dsimp only; omega, by rw [hy, hF]; simp⟩, by dsimp only; omega, by dsimp only; rw [hd2]; exact (.cons rfl rfl (.cons rfl rfl (.cons rfl rfl (.cons rfl rfl (.cons rfl rfl (.nil)))))), rfl, LH.lows (by repeat' (first | exact .nil | refine .box rfl ?_ | refine .arr (rs_low _ _ _) ?_ | refine .dead ?_ | fail))⟩
      · have hd : decide (plcS s.client l < k) = true := by simp; omega
        have hd2 : decide (plcS s.client l < k + 1) = true := by simp; omega
        have hF : toCome l s k = l[k] :: toCome l s (k + 1) := by
          unfold toCome; rw [if_neg (show ¬ k ≤ plcS s.client l by omega), if_neg (show ¬ k + 1 ≤ plcS s.client l by omega), drop_cons hlt]
        rw [hd]
        repeat' (first
    | (refine W.cond rfl ?_ ?_ <;> intro hb <;> try simp at hb)
    | refine OpK.of (OpOk.bldF D [l[k]] Ses.e rfl rfl rfl rfl (by decide) (by decide) (by decide) rfl rfl rfl) ?_
    | refine OpD.of (OpOk.bldF D [l[k]] Ses.e rfl rfl rfl rfl (by decide) (by decide) (by decide) rfl rfl rfl) ?_
    | refine OpK.of (OpOk.apM D rfl rfl rfl rfl rfl rfl rfl rfl (by first | rfl | simp) rfl rfl (fun _ => rfl) (by first | assumption | omega | (simp; omega)) (by decide)) ?_
    | refine OpD.of (OpOk.apM D rfl rfl rfl rfl rfl rfl rfl rfl (by first | rfl | simp) rfl rfl (fun _ => rfl) (by first | assumption | omega | (simp; omega)) (by decide)) ?_
    | refine goO ?_
    | refine goS ?_
    | (refine WO.gs _ rfl rfl rfl ?_ ?_ <;> intro hb <;> simp only [hb] <;> try simp at hb)
    | (refine WD.gs _ rfl rfl rfl ?_ ?_ <;> intro hb <;> simp only [hb] <;> try simp at hb))
        all_goals first
          | (exfalso; omega)
          | (exfalso; have := heq.1 (by assumption); omega)
          | exact ⟨(k + 1, out ++ [l[k]]), ⟨by dsimp only; omega, by rw [hy, hF]; simp⟩, by dsimp only; omega, by dsimp only; rw [hd2]; exact (.cons rfl rfl (.cons rfl rfl (.cons rfl rfl (.cons rfl rfl (.cons rfl rfl (.nil)))))), rfl, LH.lows (by repeat' (first | exact .nil | refine .box rfl ?_ | refine .arr (rs_low _ _ _) ?_ | refine .dead ?_ | fail))⟩
    · repeat' (first
    | (refine W.cond rfl ?_ ?_ <;> intro hb <;> try simp at hb)
    | refine goO ?_
    | refine goS ?_
    | (refine WO.gs _ rfl rfl rfl ?_ ?_ <;> intro hb <;> simp only [hb] <;> try simp at hb)
    | (refine WD.gs _ rfl rfl rfl ?_ ?_ <;> intro hb <;> simp only [hb] <;> try simp at hb))
      all_goals first | (exfalso; omega) | skip
      repeat' (first
    | (refine W.cond rfl ?_ ?_ <;> intro hb <;> try simp at hb)
    | refine OpK.of (OpOk.bldF D [s] Ses.e rfl rfl rfl rfl (by decide) (by decide) (by decide) rfl rfl rfl) ?_
    | refine OpD.of (OpOk.bldF D [s] Ses.e rfl rfl rfl rfl (by decide) (by decide) (by decide) rfl rfl rfl) ?_
    | refine OpK.of (OpOk.apM D rfl rfl rfl rfl rfl rfl rfl rfl (by first | rfl | simp) rfl rfl (fun _ => rfl) (by first | assumption | omega | (simp; omega)) (by decide)) ?_
    | refine OpD.of (OpOk.apM D rfl rfl rfl rfl rfl rfl rfl rfl (by first | rfl | simp) rfl rfl (fun _ => rfl) (by first | assumption | omega | (simp; omega)) (by decide)) ?_
    | refine goO ?_
    | refine goS ?_
    | (refine WO.gs _ rfl rfl rfl ?_ ?_ <;> intro hb <;> simp only [hb] <;> try simp at hb)
    | (refine WD.gs _ rfl rfl rfl ?_ ?_ <;> intro hb <;> simp only [hb] <;> try simp at hb))
      · have hk2 : k = l.length := by omega
        have hf : fndS s.client l = false := by
          cases hq : fndS s.client l with
          | false => rfl
          | true => have := fndS_lt hq; omega
        have hF : toCome l s k = [s] := by
          unfold toCome; rw [if_pos (show k ≤ plcS s.client l by omega), hf, hk2]; simp; omega
        refine ⟨.inr rfl, _, _, rfl, .cons (.c (by first | exact .emp | exact .full rfl rfl rfl | exact .id rfl | fail)) (.cons (.c (by first | exact .emp | exact .full rfl rfl rfl | exact .id rfl | fail)) (.nil)), ?_⟩
        simp only [resV, X.v]; rw [hfin, hy, hF]
      · have hF : toCome l s k = [] := by
          unfold toCome; rw [if_neg (show ¬ k ≤ plcS s.client l by omega)]; exact drop_nil (by omega)
        refine ⟨.inr rfl, _, _, rfl, .cons (.c (by first | exact .emp | exact .full rfl rfl rfl | exact .id rfl | fail)) (.cons (.c (by first | exact .emp | exact .full rfl rfl rfl | exact .id rfl | fail)) (.nil)), ?_⟩
        simp only [resV, X.v]; rw [hfin, hy, hF, List.append_nil]
  · refine Pu.of D Tryz.func277 rfl rfl rfl ?_
    repeat' (first
    | (refine W.cond rfl ?_ ?_ <;> intro hb <;> try simp at hb)
    | refine cl (e1) ?_
    | refine cl (e2) ?_
    | refine OpK.of (OpOk.bldE D rfl rfl rfl rfl) ?_
    | refine OpD.of (OpOk.bldE D rfl rfl rfl rfl) ?_
    | refine OpK.of (OpOk.bldF D [s] Ses.e rfl rfl rfl rfl (by decide) (by decide) (by decide) rfl rfl rfl) ?_
    | refine OpD.of (OpOk.bldF D [s] Ses.e rfl rfl rfl rfl (by decide) (by decide) (by decide) rfl rfl rfl) ?_
    | refine goO ?_
    | refine goS ?_
    | (refine WO.gs _ rfl rfl rfl ?_ ?_ <;> intro hb <;> simp only [hb] <;> try simp at hb)
    | (refine WD.gs _ rfl rfl rfl ?_ ?_ <;> intro hb <;> simp only [hb] <;> try simp at hb))
    all_goals clear e1 e2
    all_goals first
      | (exfalso; simp_all; done)
      | (refine ⟨.inr rfl, _, _, rfl, .cons (.c (by first | exact .emp | exact .full rfl rfl rfl | exact .id rfl | fail)) (.cons (.c (by first | exact .emp | exact .full rfl rfl rfl | exact .id rfl | fail)) (.nil)), ?_⟩; simp only [resV, X.v, sesPut]; rw [if_neg (by simp_all)]; rfl)
end Go.YtakiodehjhpgkaaGreatMc
