/- Lemmas of this claim: walks through code, values and memory, and the contracts of functions; under no condition beyond those that each states. -/
import Derived.Test.YtamlleimfopmhaaGC
import Derived.Test.YtamlleimfopmhaaME
set_option maxRecDepth 100000
set_option linter.unusedVariables false
set_option linter.unusedSimpArgs false
namespace Go.YtamlleimfopmhaaMc
open Go.Proofs
/-! ### Caches that learn: the result is the call's own -/
set_option maxHeartbeats 8000000 in
theorem learn_own (l : List Rou) (r : Rou) (hl : l.length ≤ 1048576) : Po Try.prog 40 [L Rou.e l, A r.e] [] (.c (.sl 0 (learn l r).length 0 (learn l r).length)) [.arr (Rs Rou.e (learn l r)) 3] := by
  have e1 := cache_spec l hl
  have e2 := cache_spec [r] (by simp)
  by_cases hv : cacheOk l = true ∧ cacheOk [r] = true
  · obtain ⟨h1, h2⟩ := hv
    have h8 := nums8 (show numsOk l = true by unfold cacheOk at h1; rw [Bool.and_eq_true] at h1; exact h1.1)
    rw [h1] at e1
    rw [h2] at e2
    refine Po.of D Try.func40 rfl rfl rfl ?_
    repeat' (first
    | (refine W.cond rfl ?_ ?_ <;> intro hb <;> (try simp at hb) <;> try contradiction)
    | refine W.dfm 8 [0, 3, 4, 5, 6, 7, 8, 9, 21, 22, 23, 24, 27, 28, 29, 30, 31, 32, 33, 34, 35, 36, 37] 10 12 37 mixed (by decide +kernel) (by repeat' (first | exact .nil | refine .box rfl ?_ | refine .arr (rs_low _ _ _) ?_ | refine .dead ?_ | fail)) ?_
    | apply Dfm.go
    | exact Mid.go
    | (refine TF.mk ?_ ?_ <;> dsimp only [dropE, Nat.reduceBEq, cond_true, cond_false, List.size_toArray, List.length_cons, List.length_nil, Nat.reduceAdd, Nat.reduceSub])
    | refine cl (e1) ?_
    | refine cl (e2) ?_
    | refine OpK.of (OpOk.bldE D rfl rfl rfl rfl) ?_
    | refine OpD.of (OpOk.bldE D rfl rfl rfl rfl) ?_
    | refine OpM.v (OpOk.bldE D rfl rfl rfl rfl) rfl ?_
    | refine OpK.of (OpOk.bldF D [r] Rou.e rfl rfl rfl rfl (by decide) (by decide) (by decide) rfl rfl rfl) ?_
    | refine OpD.of (OpOk.bldF D [r] Rou.e rfl rfl rfl rfl (by decide) (by decide) (by decide) rfl rfl rfl) ?_
    | refine OpM.v (OpOk.bldF D [r] Rou.e rfl rfl rfl rfl (by decide) (by decide) (by decide) rfl rfl rfl) rfl ?_
    | refine goO ?_
    | refine WE.done (by with_unfolding_all rfl) ?_
    | refine WE.step (by with_unfolding_all rfl) ?_
    | refine WI.g0 rfl ?_
    | refine WI.r D rfl ?_
    | refine WI.g rfl rfl rfl ?_
    | refine WL.cons ?_ ?_
    | exact WL.nil
    | exact WL.on (by with_unfolding_all rfl)
    | refine WL.oc (by with_unfolding_all rfl) ?_ ?_
    | refine goN ?_
    | (refine WO.gs _ rfl rfl rfl ?_ ?_ <;> intro hb <;> simp only [hb] <;> (try simp at hb) <;> try contradiction)
    | (refine WD.gs _ rfl rfl rfl ?_ ?_ <;> intro hb <;> simp only [hb] <;> (try simp at hb) <;> try contradiction)
    | (refine WM.gs _ rfl rfl rfl ?_ ?_ <;> intro hb <;> simp only [hb] <;> (try simp at hb) <;> try contradiction)
    | (refine WF.gs _ rfl rfl rfl ?_ ?_ <;> intro hb <;> simp only [hb] <;> (try simp at hb) <;> try contradiction)
    | (refine WI.gs _ rfl rfl rfl ?_ ?_ <;> intro hb <;> simp only [hb] <;> (try simp at hb) <;> try contradiction))
    refine W.ghe Rou.e 5 3 (by decide) rfl ?_
    refine W.loop (σ := Nat × Bool × List Rou) (fun q => [(7, I q.1), (6, B q.2.1), (5, .c (.sl 1 q.2.2.length 0 q.2.2.length)), (4, .c .emp), (3, .c (.ptr 0 0)), (0, L Rou.e l)]) (fun q => [.box (tc r.e), .arr (Rs Rou.e q.2.2) 3])
      (fun q => q.1 ≤ l.length ∧ q.2.2.length ≤ 2 * q.1 ∧ l.foldl (learnS r) (false, []) = (l.drop q.1).foldl (learnS r) q.2) (fun q => l.length - q.1) 2 (fun _ _ => rfl) (0, false, []) ⟨by simp, by simp, by simp⟩ rfl (.cons rfl rfl (.cons rfl rfl (.cons rfl rfl (.cons rfl rfl (.cons rfl rfl (.cons rfl rfl (.nil))))))) ?_
    rintro ⟨k, d, out⟩ ⟨hk, hn, hy⟩
    dsimp only at hk hn hy
    by_cases hlt : k < l.length
    · have em := meet_spec l[k].span r.span
      rw [drop_cons hlt, List.foldl_cons] at hy
      have hs := (learnS_len r (d, out) l[k]).1
      dsimp only at hs
      repeat' (first
    | (refine W.cond rfl ?_ ?_ <;> intro hb <;> (try simp at hb) <;> try contradiction)
    | refine W.dfm 8 [0, 3, 4, 5, 6, 7, 8, 9, 21, 22, 23, 24, 27, 28, 29, 30, 31, 32, 33, 34, 35, 36, 37] 10 12 37 mixed (by decide +kernel) (by repeat' (first | exact .nil | refine .box rfl ?_ | refine .arr (rs_low _ _ _) ?_ | refine .dead ?_ | fail)) ?_
    | apply Dfm.go
    | exact Mid.go
    | (refine TF.mk ?_ ?_ <;> dsimp only [dropE, Nat.reduceBEq, cond_true, cond_false, List.size_toArray, List.length_cons, List.length_nil, Nat.reduceAdd, Nat.reduceSub])
    | (refine OpK.at 35 ?_; refine cl (em) ?_)
    | (refine OpM.at 35 ?_; refine cl (em) ?_)
    | (refine OpD.at 35 ?_; refine cl (em) ?_)
    | refine OpK.of (OpOk.bldF D [r] Rou.e rfl rfl rfl rfl (by decide) (by decide) (by decide) rfl rfl rfl) ?_
    | refine OpD.of (OpOk.bldF D [r] Rou.e rfl rfl rfl rfl (by decide) (by decide) (by decide) rfl rfl rfl) ?_
    | refine OpM.v (OpOk.bldF D [r] Rou.e rfl rfl rfl rfl (by decide) (by decide) (by decide) rfl rfl rfl) rfl ?_
    | refine OpK.of (OpOk.bldF D [l[k]] Rou.e rfl rfl rfl rfl (by decide) (by decide) (by decide) rfl rfl rfl) ?_
    | refine OpD.of (OpOk.bldF D [l[k]] Rou.e rfl rfl rfl rfl (by decide) (by decide) (by decide) rfl rfl rfl) ?_
    | refine OpM.v (OpOk.bldF D [l[k]] Rou.e rfl rfl rfl rfl (by decide) (by decide) (by decide) rfl rfl rfl) rfl ?_
    | refine OpK.of (OpOk.apM D rfl rfl rfl rfl rfl rfl rfl rfl (by first | rfl | simp) rfl rfl (fun _ => rfl) (by first | assumption | omega | (simp; omega)) (by decide)) ?_
    | refine OpD.of (OpOk.apM D rfl rfl rfl rfl rfl rfl rfl rfl (by first | rfl | simp) rfl rfl (fun _ => rfl) (by first | assumption | omega | (simp; omega)) (by decide)) ?_
    | refine OpM.v (OpOk.apM D rfl rfl rfl rfl rfl rfl rfl rfl (by first | rfl | simp) rfl rfl (fun _ => rfl) (by first | assumption | omega | (simp; omega)) (by decide)) rfl ?_
    | refine OpM.bl (OpOk.apM D rfl rfl rfl rfl rfl rfl rfl rfl (by first | rfl | simp) rfl rfl (fun _ => rfl) (by first | assumption | omega | (simp; omega)) (by decide)) ?_
    | refine goO ?_
    | refine WE.done (by with_unfolding_all rfl) ?_
    | refine WE.step (by with_unfolding_all rfl) ?_
    | refine WI.g0 rfl ?_
    | refine WI.r D rfl ?_
    | refine WI.g rfl rfl rfl ?_
    | refine WL.cons ?_ ?_
    | exact WL.nil
    | exact WL.on (by with_unfolding_all rfl)
    | refine WL.oc (by with_unfolding_all rfl) ?_ ?_
    | refine goN ?_
    | (refine WO.gs _ rfl rfl rfl ?_ ?_ <;> intro hb <;> simp only [hb] <;> (try simp at hb) <;> try contradiction)
    | (refine WD.gs _ rfl rfl rfl ?_ ?_ <;> intro hb <;> simp only [hb] <;> (try simp at hb) <;> try contradiction)
    | (refine WM.gs _ rfl rfl rfl ?_ ?_ <;> intro hb <;> simp only [hb] <;> (try simp at hb) <;> try contradiction)
    | (refine WF.gs _ rfl rfl rfl ?_ ?_ <;> intro hb <;> simp only [hb] <;> (try simp at hb) <;> try contradiction)
    | (refine WI.gs _ rfl rfl rfl ?_ ?_ <;> intro hb <;> simp only [hb] <;> (try simp at hb) <;> try contradiction))
      all_goals first
        | (exfalso; omega)
        | (have hS : learnS r (d, out) l[k] = (d, out) := by (clear em hy e1 e2 hs; unfold learnS; simp_all [gtS]; done)
           rw [hS] at hy
           exact ⟨(k + 1, d, out), ⟨by dsimp only; omega, by (dsimp only; omega), hy⟩, by dsimp only; omega, (.cons rfl rfl (.cons rfl rfl (.cons rfl rfl (.cons rfl rfl (.cons rfl rfl (.cons rfl rfl (.nil))))))), rfl, LH.lows (by repeat' (first | exact .nil | refine .box rfl ?_ | refine .arr (rs_low _ _ _) ?_ | refine .dead ?_ | fail))⟩)
        | (have hS : learnS r (d, out) l[k] = (d, out ++ [l[k]]) := by (clear em hy e1 e2 hs; unfold learnS; simp_all [gtS]; done)
           rw [hS] at hy
           exact ⟨(k + 1, d, out ++ [l[k]]), ⟨by dsimp only; omega, by (dsimp only; simp only [List.length_append, List.length_cons, List.length_nil]; omega), hy⟩, by dsimp only; omega, (.cons rfl rfl (.cons rfl rfl (.cons rfl rfl (.cons rfl rfl (.cons rfl rfl (.cons rfl rfl (.nil))))))), rfl, LH.lows (by repeat' (first | exact .nil | refine .box rfl ?_ | refine .arr (rs_low _ _ _) ?_ | refine .dead ?_ | fail))⟩)
        | (have hS : learnS r (d, out) l[k] = (true, out ++ [r] ++ [l[k]]) := by (clear em hy e1 e2 hs; unfold learnS; simp_all [gtS]; done)
           rw [hS] at hy
           exact ⟨(k + 1, true, out ++ [r] ++ [l[k]]), ⟨by dsimp only; omega, by (dsimp only; simp only [List.length_append, List.length_cons, List.length_nil]; omega), hy⟩, by dsimp only; omega, (.cons rfl rfl (.cons rfl rfl (.cons rfl rfl (.cons rfl rfl (.cons rfl rfl (.cons rfl rfl (.nil))))))), rfl, LH.lows (by repeat' (first | exact .nil | refine .box rfl ?_ | refine .arr (rs_low _ _ _) ?_ | refine .dead ?_ | fail))⟩)
        | (have hg : gtS l[k].span.lo r.span.lo = false := by (clear em hy e1 e2 hs; unfold gtS; cases hq : Op.bytesLess l[k].span.lo r.span.lo <;> simp_all)
           have hS : learnS r (d, out) l[k] = (d, out ++ [l[k]]) := by (clear em hy e1 e2 hs; unfold learnS; simp_all; done)
           rw [hS] at hy
           exact ⟨(k + 1, d, out ++ [l[k]]), ⟨by dsimp only; omega, by (dsimp only; simp only [List.length_append, List.length_cons, List.length_nil]; omega), hy⟩, by dsimp only; omega, (.cons rfl rfl (.cons rfl rfl (.cons rfl rfl (.cons rfl rfl (.cons rfl rfl (.cons rfl rfl (.nil))))))), rfl, LH.lows (by repeat' (first | exact .nil | refine .box rfl ?_ | refine .arr (rs_low _ _ _) ?_ | refine .dead ?_ | fail))⟩)
        | trace_state
    · repeat' (first
    | (refine W.cond rfl ?_ ?_ <;> intro hb <;> (try simp at hb) <;> try contradiction)
    | refine W.dfm 8 [0, 3, 4, 5, 6, 7, 8, 9, 21, 22, 23, 24, 27, 28, 29, 30, 31, 32, 33, 34, 35, 36, 37] 10 12 37 mixed (by decide +kernel) (by repeat' (first | exact .nil | refine .box rfl ?_ | refine .arr (rs_low _ _ _) ?_ | refine .dead ?_ | fail)) ?_
    | apply Dfm.go
    | exact Mid.go
    | (refine TF.mk ?_ ?_ <;> dsimp only [dropE, Nat.reduceBEq, cond_true, cond_false, List.size_toArray, List.length_cons, List.length_nil, Nat.reduceAdd, Nat.reduceSub])
    | refine OpK.of (OpOk.bldF D [r] Rou.e rfl rfl rfl rfl (by decide) (by decide) (by decide) rfl rfl rfl) ?_
    | refine OpD.of (OpOk.bldF D [r] Rou.e rfl rfl rfl rfl (by decide) (by decide) (by decide) rfl rfl rfl) ?_
    | refine OpM.v (OpOk.bldF D [r] Rou.e rfl rfl rfl rfl (by decide) (by decide) (by decide) rfl rfl rfl) rfl ?_
    | refine OpK.of (OpOk.apM D rfl rfl rfl rfl rfl rfl rfl rfl (by first | rfl | simp) rfl rfl (fun _ => rfl) (by first | assumption | omega | (simp; omega)) (by decide)) ?_
    | refine OpD.of (OpOk.apM D rfl rfl rfl rfl rfl rfl rfl rfl (by first | rfl | simp) rfl rfl (fun _ => rfl) (by first | assumption | omega | (simp; omega)) (by decide)) ?_
    | refine OpM.v (OpOk.apM D rfl rfl rfl rfl rfl rfl rfl rfl (by first | rfl | simp) rfl rfl (fun _ => rfl) (by first | assumption | omega | (simp; omega)) (by decide)) rfl ?_
    | refine OpM.bl (OpOk.apM D rfl rfl rfl rfl rfl rfl rfl rfl (by first | rfl | simp) rfl rfl (fun _ => rfl) (by first | assumption | omega | (simp; omega)) (by decide)) ?_
    | refine goO ?_
    | refine WE.done (by with_unfolding_all rfl) ?_
    | refine WE.step (by with_unfolding_all rfl) ?_
    | refine WI.g0 rfl ?_
    | refine WI.r D rfl ?_
    | refine WI.g rfl rfl rfl ?_
    | refine WL.cons ?_ ?_
    | exact WL.nil
    | exact WL.on (by with_unfolding_all rfl)
    | refine WL.oc (by with_unfolding_all rfl) ?_ ?_
    | refine goN ?_
    | (refine WO.gs _ rfl rfl rfl ?_ ?_ <;> intro hb <;> simp only [hb] <;> (try simp at hb) <;> try contradiction)
    | (refine WD.gs _ rfl rfl rfl ?_ ?_ <;> intro hb <;> simp only [hb] <;> (try simp at hb) <;> try contradiction)
    | (refine WM.gs _ rfl rfl rfl ?_ ?_ <;> intro hb <;> simp only [hb] <;> (try simp at hb) <;> try contradiction)
    | (refine WF.gs _ rfl rfl rfl ?_ ?_ <;> intro hb <;> simp only [hb] <;> (try simp at hb) <;> try contradiction)
    | (refine WI.gs _ rfl rfl rfl ?_ ?_ <;> intro hb <;> simp only [hb] <;> (try simp at hb) <;> try contradiction))
      all_goals first
        | (exfalso; omega)
        | (have hd : d = false := hb
           have hF : learn l r = out ++ [r] := by (unfold learn; rw [if_pos (by simp [h1, h2]), hy, List.drop_eq_nil_of_le (by omega), List.foldl_nil, hd, if_neg (by simp)])
           rw [hF]
           (first | refine Ro.c1 (.inr rfl) [1] rfl (by decide) (kp rfl) ?_ ?_ | refine Ro.a1 (.inr rfl) [1] rfl (by decide) (kp rfl) ?_ ?_ | refine Ro.t1 (.inr rfl) [1] rfl (by decide) (kp rfl) ?_ ?_ rfl); (repeat' (first | exact .nil | refine .cons rfl ?_ ?_ | refine .cons ?_ ?_ | refine .c ?_ | refine .ag ?_ | refine .box ?_ | exact .arr (rs_low _ _ _) | exact .dead | exact .id rfl | exact .sl rfl | exact .ptr rfl | exact .ap rfl | exact .emp | exact .full rfl rfl rfl rfl rfl | fail)))
        | (have hd : d = true := hb
           have hF : learn l r = out := by (unfold learn; rw [if_pos (by simp [h1, h2]), hy, List.drop_eq_nil_of_le (by omega), List.foldl_nil, hd, if_pos rfl])
           rw [hF]
           (first | refine Ro.c1 (.inr rfl) [1] rfl (by decide) (kp rfl) ?_ ?_ | refine Ro.a1 (.inr rfl) [1] rfl (by decide) (kp rfl) ?_ ?_ | refine Ro.t1 (.inr rfl) [1] rfl (by decide) (kp rfl) ?_ ?_ rfl); (repeat' (first | exact .nil | refine .cons rfl ?_ ?_ | refine .cons ?_ ?_ | refine .c ?_ | refine .ag ?_ | refine .box ?_ | exact .arr (rs_low _ _ _) | exact .dead | exact .id rfl | exact .sl rfl | exact .ptr rfl | exact .ap rfl | exact .emp | exact .full rfl rfl rfl rfl rfl | fail)))
        | trace_state
  · have hF : learn l r = [] := by (unfold learn; rw [if_neg (by rw [Bool.and_eq_true]; exact hv)])
    rw [hF]
    refine Po.gh (h1 := []) 3 (by decide) ?_
    refine Po.of D Try.func40 rfl rfl rfl ?_
    repeat' (first
    | (refine W.cond rfl ?_ ?_ <;> intro hb <;> (try simp at hb) <;> try contradiction)
    | refine W.dfm 8 [0, 3, 4, 5, 6, 7, 8, 9, 21, 22, 23, 24, 27, 28, 29, 30, 31, 32, 33, 34, 35, 36, 37] 10 12 37 mixed (by decide +kernel) (by repeat' (first | exact .nil | refine .box rfl ?_ | refine .arr (rs_low _ _ _) ?_ | refine .dead ?_ | fail)) ?_
    | apply Dfm.go
    | exact Mid.go
    | (refine TF.mk ?_ ?_ <;> dsimp only [dropE, Nat.reduceBEq, cond_true, cond_false, List.size_toArray, List.length_cons, List.length_nil, Nat.reduceAdd, Nat.reduceSub])
    | refine cl (e1) ?_
    | refine cl (e2) ?_
    | refine OpK.of (OpOk.bldE D rfl rfl rfl rfl) ?_
    | refine OpD.of (OpOk.bldE D rfl rfl rfl rfl) ?_
    | refine OpM.v (OpOk.bldE D rfl rfl rfl rfl) rfl ?_
    | refine OpK.of (OpOk.bldF D [r] Rou.e rfl rfl rfl rfl (by decide) (by decide) (by decide) rfl rfl rfl) ?_
    | refine OpD.of (OpOk.bldF D [r] Rou.e rfl rfl rfl rfl (by decide) (by decide) (by decide) rfl rfl rfl) ?_
    | refine OpM.v (OpOk.bldF D [r] Rou.e rfl rfl rfl rfl (by decide) (by decide) (by decide) rfl rfl rfl) rfl ?_
    | refine goO ?_
    | refine WE.done (by with_unfolding_all rfl) ?_
    | refine WE.step (by with_unfolding_all rfl) ?_
    | refine WI.g0 rfl ?_
    | refine WI.r D rfl ?_
    | refine WI.g rfl rfl rfl ?_
    | refine WL.cons ?_ ?_
    | exact WL.nil
    | exact WL.on (by with_unfolding_all rfl)
    | refine WL.oc (by with_unfolding_all rfl) ?_ ?_
    | refine goN ?_
    | (refine WO.gs _ rfl rfl rfl ?_ ?_ <;> intro hb <;> simp only [hb] <;> (try simp at hb) <;> try contradiction)
    | (refine WD.gs _ rfl rfl rfl ?_ ?_ <;> intro hb <;> simp only [hb] <;> (try simp at hb) <;> try contradiction)
    | (refine WM.gs _ rfl rfl rfl ?_ ?_ <;> intro hb <;> simp only [hb] <;> (try simp at hb) <;> try contradiction)
    | (refine WF.gs _ rfl rfl rfl ?_ ?_ <;> intro hb <;> simp only [hb] <;> (try simp at hb) <;> try contradiction)
    | (refine WI.gs _ rfl rfl rfl ?_ ?_ <;> intro hb <;> simp only [hb] <;> (try simp at hb) <;> try contradiction))
    all_goals first
      | (exfalso; exact hv ⟨by assumption, by assumption⟩)
      | (first | refine Ro.c1 (.inr rfl) [] rfl (by decide) (kp rfl) ?_ ?_ | refine Ro.a1 (.inr rfl) [] rfl (by decide) (kp rfl) ?_ ?_ | refine Ro.t1 (.inr rfl) [] rfl (by decide) (kp rfl) ?_ ?_ rfl); (repeat' (first | exact .nil | refine .cons rfl ?_ ?_ | refine .cons ?_ ?_ | refine .c ?_ | refine .ag ?_ | refine .box ?_ | exact .arr (rs_low _ _ _) | exact .dead | exact .id rfl | exact .sl rfl | exact .ptr rfl | exact .ap rfl | exact .emp | exact .full rfl rfl rfl rfl rfl | fail))
      | trace_state
end Go.YtamlleimfopmhaaMc

namespace Go.YtamlleimfopmhaaMc
open Go.Proofs
/-! ### Draws: caches -/
structure CacR (bs : List UInt8) (s s' : List Rou × Nat) : Prop where
  out : ∃ (k : Nat) (v : Iv) (p2 : Nat), Po Try.prog 63 [Rp, I 8] (rdH bs s.2) (I k) (rdH bs (s.2 + 1)) ∧ Po Try.prog 105 [Rp, I 0] (rdH bs (s.2 + 1)) (A v.e) (rdH bs p2) ∧ s' = (learn s.1 ⟨k, v⟩, p2)
def shR (l : List Rou) : Prop := ∀ r ∈ l, r.span.Sh
theorem learnF_mem (r : Rou) : ∀ (l : List Rou) (q : Bool × List Rou) (x : Rou), x ∈ (l.foldl (learnS r) q).2 → x ∈ q.2 ∨ x = r ∨ x ∈ l
  | [], q, x, h => .inl h
  | a :: l, q, x, h => by
    rw [List.foldl_cons] at h
    rcases learnF_mem r l _ x h with h | h | h
    · unfold learnS at h
      split at h
      · exact .inl h
      · split at h
        · simp only [List.append_assoc, List.mem_append, List.mem_cons, List.not_mem_nil, or_false] at h
          rcases h with h | h | h
          · exact .inl h
          · exact .inr (.inl h)
          · exact .inr (.inr (h ▸ List.mem_cons_self ..))
        · simp only [List.mem_append, List.mem_cons, List.not_mem_nil, or_false] at h
          rcases h with h | h
          · exact .inl h
          · exact .inr (.inr (h ▸ List.mem_cons_self ..))
    · exact .inr (.inl h)
    · exact .inr (.inr (List.mem_cons_of_mem _ h))
theorem learn_mem {l : List Rou} {r x : Rou} (h : x ∈ learn l r) : x = r ∨ x ∈ l := by
  unfold learn at h
  split at h
  · split at h
    · rcases learnF_mem r l _ x h with h | h | h
      · cases h
      · exact .inl h
      · exact .inr h
    · rw [List.mem_append, List.mem_singleton] at h
      rcases h with h | h
      · rcases learnF_mem r l _ x h with h | h | h
        · cases h
        · exact .inl h
        · exact .inr h
      · exact .inl h
  · cases h
theorem learnF_len (r : Rou) : ∀ (l : List Rou) (q : Bool × List Rou), (l.foldl (learnS r) q).2.length ≤ q.2.length + 2 * l.length
  | [], q => by simp
  | a :: l, q => by
    rw [List.foldl_cons]
    have h1 := learnF_len r l (learnS r q a)
    have h2 := (learnS_len r q a).1
    simp only [List.length_cons]; omega
theorem learn_len (l : List Rou) (r : Rou) : (learn l r).length ≤ 2 * l.length + 1 := by
  have h := learnF_len r l (false, [])
  simp only [List.length_nil, Nat.zero_add] at h
  unfold learn
  split
  · split
    · omega
    · simp only [List.length_append, List.length_cons, List.length_nil]; omega
  · simp
theorem cacR_ex {bs : List UInt8} {s : List Rou × Nat} (ro : Rok bs s.2) (hq : s.2 + 100 ≤ 1099511627776) (hs : shR s.1) : ∃ s', CacR bs s s' ∧ s.2 ≤ s'.2 ∧ s'.2 ≤ s.2 + 31 ∧ shR s'.1 ∧ s'.1.length ≤ 2 * s.1.length + 1 := by
  obtain ⟨k, k1, _, c⟩ := pick_ex ro 8 (by omega)
  obtain ⟨v, p2, a1, a2, a3, c2⟩ := span_ex (p := s.2 + 1) ⟨ro.b, by omega⟩ (by omega) 0 (by omega)
  refine ⟨(learn s.1 ⟨k, v⟩, p2), ⟨k, v, p2, c, c2, rfl⟩, by dsimp only; omega, by dsimp only; omega, fun x hx => ?_, learn_len _ _⟩
  rcases learn_mem hx with rfl | hx
  · exact a3
  · exact hs x hx
theorem cacs_ex {bs : List UInt8} {p : Nat} (ro : Rok bs p) (hq : p + 1000 ≤ 1099511627776) : ∃ f : Nat → List Rou × Nat, f 0 = ([], p) ∧ (∀ j, j ≤ 4 → p ≤ (f j).2 ∧ (f j).2 ≤ p + 31 * j ∧ shR (f j).1 ∧ (f j).1.length + 1 ≤ 2 ^ j) ∧ ∀ j, j < 4 → CacR bs (f j) (f (j + 1)) := by
  obtain ⟨f, f0, hf⟩ := iter_ex (fun j s => j ≤ 4 → p ≤ s.2 ∧ s.2 ≤ p + 31 * j ∧ shR s.1 ∧ s.1.length + 1 ≤ 2 ^ j) (fun j s s' => j < 4 → CacR bs s s') (fun j s hs => by
    by_cases hj : j < 4
    · obtain ⟨h1, h2, h3, h4⟩ := hs (by omega)
      obtain ⟨s', g1, g2, g3, g4, g5⟩ := cacR_ex (s := s) ⟨ro.b, by omega⟩ (by omega) h3
      exact ⟨s', fun _ => g1, fun _ => ⟨by omega, by omega, g4, by rw [Nat.pow_succ]; omega⟩⟩
    · exact ⟨s, fun h => absurd h hj, fun h => by omega⟩) ([], p) (fun _ => ⟨Nat.le_refl _, Nat.le_refl _, fun e h => (by cases h), by simp⟩)
  exact ⟨f, f0, fun j hj => (hf j).1 hj, fun j hj => (hf j).2 hj⟩
def cacV (own : Bool) (N : Nat) (f : Nat → List Rou × Nat) (j : Nat) : V := if j = 0 then .c .emp else if own && decide (j = N) then .c (.sl 1 (f j).1.length 0 (f j).1.length) else L Rou.e (f j).1
def cacH (own : Bool) (N : Nat) (f : Nat → List Rou × Nat) (j : Nat) : List Blk := if j = 0 then [] else if own && decide (j = N) then [.arr (Rs Rou.e (f j).1) 3] else []
abbrev cacE (own : Bool) (n : Int) (N : Nat) (f : Nat → List Rou × Nat) : Nat → Env := fun j => [(6, I ((N - j : Nat) : Int)), (5, cacV own N f j), (4, .c .emp), (1, I n), (0, Rp)]
abbrev cacP (bs : List UInt8) (own : Bool) (N : Nat) (f : Nat → List Rou × Nat) : Nat → List Blk := fun j => .box [.t (.l (bs.map eU)), .t (tI (f j).2)] :: cacH own N f j
theorem cacV_0 (own : Bool) (N : Nat) (f : Nat → List Rou × Nat) : cacV own N f 0 = .c .emp := rfl
theorem cacH_0 (own : Bool) (N : Nat) (f : Nat → List Rou × Nat) : cacH own N f 0 = [] := rfl
theorem cacV_m {own : Bool} {N : Nat} {f : Nat → List Rou × Nat} {j : Nat} (h0 : j ≠ 0) (h : own = false ∨ j ≠ N) : cacV own N f j = L Rou.e (f j).1 := by
  unfold cacV; rw [if_neg h0, if_neg]; rcases h with h | h <;> simp [h]
theorem cacH_m {own : Bool} {N : Nat} {f : Nat → List Rou × Nat} {j : Nat} (h0 : j ≠ 0) (h : own = false ∨ j ≠ N) : cacH own N f j = [] := by
  unfold cacH; rw [if_neg h0, if_neg]; rcases h with h | h <;> simp [h]
theorem cacV_n {N : Nat} {f : Nat → List Rou × Nat} (h0 : N ≠ 0) : cacV true N f N = .c (.sl 1 (f N).1.length 0 (f N).1.length) := by
  unfold cacV; rw [if_neg h0, if_pos (by simp)]
theorem cacH_n {N : Nat} {f : Nat → List Rou × Nat} (h0 : N ≠ 0) : cacH true N f N = [.arr (Rs Rou.e (f N).1) 3] := by
  unfold cacH; rw [if_neg h0, if_pos (by simp)]
end Go.YtamlleimfopmhaaMc

namespace Go.YtamlleimfopmhaaMc
open Go.Proofs
set_option maxHeartbeats 8000000 in
theorem cacheXF {bs : List UInt8} {p N p2 : Nat} {n : Int} {f : Nat → List Rou × Nat} (h4 : N ≤ 4) (e9 : Po Try.prog 63 [Rp, I 5] (rdH bs p) (I N) (rdH bs (p + 1))) (f0 : f 0 = ([], p + 1)) (f1 : ∀ j, j ≤ 4 → (f j).1.length + 1 ≤ 2 ^ j) (f2 : ∀ j, j < 4 → CacR bs (f j) (f (j + 1)))
    (eo : Po Try.prog 118 [Rp, I n] (rdH bs (f N).2) (B false) (rdH bs p2))  : Po Try.prog 104 [Rp, I n] (rdH bs p) (L Rou.e (f N).1) (rdH bs p2) := by
  have g4 := f1 N h4
  have g5 : 2 ^ N ≤ 2 ^ 4 := Nat.pow_le_pow_right (by decide) h4
  have g6 : (f N).1.length ≤ 40 := by have e : (2 : Nat) ^ 4 = 16 := rfl; omega
  refine Po.of D Try.func104 rfl rfl rfl ?_
  repeat' (first
    | (refine W.cond rfl ?_ ?_ <;> intro hb <;> (try simp at hb) <;> (try contradiction) <;> (try (exfalso; omega)))
    | (refine OpK.at 9 ?_; refine co [0] (e9) ?_)
    | refine OpK.of (OpOk.bldE D rfl rfl rfl rfl) ?_
    | refine goO ?_
    | refine goN ?_
    | (refine WO.gs _ rfl rfl rfl ?_ ?_ <;> intro hb <;> simp only [hb] <;> (try simp at hb) <;> (try contradiction) <;> (try (exfalso; omega))))
  refine W.loopN (cacE false n N f) (cacP bs false N f) N (by simp only [cacP, f0, cacH_0]) (.cons rfl rfl (.cons rfl rfl (.cons rfl rfl (.cons rfl rfl (.cons rfl rfl (.nil)))))) ?_
  intro j hj
  by_cases hlt : j < N
  · have h4 := f1 j (by omega)
    have h6 : 2 ^ j ≤ 2 ^ 4 := Nat.pow_le_pow_right (by decide) (by omega)
    have h7 : (f j).1.length ≤ 40 := by have e : (2 : Nat) ^ 4 = 16 := rfl; omega
    obtain ⟨k, v, q2, ck, cv, hs⟩ := (f2 j (by omega)).out
    have hP : (f (j + 1)).2 = q2 := by rw [hs]
    by_cases hj0 : j = 0
    · have hV : cacV false N f (j + 1) = L Rou.e (learn (f j).1 ⟨k, v⟩) := by rw [cacV_m (by omega) (.inl rfl), hs]
      have hH : cacH false N f (j + 1) = [] := cacH_m (by omega) (.inl rfl)
      have el := learn_spec (f j).1 ⟨k, v⟩ (by omega)
      subst hj0
      rw [f0] at hV el ck cv
      dsimp only at hV el ck cv
      dsimp only [cacE, cacP]
      rw [hV, hH, hP, cacV_0, cacH_0, f0]
      repeat' (first
    | (refine W.cond rfl ?_ ?_ <;> intro hb <;> (try simp at hb) <;> (try contradiction) <;> (try (exfalso; omega)))
    | (refine OpK.at 16 ?_; refine co [0] (ck) ?_)
    | (refine OpK.at 18 ?_; refine co [0] (cv) ?_)
    | (refine OpK.at 20 ?_; refine co [] ((Pu.po el)) ?_)
    | (refine OpK.at 13 ?_; refine OpK.of (OpOk.subN (N - 0) 1 rfl rfl rfl rfl rfl (by omega) (by omega)) ?_)
    | refine goO ?_
    | refine goN ?_
    | (refine WO.gs _ rfl rfl rfl ?_ ?_ <;> intro hb <;> simp only [hb] <;> (try simp at hb) <;> (try contradiction) <;> (try (exfalso; omega))))
      all_goals first
        | (exfalso; omega)
        | exact ⟨hlt, (.cons rfl rfl (.cons rfl rfl (.cons rfl rfl (.cons rfl rfl (.cons rfl rfl (.nil)))))), rfl⟩
        | trace_state
    · have hV : cacV false N f (j + 1) = L Rou.e (learn (f j).1 ⟨k, v⟩) := by rw [cacV_m (by omega) (.inl rfl), hs]
      have hH : cacH false N f (j + 1) = [] := cacH_m (by omega) (.inl rfl)
      have el := learn_spec (f j).1 ⟨k, v⟩ (by omega)
      dsimp only [cacE, cacP]
      rw [hV, hH, hP, cacV_m hj0 (.inl rfl), cacH_m hj0 (.inl rfl)]
      repeat' (first
    | (refine W.cond rfl ?_ ?_ <;> intro hb <;> (try simp at hb) <;> (try contradiction) <;> (try (exfalso; omega)))
    | (refine OpK.at 16 ?_; refine co [0] (ck) ?_)
    | (refine OpK.at 18 ?_; refine co [0] (cv) ?_)
    | (refine OpK.at 20 ?_; refine co [] ((Pu.po el)) ?_)
    | (refine OpK.at 13 ?_; refine OpK.of (OpOk.subN (N - j) 1 rfl rfl rfl rfl rfl (by omega) (by omega)) ?_)
    | refine goO ?_
    | refine goN ?_
    | (refine WO.gs _ rfl rfl rfl ?_ ?_ <;> intro hb <;> simp only [hb] <;> (try simp at hb) <;> (try contradiction) <;> (try (exfalso; omega))))
      all_goals first
        | (exfalso; omega)
        | exact ⟨hlt, (.cons rfl rfl (.cons rfl rfl (.cons rfl rfl (.cons rfl rfl (.cons rfl rfl (.nil)))))), rfl⟩
        | trace_state
  · have hjN : j = N := by omega
    subst hjN
    by_cases hj0 : j = 0
    · subst hj0
      rw [f0] at eo ⊢
      dsimp only [cacE, cacP]
      rw [cacV_0, cacH_0, f0]
      repeat' (first
    | (refine W.cond rfl ?_ ?_ <;> intro hb <;> (try simp at hb) <;> (try contradiction) <;> (try (exfalso; omega)))
    | (refine OpK.at 23 ?_; refine co [0] (eo) ?_)
    | refine goO ?_
    | refine goN ?_
    | (refine WO.gs _ rfl rfl rfl ?_ ?_ <;> intro hb <;> simp only [hb] <;> (try simp at hb) <;> (try contradiction) <;> (try (exfalso; omega))))
      all_goals first
        | (exfalso; omega)
        | (first | refine Ro.c1 (.inr rfl) [0] rfl (by decide) (kp rfl) ?_ ?_ | refine Ro.a1 (.inr rfl) [0] rfl (by decide) (kp rfl) ?_ ?_ | refine Ro.t1 (.inr rfl) [0] rfl (by decide) (kp rfl) ?_ ?_ rfl); (repeat' (first | exact .nil | refine .cons rfl ?_ ?_ | refine .cons ?_ ?_ | refine .c ?_ | refine .ag ?_ | refine .box ?_ | exact .arr (rs_low _ _ _) | exact .dead | exact .id rfl | exact .sl rfl | exact .ptr rfl | exact .ap rfl | exact .emp | exact .full rfl rfl rfl rfl rfl | fail))
        | trace_state
    · dsimp only [cacE, cacP]
      rw [cacV_m hj0 (.inl rfl), cacH_m hj0 (.inl rfl)]
      repeat' (first
    | (refine W.cond rfl ?_ ?_ <;> intro hb <;> (try simp at hb) <;> (try contradiction) <;> (try (exfalso; omega)))
    | (refine OpK.at 23 ?_; refine co [0] (eo) ?_)
    | refine goO ?_
    | refine goN ?_
    | (refine WO.gs _ rfl rfl rfl ?_ ?_ <;> intro hb <;> simp only [hb] <;> (try simp at hb) <;> (try contradiction) <;> (try (exfalso; omega))))
      all_goals first
        | (exfalso; omega)
        | (first | refine Ro.c1 (.inr rfl) [0] rfl (by decide) (kp rfl) ?_ ?_ | refine Ro.a1 (.inr rfl) [0] rfl (by decide) (kp rfl) ?_ ?_ | refine Ro.t1 (.inr rfl) [0] rfl (by decide) (kp rfl) ?_ ?_ rfl); (repeat' (first | exact .nil | refine .cons rfl ?_ ?_ | refine .cons ?_ ?_ | refine .c ?_ | refine .ag ?_ | refine .box ?_ | exact .arr (rs_low _ _ _) | exact .dead | exact .id rfl | exact .sl rfl | exact .ptr rfl | exact .ap rfl | exact .emp | exact .full rfl rfl rfl rfl rfl | fail))
        | trace_state

set_option maxHeartbeats 8000000 in
theorem cacheX0 {bs : List UInt8} {p N p2 : Nat} {n : Int} {f : Nat → List Rou × Nat} (h4 : N ≤ 4) (e9 : Po Try.prog 63 [Rp, I 5] (rdH bs p) (I N) (rdH bs (p + 1))) (f0 : f 0 = ([], p + 1)) (f1 : ∀ j, j ≤ 4 → (f j).1.length + 1 ≤ 2 ^ j) (f2 : ∀ j, j < 4 → CacR bs (f j) (f (j + 1)))
    (eo : Po Try.prog 118 [Rp, I n] (rdH bs (f N).2) (B true) (rdH bs p2)) (e3 : Po Try.prog 63 [Rp, I 3] (rdH bs p2) (I 0) (rdH bs (p2 + 1))) : Po Try.prog 104 [Rp, I n] (rdH bs p) (L Rou.e ((f N).1 ++ [⟨-1, ⟨[], []⟩⟩])) (rdH bs (p2 + 1)) := by
  have g4 := f1 N h4
  have g5 : 2 ^ N ≤ 2 ^ 4 := Nat.pow_le_pow_right (by decide) h4
  have g6 : (f N).1.length ≤ 40 := by have e : (2 : Nat) ^ 4 = 16 := rfl; omega
  refine Po.of D Try.func104 rfl rfl rfl ?_
  repeat' (first
    | (refine W.cond rfl ?_ ?_ <;> intro hb <;> (try simp at hb) <;> (try contradiction) <;> (try (exfalso; omega)))
    | (refine OpK.at 9 ?_; refine co [0] (e9) ?_)
    | refine OpK.of (OpOk.bldE D rfl rfl rfl rfl) ?_
    | refine goO ?_
    | refine goN ?_
    | (refine WO.gs _ rfl rfl rfl ?_ ?_ <;> intro hb <;> simp only [hb] <;> (try simp at hb) <;> (try contradiction) <;> (try (exfalso; omega))))
  refine W.loopN (cacE true n N f) (cacP bs true N f) N (by simp only [cacP, f0, cacH_0]) (.cons rfl rfl (.cons rfl rfl (.cons rfl rfl (.cons rfl rfl (.cons rfl rfl (.nil)))))) ?_
  intro j hj
  by_cases hlt : j < N
  · have h4 := f1 j (by omega)
    have h6 : 2 ^ j ≤ 2 ^ 4 := Nat.pow_le_pow_right (by decide) (by omega)
    have h7 : (f j).1.length ≤ 40 := by have e : (2 : Nat) ^ 4 = 16 := rfl; omega
    obtain ⟨k, v, q2, ck, cv, hs⟩ := (f2 j (by omega)).out
    have hP : (f (j + 1)).2 = q2 := by rw [hs]
    by_cases hl : j + 1 = N
    · subst hl
      by_cases hj0 : j = 0
      · have hV : cacV true (j + 1) f (j + 1) = .c (.sl 1 (learn (f j).1 ⟨k, v⟩).length 0 (learn (f j).1 ⟨k, v⟩).length) := by rw [cacV_n (by omega), hs]
        have hH : cacH true (j + 1) f (j + 1) = [.arr (Rs Rou.e (learn (f j).1 ⟨k, v⟩)) 3] := by rw [cacH_n (by omega), hs]
        have el := learn_own (f j).1 ⟨k, v⟩ (by omega)
        subst hj0
        rw [f0] at hV hH el ck cv
        dsimp only at hV hH el ck cv
        dsimp only [cacE, cacP]
        rw [hV, hH, hP, cacV_0, cacH_0, f0]
        repeat' (first
    | (refine W.cond rfl ?_ ?_ <;> intro hb <;> (try simp at hb) <;> (try contradiction) <;> (try (exfalso; omega)))
    | (refine OpK.at 16 ?_; refine co [0] (ck) ?_)
    | (refine OpK.at 18 ?_; refine co [0] (cv) ?_)
    | (refine OpK.at 20 ?_; refine co [] (el) ?_)
    | (refine OpK.at 13 ?_; refine OpK.of (OpOk.subN (0 + 1 - 0) 1 rfl rfl rfl rfl rfl (by omega) (by omega)) ?_)
    | refine goO ?_
    | refine goN ?_
    | (refine WO.gs _ rfl rfl rfl ?_ ?_ <;> intro hb <;> simp only [hb] <;> (try simp at hb) <;> (try contradiction) <;> (try (exfalso; omega))))
        all_goals first
          | (exfalso; omega)
          | exact ⟨hlt, (.cons rfl rfl (.cons rfl rfl (.cons rfl rfl (.cons rfl rfl (.cons rfl rfl (.nil)))))), rfl⟩
          | trace_state
      · have hV : cacV true (j + 1) f (j + 1) = .c (.sl 1 (learn (f j).1 ⟨k, v⟩).length 0 (learn (f j).1 ⟨k, v⟩).length) := by rw [cacV_n (by omega), hs]
        have hH : cacH true (j + 1) f (j + 1) = [.arr (Rs Rou.e (learn (f j).1 ⟨k, v⟩)) 3] := by rw [cacH_n (by omega), hs]
        have el := learn_own (f j).1 ⟨k, v⟩ (by omega)
        dsimp only [cacE, cacP]
        rw [hV, hH, hP, cacV_m hj0 (.inr (show j ≠ j + 1 by omega)), cacH_m hj0 (.inr (show j ≠ j + 1 by omega))]
        repeat' (first
    | (refine W.cond rfl ?_ ?_ <;> intro hb <;> (try simp at hb) <;> (try contradiction) <;> (try (exfalso; omega)))
    | (refine OpK.at 16 ?_; refine co [0] (ck) ?_)
    | (refine OpK.at 18 ?_; refine co [0] (cv) ?_)
    | (refine OpK.at 20 ?_; refine co [] (el) ?_)
    | (refine OpK.at 13 ?_; refine OpK.of (OpOk.subN (j + 1 - j) 1 rfl rfl rfl rfl rfl (by omega) (by omega)) ?_)
    | refine goO ?_
    | refine goN ?_
    | (refine WO.gs _ rfl rfl rfl ?_ ?_ <;> intro hb <;> simp only [hb] <;> (try simp at hb) <;> (try contradiction) <;> (try (exfalso; omega))))
        all_goals first
          | (exfalso; omega)
          | exact ⟨hlt, (.cons rfl rfl (.cons rfl rfl (.cons rfl rfl (.cons rfl rfl (.cons rfl rfl (.nil)))))), rfl⟩
          | trace_state
    · by_cases hj0 : j = 0
      · have hV : cacV true N f (j + 1) = L Rou.e (learn (f j).1 ⟨k, v⟩) := by rw [cacV_m (by omega) (.inr hl), hs]
        have hH : cacH true N f (j + 1) = [] := cacH_m (by omega) (.inr hl)
        have el := learn_spec (f j).1 ⟨k, v⟩ (by omega)
        subst hj0
        rw [f0] at hV el ck cv
        dsimp only at hV el ck cv
        dsimp only [cacE, cacP]
        rw [hV, hH, hP, cacV_0, cacH_0, f0]
        repeat' (first
    | (refine W.cond rfl ?_ ?_ <;> intro hb <;> (try simp at hb) <;> (try contradiction) <;> (try (exfalso; omega)))
    | (refine OpK.at 16 ?_; refine co [0] (ck) ?_)
    | (refine OpK.at 18 ?_; refine co [0] (cv) ?_)
    | (refine OpK.at 20 ?_; refine co [] ((Pu.po el)) ?_)
    | (refine OpK.at 13 ?_; refine OpK.of (OpOk.subN (N - 0) 1 rfl rfl rfl rfl rfl (by omega) (by omega)) ?_)
    | refine goO ?_
    | refine goN ?_
    | (refine WO.gs _ rfl rfl rfl ?_ ?_ <;> intro hb <;> simp only [hb] <;> (try simp at hb) <;> (try contradiction) <;> (try (exfalso; omega))))
        all_goals first
          | (exfalso; omega)
          | exact ⟨hlt, (.cons rfl rfl (.cons rfl rfl (.cons rfl rfl (.cons rfl rfl (.cons rfl rfl (.nil)))))), rfl⟩
          | trace_state
      · have hV : cacV true N f (j + 1) = L Rou.e (learn (f j).1 ⟨k, v⟩) := by rw [cacV_m (by omega) (.inr hl), hs]
        have hH : cacH true N f (j + 1) = [] := cacH_m (by omega) (.inr hl)
        have el := learn_spec (f j).1 ⟨k, v⟩ (by omega)
        dsimp only [cacE, cacP]
        rw [hV, hH, hP, cacV_m hj0 (.inr (show j ≠ N by omega)), cacH_m hj0 (.inr (show j ≠ N by omega))]
        repeat' (first
    | (refine W.cond rfl ?_ ?_ <;> intro hb <;> (try simp at hb) <;> (try contradiction) <;> (try (exfalso; omega)))
    | (refine OpK.at 16 ?_; refine co [0] (ck) ?_)
    | (refine OpK.at 18 ?_; refine co [0] (cv) ?_)
    | (refine OpK.at 20 ?_; refine co [] ((Pu.po el)) ?_)
    | (refine OpK.at 13 ?_; refine OpK.of (OpOk.subN (N - j) 1 rfl rfl rfl rfl rfl (by omega) (by omega)) ?_)
    | refine goO ?_
    | refine goN ?_
    | (refine WO.gs _ rfl rfl rfl ?_ ?_ <;> intro hb <;> simp only [hb] <;> (try simp at hb) <;> (try contradiction) <;> (try (exfalso; omega))))
        all_goals first
          | (exfalso; omega)
          | exact ⟨hlt, (.cons rfl rfl (.cons rfl rfl (.cons rfl rfl (.cons rfl rfl (.cons rfl rfl (.nil)))))), rfl⟩
          | trace_state
  · have hjN : j = N := by omega
    subst hjN
    by_cases hj0 : j = 0
    · subst hj0
      rw [f0] at eo ⊢
      dsimp only [cacE, cacP]
      rw [cacV_0, cacH_0, f0]
      repeat' (first
    | (refine W.cond rfl ?_ ?_ <;> intro hb <;> (try simp at hb) <;> (try contradiction) <;> (try (exfalso; omega)))
    | (refine OpK.at 23 ?_; refine co [0] (eo) ?_)
    | (refine OpK.at 25 ?_; refine co [0] (e3) ?_)
    | refine OpK.of (OpOk.bldF D [(⟨-1, ⟨[], []⟩⟩ : Rou)] Rou.e rfl rfl rfl rfl (by decide) (by decide) (by decide) rfl rfl rfl) ?_
    | refine OpK.of (OpOk.cpM D rfl rfl rfl rfl rfl rfl rfl rfl (by decide) (fun _ => rfl) (by simp) (by decide)) ?_
    | refine goO ?_
    | refine goN ?_
    | (refine WO.gs _ rfl rfl rfl ?_ ?_ <;> intro hb <;> simp only [hb] <;> (try simp at hb) <;> (try contradiction) <;> (try (exfalso; omega))))
      all_goals first
        | (exfalso; omega)
        | (first | refine Ro.c1 (.inr rfl) [0] rfl (by decide) (kp rfl) ?_ ?_ | refine Ro.a1 (.inr rfl) [0] rfl (by decide) (kp rfl) ?_ ?_ | refine Ro.t1 (.inr rfl) [0] rfl (by decide) (kp rfl) ?_ ?_ rfl); (repeat' (first | exact .nil | refine .cons rfl ?_ ?_ | refine .cons ?_ ?_ | refine .c ?_ | refine .ag ?_ | refine .box ?_ | exact .arr (rs_low _ _ _) | exact .dead | exact .id rfl | exact .sl rfl | exact .ptr rfl | exact .ap rfl | exact .emp | exact .full rfl rfl rfl rfl rfl | fail))
        | trace_state
    · dsimp only [cacE, cacP]
      rw [cacV_n hj0, cacH_n hj0]
      repeat' (first
    | (refine W.cond rfl ?_ ?_ <;> intro hb <;> (try simp at hb) <;> (try contradiction) <;> (try (exfalso; omega)))
    | (refine OpK.at 23 ?_; refine co [0] (eo) ?_)
    | (refine OpK.at 25 ?_; refine co [0] (e3) ?_)
    | refine OpK.of (OpOk.bldF D [(⟨-1, ⟨[], []⟩⟩ : Rou)] Rou.e rfl rfl rfl rfl (by decide) (by decide) (by decide) rfl rfl rfl) ?_
    | refine OpK.of (OpOk.apM D rfl rfl rfl rfl rfl rfl rfl rfl (by first | rfl | simp) rfl rfl (fun _ => rfl) (by first | assumption | omega | (simp; omega)) (by decide)) ?_
    | refine goO ?_
    | refine goN ?_
    | (refine WO.gs _ rfl rfl rfl ?_ ?_ <;> intro hb <;> simp only [hb] <;> (try simp at hb) <;> (try contradiction) <;> (try (exfalso; omega))))
      all_goals first
        | (exfalso; omega)
        | (first | refine Ro.c1 (.inr rfl) [0] rfl (by decide) (kp rfl) ?_ ?_ | refine Ro.a1 (.inr rfl) [0] rfl (by decide) (kp rfl) ?_ ?_ | refine Ro.t1 (.inr rfl) [0] rfl (by decide) (kp rfl) ?_ ?_ rfl); (repeat' (first | exact .nil | refine .cons rfl ?_ ?_ | refine .cons ?_ ?_ | refine .c ?_ | refine .ag ?_ | refine .box ?_ | exact .arr (rs_low _ _ _) | exact .dead | exact .id rfl | exact .sl rfl | exact .ptr rfl | exact .ap rfl | exact .emp | exact .full rfl rfl rfl rfl rfl | fail))
        | trace_state

set_option maxHeartbeats 8000000 in
theorem cacheX1 {bs : List UInt8} {p N p2 : Nat} {n : Int} {f : Nat → List Rou × Nat} (h4 : N ≤ 4) (e9 : Po Try.prog 63 [Rp, I 5] (rdH bs p) (I N) (rdH bs (p + 1))) (f0 : f 0 = ([], p + 1)) (f1 : ∀ j, j ≤ 4 → (f j).1.length + 1 ≤ 2 ^ j) (f2 : ∀ j, j < 4 → CacR bs (f j) (f (j + 1)))
    (eo : Po Try.prog 118 [Rp, I n] (rdH bs (f N).2) (B true) (rdH bs p2)) (e3 : Po Try.prog 63 [Rp, I 3] (rdH bs p2) (I 1) (rdH bs (p2 + 1))) : Po Try.prog 104 [Rp, I n] (rdH bs p) (L Rou.e ((f N).1 ++ (f N).1)) (rdH bs (p2 + 1)) := by
  have g4 := f1 N h4
  have g5 : 2 ^ N ≤ 2 ^ 4 := Nat.pow_le_pow_right (by decide) h4
  have g6 : (f N).1.length ≤ 40 := by have e : (2 : Nat) ^ 4 = 16 := rfl; omega
  refine Po.of D Try.func104 rfl rfl rfl ?_
  repeat' (first
    | (refine W.cond rfl ?_ ?_ <;> intro hb <;> (try simp at hb) <;> (try contradiction) <;> (try (exfalso; omega)))
    | (refine OpK.at 9 ?_; refine co [0] (e9) ?_)
    | refine OpK.of (OpOk.bldE D rfl rfl rfl rfl) ?_
    | refine goO ?_
    | refine goN ?_
    | (refine WO.gs _ rfl rfl rfl ?_ ?_ <;> intro hb <;> simp only [hb] <;> (try simp at hb) <;> (try contradiction) <;> (try (exfalso; omega))))
  refine W.loopN (cacE true n N f) (cacP bs true N f) N (by simp only [cacP, f0, cacH_0]) (.cons rfl rfl (.cons rfl rfl (.cons rfl rfl (.cons rfl rfl (.cons rfl rfl (.nil)))))) ?_
  intro j hj
  by_cases hlt : j < N
  · have h4 := f1 j (by omega)
    have h6 : 2 ^ j ≤ 2 ^ 4 := Nat.pow_le_pow_right (by decide) (by omega)
    have h7 : (f j).1.length ≤ 40 := by have e : (2 : Nat) ^ 4 = 16 := rfl; omega
    obtain ⟨k, v, q2, ck, cv, hs⟩ := (f2 j (by omega)).out
    have hP : (f (j + 1)).2 = q2 := by rw [hs]
    by_cases hl : j + 1 = N
    · subst hl
      by_cases hj0 : j = 0
      · have hV : cacV true (j + 1) f (j + 1) = .c (.sl 1 (learn (f j).1 ⟨k, v⟩).length 0 (learn (f j).1 ⟨k, v⟩).length) := by rw [cacV_n (by omega), hs]
        have hH : cacH true (j + 1) f (j + 1) = [.arr (Rs Rou.e (learn (f j).1 ⟨k, v⟩)) 3] := by rw [cacH_n (by omega), hs]
        have el := learn_own (f j).1 ⟨k, v⟩ (by omega)
        subst hj0
        rw [f0] at hV hH el ck cv
        dsimp only at hV hH el ck cv
        dsimp only [cacE, cacP]
        rw [hV, hH, hP, cacV_0, cacH_0, f0]
        repeat' (first
    | (refine W.cond rfl ?_ ?_ <;> intro hb <;> (try simp at hb) <;> (try contradiction) <;> (try (exfalso; omega)))
    | (refine OpK.at 16 ?_; refine co [0] (ck) ?_)
    | (refine OpK.at 18 ?_; refine co [0] (cv) ?_)
    | (refine OpK.at 20 ?_; refine co [] (el) ?_)
    | (refine OpK.at 13 ?_; refine OpK.of (OpOk.subN (0 + 1 - 0) 1 rfl rfl rfl rfl rfl (by omega) (by omega)) ?_)
    | refine goO ?_
    | refine goN ?_
    | (refine WO.gs _ rfl rfl rfl ?_ ?_ <;> intro hb <;> simp only [hb] <;> (try simp at hb) <;> (try contradiction) <;> (try (exfalso; omega))))
        all_goals first
          | (exfalso; omega)
          | exact ⟨hlt, (.cons rfl rfl (.cons rfl rfl (.cons rfl rfl (.cons rfl rfl (.cons rfl rfl (.nil)))))), rfl⟩
          | trace_state
      · have hV : cacV true (j + 1) f (j + 1) = .c (.sl 1 (learn (f j).1 ⟨k, v⟩).length 0 (learn (f j).1 ⟨k, v⟩).length) := by rw [cacV_n (by omega), hs]
        have hH : cacH true (j + 1) f (j + 1) = [.arr (Rs Rou.e (learn (f j).1 ⟨k, v⟩)) 3] := by rw [cacH_n (by omega), hs]
        have el := learn_own (f j).1 ⟨k, v⟩ (by omega)
        dsimp only [cacE, cacP]
        rw [hV, hH, hP, cacV_m hj0 (.inr (show j ≠ j + 1 by omega)), cacH_m hj0 (.inr (show j ≠ j + 1 by omega))]
        repeat' (first
    | (refine W.cond rfl ?_ ?_ <;> intro hb <;> (try simp at hb) <;> (try contradiction) <;> (try (exfalso; omega)))
    | (refine OpK.at 16 ?_; refine co [0] (ck) ?_)
    | (refine OpK.at 18 ?_; refine co [0] (cv) ?_)
    | (refine OpK.at 20 ?_; refine co [] (el) ?_)
    | (refine OpK.at 13 ?_; refine OpK.of (OpOk.subN (j + 1 - j) 1 rfl rfl rfl rfl rfl (by omega) (by omega)) ?_)
    | refine goO ?_
    | refine goN ?_
    | (refine WO.gs _ rfl rfl rfl ?_ ?_ <;> intro hb <;> simp only [hb] <;> (try simp at hb) <;> (try contradiction) <;> (try (exfalso; omega))))
        all_goals first
          | (exfalso; omega)
          | exact ⟨hlt, (.cons rfl rfl (.cons rfl rfl (.cons rfl rfl (.cons rfl rfl (.cons rfl rfl (.nil)))))), rfl⟩
          | trace_state
    · by_cases hj0 : j = 0
      · have hV : cacV true N f (j + 1) = L Rou.e (learn (f j).1 ⟨k, v⟩) := by rw [cacV_m (by omega) (.inr hl), hs]
        have hH : cacH true N f (j + 1) = [] := cacH_m (by omega) (.inr hl)
        have el := learn_spec (f j).1 ⟨k, v⟩ (by omega)
        subst hj0
        rw [f0] at hV el ck cv
        dsimp only at hV el ck cv
        dsimp only [cacE, cacP]
        rw [hV, hH, hP, cacV_0, cacH_0, f0]
        repeat' (first
    | (refine W.cond rfl ?_ ?_ <;> intro hb <;> (try simp at hb) <;> (try contradiction) <;> (try (exfalso; omega)))
    | (refine OpK.at 16 ?_; refine co [0] (ck) ?_)
    | (refine OpK.at 18 ?_; refine co [0] (cv) ?_)
    | (refine OpK.at 20 ?_; refine co [] ((Pu.po el)) ?_)
    | (refine OpK.at 13 ?_; refine OpK.of (OpOk.subN (N - 0) 1 rfl rfl rfl rfl rfl (by omega) (by omega)) ?_)
    | refine goO ?_
    | refine goN ?_
    | (refine WO.gs _ rfl rfl rfl ?_ ?_ <;> intro hb <;> simp only [hb] <;> (try simp at hb) <;> (try contradiction) <;> (try (exfalso; omega))))
        all_goals first
          | (exfalso; omega)
          | exact ⟨hlt, (.cons rfl rfl (.cons rfl rfl (.cons rfl rfl (.cons rfl rfl (.cons rfl rfl (.nil)))))), rfl⟩
          | trace_state
      · have hV : cacV true N f (j + 1) = L Rou.e (learn (f j).1 ⟨k, v⟩) := by rw [cacV_m (by omega) (.inr hl), hs]
        have hH : cacH true N f (j + 1) = [] := cacH_m (by omega) (.inr hl)
        have el := learn_spec (f j).1 ⟨k, v⟩ (by omega)
        dsimp only [cacE, cacP]
        rw [hV, hH, hP, cacV_m hj0 (.inr (show j ≠ N by omega)), cacH_m hj0 (.inr (show j ≠ N by omega))]
        repeat' (first
    | (refine W.cond rfl ?_ ?_ <;> intro hb <;> (try simp at hb) <;> (try contradiction) <;> (try (exfalso; omega)))
    | (refine OpK.at 16 ?_; refine co [0] (ck) ?_)
    | (refine OpK.at 18 ?_; refine co [0] (cv) ?_)
    | (refine OpK.at 20 ?_; refine co [] ((Pu.po el)) ?_)
    | (refine OpK.at 13 ?_; refine OpK.of (OpOk.subN (N - j) 1 rfl rfl rfl rfl rfl (by omega) (by omega)) ?_)
    | refine goO ?_
    | refine goN ?_
    | (refine WO.gs _ rfl rfl rfl ?_ ?_ <;> intro hb <;> simp only [hb] <;> (try simp at hb) <;> (try contradiction) <;> (try (exfalso; omega))))
        all_goals first
          | (exfalso; omega)
          | exact ⟨hlt, (.cons rfl rfl (.cons rfl rfl (.cons rfl rfl (.cons rfl rfl (.cons rfl rfl (.nil)))))), rfl⟩
          | trace_state
  · have hjN : j = N := by omega
    subst hjN
    by_cases hj0 : j = 0
    · subst hj0
      rw [f0] at eo ⊢
      dsimp only [cacE, cacP]
      rw [cacV_0, cacH_0, f0]
      repeat' (first
    | (refine W.cond rfl ?_ ?_ <;> intro hb <;> (try simp at hb) <;> (try contradiction) <;> (try (exfalso; omega)))
    | (refine OpK.at 23 ?_; refine co [0] (eo) ?_)
    | (refine OpK.at 25 ?_; refine co [0] (e3) ?_)
    | refine OpK.of (OpOk.appF D rfl rfl rfl rfl rfl rfl rfl rfl (es := []) rfl (by decide) (fun _ h => by cases h) (by decide) (by decide)) ?_
    | refine goO ?_
    | refine goN ?_
    | (refine WO.gs _ rfl rfl rfl ?_ ?_ <;> intro hb <;> simp only [hb] <;> (try simp at hb) <;> (try contradiction) <;> (try (exfalso; omega))))
      all_goals first
        | (exfalso; omega)
        | (first | refine Ro.c1 (.inr rfl) [0] rfl (by decide) (kp rfl) ?_ ?_ | refine Ro.a1 (.inr rfl) [0] rfl (by decide) (kp rfl) ?_ ?_ | refine Ro.t1 (.inr rfl) [0] rfl (by decide) (kp rfl) ?_ ?_ rfl); (repeat' (first | exact .nil | refine .cons rfl ?_ ?_ | refine .cons ?_ ?_ | refine .c ?_ | refine .ag ?_ | refine .box ?_ | exact .arr (rs_low _ _ _) | exact .dead | exact .id rfl | exact .sl rfl | exact .ptr rfl | exact .ap rfl | exact .emp | exact .full rfl rfl rfl rfl rfl | fail))
        | trace_state
    · dsimp only [cacE, cacP]
      rw [cacV_n hj0, cacH_n hj0]
      repeat' (first
    | (refine W.cond rfl ?_ ?_ <;> intro hb <;> (try simp at hb) <;> (try contradiction) <;> (try (exfalso; omega)))
    | (refine OpK.at 23 ?_; refine co [0] (eo) ?_)
    | (refine OpK.at 25 ?_; refine co [0] (e3) ?_)
    | refine OpK.of (OpOk.apO D rfl rfl rfl rfl rfl rfl rfl rfl rfl rfl rfl rfl rfl rfl (fun _ => rfl) (by omega) (by decide)) ?_
    | refine goO ?_
    | refine goN ?_
    | (refine WO.gs _ rfl rfl rfl ?_ ?_ <;> intro hb <;> simp only [hb] <;> (try simp at hb) <;> (try contradiction) <;> (try (exfalso; omega))))
      all_goals first
        | (exfalso; omega)
        | (first | refine Ro.c1 (.inr rfl) [0] rfl (by decide) (kp rfl) ?_ ?_ | refine Ro.a1 (.inr rfl) [0] rfl (by decide) (kp rfl) ?_ ?_ | refine Ro.t1 (.inr rfl) [0] rfl (by decide) (kp rfl) ?_ ?_ rfl); (repeat' (first | exact .nil | refine .cons rfl ?_ ?_ | refine .cons ?_ ?_ | refine .c ?_ | refine .ag ?_ | refine .box ?_ | exact .arr (rs_low _ _ _) | exact .dead | exact .id rfl | exact .sl rfl | exact .ptr rfl | exact .ap rfl | exact .emp | exact .full rfl rfl rfl rfl rfl | fail))
        | trace_state

set_option maxHeartbeats 8000000 in
theorem cacheX2 {bs : List UInt8} {p N p2 : Nat} {n : Int} {f : Nat → List Rou × Nat} (h4 : N ≤ 4) (e9 : Po Try.prog 63 [Rp, I 5] (rdH bs p) (I N) (rdH bs (p + 1))) (f0 : f 0 = ([], p + 1)) (f1 : ∀ j, j ≤ 4 → (f j).1.length + 1 ≤ 2 ^ j) (f2 : ∀ j, j < 4 → CacR bs (f j) (f (j + 1)))
    (eo : Po Try.prog 118 [Rp, I n] (rdH bs (f N).2) (B true) (rdH bs p2)) {k3 q k4 p3 : Nat} {v4 : Iv} (e3 : Po Try.prog 63 [Rp, I 3] (rdH bs p2) (I k3) (rdH bs (p2 + 1))) (hk3 : 2 ≤ k3) (e4 : Po Try.prog 63 [Rp, I 8] (rdH bs (p2 + 1)) (I k4) (rdH bs (p2 + 1 + 1))) (e5 : Po Try.prog 105 [Rp, I 2] (rdH bs (p2 + 1 + 1)) (A v4.e) (rdH bs p3)) : Po Try.prog 104 [Rp, I n] (rdH bs p) (L Rou.e ((f N).1 ++ [⟨k4, v4⟩])) (rdH bs p3) := by
  have g4 := f1 N h4
  have g5 : 2 ^ N ≤ 2 ^ 4 := Nat.pow_le_pow_right (by decide) h4
  have g6 : (f N).1.length ≤ 40 := by have e : (2 : Nat) ^ 4 = 16 := rfl; omega
  refine Po.of D Try.func104 rfl rfl rfl ?_
  repeat' (first
    | (refine W.cond rfl ?_ ?_ <;> intro hb <;> (try simp at hb) <;> (try contradiction) <;> (try (exfalso; omega)))
    | (refine OpK.at 9 ?_; refine co [0] (e9) ?_)
    | refine OpK.of (OpOk.bldE D rfl rfl rfl rfl) ?_
    | refine goO ?_
    | refine goN ?_
    | (refine WO.gs _ rfl rfl rfl ?_ ?_ <;> intro hb <;> simp only [hb] <;> (try simp at hb) <;> (try contradiction) <;> (try (exfalso; omega))))
  refine W.loopN (cacE true n N f) (cacP bs true N f) N (by simp only [cacP, f0, cacH_0]) (.cons rfl rfl (.cons rfl rfl (.cons rfl rfl (.cons rfl rfl (.cons rfl rfl (.nil)))))) ?_
  intro j hj
  by_cases hlt : j < N
  · have h4 := f1 j (by omega)
    have h6 : 2 ^ j ≤ 2 ^ 4 := Nat.pow_le_pow_right (by decide) (by omega)
    have h7 : (f j).1.length ≤ 40 := by have e : (2 : Nat) ^ 4 = 16 := rfl; omega
    obtain ⟨k, v, q2, ck, cv, hs⟩ := (f2 j (by omega)).out
    have hP : (f (j + 1)).2 = q2 := by rw [hs]
    by_cases hl : j + 1 = N
    · subst hl
      by_cases hj0 : j = 0
      · have hV : cacV true (j + 1) f (j + 1) = .c (.sl 1 (learn (f j).1 ⟨k, v⟩).length 0 (learn (f j).1 ⟨k, v⟩).length) := by rw [cacV_n (by omega), hs]
        have hH : cacH true (j + 1) f (j + 1) = [.arr (Rs Rou.e (learn (f j).1 ⟨k, v⟩)) 3] := by rw [cacH_n (by omega), hs]
        have el := learn_own (f j).1 ⟨k, v⟩ (by omega)
        subst hj0
        rw [f0] at hV hH el ck cv
        dsimp only at hV hH el ck cv
        dsimp only [cacE, cacP]
        rw [hV, hH, hP, cacV_0, cacH_0, f0]
        repeat' (first
    | (refine W.cond rfl ?_ ?_ <;> intro hb <;> (try simp at hb) <;> (try contradiction) <;> (try (exfalso; omega)))
    | (refine OpK.at 16 ?_; refine co [0] (ck) ?_)
    | (refine OpK.at 18 ?_; refine co [0] (cv) ?_)
    | (refine OpK.at 20 ?_; refine co [] (el) ?_)
    | (refine OpK.at 13 ?_; refine OpK.of (OpOk.subN (0 + 1 - 0) 1 rfl rfl rfl rfl rfl (by omega) (by omega)) ?_)
    | refine goO ?_
    | refine goN ?_
    | (refine WO.gs _ rfl rfl rfl ?_ ?_ <;> intro hb <;> simp only [hb] <;> (try simp at hb) <;> (try contradiction) <;> (try (exfalso; omega))))
        all_goals first
          | (exfalso; omega)
          | exact ⟨hlt, (.cons rfl rfl (.cons rfl rfl (.cons rfl rfl (.cons rfl rfl (.cons rfl rfl (.nil)))))), rfl⟩
          | trace_state
      · have hV : cacV true (j + 1) f (j + 1) = .c (.sl 1 (learn (f j).1 ⟨k, v⟩).length 0 (learn (f j).1 ⟨k, v⟩).length) := by rw [cacV_n (by omega), hs]
        have hH : cacH true (j + 1) f (j + 1) = [.arr (Rs Rou.e (learn (f j).1 ⟨k, v⟩)) 3] := by rw [cacH_n (by omega), hs]
        have el := learn_own (f j).1 ⟨k, v⟩ (by omega)
        dsimp only [cacE, cacP]
        rw [hV, hH, hP, cacV_m hj0 (.inr (show j ≠ j + 1 by omega)), cacH_m hj0 (.inr (show j ≠ j + 1 by omega))]
        repeat' (first
    | (refine W.cond rfl ?_ ?_ <;> intro hb <;> (try simp at hb) <;> (try contradiction) <;> (try (exfalso; omega)))
    | (refine OpK.at 16 ?_; refine co [0] (ck) ?_)
    | (refine OpK.at 18 ?_; refine co [0] (cv) ?_)
    | (refine OpK.at 20 ?_; refine co [] (el) ?_)
    | (refine OpK.at 13 ?_; refine OpK.of (OpOk.subN (j + 1 - j) 1 rfl rfl rfl rfl rfl (by omega) (by omega)) ?_)
    | refine goO ?_
    | refine goN ?_
    | (refine WO.gs _ rfl rfl rfl ?_ ?_ <;> intro hb <;> simp only [hb] <;> (try simp at hb) <;> (try contradiction) <;> (try (exfalso; omega))))
        all_goals first
          | (exfalso; omega)
          | exact ⟨hlt, (.cons rfl rfl (.cons rfl rfl (.cons rfl rfl (.cons rfl rfl (.cons rfl rfl (.nil)))))), rfl⟩
          | trace_state
    · by_cases hj0 : j = 0
      · have hV : cacV true N f (j + 1) = L Rou.e (learn (f j).1 ⟨k, v⟩) := by rw [cacV_m (by omega) (.inr hl), hs]
        have hH : cacH true N f (j + 1) = [] := cacH_m (by omega) (.inr hl)
        have el := learn_spec (f j).1 ⟨k, v⟩ (by omega)
        subst hj0
        rw [f0] at hV el ck cv
        dsimp only at hV el ck cv
        dsimp only [cacE, cacP]
        rw [hV, hH, hP, cacV_0, cacH_0, f0]
        repeat' (first
    | (refine W.cond rfl ?_ ?_ <;> intro hb <;> (try simp at hb) <;> (try contradiction) <;> (try (exfalso; omega)))
    | (refine OpK.at 16 ?_; refine co [0] (ck) ?_)
    | (refine OpK.at 18 ?_; refine co [0] (cv) ?_)
    | (refine OpK.at 20 ?_; refine co [] ((Pu.po el)) ?_)
    | (refine OpK.at 13 ?_; refine OpK.of (OpOk.subN (N - 0) 1 rfl rfl rfl rfl rfl (by omega) (by omega)) ?_)
    | refine goO ?_
    | refine goN ?_
    | (refine WO.gs _ rfl rfl rfl ?_ ?_ <;> intro hb <;> simp only [hb] <;> (try simp at hb) <;> (try contradiction) <;> (try (exfalso; omega))))
        all_goals first
          | (exfalso; omega)
          | exact ⟨hlt, (.cons rfl rfl (.cons rfl rfl (.cons rfl rfl (.cons rfl rfl (.cons rfl rfl (.nil)))))), rfl⟩
          | trace_state
      · have hV : cacV true N f (j + 1) = L Rou.e (learn (f j).1 ⟨k, v⟩) := by rw [cacV_m (by omega) (.inr hl), hs]
        have hH : cacH true N f (j + 1) = [] := cacH_m (by omega) (.inr hl)
        have el := learn_spec (f j).1 ⟨k, v⟩ (by omega)
        dsimp only [cacE, cacP]
        rw [hV, hH, hP, cacV_m hj0 (.inr (show j ≠ N by omega)), cacH_m hj0 (.inr (show j ≠ N by omega))]
        repeat' (first
    | (refine W.cond rfl ?_ ?_ <;> intro hb <;> (try simp at hb) <;> (try contradiction) <;> (try (exfalso; omega)))
    | (refine OpK.at 16 ?_; refine co [0] (ck) ?_)
    | (refine OpK.at 18 ?_; refine co [0] (cv) ?_)
    | (refine OpK.at 20 ?_; refine co [] ((Pu.po el)) ?_)
    | (refine OpK.at 13 ?_; refine OpK.of (OpOk.subN (N - j) 1 rfl rfl rfl rfl rfl (by omega) (by omega)) ?_)
    | refine goO ?_
    | refine goN ?_
    | (refine WO.gs _ rfl rfl rfl ?_ ?_ <;> intro hb <;> simp only [hb] <;> (try simp at hb) <;> (try contradiction) <;> (try (exfalso; omega))))
        all_goals first
          | (exfalso; omega)
          | exact ⟨hlt, (.cons rfl rfl (.cons rfl rfl (.cons rfl rfl (.cons rfl rfl (.cons rfl rfl (.nil)))))), rfl⟩
          | trace_state
  · have hjN : j = N := by omega
    subst hjN
    by_cases hj0 : j = 0
    · subst hj0
      rw [f0] at eo ⊢
      dsimp only [cacE, cacP]
      rw [cacV_0, cacH_0, f0]
      repeat' (first
    | (refine W.cond rfl ?_ ?_ <;> intro hb <;> (try simp at hb) <;> (try contradiction) <;> (try (exfalso; omega)))
    | (refine OpK.at 23 ?_; refine co [0] (eo) ?_)
    | (refine OpK.at 25 ?_; refine co [0] (e3) ?_)
    | (refine OpK.at 28 ?_; refine co [0] (e4) ?_)
    | (refine OpK.at 30 ?_; refine co [0] (e5) ?_)
    | refine OpK.of (OpOk.bldF D [(⟨k4, v4⟩ : Rou)] Rou.e rfl rfl rfl rfl (by decide) (by decide) (by decide) rfl rfl rfl) ?_
    | refine OpK.of (OpOk.cpM D rfl rfl rfl rfl rfl rfl rfl rfl (by decide) (fun _ => rfl) (by simp) (by decide)) ?_
    | refine goO ?_
    | refine goN ?_
    | (refine WO.gs _ rfl rfl rfl ?_ ?_ <;> intro hb <;> simp only [hb] <;> (try simp at hb) <;> (try contradiction) <;> (try (exfalso; omega))))
      all_goals first
        | (exfalso; omega)
        | (first | refine Ro.c1 (.inr rfl) [0] rfl (by decide) (kp rfl) ?_ ?_ | refine Ro.a1 (.inr rfl) [0] rfl (by decide) (kp rfl) ?_ ?_ | refine Ro.t1 (.inr rfl) [0] rfl (by decide) (kp rfl) ?_ ?_ rfl); (repeat' (first | exact .nil | refine .cons rfl ?_ ?_ | refine .cons ?_ ?_ | refine .c ?_ | refine .ag ?_ | refine .box ?_ | exact .arr (rs_low _ _ _) | exact .dead | exact .id rfl | exact .sl rfl | exact .ptr rfl | exact .ap rfl | exact .emp | exact .full rfl rfl rfl rfl rfl | fail))
        | trace_state
    · dsimp only [cacE, cacP]
      rw [cacV_n hj0, cacH_n hj0]
      repeat' (first
    | (refine W.cond rfl ?_ ?_ <;> intro hb <;> (try simp at hb) <;> (try contradiction) <;> (try (exfalso; omega)))
    | (refine OpK.at 23 ?_; refine co [0] (eo) ?_)
    | (refine OpK.at 25 ?_; refine co [0] (e3) ?_)
    | (refine OpK.at 28 ?_; refine co [0] (e4) ?_)
    | (refine OpK.at 30 ?_; refine co [0] (e5) ?_)
    | refine OpK.of (OpOk.bldF D [(⟨k4, v4⟩ : Rou)] Rou.e rfl rfl rfl rfl (by decide) (by decide) (by decide) rfl rfl rfl) ?_
    | refine OpK.of (OpOk.apM D rfl rfl rfl rfl rfl rfl rfl rfl (by first | rfl | simp) rfl rfl (fun _ => rfl) (by first | assumption | omega | (simp; omega)) (by decide)) ?_
    | refine goO ?_
    | refine goN ?_
    | (refine WO.gs _ rfl rfl rfl ?_ ?_ <;> intro hb <;> simp only [hb] <;> (try simp at hb) <;> (try contradiction) <;> (try (exfalso; omega))))
      all_goals first
        | (exfalso; omega)
        | (first | refine Ro.c1 (.inr rfl) [0] rfl (by decide) (kp rfl) ?_ ?_ | refine Ro.a1 (.inr rfl) [0] rfl (by decide) (kp rfl) ?_ ?_ | refine Ro.t1 (.inr rfl) [0] rfl (by decide) (kp rfl) ?_ ?_ rfl); (repeat' (first | exact .nil | refine .cons rfl ?_ ?_ | refine .cons ?_ ?_ | refine .c ?_ | refine .ag ?_ | refine .box ?_ | exact .arr (rs_low _ _ _) | exact .dead | exact .id rfl | exact .sl rfl | exact .ptr rfl | exact .ap rfl | exact .emp | exact .full rfl rfl rfl rfl rfl | fail))
        | trace_state

theorem cache_ex {bs : List UInt8} {p : Nat} (ro : Rok bs p) (hq : p + 2000 ≤ 1099511627776) (n : Int) (hn : n ≤ 1000) : ∃ (l : List Rou) (p' : Nat), p ≤ p' ∧ p' ≤ p + 300 ∧ shR l ∧ l.length ≤ 100 ∧ Po Try.prog 104 [Rp, I n] (rdH bs p) (L Rou.e l) (rdH bs p') := by
  obtain ⟨N, N1, _, e9⟩ := pick_ex ro 5 (by omega)
  have N1 := N1 (by omega)
  have h4 : N ≤ 4 := by omega
  obtain ⟨f, f0, f1, f2⟩ := cacs_ex (p := p + 1) ⟨ro.b, by omega⟩ (by omega)
  obtain ⟨g1, g2, g3, g4⟩ := f1 N h4
  have g5 : 2 ^ N ≤ 2 ^ 4 := Nat.pow_le_pow_right (by decide) h4
  have g6 : (f N).1.length ≤ 40 := by have e : (2 : Nat) ^ 4 = 16 := rfl; omega
  obtain ⟨b, p2, a1, a2, a3, eo⟩ := odd_ex (p := (f N).2) ⟨ro.b, by omega⟩ n hn
  have f1' : ∀ j, j ≤ 4 → (f j).1.length + 1 ≤ 2 ^ j := fun j hj => (f1 j hj).2.2.2
  have app : ∀ (a b : List Rou), shR a → shR b → shR (a ++ b) := fun a b ha hb x hx => by
    rcases List.mem_append.1 hx with hx | hx
    · exact ha x hx
    · exact hb x hx
  cases b with
  | false => exact ⟨(f N).1, p2, by omega, by omega, g3, by omega, cacheXF h4 e9 f0 f1' f2 eo⟩
  | true =>
    obtain ⟨k3, k1, _, e3⟩ := pick_ex (p := p2) ⟨ro.b, by omega⟩ 3 (by omega)
    have k1 := k1 (by omega)
    by_cases q0 : k3 = 0
    · subst q0
      exact ⟨(f N).1 ++ [⟨-1, ⟨[], []⟩⟩], p2 + 1, by omega, by omega, app _ _ g3 (fun x hx => by rw [List.mem_singleton] at hx; subst hx; exact ⟨by decide, by decide⟩), by simp; omega, cacheX0 h4 e9 f0 f1' f2 eo e3⟩
    by_cases q1 : k3 = 1
    · subst q1
      exact ⟨(f N).1 ++ (f N).1, p2 + 1, by omega, by omega, app _ _ g3 g3, by simp; omega, cacheX1 h4 e9 f0 f1' f2 eo e3⟩
    · obtain ⟨k4, _, _, e4⟩ := pick_ex (p := p2 + 1) ⟨ro.b, by omega⟩ 8 (by omega)
      obtain ⟨v4, p3, b1, b2, b3, e5⟩ := span_ex (p := p2 + 1 + 1) ⟨ro.b, by omega⟩ (by omega) 2 (by omega)
      exact ⟨(f N).1 ++ [⟨k4, v4⟩], p3, by omega, by omega, app _ _ g3 (fun x hx => by rw [List.mem_singleton] at hx; subst hx; exact b3), by simp; omega, cacheX2 (q := 0) h4 e9 f0 f1' f2 eo e3 (by omega) e4 e5⟩
end Go.YtamlleimfopmhaaMc

namespace Go.YtamlleimfopmhaaMc
open Go.Proofs
/-! ### Draws: clients -/
structure Cal.Dr (c : Cal) : Prop where
  sm : c.Sm
  seq : -1 ≤ c.seq ∧ c.seq ≤ 1000
  called : -1 ≤ c.called ∧ c.called ≤ 201
set_option maxHeartbeats 4000000 in
theorem cal00N {bs : List UInt8} {p : Nat} {n : Int} {l : List Rou} {s : Nat} {p1 : Nat} (ec : Po Try.prog 104 [Rp, I 0] (rdH bs p) (L Rou.e l) (rdH bs p1)) (e1 : Po Try.prog 63 [Rp, I 5] (rdH bs p1) (I s) (rdH bs (p1 + 1))) (hs : s < 5) {k2 : Nat} (e2 : Po Try.prog 63 [Rp, I 2] (rdH bs (p1 + 1)) (I k2) (rdH bs (p1 + 1 + 1))) (h2 : 0 < k2) {k6 : Nat} (e6 : Po Try.prog 63 [Rp, I 16] (rdH bs (p1 + 1 + 1)) (I k6) (rdH bs ((p1 + 1 + 1) + 1))) (h6 : (k6 : Int) ≠ 15) {p3 : Nat} (eo : Po Try.prog 118 [Rp, I n] (rdH bs ((p1 + 1 + 1) + 1)) (B false) (rdH bs p3)) : Po Try.prog 66 [Rp, I n] (rdH bs p) (A (⟨l, (s : Int), false, ⟨0, [], 0, 0⟩, 0⟩ : Cal).e) (rdH bs p3) := by
  refine Po.of D Try.func66 rfl rfl rfl ?_
  repeat' (first
    | (refine W.cond rfl ?_ ?_ <;> intro hb <;> (try simp at hb) <;> (try contradiction) <;> (try (exfalso; omega)))
    | refine W.dbe 3 [0, 1, 0, 4, 8, 0, 40, 0, 192, 338, 1023] mixed (by decide +kernel) ?_
    | (refine OpK.at 7 ?_; refine co [0] (ec) ?_)
    | (refine OpK.at 9 ?_; refine co [0] (e1) ?_)
    | (refine OpK.at 12 ?_; refine co [0] (e2) ?_)
    | (refine OpK.at 25 ?_; refine co [0] (e6) ?_)
    | (refine OpK.at 30 ?_; refine co [0] (eo) ?_)
    | refine goO ?_
    | refine WB.done rfl ?_
    | refine WB.step rfl ?_
    | refine WBI.r D rfl rfl ?_
    | refine WBI.g rfl rfl rfl rfl ?_
    | refine WBI.g0 rfl rfl ?_
    | exact WBL.nil
    | refine WBL.cons ?_ ?_
    | exact WBL.on rfl
    | refine WBL.oc rfl ?_ ?_
    | refine goN ?_
    | (refine WO.gs _ rfl rfl rfl ?_ ?_ <;> intro hb <;> simp only [hb] <;> (try simp at hb) <;> (try contradiction) <;> (try (exfalso; omega)))
    | (refine WBI.gs _ rfl rfl rfl ?_ ?_ <;> intro hb <;> simp only [hb] <;> (try simp at hb) <;> (try contradiction) <;> (try (exfalso; omega))))
  all_goals first
    | (exfalso; omega)
    | (first | refine Ro.c1 (.inr rfl) [0] rfl (by decide) (kp rfl) ?_ ?_ | refine Ro.a1 (.inr rfl) [0] rfl (by decide) (kp rfl) ?_ ?_ | refine Ro.t1 (.inr rfl) [0] rfl (by decide) (kp rfl) ?_ ?_ rfl); (repeat' (first | exact .nil | refine .cons rfl ?_ ?_ | refine .cons ?_ ?_ | refine .c ?_ | refine .ag ?_ | refine .box ?_ | exact .arr (rs_low _ _ _) | exact .dead | exact .id rfl | exact .sl rfl | exact .ptr rfl | exact .ap rfl | exact .emp | exact .full rfl rfl rfl rfl rfl | fail))
    | trace_state
set_option maxHeartbeats 4000000 in
theorem cal000 {bs : List UInt8} {p : Nat} {n : Int} {l : List Rou} {s : Nat} {p1 : Nat} (ec : Po Try.prog 104 [Rp, I 0] (rdH bs p) (L Rou.e l) (rdH bs p1)) (e1 : Po Try.prog 63 [Rp, I 5] (rdH bs p1) (I s) (rdH bs (p1 + 1))) (hs : s < 5) {k2 : Nat} (e2 : Po Try.prog 63 [Rp, I 2] (rdH bs (p1 + 1)) (I k2) (rdH bs (p1 + 1 + 1))) (h2 : 0 < k2) {k6 : Nat} (e6 : Po Try.prog 63 [Rp, I 16] (rdH bs (p1 + 1 + 1)) (I k6) (rdH bs ((p1 + 1 + 1) + 1))) (h6 : (k6 : Int) ≠ 15) {p3 : Nat} (eo : Po Try.prog 118 [Rp, I n] (rdH bs ((p1 + 1 + 1) + 1)) (B true) (rdH bs p3)) (e7 : Po Try.prog 63 [Rp, I 6] (rdH bs p3) (I 0) (rdH bs (p3 + 1))) {l2 : List Rou} {p4 : Nat} (e8 : Po Try.prog 104 [Rp, I 1] (rdH bs (p3 + 1)) (L Rou.e l2) (rdH bs p4)) : Po Try.prog 66 [Rp, I n] (rdH bs p) (A (⟨l2, (s : Int), false, ⟨0, [], 0, 0⟩, 0⟩ : Cal).e) (rdH bs p4) := by
  refine Po.of D Try.func66 rfl rfl rfl ?_
  repeat' (first
    | (refine W.cond rfl ?_ ?_ <;> intro hb <;> (try simp at hb) <;> (try contradiction) <;> (try (exfalso; omega)))
    | refine W.dbe 3 [0, 1, 0, 4, 8, 0, 40, 0, 192, 338, 1023] mixed (by decide +kernel) ?_
    | (refine OpK.at 7 ?_; refine co [0] (ec) ?_)
    | (refine OpK.at 9 ?_; refine co [0] (e1) ?_)
    | (refine OpK.at 12 ?_; refine co [0] (e2) ?_)
    | (refine OpK.at 25 ?_; refine co [0] (e6) ?_)
    | (refine OpK.at 30 ?_; refine co [0] (eo) ?_)
    | (refine OpK.at 32 ?_; refine co [0] (e7) ?_)
    | (refine OpK.at 38 ?_; refine co [0] (e8) ?_)
    | refine goO ?_
    | refine WB.done rfl ?_
    | refine WB.step rfl ?_
    | refine WBI.r D rfl rfl ?_
    | refine WBI.g rfl rfl rfl rfl ?_
    | refine WBI.g0 rfl rfl ?_
    | exact WBL.nil
    | refine WBL.cons ?_ ?_
    | exact WBL.on rfl
    | refine WBL.oc rfl ?_ ?_
    | refine goN ?_
    | (refine WO.gs _ rfl rfl rfl ?_ ?_ <;> intro hb <;> simp only [hb] <;> (try simp at hb) <;> (try contradiction) <;> (try (exfalso; omega)))
    | (refine WBI.gs _ rfl rfl rfl ?_ ?_ <;> intro hb <;> simp only [hb] <;> (try simp at hb) <;> (try contradiction) <;> (try (exfalso; omega))))
  all_goals first
    | (exfalso; omega)
    | (first | refine Ro.c1 (.inr rfl) [0] rfl (by decide) (kp rfl) ?_ ?_ | refine Ro.a1 (.inr rfl) [0] rfl (by decide) (kp rfl) ?_ ?_ | refine Ro.t1 (.inr rfl) [0] rfl (by decide) (kp rfl) ?_ ?_ rfl); (repeat' (first | exact .nil | refine .cons rfl ?_ ?_ | refine .cons ?_ ?_ | refine .c ?_ | refine .ag ?_ | refine .box ?_ | exact .arr (rs_low _ _ _) | exact .dead | exact .id rfl | exact .sl rfl | exact .ptr rfl | exact .ap rfl | exact .emp | exact .full rfl rfl rfl rfl rfl | fail))
    | trace_state
set_option maxHeartbeats 4000000 in
theorem cal001 {bs : List UInt8} {p : Nat} {n : Int} {l : List Rou} {s : Nat} {p1 : Nat} (ec : Po Try.prog 104 [Rp, I 0] (rdH bs p) (L Rou.e l) (rdH bs p1)) (e1 : Po Try.prog 63 [Rp, I 5] (rdH bs p1) (I s) (rdH bs (p1 + 1))) (hs : s < 5) {k2 : Nat} (e2 : Po Try.prog 63 [Rp, I 2] (rdH bs (p1 + 1)) (I k2) (rdH bs (p1 + 1 + 1))) (h2 : 0 < k2) {k6 : Nat} (e6 : Po Try.prog 63 [Rp, I 16] (rdH bs (p1 + 1 + 1)) (I k6) (rdH bs ((p1 + 1 + 1) + 1))) (h6 : (k6 : Int) ≠ 15) {p3 : Nat} (eo : Po Try.prog 118 [Rp, I n] (rdH bs ((p1 + 1 + 1) + 1)) (B true) (rdH bs p3)) (e7 : Po Try.prog 63 [Rp, I 6] (rdH bs p3) (I 1) (rdH bs (p3 + 1))) {k8 : Nat} (e8 : Po Try.prog 63 [Rp, I 2] (rdH bs (p3 + 1)) (I k8) (rdH bs (p3 + 1 + 1))) (h8 : k8 < ([-1, 1000] : List Int).length) : Po Try.prog 66 [Rp, I n] (rdH bs p) (A (⟨l, ([-1, 1000] : List Int)[k8], false, ⟨0, [], 0, 0⟩, 0⟩ : Cal).e) (rdH bs (p3 + 1 + 1)) := by
  refine Po.of D Try.func66 rfl rfl rfl ?_
  repeat' (first
    | (refine W.cond rfl ?_ ?_ <;> intro hb <;> (try simp at hb) <;> (try contradiction) <;> (try (exfalso; omega)))
    | refine W.dbe 3 [0, 1, 0, 4, 8, 0, 40, 0, 192, 338, 1023] mixed (by decide +kernel) ?_
    | (refine OpK.at 7 ?_; refine co [0] (ec) ?_)
    | (refine OpK.at 9 ?_; refine co [0] (e1) ?_)
    | (refine OpK.at 12 ?_; refine co [0] (e2) ?_)
    | (refine OpK.at 25 ?_; refine co [0] (e6) ?_)
    | (refine OpK.at 30 ?_; refine co [0] (eo) ?_)
    | (refine OpK.at 32 ?_; refine co [0] (e7) ?_)
    | (refine OpK.at 44 ?_; refine co [0] (e8) ?_)
    | refine OpK.of (OpOk.bldF D [-1, 1000] eI rfl rfl rfl rfl (by decide) (by decide) (by decide) rfl rfl rfl) ?_
    | (refine OpK.at 45 ?_; refine OpK.of (OpOk.ixM D rfl rfl rfl rfl rfl rfl h8 (fun _ => rfl)) ?_)
    | refine goO ?_
    | refine WB.done rfl ?_
    | refine WB.step rfl ?_
    | refine WBI.r D rfl rfl ?_
    | refine WBI.g rfl rfl rfl rfl ?_
    | refine WBI.g0 rfl rfl ?_
    | exact WBL.nil
    | refine WBL.cons ?_ ?_
    | exact WBL.on rfl
    | refine WBL.oc rfl ?_ ?_
    | refine goN ?_
    | (refine WO.gs _ rfl rfl rfl ?_ ?_ <;> intro hb <;> simp only [hb] <;> (try simp at hb) <;> (try contradiction) <;> (try (exfalso; omega)))
    | (refine WBI.gs _ rfl rfl rfl ?_ ?_ <;> intro hb <;> simp only [hb] <;> (try simp at hb) <;> (try contradiction) <;> (try (exfalso; omega))))
  all_goals first
    | (exfalso; omega)
    | (first | refine Ro.c1 (.inr rfl) [0] rfl (by decide) (kp rfl) ?_ ?_ | refine Ro.a1 (.inr rfl) [0] rfl (by decide) (kp rfl) ?_ ?_ | refine Ro.t1 (.inr rfl) [0] rfl (by decide) (kp rfl) ?_ ?_ rfl); (repeat' (first | exact .nil | refine .cons rfl ?_ ?_ | refine .cons ?_ ?_ | refine .c ?_ | refine .ag ?_ | refine .box ?_ | exact .arr (rs_low _ _ _) | exact .dead | exact .id rfl | exact .sl rfl | exact .ptr rfl | exact .ap rfl | exact .emp | exact .full rfl rfl rfl rfl rfl | fail))
    | trace_state
set_option maxHeartbeats 4000000 in
theorem cal002 {bs : List UInt8} {p : Nat} {n : Int} {l : List Rou} {s : Nat} {p1 : Nat} (ec : Po Try.prog 104 [Rp, I 0] (rdH bs p) (L Rou.e l) (rdH bs p1)) (e1 : Po Try.prog 63 [Rp, I 5] (rdH bs p1) (I s) (rdH bs (p1 + 1))) (hs : s < 5) {k2 : Nat} (e2 : Po Try.prog 63 [Rp, I 2] (rdH bs (p1 + 1)) (I k2) (rdH bs (p1 + 1 + 1))) (h2 : 0 < k2) {k6 : Nat} (e6 : Po Try.prog 63 [Rp, I 16] (rdH bs (p1 + 1 + 1)) (I k6) (rdH bs ((p1 + 1 + 1) + 1))) (h6 : (k6 : Int) ≠ 15) {p3 : Nat} (eo : Po Try.prog 118 [Rp, I n] (rdH bs ((p1 + 1 + 1) + 1)) (B true) (rdH bs p3)) (e7 : Po Try.prog 63 [Rp, I 6] (rdH bs p3) (I 2) (rdH bs (p3 + 1))) : Po Try.prog 66 [Rp, I n] (rdH bs p) (A (⟨l, (s : Int), false, ⟨5, [], 0, 0⟩, 0⟩ : Cal).e) (rdH bs (p3 + 1)) := by
  refine Po.of D Try.func66 rfl rfl rfl ?_
  repeat' (first
    | (refine W.cond rfl ?_ ?_ <;> intro hb <;> (try simp at hb) <;> (try contradiction) <;> (try (exfalso; omega)))
    | refine W.dbe 3 [0, 1, 0, 4, 8, 0, 40, 0, 192, 338, 1023] mixed (by decide +kernel) ?_
    | (refine OpK.at 7 ?_; refine co [0] (ec) ?_)
    | (refine OpK.at 9 ?_; refine co [0] (e1) ?_)
    | (refine OpK.at 12 ?_; refine co [0] (e2) ?_)
    | (refine OpK.at 25 ?_; refine co [0] (e6) ?_)
    | (refine OpK.at 30 ?_; refine co [0] (eo) ?_)
    | (refine OpK.at 32 ?_; refine co [0] (e7) ?_)
    | refine goO ?_
    | refine WB.done rfl ?_
    | refine WB.step rfl ?_
    | refine WBI.r D rfl rfl ?_
    | refine WBI.g rfl rfl rfl rfl ?_
    | refine WBI.g0 rfl rfl ?_
    | exact WBL.nil
    | refine WBL.cons ?_ ?_
    | exact WBL.on rfl
    | refine WBL.oc rfl ?_ ?_
    | refine goN ?_
    | (refine WO.gs _ rfl rfl rfl ?_ ?_ <;> intro hb <;> simp only [hb] <;> (try simp at hb) <;> (try contradiction) <;> (try (exfalso; omega)))
    | (refine WBI.gs _ rfl rfl rfl ?_ ?_ <;> intro hb <;> simp only [hb] <;> (try simp at hb) <;> (try contradiction) <;> (try (exfalso; omega))))
  all_goals first
    | (exfalso; omega)
    | (first | refine Ro.c1 (.inr rfl) [0] rfl (by decide) (kp rfl) ?_ ?_ | refine Ro.a1 (.inr rfl) [0] rfl (by decide) (kp rfl) ?_ ?_ | refine Ro.t1 (.inr rfl) [0] rfl (by decide) (kp rfl) ?_ ?_ rfl); (repeat' (first | exact .nil | refine .cons rfl ?_ ?_ | refine .cons ?_ ?_ | refine .c ?_ | refine .ag ?_ | refine .box ?_ | exact .arr (rs_low _ _ _) | exact .dead | exact .id rfl | exact .sl rfl | exact .ptr rfl | exact .ap rfl | exact .emp | exact .full rfl rfl rfl rfl rfl | fail))
    | trace_state
set_option maxHeartbeats 4000000 in
theorem cal003 {bs : List UInt8} {p : Nat} {n : Int} {l : List Rou} {s : Nat} {p1 : Nat} (ec : Po Try.prog 104 [Rp, I 0] (rdH bs p) (L Rou.e l) (rdH bs p1)) (e1 : Po Try.prog 63 [Rp, I 5] (rdH bs p1) (I s) (rdH bs (p1 + 1))) (hs : s < 5) {k2 : Nat} (e2 : Po Try.prog 63 [Rp, I 2] (rdH bs (p1 + 1)) (I k2) (rdH bs (p1 + 1 + 1))) (h2 : 0 < k2) {k6 : Nat} (e6 : Po Try.prog 63 [Rp, I 16] (rdH bs (p1 + 1 + 1)) (I k6) (rdH bs ((p1 + 1 + 1) + 1))) (h6 : (k6 : Int) ≠ 15) {p3 : Nat} (eo : Po Try.prog 118 [Rp, I n] (rdH bs ((p1 + 1 + 1) + 1)) (B true) (rdH bs p3)) (e7 : Po Try.prog 63 [Rp, I 6] (rdH bs p3) (I 3) (rdH bs (p3 + 1))) : Po Try.prog 66 [Rp, I n] (rdH bs p) (A (⟨l, (s : Int), true, ⟨0, [], 0, 0⟩, 0⟩ : Cal).e) (rdH bs (p3 + 1)) := by
  refine Po.of D Try.func66 rfl rfl rfl ?_
  repeat' (first
    | (refine W.cond rfl ?_ ?_ <;> intro hb <;> (try simp at hb) <;> (try contradiction) <;> (try (exfalso; omega)))
    | refine W.dbe 3 [0, 1, 0, 4, 8, 0, 40, 0, 192, 338, 1023] mixed (by decide +kernel) ?_
    | (refine OpK.at 7 ?_; refine co [0] (ec) ?_)
    | (refine OpK.at 9 ?_; refine co [0] (e1) ?_)
    | (refine OpK.at 12 ?_; refine co [0] (e2) ?_)
    | (refine OpK.at 25 ?_; refine co [0] (e6) ?_)
    | (refine OpK.at 30 ?_; refine co [0] (eo) ?_)
    | (refine OpK.at 32 ?_; refine co [0] (e7) ?_)
    | refine goO ?_
    | refine WB.done rfl ?_
    | refine WB.step rfl ?_
    | refine WBI.r D rfl rfl ?_
    | refine WBI.g rfl rfl rfl rfl ?_
    | refine WBI.g0 rfl rfl ?_
    | exact WBL.nil
    | refine WBL.cons ?_ ?_
    | exact WBL.on rfl
    | refine WBL.oc rfl ?_ ?_
    | refine goN ?_
    | (refine WO.gs _ rfl rfl rfl ?_ ?_ <;> intro hb <;> simp only [hb] <;> (try simp at hb) <;> (try contradiction) <;> (try (exfalso; omega)))
    | (refine WBI.gs _ rfl rfl rfl ?_ ?_ <;> intro hb <;> simp only [hb] <;> (try simp at hb) <;> (try contradiction) <;> (try (exfalso; omega))))
  all_goals first
    | (exfalso; omega)
    | (first | refine Ro.c1 (.inr rfl) [0] rfl (by decide) (kp rfl) ?_ ?_ | refine Ro.a1 (.inr rfl) [0] rfl (by decide) (kp rfl) ?_ ?_ | refine Ro.t1 (.inr rfl) [0] rfl (by decide) (kp rfl) ?_ ?_ rfl); (repeat' (first | exact .nil | refine .cons rfl ?_ ?_ | refine .cons ?_ ?_ | refine .c ?_ | refine .ag ?_ | refine .box ?_ | exact .arr (rs_low _ _ _) | exact .dead | exact .id rfl | exact .sl rfl | exact .ptr rfl | exact .ap rfl | exact .emp | exact .full rfl rfl rfl rfl rfl | fail))
    | trace_state
set_option maxHeartbeats 4000000 in
theorem cal004 {bs : List UInt8} {p : Nat} {n : Int} {l : List Rou} {s : Nat} {p1 : Nat} (ec : Po Try.prog 104 [Rp, I 0] (rdH bs p) (L Rou.e l) (rdH bs p1)) (e1 : Po Try.prog 63 [Rp, I 5] (rdH bs p1) (I s) (rdH bs (p1 + 1))) (hs : s < 5) {k2 : Nat} (e2 : Po Try.prog 63 [Rp, I 2] (rdH bs (p1 + 1)) (I k2) (rdH bs (p1 + 1 + 1))) (h2 : 0 < k2) {k6 : Nat} (e6 : Po Try.prog 63 [Rp, I 16] (rdH bs (p1 + 1 + 1)) (I k6) (rdH bs ((p1 + 1 + 1) + 1))) (h6 : (k6 : Int) ≠ 15) {p3 : Nat} (eo : Po Try.prog 118 [Rp, I n] (rdH bs ((p1 + 1 + 1) + 1)) (B true) (rdH bs p3)) (e7 : Po Try.prog 63 [Rp, I 6] (rdH bs p3) (I 4) (rdH bs (p3 + 1))) {k8 : Nat} (e8 : Po Try.prog 63 [Rp, I 2] (rdH bs (p3 + 1)) (I k8) (rdH bs (p3 + 1 + 1))) (h8 : k8 < ([-1, 201] : List Int).length) : Po Try.prog 66 [Rp, I n] (rdH bs p) (A (⟨l, (s : Int), false, ⟨0, [], 0, 0⟩, ([-1, 201] : List Int)[k8]⟩ : Cal).e) (rdH bs (p3 + 1 + 1)) := by
  refine Po.of D Try.func66 rfl rfl rfl ?_
  repeat' (first
    | (refine W.cond rfl ?_ ?_ <;> intro hb <;> (try simp at hb) <;> (try contradiction) <;> (try (exfalso; omega)))
    | refine W.dbe 3 [0, 1, 0, 4, 8, 0, 40, 0, 192, 338, 1023] mixed (by decide +kernel) ?_
    | (refine OpK.at 7 ?_; refine co [0] (ec) ?_)
    | (refine OpK.at 9 ?_; refine co [0] (e1) ?_)
    | (refine OpK.at 12 ?_; refine co [0] (e2) ?_)
    | (refine OpK.at 25 ?_; refine co [0] (e6) ?_)
    | (refine OpK.at 30 ?_; refine co [0] (eo) ?_)
    | (refine OpK.at 32 ?_; refine co [0] (e7) ?_)
    | (refine OpK.at 62 ?_; refine co [0] (e8) ?_)
    | refine OpK.of (OpOk.bldF D [-1, 201] eI rfl rfl rfl rfl (by decide) (by decide) (by decide) rfl rfl rfl) ?_
    | (refine OpK.at 63 ?_; refine OpK.of (OpOk.ixM D rfl rfl rfl rfl rfl rfl h8 (fun _ => rfl)) ?_)
    | refine goO ?_
    | refine WB.done rfl ?_
    | refine WB.step rfl ?_
    | refine WBI.r D rfl rfl ?_
    | refine WBI.g rfl rfl rfl rfl ?_
    | refine WBI.g0 rfl rfl ?_
    | exact WBL.nil
    | refine WBL.cons ?_ ?_
    | exact WBL.on rfl
    | refine WBL.oc rfl ?_ ?_
    | refine goN ?_
    | (refine WO.gs _ rfl rfl rfl ?_ ?_ <;> intro hb <;> simp only [hb] <;> (try simp at hb) <;> (try contradiction) <;> (try (exfalso; omega)))
    | (refine WBI.gs _ rfl rfl rfl ?_ ?_ <;> intro hb <;> simp only [hb] <;> (try simp at hb) <;> (try contradiction) <;> (try (exfalso; omega))))
  all_goals first
    | (exfalso; omega)
    | (first | refine Ro.c1 (.inr rfl) [0] rfl (by decide) (kp rfl) ?_ ?_ | refine Ro.a1 (.inr rfl) [0] rfl (by decide) (kp rfl) ?_ ?_ | refine Ro.t1 (.inr rfl) [0] rfl (by decide) (kp rfl) ?_ ?_ rfl); (repeat' (first | exact .nil | refine .cons rfl ?_ ?_ | refine .cons ?_ ?_ | refine .c ?_ | refine .ag ?_ | refine .box ?_ | exact .arr (rs_low _ _ _) | exact .dead | exact .id rfl | exact .sl rfl | exact .ptr rfl | exact .ap rfl | exact .emp | exact .full rfl rfl rfl rfl rfl | fail))
    | trace_state
set_option maxHeartbeats 4000000 in
theorem cal005 {bs : List UInt8} {p : Nat} {n : Int} {l : List Rou} {s : Nat} {p1 : Nat} (ec : Po Try.prog 104 [Rp, I 0] (rdH bs p) (L Rou.e l) (rdH bs p1)) (e1 : Po Try.prog 63 [Rp, I 5] (rdH bs p1) (I s) (rdH bs (p1 + 1))) (hs : s < 5) {k2 : Nat} (e2 : Po Try.prog 63 [Rp, I 2] (rdH bs (p1 + 1)) (I k2) (rdH bs (p1 + 1 + 1))) (h2 : 0 < k2) {k6 : Nat} (e6 : Po Try.prog 63 [Rp, I 16] (rdH bs (p1 + 1 + 1)) (I k6) (rdH bs ((p1 + 1 + 1) + 1))) (h6 : (k6 : Int) ≠ 15) {p3 : Nat} (eo : Po Try.prog 118 [Rp, I n] (rdH bs ((p1 + 1 + 1) + 1)) (B true) (rdH bs p3)) {k7 : Nat} (e7 : Po Try.prog 63 [Rp, I 6] (rdH bs p3) (I k7) (rdH bs (p3 + 1))) (h7 : 5 ≤ (k7 : Int)) : Po Try.prog 66 [Rp, I n] (rdH bs p) (A (⟨l, 0, true, ⟨0, [], 0, 0⟩, 0⟩ : Cal).e) (rdH bs (p3 + 1)) := by
  refine Po.of D Try.func66 rfl rfl rfl ?_
  repeat' (first
    | (refine W.cond rfl ?_ ?_ <;> intro hb <;> (try simp at hb) <;> (try contradiction) <;> (try (exfalso; omega)))
    | refine W.dbe 3 [0, 1, 0, 4, 8, 0, 40, 0, 192, 338, 1023] mixed (by decide +kernel) ?_
    | (refine OpK.at 7 ?_; refine co [0] (ec) ?_)
    | (refine OpK.at 9 ?_; refine co [0] (e1) ?_)
    | (refine OpK.at 12 ?_; refine co [0] (e2) ?_)
    | (refine OpK.at 25 ?_; refine co [0] (e6) ?_)
    | (refine OpK.at 30 ?_; refine co [0] (eo) ?_)
    | (refine OpK.at 32 ?_; refine co [0] (e7) ?_)
    | refine goO ?_
    | refine WB.done rfl ?_
    | refine WB.step rfl ?_
    | refine WBI.r D rfl rfl ?_
    | refine WBI.g rfl rfl rfl rfl ?_
    | refine WBI.g0 rfl rfl ?_
    | exact WBL.nil
    | refine WBL.cons ?_ ?_
    | exact WBL.on rfl
    | refine WBL.oc rfl ?_ ?_
    | refine goN ?_
    | (refine WO.gs _ rfl rfl rfl ?_ ?_ <;> intro hb <;> simp only [hb] <;> (try simp at hb) <;> (try contradiction) <;> (try (exfalso; omega)))
    | (refine WBI.gs _ rfl rfl rfl ?_ ?_ <;> intro hb <;> simp only [hb] <;> (try simp at hb) <;> (try contradiction) <;> (try (exfalso; omega))))
  all_goals first
    | (exfalso; omega)
    | (first | refine Ro.c1 (.inr rfl) [0] rfl (by decide) (kp rfl) ?_ ?_ | refine Ro.a1 (.inr rfl) [0] rfl (by decide) (kp rfl) ?_ ?_ | refine Ro.t1 (.inr rfl) [0] rfl (by decide) (kp rfl) ?_ ?_ rfl); (repeat' (first | exact .nil | refine .cons rfl ?_ ?_ | refine .cons ?_ ?_ | refine .c ?_ | refine .ag ?_ | refine .box ?_ | exact .arr (rs_low _ _ _) | exact .dead | exact .id rfl | exact .sl rfl | exact .ptr rfl | exact .ap rfl | exact .emp | exact .full rfl rfl rfl rfl rfl | fail))
    | trace_state
set_option maxHeartbeats 4000000 in
theorem cal01N {bs : List UInt8} {p : Nat} {n : Int} {l : List Rou} {s : Nat} {p1 : Nat} (ec : Po Try.prog 104 [Rp, I 0] (rdH bs p) (L Rou.e l) (rdH bs p1)) (e1 : Po Try.prog 63 [Rp, I 5] (rdH bs p1) (I s) (rdH bs (p1 + 1))) (hs : s < 5) {k2 : Nat} (e2 : Po Try.prog 63 [Rp, I 2] (rdH bs (p1 + 1)) (I k2) (rdH bs (p1 + 1 + 1))) (h2 : 0 < k2) (e6 : Po Try.prog 63 [Rp, I 16] (rdH bs (p1 + 1 + 1)) (I 15) (rdH bs ((p1 + 1 + 1) + 1))) {p3 : Nat} (eo : Po Try.prog 118 [Rp, I n] (rdH bs ((p1 + 1 + 1) + 1)) (B false) (rdH bs p3)) : Po Try.prog 66 [Rp, I n] (rdH bs p) (A (⟨l, 999, false, ⟨0, [], 0, 0⟩, 0⟩ : Cal).e) (rdH bs p3) := by
  refine Po.of D Try.func66 rfl rfl rfl ?_
  repeat' (first
    | (refine W.cond rfl ?_ ?_ <;> intro hb <;> (try simp at hb) <;> (try contradiction) <;> (try (exfalso; omega)))
    | refine W.dbe 3 [0, 1, 0, 4, 8, 0, 40, 0, 192, 338, 1023] mixed (by decide +kernel) ?_
    | (refine OpK.at 7 ?_; refine co [0] (ec) ?_)
    | (refine OpK.at 9 ?_; refine co [0] (e1) ?_)
    | (refine OpK.at 12 ?_; refine co [0] (e2) ?_)
    | (refine OpK.at 25 ?_; refine co [0] (e6) ?_)
    | (refine OpK.at 30 ?_; refine co [0] (eo) ?_)
    | refine goO ?_
    | refine WB.done rfl ?_
    | refine WB.step rfl ?_
    | refine WBI.r D rfl rfl ?_
    | refine WBI.g rfl rfl rfl rfl ?_
    | refine WBI.g0 rfl rfl ?_
    | exact WBL.nil
    | refine WBL.cons ?_ ?_
    | exact WBL.on rfl
    | refine WBL.oc rfl ?_ ?_
    | refine goN ?_
    | (refine WO.gs _ rfl rfl rfl ?_ ?_ <;> intro hb <;> simp only [hb] <;> (try simp at hb) <;> (try contradiction) <;> (try (exfalso; omega)))
    | (refine WBI.gs _ rfl rfl rfl ?_ ?_ <;> intro hb <;> simp only [hb] <;> (try simp at hb) <;> (try contradiction) <;> (try (exfalso; omega))))
  all_goals first
    | (exfalso; omega)
    | (first | refine Ro.c1 (.inr rfl) [0] rfl (by decide) (kp rfl) ?_ ?_ | refine Ro.a1 (.inr rfl) [0] rfl (by decide) (kp rfl) ?_ ?_ | refine Ro.t1 (.inr rfl) [0] rfl (by decide) (kp rfl) ?_ ?_ rfl); (repeat' (first | exact .nil | refine .cons rfl ?_ ?_ | refine .cons ?_ ?_ | refine .c ?_ | refine .ag ?_ | refine .box ?_ | exact .arr (rs_low _ _ _) | exact .dead | exact .id rfl | exact .sl rfl | exact .ptr rfl | exact .ap rfl | exact .emp | exact .full rfl rfl rfl rfl rfl | fail))
    | trace_state
set_option maxHeartbeats 4000000 in
theorem cal010 {bs : List UInt8} {p : Nat} {n : Int} {l : List Rou} {s : Nat} {p1 : Nat} (ec : Po Try.prog 104 [Rp, I 0] (rdH bs p) (L Rou.e l) (rdH bs p1)) (e1 : Po Try.prog 63 [Rp, I 5] (rdH bs p1) (I s) (rdH bs (p1 + 1))) (hs : s < 5) {k2 : Nat} (e2 : Po Try.prog 63 [Rp, I 2] (rdH bs (p1 + 1)) (I k2) (rdH bs (p1 + 1 + 1))) (h2 : 0 < k2) (e6 : Po Try.prog 63 [Rp, I 16] (rdH bs (p1 + 1 + 1)) (I 15) (rdH bs ((p1 + 1 + 1) + 1))) {p3 : Nat} (eo : Po Try.prog 118 [Rp, I n] (rdH bs ((p1 + 1 + 1) + 1)) (B true) (rdH bs p3)) (e7 : Po Try.prog 63 [Rp, I 6] (rdH bs p3) (I 0) (rdH bs (p3 + 1))) {l2 : List Rou} {p4 : Nat} (e8 : Po Try.prog 104 [Rp, I 1] (rdH bs (p3 + 1)) (L Rou.e l2) (rdH bs p4)) : Po Try.prog 66 [Rp, I n] (rdH bs p) (A (⟨l2, 999, false, ⟨0, [], 0, 0⟩, 0⟩ : Cal).e) (rdH bs p4) := by
  refine Po.of D Try.func66 rfl rfl rfl ?_
  repeat' (first
    | (refine W.cond rfl ?_ ?_ <;> intro hb <;> (try simp at hb) <;> (try contradiction) <;> (try (exfalso; omega)))
    | refine W.dbe 3 [0, 1, 0, 4, 8, 0, 40, 0, 192, 338, 1023] mixed (by decide +kernel) ?_
    | (refine OpK.at 7 ?_; refine co [0] (ec) ?_)
    | (refine OpK.at 9 ?_; refine co [0] (e1) ?_)
    | (refine OpK.at 12 ?_; refine co [0] (e2) ?_)
    | (refine OpK.at 25 ?_; refine co [0] (e6) ?_)
    | (refine OpK.at 30 ?_; refine co [0] (eo) ?_)
    | (refine OpK.at 32 ?_; refine co [0] (e7) ?_)
    | (refine OpK.at 38 ?_; refine co [0] (e8) ?_)
    | refine goO ?_
    | refine WB.done rfl ?_
    | refine WB.step rfl ?_
    | refine WBI.r D rfl rfl ?_
    | refine WBI.g rfl rfl rfl rfl ?_
    | refine WBI.g0 rfl rfl ?_
    | exact WBL.nil
    | refine WBL.cons ?_ ?_
    | exact WBL.on rfl
    | refine WBL.oc rfl ?_ ?_
    | refine goN ?_
    | (refine WO.gs _ rfl rfl rfl ?_ ?_ <;> intro hb <;> simp only [hb] <;> (try simp at hb) <;> (try contradiction) <;> (try (exfalso; omega)))
    | (refine WBI.gs _ rfl rfl rfl ?_ ?_ <;> intro hb <;> simp only [hb] <;> (try simp at hb) <;> (try contradiction) <;> (try (exfalso; omega))))
  all_goals first
    | (exfalso; omega)
    | (first | refine Ro.c1 (.inr rfl) [0] rfl (by decide) (kp rfl) ?_ ?_ | refine Ro.a1 (.inr rfl) [0] rfl (by decide) (kp rfl) ?_ ?_ | refine Ro.t1 (.inr rfl) [0] rfl (by decide) (kp rfl) ?_ ?_ rfl); (repeat' (first | exact .nil | refine .cons rfl ?_ ?_ | refine .cons ?_ ?_ | refine .c ?_ | refine .ag ?_ | refine .box ?_ | exact .arr (rs_low _ _ _) | exact .dead | exact .id rfl | exact .sl rfl | exact .ptr rfl | exact .ap rfl | exact .emp | exact .full rfl rfl rfl rfl rfl | fail))
    | trace_state
set_option maxHeartbeats 4000000 in
theorem cal011 {bs : List UInt8} {p : Nat} {n : Int} {l : List Rou} {s : Nat} {p1 : Nat} (ec : Po Try.prog 104 [Rp, I 0] (rdH bs p) (L Rou.e l) (rdH bs p1)) (e1 : Po Try.prog 63 [Rp, I 5] (rdH bs p1) (I s) (rdH bs (p1 + 1))) (hs : s < 5) {k2 : Nat} (e2 : Po Try.prog 63 [Rp, I 2] (rdH bs (p1 + 1)) (I k2) (rdH bs (p1 + 1 + 1))) (h2 : 0 < k2) (e6 : Po Try.prog 63 [Rp, I 16] (rdH bs (p1 + 1 + 1)) (I 15) (rdH bs ((p1 + 1 + 1) + 1))) {p3 : Nat} (eo : Po Try.prog 118 [Rp, I n] (rdH bs ((p1 + 1 + 1) + 1)) (B true) (rdH bs p3)) (e7 : Po Try.prog 63 [Rp, I 6] (rdH bs p3) (I 1) (rdH bs (p3 + 1))) {k8 : Nat} (e8 : Po Try.prog 63 [Rp, I 2] (rdH bs (p3 + 1)) (I k8) (rdH bs (p3 + 1 + 1))) (h8 : k8 < ([-1, 1000] : List Int).length) : Po Try.prog 66 [Rp, I n] (rdH bs p) (A (⟨l, ([-1, 1000] : List Int)[k8], false, ⟨0, [], 0, 0⟩, 0⟩ : Cal).e) (rdH bs (p3 + 1 + 1)) := by
  refine Po.of D Try.func66 rfl rfl rfl ?_
  repeat' (first
    | (refine W.cond rfl ?_ ?_ <;> intro hb <;> (try simp at hb) <;> (try contradiction) <;> (try (exfalso; omega)))
    | refine W.dbe 3 [0, 1, 0, 4, 8, 0, 40, 0, 192, 338, 1023] mixed (by decide +kernel) ?_
    | (refine OpK.at 7 ?_; refine co [0] (ec) ?_)
    | (refine OpK.at 9 ?_; refine co [0] (e1) ?_)
    | (refine OpK.at 12 ?_; refine co [0] (e2) ?_)
    | (refine OpK.at 25 ?_; refine co [0] (e6) ?_)
    | (refine OpK.at 30 ?_; refine co [0] (eo) ?_)
    | (refine OpK.at 32 ?_; refine co [0] (e7) ?_)
    | (refine OpK.at 44 ?_; refine co [0] (e8) ?_)
    | refine OpK.of (OpOk.bldF D [-1, 1000] eI rfl rfl rfl rfl (by decide) (by decide) (by decide) rfl rfl rfl) ?_
    | (refine OpK.at 45 ?_; refine OpK.of (OpOk.ixM D rfl rfl rfl rfl rfl rfl h8 (fun _ => rfl)) ?_)
    | refine goO ?_
    | refine WB.done rfl ?_
    | refine WB.step rfl ?_
    | refine WBI.r D rfl rfl ?_
    | refine WBI.g rfl rfl rfl rfl ?_
    | refine WBI.g0 rfl rfl ?_
    | exact WBL.nil
    | refine WBL.cons ?_ ?_
    | exact WBL.on rfl
    | refine WBL.oc rfl ?_ ?_
    | refine goN ?_
    | (refine WO.gs _ rfl rfl rfl ?_ ?_ <;> intro hb <;> simp only [hb] <;> (try simp at hb) <;> (try contradiction) <;> (try (exfalso; omega)))
    | (refine WBI.gs _ rfl rfl rfl ?_ ?_ <;> intro hb <;> simp only [hb] <;> (try simp at hb) <;> (try contradiction) <;> (try (exfalso; omega))))
  all_goals first
    | (exfalso; omega)
    | (first | refine Ro.c1 (.inr rfl) [0] rfl (by decide) (kp rfl) ?_ ?_ | refine Ro.a1 (.inr rfl) [0] rfl (by decide) (kp rfl) ?_ ?_ | refine Ro.t1 (.inr rfl) [0] rfl (by decide) (kp rfl) ?_ ?_ rfl); (repeat' (first | exact .nil | refine .cons rfl ?_ ?_ | refine .cons ?_ ?_ | refine .c ?_ | refine .ag ?_ | refine .box ?_ | exact .arr (rs_low _ _ _) | exact .dead | exact .id rfl | exact .sl rfl | exact .ptr rfl | exact .ap rfl | exact .emp | exact .full rfl rfl rfl rfl rfl | fail))
    | trace_state
set_option maxHeartbeats 4000000 in
theorem cal012 {bs : List UInt8} {p : Nat} {n : Int} {l : List Rou} {s : Nat} {p1 : Nat} (ec : Po Try.prog 104 [Rp, I 0] (rdH bs p) (L Rou.e l) (rdH bs p1)) (e1 : Po Try.prog 63 [Rp, I 5] (rdH bs p1) (I s) (rdH bs (p1 + 1))) (hs : s < 5) {k2 : Nat} (e2 : Po Try.prog 63 [Rp, I 2] (rdH bs (p1 + 1)) (I k2) (rdH bs (p1 + 1 + 1))) (h2 : 0 < k2) (e6 : Po Try.prog 63 [Rp, I 16] (rdH bs (p1 + 1 + 1)) (I 15) (rdH bs ((p1 + 1 + 1) + 1))) {p3 : Nat} (eo : Po Try.prog 118 [Rp, I n] (rdH bs ((p1 + 1 + 1) + 1)) (B true) (rdH bs p3)) (e7 : Po Try.prog 63 [Rp, I 6] (rdH bs p3) (I 2) (rdH bs (p3 + 1))) : Po Try.prog 66 [Rp, I n] (rdH bs p) (A (⟨l, 999, false, ⟨5, [], 0, 0⟩, 0⟩ : Cal).e) (rdH bs (p3 + 1)) := by
  refine Po.of D Try.func66 rfl rfl rfl ?_
  repeat' (first
    | (refine W.cond rfl ?_ ?_ <;> intro hb <;> (try simp at hb) <;> (try contradiction) <;> (try (exfalso; omega)))
    | refine W.dbe 3 [0, 1, 0, 4, 8, 0, 40, 0, 192, 338, 1023] mixed (by decide +kernel) ?_
    | (refine OpK.at 7 ?_; refine co [0] (ec) ?_)
    | (refine OpK.at 9 ?_; refine co [0] (e1) ?_)
    | (refine OpK.at 12 ?_; refine co [0] (e2) ?_)
    | (refine OpK.at 25 ?_; refine co [0] (e6) ?_)
    | (refine OpK.at 30 ?_; refine co [0] (eo) ?_)
    | (refine OpK.at 32 ?_; refine co [0] (e7) ?_)
    | refine goO ?_
    | refine WB.done rfl ?_
    | refine WB.step rfl ?_
    | refine WBI.r D rfl rfl ?_
    | refine WBI.g rfl rfl rfl rfl ?_
    | refine WBI.g0 rfl rfl ?_
    | exact WBL.nil
    | refine WBL.cons ?_ ?_
    | exact WBL.on rfl
    | refine WBL.oc rfl ?_ ?_
    | refine goN ?_
    | (refine WO.gs _ rfl rfl rfl ?_ ?_ <;> intro hb <;> simp only [hb] <;> (try simp at hb) <;> (try contradiction) <;> (try (exfalso; omega)))
    | (refine WBI.gs _ rfl rfl rfl ?_ ?_ <;> intro hb <;> simp only [hb] <;> (try simp at hb) <;> (try contradiction) <;> (try (exfalso; omega))))
  all_goals first
    | (exfalso; omega)
    | (first | refine Ro.c1 (.inr rfl) [0] rfl (by decide) (kp rfl) ?_ ?_ | refine Ro.a1 (.inr rfl) [0] rfl (by decide) (kp rfl) ?_ ?_ | refine Ro.t1 (.inr rfl) [0] rfl (by decide) (kp rfl) ?_ ?_ rfl); (repeat' (first | exact .nil | refine .cons rfl ?_ ?_ | refine .cons ?_ ?_ | refine .c ?_ | refine .ag ?_ | refine .box ?_ | exact .arr (rs_low _ _ _) | exact .dead | exact .id rfl | exact .sl rfl | exact .ptr rfl | exact .ap rfl | exact .emp | exact .full rfl rfl rfl rfl rfl | fail))
    | trace_state
set_option maxHeartbeats 4000000 in
theorem cal013 {bs : List UInt8} {p : Nat} {n : Int} {l : List Rou} {s : Nat} {p1 : Nat} (ec : Po Try.prog 104 [Rp, I 0] (rdH bs p) (L Rou.e l) (rdH bs p1)) (e1 : Po Try.prog 63 [Rp, I 5] (rdH bs p1) (I s) (rdH bs (p1 + 1))) (hs : s < 5) {k2 : Nat} (e2 : Po Try.prog 63 [Rp, I 2] (rdH bs (p1 + 1)) (I k2) (rdH bs (p1 + 1 + 1))) (h2 : 0 < k2) (e6 : Po Try.prog 63 [Rp, I 16] (rdH bs (p1 + 1 + 1)) (I 15) (rdH bs ((p1 + 1 + 1) + 1))) {p3 : Nat} (eo : Po Try.prog 118 [Rp, I n] (rdH bs ((p1 + 1 + 1) + 1)) (B true) (rdH bs p3)) (e7 : Po Try.prog 63 [Rp, I 6] (rdH bs p3) (I 3) (rdH bs (p3 + 1))) : Po Try.prog 66 [Rp, I n] (rdH bs p) (A (⟨l, 999, true, ⟨0, [], 0, 0⟩, 0⟩ : Cal).e) (rdH bs (p3 + 1)) := by
  refine Po.of D Try.func66 rfl rfl rfl ?_
  repeat' (first
    | (refine W.cond rfl ?_ ?_ <;> intro hb <;> (try simp at hb) <;> (try contradiction) <;> (try (exfalso; omega)))
    | refine W.dbe 3 [0, 1, 0, 4, 8, 0, 40, 0, 192, 338, 1023] mixed (by decide +kernel) ?_
    | (refine OpK.at 7 ?_; refine co [0] (ec) ?_)
    | (refine OpK.at 9 ?_; refine co [0] (e1) ?_)
    | (refine OpK.at 12 ?_; refine co [0] (e2) ?_)
    | (refine OpK.at 25 ?_; refine co [0] (e6) ?_)
    | (refine OpK.at 30 ?_; refine co [0] (eo) ?_)
    | (refine OpK.at 32 ?_; refine co [0] (e7) ?_)
    | refine goO ?_
    | refine WB.done rfl ?_
    | refine WB.step rfl ?_
    | refine WBI.r D rfl rfl ?_
    | refine WBI.g rfl rfl rfl rfl ?_
    | refine WBI.g0 rfl rfl ?_
    | exact WBL.nil
    | refine WBL.cons ?_ ?_
    | exact WBL.on rfl
    | refine WBL.oc rfl ?_ ?_
    | refine goN ?_
    | (refine WO.gs _ rfl rfl rfl ?_ ?_ <;> intro hb <;> simp only [hb] <;> (try simp at hb) <;> (try contradiction) <;> (try (exfalso; omega)))
    | (refine WBI.gs _ rfl rfl rfl ?_ ?_ <;> intro hb <;> simp only [hb] <;> (try simp at hb) <;> (try contradiction) <;> (try (exfalso; omega))))
  all_goals first
    | (exfalso; omega)
    | (first | refine Ro.c1 (.inr rfl) [0] rfl (by decide) (kp rfl) ?_ ?_ | refine Ro.a1 (.inr rfl) [0] rfl (by decide) (kp rfl) ?_ ?_ | refine Ro.t1 (.inr rfl) [0] rfl (by decide) (kp rfl) ?_ ?_ rfl); (repeat' (first | exact .nil | refine .cons rfl ?_ ?_ | refine .cons ?_ ?_ | refine .c ?_ | refine .ag ?_ | refine .box ?_ | exact .arr (rs_low _ _ _) | exact .dead | exact .id rfl | exact .sl rfl | exact .ptr rfl | exact .ap rfl | exact .emp | exact .full rfl rfl rfl rfl rfl | fail))
    | trace_state
set_option maxHeartbeats 4000000 in
theorem cal014 {bs : List UInt8} {p : Nat} {n : Int} {l : List Rou} {s : Nat} {p1 : Nat} (ec : Po Try.prog 104 [Rp, I 0] (rdH bs p) (L Rou.e l) (rdH bs p1)) (e1 : Po Try.prog 63 [Rp, I 5] (rdH bs p1) (I s) (rdH bs (p1 + 1))) (hs : s < 5) {k2 : Nat} (e2 : Po Try.prog 63 [Rp, I 2] (rdH bs (p1 + 1)) (I k2) (rdH bs (p1 + 1 + 1))) (h2 : 0 < k2) (e6 : Po Try.prog 63 [Rp, I 16] (rdH bs (p1 + 1 + 1)) (I 15) (rdH bs ((p1 + 1 + 1) + 1))) {p3 : Nat} (eo : Po Try.prog 118 [Rp, I n] (rdH bs ((p1 + 1 + 1) + 1)) (B true) (rdH bs p3)) (e7 : Po Try.prog 63 [Rp, I 6] (rdH bs p3) (I 4) (rdH bs (p3 + 1))) {k8 : Nat} (e8 : Po Try.prog 63 [Rp, I 2] (rdH bs (p3 + 1)) (I k8) (rdH bs (p3 + 1 + 1))) (h8 : k8 < ([-1, 201] : List Int).length) : Po Try.prog 66 [Rp, I n] (rdH bs p) (A (⟨l, 999, false, ⟨0, [], 0, 0⟩, ([-1, 201] : List Int)[k8]⟩ : Cal).e) (rdH bs (p3 + 1 + 1)) := by
  refine Po.of D Try.func66 rfl rfl rfl ?_
  repeat' (first
    | (refine W.cond rfl ?_ ?_ <;> intro hb <;> (try simp at hb) <;> (try contradiction) <;> (try (exfalso; omega)))
    | refine W.dbe 3 [0, 1, 0, 4, 8, 0, 40, 0, 192, 338, 1023] mixed (by decide +kernel) ?_
    | (refine OpK.at 7 ?_; refine co [0] (ec) ?_)
    | (refine OpK.at 9 ?_; refine co [0] (e1) ?_)
    | (refine OpK.at 12 ?_; refine co [0] (e2) ?_)
    | (refine OpK.at 25 ?_; refine co [0] (e6) ?_)
    | (refine OpK.at 30 ?_; refine co [0] (eo) ?_)
    | (refine OpK.at 32 ?_; refine co [0] (e7) ?_)
    | (refine OpK.at 62 ?_; refine co [0] (e8) ?_)
    | refine OpK.of (OpOk.bldF D [-1, 201] eI rfl rfl rfl rfl (by decide) (by decide) (by decide) rfl rfl rfl) ?_
    | (refine OpK.at 63 ?_; refine OpK.of (OpOk.ixM D rfl rfl rfl rfl rfl rfl h8 (fun _ => rfl)) ?_)
    | refine goO ?_
    | refine WB.done rfl ?_
    | refine WB.step rfl ?_
    | refine WBI.r D rfl rfl ?_
    | refine WBI.g rfl rfl rfl rfl ?_
    | refine WBI.g0 rfl rfl ?_
    | exact WBL.nil
    | refine WBL.cons ?_ ?_
    | exact WBL.on rfl
    | refine WBL.oc rfl ?_ ?_
    | refine goN ?_
    | (refine WO.gs _ rfl rfl rfl ?_ ?_ <;> intro hb <;> simp only [hb] <;> (try simp at hb) <;> (try contradiction) <;> (try (exfalso; omega)))
    | (refine WBI.gs _ rfl rfl rfl ?_ ?_ <;> intro hb <;> simp only [hb] <;> (try simp at hb) <;> (try contradiction) <;> (try (exfalso; omega))))
  all_goals first
    | (exfalso; omega)
    | (first | refine Ro.c1 (.inr rfl) [0] rfl (by decide) (kp rfl) ?_ ?_ | refine Ro.a1 (.inr rfl) [0] rfl (by decide) (kp rfl) ?_ ?_ | refine Ro.t1 (.inr rfl) [0] rfl (by decide) (kp rfl) ?_ ?_ rfl); (repeat' (first | exact .nil | refine .cons rfl ?_ ?_ | refine .cons ?_ ?_ | refine .c ?_ | refine .ag ?_ | refine .box ?_ | exact .arr (rs_low _ _ _) | exact .dead | exact .id rfl | exact .sl rfl | exact .ptr rfl | exact .ap rfl | exact .emp | exact .full rfl rfl rfl rfl rfl | fail))
    | trace_state
set_option maxHeartbeats 4000000 in
theorem cal015 {bs : List UInt8} {p : Nat} {n : Int} {l : List Rou} {s : Nat} {p1 : Nat} (ec : Po Try.prog 104 [Rp, I 0] (rdH bs p) (L Rou.e l) (rdH bs p1)) (e1 : Po Try.prog 63 [Rp, I 5] (rdH bs p1) (I s) (rdH bs (p1 + 1))) (hs : s < 5) {k2 : Nat} (e2 : Po Try.prog 63 [Rp, I 2] (rdH bs (p1 + 1)) (I k2) (rdH bs (p1 + 1 + 1))) (h2 : 0 < k2) (e6 : Po Try.prog 63 [Rp, I 16] (rdH bs (p1 + 1 + 1)) (I 15) (rdH bs ((p1 + 1 + 1) + 1))) {p3 : Nat} (eo : Po Try.prog 118 [Rp, I n] (rdH bs ((p1 + 1 + 1) + 1)) (B true) (rdH bs p3)) {k7 : Nat} (e7 : Po Try.prog 63 [Rp, I 6] (rdH bs p3) (I k7) (rdH bs (p3 + 1))) (h7 : 5 ≤ (k7 : Int)) : Po Try.prog 66 [Rp, I n] (rdH bs p) (A (⟨l, 0, true, ⟨0, [], 0, 0⟩, 0⟩ : Cal).e) (rdH bs (p3 + 1)) := by
  refine Po.of D Try.func66 rfl rfl rfl ?_
  repeat' (first
    | (refine W.cond rfl ?_ ?_ <;> intro hb <;> (try simp at hb) <;> (try contradiction) <;> (try (exfalso; omega)))
    | refine W.dbe 3 [0, 1, 0, 4, 8, 0, 40, 0, 192, 338, 1023] mixed (by decide +kernel) ?_
    | (refine OpK.at 7 ?_; refine co [0] (ec) ?_)
    | (refine OpK.at 9 ?_; refine co [0] (e1) ?_)
    | (refine OpK.at 12 ?_; refine co [0] (e2) ?_)
    | (refine OpK.at 25 ?_; refine co [0] (e6) ?_)
    | (refine OpK.at 30 ?_; refine co [0] (eo) ?_)
    | (refine OpK.at 32 ?_; refine co [0] (e7) ?_)
    | refine goO ?_
    | refine WB.done rfl ?_
    | refine WB.step rfl ?_
    | refine WBI.r D rfl rfl ?_
    | refine WBI.g rfl rfl rfl rfl ?_
    | refine WBI.g0 rfl rfl ?_
    | exact WBL.nil
    | refine WBL.cons ?_ ?_
    | exact WBL.on rfl
    | refine WBL.oc rfl ?_ ?_
    | refine goN ?_
    | (refine WO.gs _ rfl rfl rfl ?_ ?_ <;> intro hb <;> simp only [hb] <;> (try simp at hb) <;> (try contradiction) <;> (try (exfalso; omega)))
    | (refine WBI.gs _ rfl rfl rfl ?_ ?_ <;> intro hb <;> simp only [hb] <;> (try simp at hb) <;> (try contradiction) <;> (try (exfalso; omega))))
  all_goals first
    | (exfalso; omega)
    | (first | refine Ro.c1 (.inr rfl) [0] rfl (by decide) (kp rfl) ?_ ?_ | refine Ro.a1 (.inr rfl) [0] rfl (by decide) (kp rfl) ?_ ?_ | refine Ro.t1 (.inr rfl) [0] rfl (by decide) (kp rfl) ?_ ?_ rfl); (repeat' (first | exact .nil | refine .cons rfl ?_ ?_ | refine .cons ?_ ?_ | refine .c ?_ | refine .ag ?_ | refine .box ?_ | exact .arr (rs_low _ _ _) | exact .dead | exact .id rfl | exact .sl rfl | exact .ptr rfl | exact .ap rfl | exact .emp | exact .full rfl rfl rfl rfl rfl | fail))
    | trace_state
set_option maxHeartbeats 4000000 in
theorem cal10N {bs : List UInt8} {p : Nat} {n : Int} {l : List Rou} {s : Nat} {p1 : Nat} (ec : Po Try.prog 104 [Rp, I 0] (rdH bs p) (L Rou.e l) (rdH bs p1)) (e1 : Po Try.prog 63 [Rp, I 5] (rdH bs p1) (I s) (rdH bs (p1 + 1))) (hs : s < 5) (e2 : Po Try.prog 63 [Rp, I 2] (rdH bs (p1 + 1)) (I 0) (rdH bs (p1 + 1 + 1))) {s2 t p2 : Nat} {m : Cmd} (e3 : Po Try.prog 63 [Rp, I 5] (rdH bs (p1 + 1 + 1)) (I s2) (rdH bs (p1 + 1 + 1 + 1))) (h3 : s2 < 5) (e4 : Po Try.prog 67 [Rp, I 0] (rdH bs (p1 + 1 + 1 + 1)) (A m.e) (rdH bs p2)) (e5 : Po Try.prog 63 [Rp, I 20] (rdH bs p2) (I t) (rdH bs (p2 + 1))) {k6 : Nat} (e6 : Po Try.prog 63 [Rp, I 16] (rdH bs (p2 + 1)) (I k6) (rdH bs ((p2 + 1) + 1))) (h6 : (k6 : Int) ≠ 15) {p3 : Nat} (eo : Po Try.prog 118 [Rp, I n] (rdH bs ((p2 + 1) + 1)) (B false) (rdH bs p3)) : Po Try.prog 66 [Rp, I n] (rdH bs p) (A (⟨l, (1 + (s2 : Int)), true, m, (t : Int)⟩ : Cal).e) (rdH bs p3) := by
  refine Po.of D Try.func66 rfl rfl rfl ?_
  repeat' (first
    | (refine W.cond rfl ?_ ?_ <;> intro hb <;> (try simp at hb) <;> (try contradiction) <;> (try (exfalso; omega)))
    | refine W.dg 3 10 [0] [0,1,4,5,7] [3,6,8] mixed (by decide +kernel) ?_
    | refine W.dge 3 10 [0] [0,1,4,5,7] [3,6,8] mixed (by decide +kernel) ?_
    | refine WG.t rfl ?_ rfl
    | refine WG.s1 rfl rfl rfl rfl rfl ?_
    | refine WG.b1 rfl rfl rfl rfl rfl ?_
    | refine WG.f1 rfl rfl rfl rfl rfl ?_
    | refine WG.n1 rfl rfl rfl ?_
    | apply Gf.go
    | refine WG.u rfl rfl rfl ?_
    | refine WG.done rfl ?_
    | refine GK.go rfl ?_
    | refine GN.go rfl ?_
    | (apply Af.mk; intro z_ x_)
    | (apply Ev.mk; rfl)
    | (apply OpD.of; apply stpR_ok D; rfl)
    | (apply OpD.of; refine OpOk.lenS D rfl rfl rfl rfl)
    | (apply OpD.of; refine OpOk.lenM D rfl rfl rfl rfl)
    | (apply OpD.of; refine OpOk.lenL D rfl rfl rfl rfl)
    | (apply OpD.of; refine OpOk.lenA D rfl rfl rfl rfl rfl rfl)
    | (apply OpD.of; refine OpOk.lenE D rfl rfl rfl rfl)
    | (apply OpD.of; refine OpOk.add rfl rfl rfl (by omega))
    | (apply OpD.of; refine OpOk.sub rfl rfl rfl (by omega))
    | (apply OpD.of; refine OpOk.build2 D rfl rfl rfl rfl rfl rfl)
    | (refine OpK.at 7 ?_; refine co [0] (ec) ?_)
    | (refine OpD.at 7 ?_; refine co [0] (ec) ?_)
    | (refine OpK.at 9 ?_; refine co [0] (e1) ?_)
    | (refine OpD.at 9 ?_; refine co [0] (e1) ?_)
    | (refine OpK.at 12 ?_; refine co [0] (e2) ?_)
    | (refine OpD.at 12 ?_; refine co [0] (e2) ?_)
    | (refine OpK.at 17 ?_; refine co [0] (e3) ?_)
    | (refine OpD.at 17 ?_; refine co [0] (e3) ?_)
    | (refine OpK.at 20 ?_; refine co [0] (e4) ?_)
    | (refine OpD.at 20 ?_; refine co [0] (e4) ?_)
    | (refine OpK.at 22 ?_; refine co [0] (e5) ?_)
    | (refine OpD.at 22 ?_; refine co [0] (e5) ?_)
    | (refine OpK.at 25 ?_; refine co [0] (e6) ?_)
    | (refine OpD.at 25 ?_; refine co [0] (e6) ?_)
    | (refine OpK.at 30 ?_; refine co [0] (eo) ?_)
    | (refine OpD.at 30 ?_; refine co [0] (eo) ?_)
    | refine goO ?_
    | refine goB ?_
    | refine OpK.of (stpR_ok D rfl) ?_
    | refine W.dv0 mixed rfl (by decide +kernel) ?_
    | refine W.dv1 mixed rfl (by decide +kernel) ?_
    | refine W.dv2 mixed rfl (by decide +kernel) ?_
    | refine W.dm0 mixed rfl (by decide +kernel) (by repeat' (first | exact .nil | refine .box rfl ?_ | refine .arr (rs_low _ _ _) ?_ | refine .dead ?_ | fail)) ?_
    | refine W.dm1 mixed rfl (by decide +kernel) (by repeat' (first | exact .nil | refine .box rfl ?_ | refine .arr (rs_low _ _ _) ?_ | refine .dead ?_ | fail)) ?_
    | refine W.dm2 mixed rfl (by decide +kernel) (by repeat' (first | exact .nil | refine .box rfl ?_ | refine .arr (rs_low _ _ _) ?_ | refine .dead ?_ | fail)) ?_
    | refine WD.done rfl ?_
    | refine WD.t rfl ?_ rfl
    | refine WD.g rfl rfl rfl ?_
    | refine WD.u rfl rfl rfl ?_
    | refine OpD.of (stpR_ok D rfl) ?_
    | (refine WO.gs _ rfl rfl rfl ?_ ?_ <;> intro hb <;> simp only [hb] <;> (try simp at hb) <;> (try contradiction) <;> (try (exfalso; omega)))
    | (refine WG.gs _ rfl rfl rfl ?_ ?_ <;> intro hb <;> simp only [hb] <;> (try simp at hb) <;> (try contradiction) <;> (try (exfalso; omega)))
    | (refine WD.gs _ rfl rfl rfl ?_ ?_ <;> intro hb <;> simp only [hb] <;> (try simp at hb) <;> (try contradiction) <;> (try (exfalso; omega))))
  all_goals first
    | (exfalso; omega)
    | (first | refine Ro.c1 (.inr rfl) [0] rfl (by decide) (kp rfl) ?_ ?_ | refine Ro.a1 (.inr rfl) [0] rfl (by decide) (kp rfl) ?_ ?_ | refine Ro.t1 (.inr rfl) [0] rfl (by decide) (kp rfl) ?_ ?_ rfl); (repeat' (first | exact .nil | refine .cons rfl ?_ ?_ | refine .cons ?_ ?_ | refine .c ?_ | refine .ag ?_ | refine .box ?_ | exact .arr (rs_low _ _ _) | exact .dead | exact .id rfl | exact .sl rfl | exact .ptr rfl | exact .ap rfl | exact .emp | exact .full rfl rfl rfl rfl rfl | fail))
    | trace_state
set_option maxHeartbeats 4000000 in
theorem cal100 {bs : List UInt8} {p : Nat} {n : Int} {l : List Rou} {s : Nat} {p1 : Nat} (ec : Po Try.prog 104 [Rp, I 0] (rdH bs p) (L Rou.e l) (rdH bs p1)) (e1 : Po Try.prog 63 [Rp, I 5] (rdH bs p1) (I s) (rdH bs (p1 + 1))) (hs : s < 5) (e2 : Po Try.prog 63 [Rp, I 2] (rdH bs (p1 + 1)) (I 0) (rdH bs (p1 + 1 + 1))) {s2 t p2 : Nat} {m : Cmd} (e3 : Po Try.prog 63 [Rp, I 5] (rdH bs (p1 + 1 + 1)) (I s2) (rdH bs (p1 + 1 + 1 + 1))) (h3 : s2 < 5) (e4 : Po Try.prog 67 [Rp, I 0] (rdH bs (p1 + 1 + 1 + 1)) (A m.e) (rdH bs p2)) (e5 : Po Try.prog 63 [Rp, I 20] (rdH bs p2) (I t) (rdH bs (p2 + 1))) {k6 : Nat} (e6 : Po Try.prog 63 [Rp, I 16] (rdH bs (p2 + 1)) (I k6) (rdH bs ((p2 + 1) + 1))) (h6 : (k6 : Int) ≠ 15) {p3 : Nat} (eo : Po Try.prog 118 [Rp, I n] (rdH bs ((p2 + 1) + 1)) (B true) (rdH bs p3)) (e7 : Po Try.prog 63 [Rp, I 6] (rdH bs p3) (I 0) (rdH bs (p3 + 1))) {l2 : List Rou} {p4 : Nat} (e8 : Po Try.prog 104 [Rp, I 1] (rdH bs (p3 + 1)) (L Rou.e l2) (rdH bs p4)) : Po Try.prog 66 [Rp, I n] (rdH bs p) (A (⟨l2, (1 + (s2 : Int)), true, m, (t : Int)⟩ : Cal).e) (rdH bs p4) := by
  refine Po.of D Try.func66 rfl rfl rfl ?_
  repeat' (first
    | (refine W.cond rfl ?_ ?_ <;> intro hb <;> (try simp at hb) <;> (try contradiction) <;> (try (exfalso; omega)))
    | refine W.dg 3 10 [0] [0,1,4,5,7] [3,6,8] mixed (by decide +kernel) ?_
    | refine W.dge 3 10 [0] [0,1,4,5,7] [3,6,8] mixed (by decide +kernel) ?_
    | refine WG.t rfl ?_ rfl
    | refine WG.s1 rfl rfl rfl rfl rfl ?_
    | refine WG.b1 rfl rfl rfl rfl rfl ?_
    | refine WG.f1 rfl rfl rfl rfl rfl ?_
    | refine WG.n1 rfl rfl rfl ?_
    | apply Gf.go
    | refine WG.u rfl rfl rfl ?_
    | refine WG.done rfl ?_
    | refine GK.go rfl ?_
    | refine GN.go rfl ?_
    | (apply Af.mk; intro z_ x_)
    | (apply Ev.mk; rfl)
    | (apply OpD.of; apply stpR_ok D; rfl)
    | (apply OpD.of; refine OpOk.lenS D rfl rfl rfl rfl)
    | (apply OpD.of; refine OpOk.lenM D rfl rfl rfl rfl)
    | (apply OpD.of; refine OpOk.lenL D rfl rfl rfl rfl)
    | (apply OpD.of; refine OpOk.lenA D rfl rfl rfl rfl rfl rfl)
    | (apply OpD.of; refine OpOk.lenE D rfl rfl rfl rfl)
    | (apply OpD.of; refine OpOk.add rfl rfl rfl (by omega))
    | (apply OpD.of; refine OpOk.sub rfl rfl rfl (by omega))
    | (apply OpD.of; refine OpOk.build2 D rfl rfl rfl rfl rfl rfl)
    | (refine OpK.at 7 ?_; refine co [0] (ec) ?_)
    | (refine OpD.at 7 ?_; refine co [0] (ec) ?_)
    | (refine OpK.at 9 ?_; refine co [0] (e1) ?_)
    | (refine OpD.at 9 ?_; refine co [0] (e1) ?_)
    | (refine OpK.at 12 ?_; refine co [0] (e2) ?_)
    | (refine OpD.at 12 ?_; refine co [0] (e2) ?_)
    | (refine OpK.at 17 ?_; refine co [0] (e3) ?_)
    | (refine OpD.at 17 ?_; refine co [0] (e3) ?_)
    | (refine OpK.at 20 ?_; refine co [0] (e4) ?_)
    | (refine OpD.at 20 ?_; refine co [0] (e4) ?_)
    | (refine OpK.at 22 ?_; refine co [0] (e5) ?_)
    | (refine OpD.at 22 ?_; refine co [0] (e5) ?_)
    | (refine OpK.at 25 ?_; refine co [0] (e6) ?_)
    | (refine OpD.at 25 ?_; refine co [0] (e6) ?_)
    | (refine OpK.at 30 ?_; refine co [0] (eo) ?_)
    | (refine OpD.at 30 ?_; refine co [0] (eo) ?_)
    | (refine OpK.at 32 ?_; refine co [0] (e7) ?_)
    | (refine OpD.at 32 ?_; refine co [0] (e7) ?_)
    | (refine OpK.at 38 ?_; refine co [0] (e8) ?_)
    | (refine OpD.at 38 ?_; refine co [0] (e8) ?_)
    | refine goO ?_
    | refine goB ?_
    | refine OpK.of (stpR_ok D rfl) ?_
    | refine W.dv0 mixed rfl (by decide +kernel) ?_
    | refine W.dv1 mixed rfl (by decide +kernel) ?_
    | refine W.dv2 mixed rfl (by decide +kernel) ?_
    | refine W.dm0 mixed rfl (by decide +kernel) (by repeat' (first | exact .nil | refine .box rfl ?_ | refine .arr (rs_low _ _ _) ?_ | refine .dead ?_ | fail)) ?_
    | refine W.dm1 mixed rfl (by decide +kernel) (by repeat' (first | exact .nil | refine .box rfl ?_ | refine .arr (rs_low _ _ _) ?_ | refine .dead ?_ | fail)) ?_
    | refine W.dm2 mixed rfl (by decide +kernel) (by repeat' (first | exact .nil | refine .box rfl ?_ | refine .arr (rs_low _ _ _) ?_ | refine .dead ?_ | fail)) ?_
    | refine WD.done rfl ?_
    | refine WD.t rfl ?_ rfl
    | refine WD.g rfl rfl rfl ?_
    | refine WD.u rfl rfl rfl ?_
    | refine OpD.of (stpR_ok D rfl) ?_
    | (refine WO.gs _ rfl rfl rfl ?_ ?_ <;> intro hb <;> simp only [hb] <;> (try simp at hb) <;> (try contradiction) <;> (try (exfalso; omega)))
    | (refine WG.gs _ rfl rfl rfl ?_ ?_ <;> intro hb <;> simp only [hb] <;> (try simp at hb) <;> (try contradiction) <;> (try (exfalso; omega)))
    | (refine WD.gs _ rfl rfl rfl ?_ ?_ <;> intro hb <;> simp only [hb] <;> (try simp at hb) <;> (try contradiction) <;> (try (exfalso; omega))))
  all_goals first
    | (exfalso; omega)
    | (first | refine Ro.c1 (.inr rfl) [0] rfl (by decide) (kp rfl) ?_ ?_ | refine Ro.a1 (.inr rfl) [0] rfl (by decide) (kp rfl) ?_ ?_ | refine Ro.t1 (.inr rfl) [0] rfl (by decide) (kp rfl) ?_ ?_ rfl); (repeat' (first | exact .nil | refine .cons rfl ?_ ?_ | refine .cons ?_ ?_ | refine .c ?_ | refine .ag ?_ | refine .box ?_ | exact .arr (rs_low _ _ _) | exact .dead | exact .id rfl | exact .sl rfl | exact .ptr rfl | exact .ap rfl | exact .emp | exact .full rfl rfl rfl rfl rfl | fail))
    | trace_state
set_option maxHeartbeats 4000000 in
theorem cal101 {bs : List UInt8} {p : Nat} {n : Int} {l : List Rou} {s : Nat} {p1 : Nat} (ec : Po Try.prog 104 [Rp, I 0] (rdH bs p) (L Rou.e l) (rdH bs p1)) (e1 : Po Try.prog 63 [Rp, I 5] (rdH bs p1) (I s) (rdH bs (p1 + 1))) (hs : s < 5) (e2 : Po Try.prog 63 [Rp, I 2] (rdH bs (p1 + 1)) (I 0) (rdH bs (p1 + 1 + 1))) {s2 t p2 : Nat} {m : Cmd} (e3 : Po Try.prog 63 [Rp, I 5] (rdH bs (p1 + 1 + 1)) (I s2) (rdH bs (p1 + 1 + 1 + 1))) (h3 : s2 < 5) (e4 : Po Try.prog 67 [Rp, I 0] (rdH bs (p1 + 1 + 1 + 1)) (A m.e) (rdH bs p2)) (e5 : Po Try.prog 63 [Rp, I 20] (rdH bs p2) (I t) (rdH bs (p2 + 1))) {k6 : Nat} (e6 : Po Try.prog 63 [Rp, I 16] (rdH bs (p2 + 1)) (I k6) (rdH bs ((p2 + 1) + 1))) (h6 : (k6 : Int) ≠ 15) {p3 : Nat} (eo : Po Try.prog 118 [Rp, I n] (rdH bs ((p2 + 1) + 1)) (B true) (rdH bs p3)) (e7 : Po Try.prog 63 [Rp, I 6] (rdH bs p3) (I 1) (rdH bs (p3 + 1))) {k8 : Nat} (e8 : Po Try.prog 63 [Rp, I 2] (rdH bs (p3 + 1)) (I k8) (rdH bs (p3 + 1 + 1))) (h8 : k8 < ([-1, 1000] : List Int).length) : Po Try.prog 66 [Rp, I n] (rdH bs p) (A (⟨l, ([-1, 1000] : List Int)[k8], true, m, (t : Int)⟩ : Cal).e) (rdH bs (p3 + 1 + 1)) := by
  refine Po.of D Try.func66 rfl rfl rfl ?_
  repeat' (first
    | (refine W.cond rfl ?_ ?_ <;> intro hb <;> (try simp at hb) <;> (try contradiction) <;> (try (exfalso; omega)))
    | refine W.dg 3 10 [0] [0,1,4,5,7] [3,6,8] mixed (by decide +kernel) ?_
    | refine W.dge 3 10 [0] [0,1,4,5,7] [3,6,8] mixed (by decide +kernel) ?_
    | refine WG.t rfl ?_ rfl
    | refine WG.s1 rfl rfl rfl rfl rfl ?_
    | refine WG.b1 rfl rfl rfl rfl rfl ?_
    | refine WG.f1 rfl rfl rfl rfl rfl ?_
    | refine WG.n1 rfl rfl rfl ?_
    | apply Gf.go
    | refine WG.u rfl rfl rfl ?_
    | refine WG.done rfl ?_
    | refine GK.go rfl ?_
    | refine GN.go rfl ?_
    | (apply Af.mk; intro z_ x_)
    | (apply Ev.mk; rfl)
    | (apply OpD.of; apply stpR_ok D; rfl)
    | (apply OpD.of; refine OpOk.lenS D rfl rfl rfl rfl)
    | (apply OpD.of; refine OpOk.lenM D rfl rfl rfl rfl)
    | (apply OpD.of; refine OpOk.lenL D rfl rfl rfl rfl)
    | (apply OpD.of; refine OpOk.lenA D rfl rfl rfl rfl rfl rfl)
    | (apply OpD.of; refine OpOk.lenE D rfl rfl rfl rfl)
    | (apply OpD.of; refine OpOk.add rfl rfl rfl (by omega))
    | (apply OpD.of; refine OpOk.sub rfl rfl rfl (by omega))
    | (apply OpD.of; refine OpOk.build2 D rfl rfl rfl rfl rfl rfl)
    | (refine OpK.at 7 ?_; refine co [0] (ec) ?_)
    | (refine OpD.at 7 ?_; refine co [0] (ec) ?_)
    | (refine OpK.at 9 ?_; refine co [0] (e1) ?_)
    | (refine OpD.at 9 ?_; refine co [0] (e1) ?_)
    | (refine OpK.at 12 ?_; refine co [0] (e2) ?_)
    | (refine OpD.at 12 ?_; refine co [0] (e2) ?_)
    | (refine OpK.at 17 ?_; refine co [0] (e3) ?_)
    | (refine OpD.at 17 ?_; refine co [0] (e3) ?_)
    | (refine OpK.at 20 ?_; refine co [0] (e4) ?_)
    | (refine OpD.at 20 ?_; refine co [0] (e4) ?_)
    | (refine OpK.at 22 ?_; refine co [0] (e5) ?_)
    | (refine OpD.at 22 ?_; refine co [0] (e5) ?_)
    | (refine OpK.at 25 ?_; refine co [0] (e6) ?_)
    | (refine OpD.at 25 ?_; refine co [0] (e6) ?_)
    | (refine OpK.at 30 ?_; refine co [0] (eo) ?_)
    | (refine OpD.at 30 ?_; refine co [0] (eo) ?_)
    | (refine OpK.at 32 ?_; refine co [0] (e7) ?_)
    | (refine OpD.at 32 ?_; refine co [0] (e7) ?_)
    | (refine OpK.at 44 ?_; refine co [0] (e8) ?_)
    | (refine OpD.at 44 ?_; refine co [0] (e8) ?_)
    | refine OpK.of (OpOk.bldF D [-1, 1000] eI rfl rfl rfl rfl (by decide) (by decide) (by decide) rfl rfl rfl) ?_
    | (apply OpD.of; refine OpOk.bldF D [-1, 1000] eI rfl rfl rfl rfl (by decide) (by decide) (by decide) rfl rfl rfl)
    | (refine OpK.at 45 ?_; refine OpK.of (OpOk.ixM D rfl rfl rfl rfl rfl rfl h8 (fun _ => rfl)) ?_)
    | (refine OpD.at 45 ?_; (apply OpD.of; refine OpOk.ixM D rfl rfl rfl rfl rfl rfl h8 (fun _ => rfl)))
    | refine goO ?_
    | refine goB ?_
    | refine OpK.of (stpR_ok D rfl) ?_
    | refine W.dv0 mixed rfl (by decide +kernel) ?_
    | refine W.dv1 mixed rfl (by decide +kernel) ?_
    | refine W.dv2 mixed rfl (by decide +kernel) ?_
    | refine W.dm0 mixed rfl (by decide +kernel) (by repeat' (first | exact .nil | refine .box rfl ?_ | refine .arr (rs_low _ _ _) ?_ | refine .dead ?_ | fail)) ?_
    | refine W.dm1 mixed rfl (by decide +kernel) (by repeat' (first | exact .nil | refine .box rfl ?_ | refine .arr (rs_low _ _ _) ?_ | refine .dead ?_ | fail)) ?_
    | refine W.dm2 mixed rfl (by decide +kernel) (by repeat' (first | exact .nil | refine .box rfl ?_ | refine .arr (rs_low _ _ _) ?_ | refine .dead ?_ | fail)) ?_
    | refine WD.done rfl ?_
    | refine WD.t rfl ?_ rfl
    | refine WD.g rfl rfl rfl ?_
    | refine WD.u rfl rfl rfl ?_
    | refine OpD.of (stpR_ok D rfl) ?_
    | (refine WO.gs _ rfl rfl rfl ?_ ?_ <;> intro hb <;> simp only [hb] <;> (try simp at hb) <;> (try contradiction) <;> (try (exfalso; omega)))
    | (refine WG.gs _ rfl rfl rfl ?_ ?_ <;> intro hb <;> simp only [hb] <;> (try simp at hb) <;> (try contradiction) <;> (try (exfalso; omega)))
    | (refine WD.gs _ rfl rfl rfl ?_ ?_ <;> intro hb <;> simp only [hb] <;> (try simp at hb) <;> (try contradiction) <;> (try (exfalso; omega))))
  all_goals first
    | (exfalso; omega)
    | (first | refine Ro.c1 (.inr rfl) [0] rfl (by decide) (kp rfl) ?_ ?_ | refine Ro.a1 (.inr rfl) [0] rfl (by decide) (kp rfl) ?_ ?_ | refine Ro.t1 (.inr rfl) [0] rfl (by decide) (kp rfl) ?_ ?_ rfl); (repeat' (first | exact .nil | refine .cons rfl ?_ ?_ | refine .cons ?_ ?_ | refine .c ?_ | refine .ag ?_ | refine .box ?_ | exact .arr (rs_low _ _ _) | exact .dead | exact .id rfl | exact .sl rfl | exact .ptr rfl | exact .ap rfl | exact .emp | exact .full rfl rfl rfl rfl rfl | fail))
    | trace_state
set_option maxHeartbeats 4000000 in
theorem cal102 {bs : List UInt8} {p : Nat} {n : Int} {l : List Rou} {s : Nat} {p1 : Nat} (ec : Po Try.prog 104 [Rp, I 0] (rdH bs p) (L Rou.e l) (rdH bs p1)) (e1 : Po Try.prog 63 [Rp, I 5] (rdH bs p1) (I s) (rdH bs (p1 + 1))) (hs : s < 5) (e2 : Po Try.prog 63 [Rp, I 2] (rdH bs (p1 + 1)) (I 0) (rdH bs (p1 + 1 + 1))) {s2 t p2 : Nat} {m : Cmd} (e3 : Po Try.prog 63 [Rp, I 5] (rdH bs (p1 + 1 + 1)) (I s2) (rdH bs (p1 + 1 + 1 + 1))) (h3 : s2 < 5) (e4 : Po Try.prog 67 [Rp, I 0] (rdH bs (p1 + 1 + 1 + 1)) (A m.e) (rdH bs p2)) (e5 : Po Try.prog 63 [Rp, I 20] (rdH bs p2) (I t) (rdH bs (p2 + 1))) {k6 : Nat} (e6 : Po Try.prog 63 [Rp, I 16] (rdH bs (p2 + 1)) (I k6) (rdH bs ((p2 + 1) + 1))) (h6 : (k6 : Int) ≠ 15) {p3 : Nat} (eo : Po Try.prog 118 [Rp, I n] (rdH bs ((p2 + 1) + 1)) (B true) (rdH bs p3)) (e7 : Po Try.prog 63 [Rp, I 6] (rdH bs p3) (I 2) (rdH bs (p3 + 1))) : Po Try.prog 66 [Rp, I n] (rdH bs p) (A (⟨l, (1 + (s2 : Int)), true, ⟨5, [], 0, 0⟩, (t : Int)⟩ : Cal).e) (rdH bs (p3 + 1)) := by
  refine Po.of D Try.func66 rfl rfl rfl ?_
  repeat' (first
    | (refine W.cond rfl ?_ ?_ <;> intro hb <;> (try simp at hb) <;> (try contradiction) <;> (try (exfalso; omega)))
    | refine W.dg 3 10 [0] [0,1,4,5,7] [3,6,8] mixed (by decide +kernel) ?_
    | refine W.dge 3 10 [0] [0,1,4,5,7] [3,6,8] mixed (by decide +kernel) ?_
    | refine WG.t rfl ?_ rfl
    | refine WG.s1 rfl rfl rfl rfl rfl ?_
    | refine WG.b1 rfl rfl rfl rfl rfl ?_
    | refine WG.f1 rfl rfl rfl rfl rfl ?_
    | refine WG.n1 rfl rfl rfl ?_
    | apply Gf.go
    | refine WG.u rfl rfl rfl ?_
    | refine WG.done rfl ?_
    | refine GK.go rfl ?_
    | refine GN.go rfl ?_
    | (apply Af.mk; intro z_ x_)
    | (apply Ev.mk; rfl)
    | (apply OpD.of; apply stpR_ok D; rfl)
    | (apply OpD.of; refine OpOk.lenS D rfl rfl rfl rfl)
    | (apply OpD.of; refine OpOk.lenM D rfl rfl rfl rfl)
    | (apply OpD.of; refine OpOk.lenL D rfl rfl rfl rfl)
    | (apply OpD.of; refine OpOk.lenA D rfl rfl rfl rfl rfl rfl)
    | (apply OpD.of; refine OpOk.lenE D rfl rfl rfl rfl)
    | (apply OpD.of; refine OpOk.add rfl rfl rfl (by omega))
    | (apply OpD.of; refine OpOk.sub rfl rfl rfl (by omega))
    | (apply OpD.of; refine OpOk.build2 D rfl rfl rfl rfl rfl rfl)
    | (refine OpK.at 7 ?_; refine co [0] (ec) ?_)
    | (refine OpD.at 7 ?_; refine co [0] (ec) ?_)
    | (refine OpK.at 9 ?_; refine co [0] (e1) ?_)
    | (refine OpD.at 9 ?_; refine co [0] (e1) ?_)
    | (refine OpK.at 12 ?_; refine co [0] (e2) ?_)
    | (refine OpD.at 12 ?_; refine co [0] (e2) ?_)
    | (refine OpK.at 17 ?_; refine co [0] (e3) ?_)
    | (refine OpD.at 17 ?_; refine co [0] (e3) ?_)
    | (refine OpK.at 20 ?_; refine co [0] (e4) ?_)
    | (refine OpD.at 20 ?_; refine co [0] (e4) ?_)
    | (refine OpK.at 22 ?_; refine co [0] (e5) ?_)
    | (refine OpD.at 22 ?_; refine co [0] (e5) ?_)
    | (refine OpK.at 25 ?_; refine co [0] (e6) ?_)
    | (refine OpD.at 25 ?_; refine co [0] (e6) ?_)
    | (refine OpK.at 30 ?_; refine co [0] (eo) ?_)
    | (refine OpD.at 30 ?_; refine co [0] (eo) ?_)
    | (refine OpK.at 32 ?_; refine co [0] (e7) ?_)
    | (refine OpD.at 32 ?_; refine co [0] (e7) ?_)
    | refine goO ?_
    | refine goB ?_
    | refine OpK.of (stpR_ok D rfl) ?_
    | refine W.dv0 mixed rfl (by decide +kernel) ?_
    | refine W.dv1 mixed rfl (by decide +kernel) ?_
    | refine W.dv2 mixed rfl (by decide +kernel) ?_
    | refine W.dm0 mixed rfl (by decide +kernel) (by repeat' (first | exact .nil | refine .box rfl ?_ | refine .arr (rs_low _ _ _) ?_ | refine .dead ?_ | fail)) ?_
    | refine W.dm1 mixed rfl (by decide +kernel) (by repeat' (first | exact .nil | refine .box rfl ?_ | refine .arr (rs_low _ _ _) ?_ | refine .dead ?_ | fail)) ?_
    | refine W.dm2 mixed rfl (by decide +kernel) (by repeat' (first | exact .nil | refine .box rfl ?_ | refine .arr (rs_low _ _ _) ?_ | refine .dead ?_ | fail)) ?_
    | refine WD.done rfl ?_
    | refine WD.t rfl ?_ rfl
    | refine WD.g rfl rfl rfl ?_
    | refine WD.u rfl rfl rfl ?_
    | refine OpD.of (stpR_ok D rfl) ?_
    | (refine WO.gs _ rfl rfl rfl ?_ ?_ <;> intro hb <;> simp only [hb] <;> (try simp at hb) <;> (try contradiction) <;> (try (exfalso; omega)))
    | (refine WG.gs _ rfl rfl rfl ?_ ?_ <;> intro hb <;> simp only [hb] <;> (try simp at hb) <;> (try contradiction) <;> (try (exfalso; omega)))
    | (refine WD.gs _ rfl rfl rfl ?_ ?_ <;> intro hb <;> simp only [hb] <;> (try simp at hb) <;> (try contradiction) <;> (try (exfalso; omega))))
  all_goals first
    | (exfalso; omega)
    | (first | refine Ro.c1 (.inr rfl) [0] rfl (by decide) (kp rfl) ?_ ?_ | refine Ro.a1 (.inr rfl) [0] rfl (by decide) (kp rfl) ?_ ?_ | refine Ro.t1 (.inr rfl) [0] rfl (by decide) (kp rfl) ?_ ?_ rfl); (repeat' (first | exact .nil | refine .cons rfl ?_ ?_ | refine .cons ?_ ?_ | refine .c ?_ | refine .ag ?_ | refine .box ?_ | exact .arr (rs_low _ _ _) | exact .dead | exact .id rfl | exact .sl rfl | exact .ptr rfl | exact .ap rfl | exact .emp | exact .full rfl rfl rfl rfl rfl | fail))
    | trace_state
set_option maxHeartbeats 4000000 in
theorem cal103 {bs : List UInt8} {p : Nat} {n : Int} {l : List Rou} {s : Nat} {p1 : Nat} (ec : Po Try.prog 104 [Rp, I 0] (rdH bs p) (L Rou.e l) (rdH bs p1)) (e1 : Po Try.prog 63 [Rp, I 5] (rdH bs p1) (I s) (rdH bs (p1 + 1))) (hs : s < 5) (e2 : Po Try.prog 63 [Rp, I 2] (rdH bs (p1 + 1)) (I 0) (rdH bs (p1 + 1 + 1))) {s2 t p2 : Nat} {m : Cmd} (e3 : Po Try.prog 63 [Rp, I 5] (rdH bs (p1 + 1 + 1)) (I s2) (rdH bs (p1 + 1 + 1 + 1))) (h3 : s2 < 5) (e4 : Po Try.prog 67 [Rp, I 0] (rdH bs (p1 + 1 + 1 + 1)) (A m.e) (rdH bs p2)) (e5 : Po Try.prog 63 [Rp, I 20] (rdH bs p2) (I t) (rdH bs (p2 + 1))) {k6 : Nat} (e6 : Po Try.prog 63 [Rp, I 16] (rdH bs (p2 + 1)) (I k6) (rdH bs ((p2 + 1) + 1))) (h6 : (k6 : Int) ≠ 15) {p3 : Nat} (eo : Po Try.prog 118 [Rp, I n] (rdH bs ((p2 + 1) + 1)) (B true) (rdH bs p3)) (e7 : Po Try.prog 63 [Rp, I 6] (rdH bs p3) (I 3) (rdH bs (p3 + 1))) : Po Try.prog 66 [Rp, I n] (rdH bs p) (A (⟨l, (1 + (s2 : Int)), false, m, (t : Int)⟩ : Cal).e) (rdH bs (p3 + 1)) := by
  refine Po.of D Try.func66 rfl rfl rfl ?_
  repeat' (first
    | (refine W.cond rfl ?_ ?_ <;> intro hb <;> (try simp at hb) <;> (try contradiction) <;> (try (exfalso; omega)))
    | refine W.dg 3 10 [0] [0,1,4,5,7] [3,6,8] mixed (by decide +kernel) ?_
    | refine W.dge 3 10 [0] [0,1,4,5,7] [3,6,8] mixed (by decide +kernel) ?_
    | refine WG.t rfl ?_ rfl
    | refine WG.s1 rfl rfl rfl rfl rfl ?_
    | refine WG.b1 rfl rfl rfl rfl rfl ?_
    | refine WG.f1 rfl rfl rfl rfl rfl ?_
    | refine WG.n1 rfl rfl rfl ?_
    | apply Gf.go
    | refine WG.u rfl rfl rfl ?_
    | refine WG.done rfl ?_
    | refine GK.go rfl ?_
    | refine GN.go rfl ?_
    | (apply Af.mk; intro z_ x_)
    | (apply Ev.mk; rfl)
    | (apply OpD.of; apply stpR_ok D; rfl)
    | (apply OpD.of; refine OpOk.lenS D rfl rfl rfl rfl)
    | (apply OpD.of; refine OpOk.lenM D rfl rfl rfl rfl)
    | (apply OpD.of; refine OpOk.lenL D rfl rfl rfl rfl)
    | (apply OpD.of; refine OpOk.lenA D rfl rfl rfl rfl rfl rfl)
    | (apply OpD.of; refine OpOk.lenE D rfl rfl rfl rfl)
    | (apply OpD.of; refine OpOk.add rfl rfl rfl (by omega))
    | (apply OpD.of; refine OpOk.sub rfl rfl rfl (by omega))
    | (apply OpD.of; refine OpOk.build2 D rfl rfl rfl rfl rfl rfl)
    | (refine OpK.at 7 ?_; refine co [0] (ec) ?_)
    | (refine OpD.at 7 ?_; refine co [0] (ec) ?_)
    | (refine OpK.at 9 ?_; refine co [0] (e1) ?_)
    | (refine OpD.at 9 ?_; refine co [0] (e1) ?_)
    | (refine OpK.at 12 ?_; refine co [0] (e2) ?_)
    | (refine OpD.at 12 ?_; refine co [0] (e2) ?_)
    | (refine OpK.at 17 ?_; refine co [0] (e3) ?_)
    | (refine OpD.at 17 ?_; refine co [0] (e3) ?_)
    | (refine OpK.at 20 ?_; refine co [0] (e4) ?_)
    | (refine OpD.at 20 ?_; refine co [0] (e4) ?_)
    | (refine OpK.at 22 ?_; refine co [0] (e5) ?_)
    | (refine OpD.at 22 ?_; refine co [0] (e5) ?_)
    | (refine OpK.at 25 ?_; refine co [0] (e6) ?_)
    | (refine OpD.at 25 ?_; refine co [0] (e6) ?_)
    | (refine OpK.at 30 ?_; refine co [0] (eo) ?_)
    | (refine OpD.at 30 ?_; refine co [0] (eo) ?_)
    | (refine OpK.at 32 ?_; refine co [0] (e7) ?_)
    | (refine OpD.at 32 ?_; refine co [0] (e7) ?_)
    | refine goO ?_
    | refine goB ?_
    | refine OpK.of (stpR_ok D rfl) ?_
    | refine W.dv0 mixed rfl (by decide +kernel) ?_
    | refine W.dv1 mixed rfl (by decide +kernel) ?_
    | refine W.dv2 mixed rfl (by decide +kernel) ?_
    | refine W.dm0 mixed rfl (by decide +kernel) (by repeat' (first | exact .nil | refine .box rfl ?_ | refine .arr (rs_low _ _ _) ?_ | refine .dead ?_ | fail)) ?_
    | refine W.dm1 mixed rfl (by decide +kernel) (by repeat' (first | exact .nil | refine .box rfl ?_ | refine .arr (rs_low _ _ _) ?_ | refine .dead ?_ | fail)) ?_
    | refine W.dm2 mixed rfl (by decide +kernel) (by repeat' (first | exact .nil | refine .box rfl ?_ | refine .arr (rs_low _ _ _) ?_ | refine .dead ?_ | fail)) ?_
    | refine WD.done rfl ?_
    | refine WD.t rfl ?_ rfl
    | refine WD.g rfl rfl rfl ?_
    | refine WD.u rfl rfl rfl ?_
    | refine OpD.of (stpR_ok D rfl) ?_
    | (refine WO.gs _ rfl rfl rfl ?_ ?_ <;> intro hb <;> simp only [hb] <;> (try simp at hb) <;> (try contradiction) <;> (try (exfalso; omega)))
    | (refine WG.gs _ rfl rfl rfl ?_ ?_ <;> intro hb <;> simp only [hb] <;> (try simp at hb) <;> (try contradiction) <;> (try (exfalso; omega)))
    | (refine WD.gs _ rfl rfl rfl ?_ ?_ <;> intro hb <;> simp only [hb] <;> (try simp at hb) <;> (try contradiction) <;> (try (exfalso; omega))))
  all_goals first
    | (exfalso; omega)
    | (first | refine Ro.c1 (.inr rfl) [0] rfl (by decide) (kp rfl) ?_ ?_ | refine Ro.a1 (.inr rfl) [0] rfl (by decide) (kp rfl) ?_ ?_ | refine Ro.t1 (.inr rfl) [0] rfl (by decide) (kp rfl) ?_ ?_ rfl); (repeat' (first | exact .nil | refine .cons rfl ?_ ?_ | refine .cons ?_ ?_ | refine .c ?_ | refine .ag ?_ | refine .box ?_ | exact .arr (rs_low _ _ _) | exact .dead | exact .id rfl | exact .sl rfl | exact .ptr rfl | exact .ap rfl | exact .emp | exact .full rfl rfl rfl rfl rfl | fail))
    | trace_state
set_option maxHeartbeats 4000000 in
theorem cal104 {bs : List UInt8} {p : Nat} {n : Int} {l : List Rou} {s : Nat} {p1 : Nat} (ec : Po Try.prog 104 [Rp, I 0] (rdH bs p) (L Rou.e l) (rdH bs p1)) (e1 : Po Try.prog 63 [Rp, I 5] (rdH bs p1) (I s) (rdH bs (p1 + 1))) (hs : s < 5) (e2 : Po Try.prog 63 [Rp, I 2] (rdH bs (p1 + 1)) (I 0) (rdH bs (p1 + 1 + 1))) {s2 t p2 : Nat} {m : Cmd} (e3 : Po Try.prog 63 [Rp, I 5] (rdH bs (p1 + 1 + 1)) (I s2) (rdH bs (p1 + 1 + 1 + 1))) (h3 : s2 < 5) (e4 : Po Try.prog 67 [Rp, I 0] (rdH bs (p1 + 1 + 1 + 1)) (A m.e) (rdH bs p2)) (e5 : Po Try.prog 63 [Rp, I 20] (rdH bs p2) (I t) (rdH bs (p2 + 1))) {k6 : Nat} (e6 : Po Try.prog 63 [Rp, I 16] (rdH bs (p2 + 1)) (I k6) (rdH bs ((p2 + 1) + 1))) (h6 : (k6 : Int) ≠ 15) {p3 : Nat} (eo : Po Try.prog 118 [Rp, I n] (rdH bs ((p2 + 1) + 1)) (B true) (rdH bs p3)) (e7 : Po Try.prog 63 [Rp, I 6] (rdH bs p3) (I 4) (rdH bs (p3 + 1))) {k8 : Nat} (e8 : Po Try.prog 63 [Rp, I 2] (rdH bs (p3 + 1)) (I k8) (rdH bs (p3 + 1 + 1))) (h8 : k8 < ([-1, 201] : List Int).length) : Po Try.prog 66 [Rp, I n] (rdH bs p) (A (⟨l, (1 + (s2 : Int)), true, m, ([-1, 201] : List Int)[k8]⟩ : Cal).e) (rdH bs (p3 + 1 + 1)) := by
  refine Po.of D Try.func66 rfl rfl rfl ?_
  repeat' (first
    | (refine W.cond rfl ?_ ?_ <;> intro hb <;> (try simp at hb) <;> (try contradiction) <;> (try (exfalso; omega)))
    | refine W.dg 3 10 [0] [0,1,4,5,7] [3,6,8] mixed (by decide +kernel) ?_
    | refine W.dge 3 10 [0] [0,1,4,5,7] [3,6,8] mixed (by decide +kernel) ?_
    | refine WG.t rfl ?_ rfl
    | refine WG.s1 rfl rfl rfl rfl rfl ?_
    | refine WG.b1 rfl rfl rfl rfl rfl ?_
    | refine WG.f1 rfl rfl rfl rfl rfl ?_
    | refine WG.n1 rfl rfl rfl ?_
    | apply Gf.go
    | refine WG.u rfl rfl rfl ?_
    | refine WG.done rfl ?_
    | refine GK.go rfl ?_
    | refine GN.go rfl ?_
    | (apply Af.mk; intro z_ x_)
    | (apply Ev.mk; rfl)
    | (apply OpD.of; apply stpR_ok D; rfl)
    | (apply OpD.of; refine OpOk.lenS D rfl rfl rfl rfl)
    | (apply OpD.of; refine OpOk.lenM D rfl rfl rfl rfl)
    | (apply OpD.of; refine OpOk.lenL D rfl rfl rfl rfl)
    | (apply OpD.of; refine OpOk.lenA D rfl rfl rfl rfl rfl rfl)
    | (apply OpD.of; refine OpOk.lenE D rfl rfl rfl rfl)
    | (apply OpD.of; refine OpOk.add rfl rfl rfl (by omega))
    | (apply OpD.of; refine OpOk.sub rfl rfl rfl (by omega))
    | (apply OpD.of; refine OpOk.build2 D rfl rfl rfl rfl rfl rfl)
    | (refine OpK.at 7 ?_; refine co [0] (ec) ?_)
    | (refine OpD.at 7 ?_; refine co [0] (ec) ?_)
    | (refine OpK.at 9 ?_; refine co [0] (e1) ?_)
    | (refine OpD.at 9 ?_; refine co [0] (e1) ?_)
    | (refine OpK.at 12 ?_; refine co [0] (e2) ?_)
    | (refine OpD.at 12 ?_; refine co [0] (e2) ?_)
    | (refine OpK.at 17 ?_; refine co [0] (e3) ?_)
    | (refine OpD.at 17 ?_; refine co [0] (e3) ?_)
    | (refine OpK.at 20 ?_; refine co [0] (e4) ?_)
    | (refine OpD.at 20 ?_; refine co [0] (e4) ?_)
    | (refine OpK.at 22 ?_; refine co [0] (e5) ?_)
    | (refine OpD.at 22 ?_; refine co [0] (e5) ?_)
    | (refine OpK.at 25 ?_; refine co [0] (e6) ?_)
    | (refine OpD.at 25 ?_; refine co [0] (e6) ?_)
    | (refine OpK.at 30 ?_; refine co [0] (eo) ?_)
    | (refine OpD.at 30 ?_; refine co [0] (eo) ?_)
    | (refine OpK.at 32 ?_; refine co [0] (e7) ?_)
    | (refine OpD.at 32 ?_; refine co [0] (e7) ?_)
    | (refine OpK.at 62 ?_; refine co [0] (e8) ?_)
    | (refine OpD.at 62 ?_; refine co [0] (e8) ?_)
    | refine OpK.of (OpOk.bldF D [-1, 201] eI rfl rfl rfl rfl (by decide) (by decide) (by decide) rfl rfl rfl) ?_
    | (apply OpD.of; refine OpOk.bldF D [-1, 201] eI rfl rfl rfl rfl (by decide) (by decide) (by decide) rfl rfl rfl)
    | (refine OpK.at 63 ?_; refine OpK.of (OpOk.ixM D rfl rfl rfl rfl rfl rfl h8 (fun _ => rfl)) ?_)
    | (refine OpD.at 63 ?_; (apply OpD.of; refine OpOk.ixM D rfl rfl rfl rfl rfl rfl h8 (fun _ => rfl)))
    | refine goO ?_
    | refine goB ?_
    | refine OpK.of (stpR_ok D rfl) ?_
    | refine W.dv0 mixed rfl (by decide +kernel) ?_
    | refine W.dv1 mixed rfl (by decide +kernel) ?_
    | refine W.dv2 mixed rfl (by decide +kernel) ?_
    | refine W.dm0 mixed rfl (by decide +kernel) (by repeat' (first | exact .nil | refine .box rfl ?_ | refine .arr (rs_low _ _ _) ?_ | refine .dead ?_ | fail)) ?_
    | refine W.dm1 mixed rfl (by decide +kernel) (by repeat' (first | exact .nil | refine .box rfl ?_ | refine .arr (rs_low _ _ _) ?_ | refine .dead ?_ | fail)) ?_
    | refine W.dm2 mixed rfl (by decide +kernel) (by repeat' (first | exact .nil | refine .box rfl ?_ | refine .arr (rs_low _ _ _) ?_ | refine .dead ?_ | fail)) ?_
    | refine WD.done rfl ?_
    | refine WD.t rfl ?_ rfl
    | refine WD.g rfl rfl rfl ?_
    | refine WD.u rfl rfl rfl ?_
    | refine OpD.of (stpR_ok D rfl) ?_
    | (refine WO.gs _ rfl rfl rfl ?_ ?_ <;> intro hb <;> simp only [hb] <;> (try simp at hb) <;> (try contradiction) <;> (try (exfalso; omega)))
    | (refine WG.gs _ rfl rfl rfl ?_ ?_ <;> intro hb <;> simp only [hb] <;> (try simp at hb) <;> (try contradiction) <;> (try (exfalso; omega)))
    | (refine WD.gs _ rfl rfl rfl ?_ ?_ <;> intro hb <;> simp only [hb] <;> (try simp at hb) <;> (try contradiction) <;> (try (exfalso; omega))))
  all_goals first
    | (exfalso; omega)
    | (first | refine Ro.c1 (.inr rfl) [0] rfl (by decide) (kp rfl) ?_ ?_ | refine Ro.a1 (.inr rfl) [0] rfl (by decide) (kp rfl) ?_ ?_ | refine Ro.t1 (.inr rfl) [0] rfl (by decide) (kp rfl) ?_ ?_ rfl); (repeat' (first | exact .nil | refine .cons rfl ?_ ?_ | refine .cons ?_ ?_ | refine .c ?_ | refine .ag ?_ | refine .box ?_ | exact .arr (rs_low _ _ _) | exact .dead | exact .id rfl | exact .sl rfl | exact .ptr rfl | exact .ap rfl | exact .emp | exact .full rfl rfl rfl rfl rfl | fail))
    | trace_state
set_option maxHeartbeats 4000000 in
theorem cal105 {bs : List UInt8} {p : Nat} {n : Int} {l : List Rou} {s : Nat} {p1 : Nat} (ec : Po Try.prog 104 [Rp, I 0] (rdH bs p) (L Rou.e l) (rdH bs p1)) (e1 : Po Try.prog 63 [Rp, I 5] (rdH bs p1) (I s) (rdH bs (p1 + 1))) (hs : s < 5) (e2 : Po Try.prog 63 [Rp, I 2] (rdH bs (p1 + 1)) (I 0) (rdH bs (p1 + 1 + 1))) {s2 t p2 : Nat} {m : Cmd} (e3 : Po Try.prog 63 [Rp, I 5] (rdH bs (p1 + 1 + 1)) (I s2) (rdH bs (p1 + 1 + 1 + 1))) (h3 : s2 < 5) (e4 : Po Try.prog 67 [Rp, I 0] (rdH bs (p1 + 1 + 1 + 1)) (A m.e) (rdH bs p2)) (e5 : Po Try.prog 63 [Rp, I 20] (rdH bs p2) (I t) (rdH bs (p2 + 1))) {k6 : Nat} (e6 : Po Try.prog 63 [Rp, I 16] (rdH bs (p2 + 1)) (I k6) (rdH bs ((p2 + 1) + 1))) (h6 : (k6 : Int) ≠ 15) {p3 : Nat} (eo : Po Try.prog 118 [Rp, I n] (rdH bs ((p2 + 1) + 1)) (B true) (rdH bs p3)) {k7 : Nat} (e7 : Po Try.prog 63 [Rp, I 6] (rdH bs p3) (I k7) (rdH bs (p3 + 1))) (h7 : 5 ≤ (k7 : Int)) : Po Try.prog 66 [Rp, I n] (rdH bs p) (A (⟨l, 0, true, m, (t : Int)⟩ : Cal).e) (rdH bs (p3 + 1)) := by
  refine Po.of D Try.func66 rfl rfl rfl ?_
  repeat' (first
    | (refine W.cond rfl ?_ ?_ <;> intro hb <;> (try simp at hb) <;> (try contradiction) <;> (try (exfalso; omega)))
    | refine W.dg 3 10 [0] [0,1,4,5,7] [3,6,8] mixed (by decide +kernel) ?_
    | refine W.dge 3 10 [0] [0,1,4,5,7] [3,6,8] mixed (by decide +kernel) ?_
    | refine WG.t rfl ?_ rfl
    | refine WG.s1 rfl rfl rfl rfl rfl ?_
    | refine WG.b1 rfl rfl rfl rfl rfl ?_
    | refine WG.f1 rfl rfl rfl rfl rfl ?_
    | refine WG.n1 rfl rfl rfl ?_
    | apply Gf.go
    | refine WG.u rfl rfl rfl ?_
    | refine WG.done rfl ?_
    | refine GK.go rfl ?_
    | refine GN.go rfl ?_
    | (apply Af.mk; intro z_ x_)
    | (apply Ev.mk; rfl)
    | (apply OpD.of; apply stpR_ok D; rfl)
    | (apply OpD.of; refine OpOk.lenS D rfl rfl rfl rfl)
    | (apply OpD.of; refine OpOk.lenM D rfl rfl rfl rfl)
    | (apply OpD.of; refine OpOk.lenL D rfl rfl rfl rfl)
    | (apply OpD.of; refine OpOk.lenA D rfl rfl rfl rfl rfl rfl)
    | (apply OpD.of; refine OpOk.lenE D rfl rfl rfl rfl)
    | (apply OpD.of; refine OpOk.add rfl rfl rfl (by omega))
    | (apply OpD.of; refine OpOk.sub rfl rfl rfl (by omega))
    | (apply OpD.of; refine OpOk.build2 D rfl rfl rfl rfl rfl rfl)
    | (refine OpK.at 7 ?_; refine co [0] (ec) ?_)
    | (refine OpD.at 7 ?_; refine co [0] (ec) ?_)
    | (refine OpK.at 9 ?_; refine co [0] (e1) ?_)
    | (refine OpD.at 9 ?_; refine co [0] (e1) ?_)
    | (refine OpK.at 12 ?_; refine co [0] (e2) ?_)
    | (refine OpD.at 12 ?_; refine co [0] (e2) ?_)
    | (refine OpK.at 17 ?_; refine co [0] (e3) ?_)
    | (refine OpD.at 17 ?_; refine co [0] (e3) ?_)
    | (refine OpK.at 20 ?_; refine co [0] (e4) ?_)
    | (refine OpD.at 20 ?_; refine co [0] (e4) ?_)
    | (refine OpK.at 22 ?_; refine co [0] (e5) ?_)
    | (refine OpD.at 22 ?_; refine co [0] (e5) ?_)
    | (refine OpK.at 25 ?_; refine co [0] (e6) ?_)
    | (refine OpD.at 25 ?_; refine co [0] (e6) ?_)
    | (refine OpK.at 30 ?_; refine co [0] (eo) ?_)
    | (refine OpD.at 30 ?_; refine co [0] (eo) ?_)
    | (refine OpK.at 32 ?_; refine co [0] (e7) ?_)
    | (refine OpD.at 32 ?_; refine co [0] (e7) ?_)
    | refine goO ?_
    | refine goB ?_
    | refine OpK.of (stpR_ok D rfl) ?_
    | refine W.dv0 mixed rfl (by decide +kernel) ?_
    | refine W.dv1 mixed rfl (by decide +kernel) ?_
    | refine W.dv2 mixed rfl (by decide +kernel) ?_
    | refine W.dm0 mixed rfl (by decide +kernel) (by repeat' (first | exact .nil | refine .box rfl ?_ | refine .arr (rs_low _ _ _) ?_ | refine .dead ?_ | fail)) ?_
    | refine W.dm1 mixed rfl (by decide +kernel) (by repeat' (first | exact .nil | refine .box rfl ?_ | refine .arr (rs_low _ _ _) ?_ | refine .dead ?_ | fail)) ?_
    | refine W.dm2 mixed rfl (by decide +kernel) (by repeat' (first | exact .nil | refine .box rfl ?_ | refine .arr (rs_low _ _ _) ?_ | refine .dead ?_ | fail)) ?_
    | refine WD.done rfl ?_
    | refine WD.t rfl ?_ rfl
    | refine WD.g rfl rfl rfl ?_
    | refine WD.u rfl rfl rfl ?_
    | refine OpD.of (stpR_ok D rfl) ?_
    | (refine WO.gs _ rfl rfl rfl ?_ ?_ <;> intro hb <;> simp only [hb] <;> (try simp at hb) <;> (try contradiction) <;> (try (exfalso; omega)))
    | (refine WG.gs _ rfl rfl rfl ?_ ?_ <;> intro hb <;> simp only [hb] <;> (try simp at hb) <;> (try contradiction) <;> (try (exfalso; omega)))
    | (refine WD.gs _ rfl rfl rfl ?_ ?_ <;> intro hb <;> simp only [hb] <;> (try simp at hb) <;> (try contradiction) <;> (try (exfalso; omega))))
  all_goals first
    | (exfalso; omega)
    | (first | refine Ro.c1 (.inr rfl) [0] rfl (by decide) (kp rfl) ?_ ?_ | refine Ro.a1 (.inr rfl) [0] rfl (by decide) (kp rfl) ?_ ?_ | refine Ro.t1 (.inr rfl) [0] rfl (by decide) (kp rfl) ?_ ?_ rfl); (repeat' (first | exact .nil | refine .cons rfl ?_ ?_ | refine .cons ?_ ?_ | refine .c ?_ | refine .ag ?_ | refine .box ?_ | exact .arr (rs_low _ _ _) | exact .dead | exact .id rfl | exact .sl rfl | exact .ptr rfl | exact .ap rfl | exact .emp | exact .full rfl rfl rfl rfl rfl | fail))
    | trace_state
set_option maxHeartbeats 4000000 in
theorem cal11N {bs : List UInt8} {p : Nat} {n : Int} {l : List Rou} {s : Nat} {p1 : Nat} (ec : Po Try.prog 104 [Rp, I 0] (rdH bs p) (L Rou.e l) (rdH bs p1)) (e1 : Po Try.prog 63 [Rp, I 5] (rdH bs p1) (I s) (rdH bs (p1 + 1))) (hs : s < 5) (e2 : Po Try.prog 63 [Rp, I 2] (rdH bs (p1 + 1)) (I 0) (rdH bs (p1 + 1 + 1))) {s2 t p2 : Nat} {m : Cmd} (e3 : Po Try.prog 63 [Rp, I 5] (rdH bs (p1 + 1 + 1)) (I s2) (rdH bs (p1 + 1 + 1 + 1))) (h3 : s2 < 5) (e4 : Po Try.prog 67 [Rp, I 0] (rdH bs (p1 + 1 + 1 + 1)) (A m.e) (rdH bs p2)) (e5 : Po Try.prog 63 [Rp, I 20] (rdH bs p2) (I t) (rdH bs (p2 + 1))) (e6 : Po Try.prog 63 [Rp, I 16] (rdH bs (p2 + 1)) (I 15) (rdH bs ((p2 + 1) + 1))) {p3 : Nat} (eo : Po Try.prog 118 [Rp, I n] (rdH bs ((p2 + 1) + 1)) (B false) (rdH bs p3)) : Po Try.prog 66 [Rp, I n] (rdH bs p) (A (⟨l, 999, true, m, (t : Int)⟩ : Cal).e) (rdH bs p3) := by
  refine Po.of D Try.func66 rfl rfl rfl ?_
  repeat' (first
    | (refine W.cond rfl ?_ ?_ <;> intro hb <;> (try simp at hb) <;> (try contradiction) <;> (try (exfalso; omega)))
    | refine W.dg 3 10 [0] [0,1,4,5,7] [3,6,8] mixed (by decide +kernel) ?_
    | refine W.dge 3 10 [0] [0,1,4,5,7] [3,6,8] mixed (by decide +kernel) ?_
    | refine WG.t rfl ?_ rfl
    | refine WG.s1 rfl rfl rfl rfl rfl ?_
    | refine WG.b1 rfl rfl rfl rfl rfl ?_
    | refine WG.f1 rfl rfl rfl rfl rfl ?_
    | refine WG.n1 rfl rfl rfl ?_
    | apply Gf.go
    | refine WG.u rfl rfl rfl ?_
    | refine WG.done rfl ?_
    | refine GK.go rfl ?_
    | refine GN.go rfl ?_
    | (apply Af.mk; intro z_ x_)
    | (apply Ev.mk; rfl)
    | (apply OpD.of; apply stpR_ok D; rfl)
    | (apply OpD.of; refine OpOk.lenS D rfl rfl rfl rfl)
    | (apply OpD.of; refine OpOk.lenM D rfl rfl rfl rfl)
    | (apply OpD.of; refine OpOk.lenL D rfl rfl rfl rfl)
    | (apply OpD.of; refine OpOk.lenA D rfl rfl rfl rfl rfl rfl)
    | (apply OpD.of; refine OpOk.lenE D rfl rfl rfl rfl)
    | (apply OpD.of; refine OpOk.add rfl rfl rfl (by omega))
    | (apply OpD.of; refine OpOk.sub rfl rfl rfl (by omega))
    | (apply OpD.of; refine OpOk.build2 D rfl rfl rfl rfl rfl rfl)
    | (refine OpK.at 7 ?_; refine co [0] (ec) ?_)
    | (refine OpD.at 7 ?_; refine co [0] (ec) ?_)
    | (refine OpK.at 9 ?_; refine co [0] (e1) ?_)
    | (refine OpD.at 9 ?_; refine co [0] (e1) ?_)
    | (refine OpK.at 12 ?_; refine co [0] (e2) ?_)
    | (refine OpD.at 12 ?_; refine co [0] (e2) ?_)
    | (refine OpK.at 17 ?_; refine co [0] (e3) ?_)
    | (refine OpD.at 17 ?_; refine co [0] (e3) ?_)
    | (refine OpK.at 20 ?_; refine co [0] (e4) ?_)
    | (refine OpD.at 20 ?_; refine co [0] (e4) ?_)
    | (refine OpK.at 22 ?_; refine co [0] (e5) ?_)
    | (refine OpD.at 22 ?_; refine co [0] (e5) ?_)
    | (refine OpK.at 25 ?_; refine co [0] (e6) ?_)
    | (refine OpD.at 25 ?_; refine co [0] (e6) ?_)
    | (refine OpK.at 30 ?_; refine co [0] (eo) ?_)
    | (refine OpD.at 30 ?_; refine co [0] (eo) ?_)
    | refine goO ?_
    | refine goB ?_
    | refine OpK.of (stpR_ok D rfl) ?_
    | refine W.dv0 mixed rfl (by decide +kernel) ?_
    | refine W.dv1 mixed rfl (by decide +kernel) ?_
    | refine W.dv2 mixed rfl (by decide +kernel) ?_
    | refine W.dm0 mixed rfl (by decide +kernel) (by repeat' (first | exact .nil | refine .box rfl ?_ | refine .arr (rs_low _ _ _) ?_ | refine .dead ?_ | fail)) ?_
    | refine W.dm1 mixed rfl (by decide +kernel) (by repeat' (first | exact .nil | refine .box rfl ?_ | refine .arr (rs_low _ _ _) ?_ | refine .dead ?_ | fail)) ?_
    | refine W.dm2 mixed rfl (by decide +kernel) (by repeat' (first | exact .nil | refine .box rfl ?_ | refine .arr (rs_low _ _ _) ?_ | refine .dead ?_ | fail)) ?_
    | refine WD.done rfl ?_
    | refine WD.t rfl ?_ rfl
    | refine WD.g rfl rfl rfl ?_
    | refine WD.u rfl rfl rfl ?_
    | refine OpD.of (stpR_ok D rfl) ?_
    | (refine WO.gs _ rfl rfl rfl ?_ ?_ <;> intro hb <;> simp only [hb] <;> (try simp at hb) <;> (try contradiction) <;> (try (exfalso; omega)))
    | (refine WG.gs _ rfl rfl rfl ?_ ?_ <;> intro hb <;> simp only [hb] <;> (try simp at hb) <;> (try contradiction) <;> (try (exfalso; omega)))
    | (refine WD.gs _ rfl rfl rfl ?_ ?_ <;> intro hb <;> simp only [hb] <;> (try simp at hb) <;> (try contradiction) <;> (try (exfalso; omega))))
  all_goals first
    | (exfalso; omega)
    | (first | refine Ro.c1 (.inr rfl) [0] rfl (by decide) (kp rfl) ?_ ?_ | refine Ro.a1 (.inr rfl) [0] rfl (by decide) (kp rfl) ?_ ?_ | refine Ro.t1 (.inr rfl) [0] rfl (by decide) (kp rfl) ?_ ?_ rfl); (repeat' (first | exact .nil | refine .cons rfl ?_ ?_ | refine .cons ?_ ?_ | refine .c ?_ | refine .ag ?_ | refine .box ?_ | exact .arr (rs_low _ _ _) | exact .dead | exact .id rfl | exact .sl rfl | exact .ptr rfl | exact .ap rfl | exact .emp | exact .full rfl rfl rfl rfl rfl | fail))
    | trace_state
set_option maxHeartbeats 4000000 in
theorem cal110 {bs : List UInt8} {p : Nat} {n : Int} {l : List Rou} {s : Nat} {p1 : Nat} (ec : Po Try.prog 104 [Rp, I 0] (rdH bs p) (L Rou.e l) (rdH bs p1)) (e1 : Po Try.prog 63 [Rp, I 5] (rdH bs p1) (I s) (rdH bs (p1 + 1))) (hs : s < 5) (e2 : Po Try.prog 63 [Rp, I 2] (rdH bs (p1 + 1)) (I 0) (rdH bs (p1 + 1 + 1))) {s2 t p2 : Nat} {m : Cmd} (e3 : Po Try.prog 63 [Rp, I 5] (rdH bs (p1 + 1 + 1)) (I s2) (rdH bs (p1 + 1 + 1 + 1))) (h3 : s2 < 5) (e4 : Po Try.prog 67 [Rp, I 0] (rdH bs (p1 + 1 + 1 + 1)) (A m.e) (rdH bs p2)) (e5 : Po Try.prog 63 [Rp, I 20] (rdH bs p2) (I t) (rdH bs (p2 + 1))) (e6 : Po Try.prog 63 [Rp, I 16] (rdH bs (p2 + 1)) (I 15) (rdH bs ((p2 + 1) + 1))) {p3 : Nat} (eo : Po Try.prog 118 [Rp, I n] (rdH bs ((p2 + 1) + 1)) (B true) (rdH bs p3)) (e7 : Po Try.prog 63 [Rp, I 6] (rdH bs p3) (I 0) (rdH bs (p3 + 1))) {l2 : List Rou} {p4 : Nat} (e8 : Po Try.prog 104 [Rp, I 1] (rdH bs (p3 + 1)) (L Rou.e l2) (rdH bs p4)) : Po Try.prog 66 [Rp, I n] (rdH bs p) (A (⟨l2, 999, true, m, (t : Int)⟩ : Cal).e) (rdH bs p4) := by
  refine Po.of D Try.func66 rfl rfl rfl ?_
  repeat' (first
    | (refine W.cond rfl ?_ ?_ <;> intro hb <;> (try simp at hb) <;> (try contradiction) <;> (try (exfalso; omega)))
    | refine W.dg 3 10 [0] [0,1,4,5,7] [3,6,8] mixed (by decide +kernel) ?_
    | refine W.dge 3 10 [0] [0,1,4,5,7] [3,6,8] mixed (by decide +kernel) ?_
    | refine WG.t rfl ?_ rfl
    | refine WG.s1 rfl rfl rfl rfl rfl ?_
    | refine WG.b1 rfl rfl rfl rfl rfl ?_
    | refine WG.f1 rfl rfl rfl rfl rfl ?_
    | refine WG.n1 rfl rfl rfl ?_
    | apply Gf.go
    | refine WG.u rfl rfl rfl ?_
    | refine WG.done rfl ?_
    | refine GK.go rfl ?_
    | refine GN.go rfl ?_
    | (apply Af.mk; intro z_ x_)
    | (apply Ev.mk; rfl)
    | (apply OpD.of; apply stpR_ok D; rfl)
    | (apply OpD.of; refine OpOk.lenS D rfl rfl rfl rfl)
    | (apply OpD.of; refine OpOk.lenM D rfl rfl rfl rfl)
    | (apply OpD.of; refine OpOk.lenL D rfl rfl rfl rfl)
    | (apply OpD.of; refine OpOk.lenA D rfl rfl rfl rfl rfl rfl)
    | (apply OpD.of; refine OpOk.lenE D rfl rfl rfl rfl)
    | (apply OpD.of; refine OpOk.add rfl rfl rfl (by omega))
    | (apply OpD.of; refine OpOk.sub rfl rfl rfl (by omega))
    | (apply OpD.of; refine OpOk.build2 D rfl rfl rfl rfl rfl rfl)
    | (refine OpK.at 7 ?_; refine co [0] (ec) ?_)
    | (refine OpD.at 7 ?_; refine co [0] (ec) ?_)
    | (refine OpK.at 9 ?_; refine co [0] (e1) ?_)
    | (refine OpD.at 9 ?_; refine co [0] (e1) ?_)
    | (refine OpK.at 12 ?_; refine co [0] (e2) ?_)
    | (refine OpD.at 12 ?_; refine co [0] (e2) ?_)
    | (refine OpK.at 17 ?_; refine co [0] (e3) ?_)
    | (refine OpD.at 17 ?_; refine co [0] (e3) ?_)
    | (refine OpK.at 20 ?_; refine co [0] (e4) ?_)
    | (refine OpD.at 20 ?_; refine co [0] (e4) ?_)
    | (refine OpK.at 22 ?_; refine co [0] (e5) ?_)
    | (refine OpD.at 22 ?_; refine co [0] (e5) ?_)
    | (refine OpK.at 25 ?_; refine co [0] (e6) ?_)
    | (refine OpD.at 25 ?_; refine co [0] (e6) ?_)
    | (refine OpK.at 30 ?_; refine co [0] (eo) ?_)
    | (refine OpD.at 30 ?_; refine co [0] (eo) ?_)
    | (refine OpK.at 32 ?_; refine co [0] (e7) ?_)
    | (refine OpD.at 32 ?_; refine co [0] (e7) ?_)
    | (refine OpK.at 38 ?_; refine co [0] (e8) ?_)
    | (refine OpD.at 38 ?_; refine co [0] (e8) ?_)
    | refine goO ?_
    | refine goB ?_
    | refine OpK.of (stpR_ok D rfl) ?_
    | refine W.dv0 mixed rfl (by decide +kernel) ?_
    | refine W.dv1 mixed rfl (by decide +kernel) ?_
    | refine W.dv2 mixed rfl (by decide +kernel) ?_
    | refine W.dm0 mixed rfl (by decide +kernel) (by repeat' (first | exact .nil | refine .box rfl ?_ | refine .arr (rs_low _ _ _) ?_ | refine .dead ?_ | fail)) ?_
    | refine W.dm1 mixed rfl (by decide +kernel) (by repeat' (first | exact .nil | refine .box rfl ?_ | refine .arr (rs_low _ _ _) ?_ | refine .dead ?_ | fail)) ?_
    | refine W.dm2 mixed rfl (by decide +kernel) (by repeat' (first | exact .nil | refine .box rfl ?_ | refine .arr (rs_low _ _ _) ?_ | refine .dead ?_ | fail)) ?_
    | refine WD.done rfl ?_
    | refine WD.t rfl ?_ rfl
    | refine WD.g rfl rfl rfl ?_
    | refine WD.u rfl rfl rfl ?_
    | refine OpD.of (stpR_ok D rfl) ?_
    | (refine WO.gs _ rfl rfl rfl ?_ ?_ <;> intro hb <;> simp only [hb] <;> (try simp at hb) <;> (try contradiction) <;> (try (exfalso; omega)))
    | (refine WG.gs _ rfl rfl rfl ?_ ?_ <;> intro hb <;> simp only [hb] <;> (try simp at hb) <;> (try contradiction) <;> (try (exfalso; omega)))
    | (refine WD.gs _ rfl rfl rfl ?_ ?_ <;> intro hb <;> simp only [hb] <;> (try simp at hb) <;> (try contradiction) <;> (try (exfalso; omega))))
  all_goals first
    | (exfalso; omega)
    | (first | refine Ro.c1 (.inr rfl) [0] rfl (by decide) (kp rfl) ?_ ?_ | refine Ro.a1 (.inr rfl) [0] rfl (by decide) (kp rfl) ?_ ?_ | refine Ro.t1 (.inr rfl) [0] rfl (by decide) (kp rfl) ?_ ?_ rfl); (repeat' (first | exact .nil | refine .cons rfl ?_ ?_ | refine .cons ?_ ?_ | refine .c ?_ | refine .ag ?_ | refine .box ?_ | exact .arr (rs_low _ _ _) | exact .dead | exact .id rfl | exact .sl rfl | exact .ptr rfl | exact .ap rfl | exact .emp | exact .full rfl rfl rfl rfl rfl | fail))
    | trace_state
set_option maxHeartbeats 4000000 in
theorem cal111 {bs : List UInt8} {p : Nat} {n : Int} {l : List Rou} {s : Nat} {p1 : Nat} (ec : Po Try.prog 104 [Rp, I 0] (rdH bs p) (L Rou.e l) (rdH bs p1)) (e1 : Po Try.prog 63 [Rp, I 5] (rdH bs p1) (I s) (rdH bs (p1 + 1))) (hs : s < 5) (e2 : Po Try.prog 63 [Rp, I 2] (rdH bs (p1 + 1)) (I 0) (rdH bs (p1 + 1 + 1))) {s2 t p2 : Nat} {m : Cmd} (e3 : Po Try.prog 63 [Rp, I 5] (rdH bs (p1 + 1 + 1)) (I s2) (rdH bs (p1 + 1 + 1 + 1))) (h3 : s2 < 5) (e4 : Po Try.prog 67 [Rp, I 0] (rdH bs (p1 + 1 + 1 + 1)) (A m.e) (rdH bs p2)) (e5 : Po Try.prog 63 [Rp, I 20] (rdH bs p2) (I t) (rdH bs (p2 + 1))) (e6 : Po Try.prog 63 [Rp, I 16] (rdH bs (p2 + 1)) (I 15) (rdH bs ((p2 + 1) + 1))) {p3 : Nat} (eo : Po Try.prog 118 [Rp, I n] (rdH bs ((p2 + 1) + 1)) (B true) (rdH bs p3)) (e7 : Po Try.prog 63 [Rp, I 6] (rdH bs p3) (I 1) (rdH bs (p3 + 1))) {k8 : Nat} (e8 : Po Try.prog 63 [Rp, I 2] (rdH bs (p3 + 1)) (I k8) (rdH bs (p3 + 1 + 1))) (h8 : k8 < ([-1, 1000] : List Int).length) : Po Try.prog 66 [Rp, I n] (rdH bs p) (A (⟨l, ([-1, 1000] : List Int)[k8], true, m, (t : Int)⟩ : Cal).e) (rdH bs (p3 + 1 + 1)) := by
  refine Po.of D Try.func66 rfl rfl rfl ?_
  repeat' (first
    | (refine W.cond rfl ?_ ?_ <;> intro hb <;> (try simp at hb) <;> (try contradiction) <;> (try (exfalso; omega)))
    | refine W.dg 3 10 [0] [0,1,4,5,7] [3,6,8] mixed (by decide +kernel) ?_
    | refine W.dge 3 10 [0] [0,1,4,5,7] [3,6,8] mixed (by decide +kernel) ?_
    | refine WG.t rfl ?_ rfl
    | refine WG.s1 rfl rfl rfl rfl rfl ?_
    | refine WG.b1 rfl rfl rfl rfl rfl ?_
    | refine WG.f1 rfl rfl rfl rfl rfl ?_
    | refine WG.n1 rfl rfl rfl ?_
    | apply Gf.go
    | refine WG.u rfl rfl rfl ?_
    | refine WG.done rfl ?_
    | refine GK.go rfl ?_
    | refine GN.go rfl ?_
    | (apply Af.mk; intro z_ x_)
    | (apply Ev.mk; rfl)
    | (apply OpD.of; apply stpR_ok D; rfl)
    | (apply OpD.of; refine OpOk.lenS D rfl rfl rfl rfl)
    | (apply OpD.of; refine OpOk.lenM D rfl rfl rfl rfl)
    | (apply OpD.of; refine OpOk.lenL D rfl rfl rfl rfl)
    | (apply OpD.of; refine OpOk.lenA D rfl rfl rfl rfl rfl rfl)
    | (apply OpD.of; refine OpOk.lenE D rfl rfl rfl rfl)
    | (apply OpD.of; refine OpOk.add rfl rfl rfl (by omega))
    | (apply OpD.of; refine OpOk.sub rfl rfl rfl (by omega))
    | (apply OpD.of; refine OpOk.build2 D rfl rfl rfl rfl rfl rfl)
    | (refine OpK.at 7 ?_; refine co [0] (ec) ?_)
    | (refine OpD.at 7 ?_; refine co [0] (ec) ?_)
    | (refine OpK.at 9 ?_; refine co [0] (e1) ?_)
    | (refine OpD.at 9 ?_; refine co [0] (e1) ?_)
    | (refine OpK.at 12 ?_; refine co [0] (e2) ?_)
    | (refine OpD.at 12 ?_; refine co [0] (e2) ?_)
    | (refine OpK.at 17 ?_; refine co [0] (e3) ?_)
    | (refine OpD.at 17 ?_; refine co [0] (e3) ?_)
    | (refine OpK.at 20 ?_; refine co [0] (e4) ?_)
    | (refine OpD.at 20 ?_; refine co [0] (e4) ?_)
    | (refine OpK.at 22 ?_; refine co [0] (e5) ?_)
    | (refine OpD.at 22 ?_; refine co [0] (e5) ?_)
    | (refine OpK.at 25 ?_; refine co [0] (e6) ?_)
    | (refine OpD.at 25 ?_; refine co [0] (e6) ?_)
    | (refine OpK.at 30 ?_; refine co [0] (eo) ?_)
    | (refine OpD.at 30 ?_; refine co [0] (eo) ?_)
    | (refine OpK.at 32 ?_; refine co [0] (e7) ?_)
    | (refine OpD.at 32 ?_; refine co [0] (e7) ?_)
    | (refine OpK.at 44 ?_; refine co [0] (e8) ?_)
    | (refine OpD.at 44 ?_; refine co [0] (e8) ?_)
    | refine OpK.of (OpOk.bldF D [-1, 1000] eI rfl rfl rfl rfl (by decide) (by decide) (by decide) rfl rfl rfl) ?_
    | (apply OpD.of; refine OpOk.bldF D [-1, 1000] eI rfl rfl rfl rfl (by decide) (by decide) (by decide) rfl rfl rfl)
    | (refine OpK.at 45 ?_; refine OpK.of (OpOk.ixM D rfl rfl rfl rfl rfl rfl h8 (fun _ => rfl)) ?_)
    | (refine OpD.at 45 ?_; (apply OpD.of; refine OpOk.ixM D rfl rfl rfl rfl rfl rfl h8 (fun _ => rfl)))
    | refine goO ?_
    | refine goB ?_
    | refine OpK.of (stpR_ok D rfl) ?_
    | refine W.dv0 mixed rfl (by decide +kernel) ?_
    | refine W.dv1 mixed rfl (by decide +kernel) ?_
    | refine W.dv2 mixed rfl (by decide +kernel) ?_
    | refine W.dm0 mixed rfl (by decide +kernel) (by repeat' (first | exact .nil | refine .box rfl ?_ | refine .arr (rs_low _ _ _) ?_ | refine .dead ?_ | fail)) ?_
    | refine W.dm1 mixed rfl (by decide +kernel) (by repeat' (first | exact .nil | refine .box rfl ?_ | refine .arr (rs_low _ _ _) ?_ | refine .dead ?_ | fail)) ?_
    | refine W.dm2 mixed rfl (by decide +kernel) (by repeat' (first | exact .nil | refine .box rfl ?_ | refine .arr (rs_low _ _ _) ?_ | refine .dead ?_ | fail)) ?_
    | refine WD.done rfl ?_
    | refine WD.t rfl ?_ rfl
    | refine WD.g rfl rfl rfl ?_
    | refine WD.u rfl rfl rfl ?_
    | refine OpD.of (stpR_ok D rfl) ?_
    | (refine WO.gs _ rfl rfl rfl ?_ ?_ <;> intro hb <;> simp only [hb] <;> (try simp at hb) <;> (try contradiction) <;> (try (exfalso; omega)))
    | (refine WG.gs _ rfl rfl rfl ?_ ?_ <;> intro hb <;> simp only [hb] <;> (try simp at hb) <;> (try contradiction) <;> (try (exfalso; omega)))
    | (refine WD.gs _ rfl rfl rfl ?_ ?_ <;> intro hb <;> simp only [hb] <;> (try simp at hb) <;> (try contradiction) <;> (try (exfalso; omega))))
  all_goals first
    | (exfalso; omega)
    | (first | refine Ro.c1 (.inr rfl) [0] rfl (by decide) (kp rfl) ?_ ?_ | refine Ro.a1 (.inr rfl) [0] rfl (by decide) (kp rfl) ?_ ?_ | refine Ro.t1 (.inr rfl) [0] rfl (by decide) (kp rfl) ?_ ?_ rfl); (repeat' (first | exact .nil | refine .cons rfl ?_ ?_ | refine .cons ?_ ?_ | refine .c ?_ | refine .ag ?_ | refine .box ?_ | exact .arr (rs_low _ _ _) | exact .dead | exact .id rfl | exact .sl rfl | exact .ptr rfl | exact .ap rfl | exact .emp | exact .full rfl rfl rfl rfl rfl | fail))
    | trace_state
set_option maxHeartbeats 4000000 in
theorem cal112 {bs : List UInt8} {p : Nat} {n : Int} {l : List Rou} {s : Nat} {p1 : Nat} (ec : Po Try.prog 104 [Rp, I 0] (rdH bs p) (L Rou.e l) (rdH bs p1)) (e1 : Po Try.prog 63 [Rp, I 5] (rdH bs p1) (I s) (rdH bs (p1 + 1))) (hs : s < 5) (e2 : Po Try.prog 63 [Rp, I 2] (rdH bs (p1 + 1)) (I 0) (rdH bs (p1 + 1 + 1))) {s2 t p2 : Nat} {m : Cmd} (e3 : Po Try.prog 63 [Rp, I 5] (rdH bs (p1 + 1 + 1)) (I s2) (rdH bs (p1 + 1 + 1 + 1))) (h3 : s2 < 5) (e4 : Po Try.prog 67 [Rp, I 0] (rdH bs (p1 + 1 + 1 + 1)) (A m.e) (rdH bs p2)) (e5 : Po Try.prog 63 [Rp, I 20] (rdH bs p2) (I t) (rdH bs (p2 + 1))) (e6 : Po Try.prog 63 [Rp, I 16] (rdH bs (p2 + 1)) (I 15) (rdH bs ((p2 + 1) + 1))) {p3 : Nat} (eo : Po Try.prog 118 [Rp, I n] (rdH bs ((p2 + 1) + 1)) (B true) (rdH bs p3)) (e7 : Po Try.prog 63 [Rp, I 6] (rdH bs p3) (I 2) (rdH bs (p3 + 1))) : Po Try.prog 66 [Rp, I n] (rdH bs p) (A (⟨l, 999, true, ⟨5, [], 0, 0⟩, (t : Int)⟩ : Cal).e) (rdH bs (p3 + 1)) := by
  refine Po.of D Try.func66 rfl rfl rfl ?_
  repeat' (first
    | (refine W.cond rfl ?_ ?_ <;> intro hb <;> (try simp at hb) <;> (try contradiction) <;> (try (exfalso; omega)))
    | refine W.dg 3 10 [0] [0,1,4,5,7] [3,6,8] mixed (by decide +kernel) ?_
    | refine W.dge 3 10 [0] [0,1,4,5,7] [3,6,8] mixed (by decide +kernel) ?_
    | refine WG.t rfl ?_ rfl
    | refine WG.s1 rfl rfl rfl rfl rfl ?_
    | refine WG.b1 rfl rfl rfl rfl rfl ?_
    | refine WG.f1 rfl rfl rfl rfl rfl ?_
    | refine WG.n1 rfl rfl rfl ?_
    | apply Gf.go
    | refine WG.u rfl rfl rfl ?_
    | refine WG.done rfl ?_
    | refine GK.go rfl ?_
    | refine GN.go rfl ?_
    | (apply Af.mk; intro z_ x_)
    | (apply Ev.mk; rfl)
    | (apply OpD.of; apply stpR_ok D; rfl)
    | (apply OpD.of; refine OpOk.lenS D rfl rfl rfl rfl)
    | (apply OpD.of; refine OpOk.lenM D rfl rfl rfl rfl)
    | (apply OpD.of; refine OpOk.lenL D rfl rfl rfl rfl)
    | (apply OpD.of; refine OpOk.lenA D rfl rfl rfl rfl rfl rfl)
    | (apply OpD.of; refine OpOk.lenE D rfl rfl rfl rfl)
    | (apply OpD.of; refine OpOk.add rfl rfl rfl (by omega))
    | (apply OpD.of; refine OpOk.sub rfl rfl rfl (by omega))
    | (apply OpD.of; refine OpOk.build2 D rfl rfl rfl rfl rfl rfl)
    | (refine OpK.at 7 ?_; refine co [0] (ec) ?_)
    | (refine OpD.at 7 ?_; refine co [0] (ec) ?_)
    | (refine OpK.at 9 ?_; refine co [0] (e1) ?_)
    | (refine OpD.at 9 ?_; refine co [0] (e1) ?_)
    | (refine OpK.at 12 ?_; refine co [0] (e2) ?_)
    | (refine OpD.at 12 ?_; refine co [0] (e2) ?_)
    | (refine OpK.at 17 ?_; refine co [0] (e3) ?_)
    | (refine OpD.at 17 ?_; refine co [0] (e3) ?_)
    | (refine OpK.at 20 ?_; refine co [0] (e4) ?_)
    | (refine OpD.at 20 ?_; refine co [0] (e4) ?_)
    | (refine OpK.at 22 ?_; refine co [0] (e5) ?_)
    | (refine OpD.at 22 ?_; refine co [0] (e5) ?_)
    | (refine OpK.at 25 ?_; refine co [0] (e6) ?_)
    | (refine OpD.at 25 ?_; refine co [0] (e6) ?_)
    | (refine OpK.at 30 ?_; refine co [0] (eo) ?_)
    | (refine OpD.at 30 ?_; refine co [0] (eo) ?_)
    | (refine OpK.at 32 ?_; refine co [0] (e7) ?_)
    | (refine OpD.at 32 ?_; refine co [0] (e7) ?_)
    | refine goO ?_
    | refine goB ?_
    | refine OpK.of (stpR_ok D rfl) ?_
    | refine W.dv0 mixed rfl (by decide +kernel) ?_
    | refine W.dv1 mixed rfl (by decide +kernel) ?_
    | refine W.dv2 mixed rfl (by decide +kernel) ?_
    | refine W.dm0 mixed rfl (by decide +kernel) (by repeat' (first | exact .nil | refine .box rfl ?_ | refine .arr (rs_low _ _ _) ?_ | refine .dead ?_ | fail)) ?_
    | refine W.dm1 mixed rfl (by decide +kernel) (by repeat' (first | exact .nil | refine .box rfl ?_ | refine .arr (rs_low _ _ _) ?_ | refine .dead ?_ | fail)) ?_
    | refine W.dm2 mixed rfl (by decide +kernel) (by repeat' (first | exact .nil | refine .box rfl ?_ | refine .arr (rs_low _ _ _) ?_ | refine .dead ?_ | fail)) ?_
    | refine WD.done rfl ?_
    | refine WD.t rfl ?_ rfl
    | refine WD.g rfl rfl rfl ?_
    | refine WD.u rfl rfl rfl ?_
    | refine OpD.of (stpR_ok D rfl) ?_
    | (refine WO.gs _ rfl rfl rfl ?_ ?_ <;> intro hb <;> simp only [hb] <;> (try simp at hb) <;> (try contradiction) <;> (try (exfalso; omega)))
    | (refine WG.gs _ rfl rfl rfl ?_ ?_ <;> intro hb <;> simp only [hb] <;> (try simp at hb) <;> (try contradiction) <;> (try (exfalso; omega)))
    | (refine WD.gs _ rfl rfl rfl ?_ ?_ <;> intro hb <;> simp only [hb] <;> (try simp at hb) <;> (try contradiction) <;> (try (exfalso; omega))))
  all_goals first
    | (exfalso; omega)
    | (first | refine Ro.c1 (.inr rfl) [0] rfl (by decide) (kp rfl) ?_ ?_ | refine Ro.a1 (.inr rfl) [0] rfl (by decide) (kp rfl) ?_ ?_ | refine Ro.t1 (.inr rfl) [0] rfl (by decide) (kp rfl) ?_ ?_ rfl); (repeat' (first | exact .nil | refine .cons rfl ?_ ?_ | refine .cons ?_ ?_ | refine .c ?_ | refine .ag ?_ | refine .box ?_ | exact .arr (rs_low _ _ _) | exact .dead | exact .id rfl | exact .sl rfl | exact .ptr rfl | exact .ap rfl | exact .emp | exact .full rfl rfl rfl rfl rfl | fail))
    | trace_state
set_option maxHeartbeats 4000000 in
theorem cal113 {bs : List UInt8} {p : Nat} {n : Int} {l : List Rou} {s : Nat} {p1 : Nat} (ec : Po Try.prog 104 [Rp, I 0] (rdH bs p) (L Rou.e l) (rdH bs p1)) (e1 : Po Try.prog 63 [Rp, I 5] (rdH bs p1) (I s) (rdH bs (p1 + 1))) (hs : s < 5) (e2 : Po Try.prog 63 [Rp, I 2] (rdH bs (p1 + 1)) (I 0) (rdH bs (p1 + 1 + 1))) {s2 t p2 : Nat} {m : Cmd} (e3 : Po Try.prog 63 [Rp, I 5] (rdH bs (p1 + 1 + 1)) (I s2) (rdH bs (p1 + 1 + 1 + 1))) (h3 : s2 < 5) (e4 : Po Try.prog 67 [Rp, I 0] (rdH bs (p1 + 1 + 1 + 1)) (A m.e) (rdH bs p2)) (e5 : Po Try.prog 63 [Rp, I 20] (rdH bs p2) (I t) (rdH bs (p2 + 1))) (e6 : Po Try.prog 63 [Rp, I 16] (rdH bs (p2 + 1)) (I 15) (rdH bs ((p2 + 1) + 1))) {p3 : Nat} (eo : Po Try.prog 118 [Rp, I n] (rdH bs ((p2 + 1) + 1)) (B true) (rdH bs p3)) (e7 : Po Try.prog 63 [Rp, I 6] (rdH bs p3) (I 3) (rdH bs (p3 + 1))) : Po Try.prog 66 [Rp, I n] (rdH bs p) (A (⟨l, 999, false, m, (t : Int)⟩ : Cal).e) (rdH bs (p3 + 1)) := by
  refine Po.of D Try.func66 rfl rfl rfl ?_
  repeat' (first
    | (refine W.cond rfl ?_ ?_ <;> intro hb <;> (try simp at hb) <;> (try contradiction) <;> (try (exfalso; omega)))
    | refine W.dg 3 10 [0] [0,1,4,5,7] [3,6,8] mixed (by decide +kernel) ?_
    | refine W.dge 3 10 [0] [0,1,4,5,7] [3,6,8] mixed (by decide +kernel) ?_
    | refine WG.t rfl ?_ rfl
    | refine WG.s1 rfl rfl rfl rfl rfl ?_
    | refine WG.b1 rfl rfl rfl rfl rfl ?_
    | refine WG.f1 rfl rfl rfl rfl rfl ?_
    | refine WG.n1 rfl rfl rfl ?_
    | apply Gf.go
    | refine WG.u rfl rfl rfl ?_
    | refine WG.done rfl ?_
    | refine GK.go rfl ?_
    | refine GN.go rfl ?_
    | (apply Af.mk; intro z_ x_)
    | (apply Ev.mk; rfl)
    | (apply OpD.of; apply stpR_ok D; rfl)
    | (apply OpD.of; refine OpOk.lenS D rfl rfl rfl rfl)
    | (apply OpD.of; refine OpOk.lenM D rfl rfl rfl rfl)
    | (apply OpD.of; refine OpOk.lenL D rfl rfl rfl rfl)
    | (apply OpD.of; refine OpOk.lenA D rfl rfl rfl rfl rfl rfl)
    | (apply OpD.of; refine OpOk.lenE D rfl rfl rfl rfl)
    | (apply OpD.of; refine OpOk.add rfl rfl rfl (by omega))
    | (apply OpD.of; refine OpOk.sub rfl rfl rfl (by omega))
    | (apply OpD.of; refine OpOk.build2 D rfl rfl rfl rfl rfl rfl)
    | (refine OpK.at 7 ?_; refine co [0] (ec) ?_)
    | (refine OpD.at 7 ?_; refine co [0] (ec) ?_)
    | (refine OpK.at 9 ?_; refine co [0] (e1) ?_)
    | (refine OpD.at 9 ?_; refine co [0] (e1) ?_)
    | (refine OpK.at 12 ?_; refine co [0] (e2) ?_)
    | (refine OpD.at 12 ?_; refine co [0] (e2) ?_)
    | (refine OpK.at 17 ?_; refine co [0] (e3) ?_)
    | (refine OpD.at 17 ?_; refine co [0] (e3) ?_)
    | (refine OpK.at 20 ?_; refine co [0] (e4) ?_)
    | (refine OpD.at 20 ?_; refine co [0] (e4) ?_)
    | (refine OpK.at 22 ?_; refine co [0] (e5) ?_)
    | (refine OpD.at 22 ?_; refine co [0] (e5) ?_)
    | (refine OpK.at 25 ?_; refine co [0] (e6) ?_)
    | (refine OpD.at 25 ?_; refine co [0] (e6) ?_)
    | (refine OpK.at 30 ?_; refine co [0] (eo) ?_)
    | (refine OpD.at 30 ?_; refine co [0] (eo) ?_)
    | (refine OpK.at 32 ?_; refine co [0] (e7) ?_)
    | (refine OpD.at 32 ?_; refine co [0] (e7) ?_)
    | refine goO ?_
    | refine goB ?_
    | refine OpK.of (stpR_ok D rfl) ?_
    | refine W.dv0 mixed rfl (by decide +kernel) ?_
    | refine W.dv1 mixed rfl (by decide +kernel) ?_
    | refine W.dv2 mixed rfl (by decide +kernel) ?_
    | refine W.dm0 mixed rfl (by decide +kernel) (by repeat' (first | exact .nil | refine .box rfl ?_ | refine .arr (rs_low _ _ _) ?_ | refine .dead ?_ | fail)) ?_
    | refine W.dm1 mixed rfl (by decide +kernel) (by repeat' (first | exact .nil | refine .box rfl ?_ | refine .arr (rs_low _ _ _) ?_ | refine .dead ?_ | fail)) ?_
    | refine W.dm2 mixed rfl (by decide +kernel) (by repeat' (first | exact .nil | refine .box rfl ?_ | refine .arr (rs_low _ _ _) ?_ | refine .dead ?_ | fail)) ?_
    | refine WD.done rfl ?_
    | refine WD.t rfl ?_ rfl
    | refine WD.g rfl rfl rfl ?_
    | refine WD.u rfl rfl rfl ?_
    | refine OpD.of (stpR_ok D rfl) ?_
    | (refine WO.gs _ rfl rfl rfl ?_ ?_ <;> intro hb <;> simp only [hb] <;> (try simp at hb) <;> (try contradiction) <;> (try (exfalso; omega)))
    | (refine WG.gs _ rfl rfl rfl ?_ ?_ <;> intro hb <;> simp only [hb] <;> (try simp at hb) <;> (try contradiction) <;> (try (exfalso; omega)))
    | (refine WD.gs _ rfl rfl rfl ?_ ?_ <;> intro hb <;> simp only [hb] <;> (try simp at hb) <;> (try contradiction) <;> (try (exfalso; omega))))
  all_goals first
    | (exfalso; omega)
    | (first | refine Ro.c1 (.inr rfl) [0] rfl (by decide) (kp rfl) ?_ ?_ | refine Ro.a1 (.inr rfl) [0] rfl (by decide) (kp rfl) ?_ ?_ | refine Ro.t1 (.inr rfl) [0] rfl (by decide) (kp rfl) ?_ ?_ rfl); (repeat' (first | exact .nil | refine .cons rfl ?_ ?_ | refine .cons ?_ ?_ | refine .c ?_ | refine .ag ?_ | refine .box ?_ | exact .arr (rs_low _ _ _) | exact .dead | exact .id rfl | exact .sl rfl | exact .ptr rfl | exact .ap rfl | exact .emp | exact .full rfl rfl rfl rfl rfl | fail))
    | trace_state
set_option maxHeartbeats 4000000 in
theorem cal114 {bs : List UInt8} {p : Nat} {n : Int} {l : List Rou} {s : Nat} {p1 : Nat} (ec : Po Try.prog 104 [Rp, I 0] (rdH bs p) (L Rou.e l) (rdH bs p1)) (e1 : Po Try.prog 63 [Rp, I 5] (rdH bs p1) (I s) (rdH bs (p1 + 1))) (hs : s < 5) (e2 : Po Try.prog 63 [Rp, I 2] (rdH bs (p1 + 1)) (I 0) (rdH bs (p1 + 1 + 1))) {s2 t p2 : Nat} {m : Cmd} (e3 : Po Try.prog 63 [Rp, I 5] (rdH bs (p1 + 1 + 1)) (I s2) (rdH bs (p1 + 1 + 1 + 1))) (h3 : s2 < 5) (e4 : Po Try.prog 67 [Rp, I 0] (rdH bs (p1 + 1 + 1 + 1)) (A m.e) (rdH bs p2)) (e5 : Po Try.prog 63 [Rp, I 20] (rdH bs p2) (I t) (rdH bs (p2 + 1))) (e6 : Po Try.prog 63 [Rp, I 16] (rdH bs (p2 + 1)) (I 15) (rdH bs ((p2 + 1) + 1))) {p3 : Nat} (eo : Po Try.prog 118 [Rp, I n] (rdH bs ((p2 + 1) + 1)) (B true) (rdH bs p3)) (e7 : Po Try.prog 63 [Rp, I 6] (rdH bs p3) (I 4) (rdH bs (p3 + 1))) {k8 : Nat} (e8 : Po Try.prog 63 [Rp, I 2] (rdH bs (p3 + 1)) (I k8) (rdH bs (p3 + 1 + 1))) (h8 : k8 < ([-1, 201] : List Int).length) : Po Try.prog 66 [Rp, I n] (rdH bs p) (A (⟨l, 999, true, m, ([-1, 201] : List Int)[k8]⟩ : Cal).e) (rdH bs (p3 + 1 + 1)) := by
  refine Po.of D Try.func66 rfl rfl rfl ?_
  repeat' (first
    | (refine W.cond rfl ?_ ?_ <;> intro hb <;> (try simp at hb) <;> (try contradiction) <;> (try (exfalso; omega)))
    | refine W.dg 3 10 [0] [0,1,4,5,7] [3,6,8] mixed (by decide +kernel) ?_
    | refine W.dge 3 10 [0] [0,1,4,5,7] [3,6,8] mixed (by decide +kernel) ?_
    | refine WG.t rfl ?_ rfl
    | refine WG.s1 rfl rfl rfl rfl rfl ?_
    | refine WG.b1 rfl rfl rfl rfl rfl ?_
    | refine WG.f1 rfl rfl rfl rfl rfl ?_
    | refine WG.n1 rfl rfl rfl ?_
    | apply Gf.go
    | refine WG.u rfl rfl rfl ?_
    | refine WG.done rfl ?_
    | refine GK.go rfl ?_
    | refine GN.go rfl ?_
    | (apply Af.mk; intro z_ x_)
    | (apply Ev.mk; rfl)
    | (apply OpD.of; apply stpR_ok D; rfl)
    | (apply OpD.of; refine OpOk.lenS D rfl rfl rfl rfl)
    | (apply OpD.of; refine OpOk.lenM D rfl rfl rfl rfl)
    | (apply OpD.of; refine OpOk.lenL D rfl rfl rfl rfl)
    | (apply OpD.of; refine OpOk.lenA D rfl rfl rfl rfl rfl rfl)
    | (apply OpD.of; refine OpOk.lenE D rfl rfl rfl rfl)
    | (apply OpD.of; refine OpOk.add rfl rfl rfl (by omega))
    | (apply OpD.of; refine OpOk.sub rfl rfl rfl (by omega))
    | (apply OpD.of; refine OpOk.build2 D rfl rfl rfl rfl rfl rfl)
    | (refine OpK.at 7 ?_; refine co [0] (ec) ?_)
    | (refine OpD.at 7 ?_; refine co [0] (ec) ?_)
    | (refine OpK.at 9 ?_; refine co [0] (e1) ?_)
    | (refine OpD.at 9 ?_; refine co [0] (e1) ?_)
    | (refine OpK.at 12 ?_; refine co [0] (e2) ?_)
    | (refine OpD.at 12 ?_; refine co [0] (e2) ?_)
    | (refine OpK.at 17 ?_; refine co [0] (e3) ?_)
    | (refine OpD.at 17 ?_; refine co [0] (e3) ?_)
    | (refine OpK.at 20 ?_; refine co [0] (e4) ?_)
    | (refine OpD.at 20 ?_; refine co [0] (e4) ?_)
    | (refine OpK.at 22 ?_; refine co [0] (e5) ?_)
    | (refine OpD.at 22 ?_; refine co [0] (e5) ?_)
    | (refine OpK.at 25 ?_; refine co [0] (e6) ?_)
    | (refine OpD.at 25 ?_; refine co [0] (e6) ?_)
    | (refine OpK.at 30 ?_; refine co [0] (eo) ?_)
    | (refine OpD.at 30 ?_; refine co [0] (eo) ?_)
    | (refine OpK.at 32 ?_; refine co [0] (e7) ?_)
    | (refine OpD.at 32 ?_; refine co [0] (e7) ?_)
    | (refine OpK.at 62 ?_; refine co [0] (e8) ?_)
    | (refine OpD.at 62 ?_; refine co [0] (e8) ?_)
    | refine OpK.of (OpOk.bldF D [-1, 201] eI rfl rfl rfl rfl (by decide) (by decide) (by decide) rfl rfl rfl) ?_
    | (apply OpD.of; refine OpOk.bldF D [-1, 201] eI rfl rfl rfl rfl (by decide) (by decide) (by decide) rfl rfl rfl)
    | (refine OpK.at 63 ?_; refine OpK.of (OpOk.ixM D rfl rfl rfl rfl rfl rfl h8 (fun _ => rfl)) ?_)
    | (refine OpD.at 63 ?_; (apply OpD.of; refine OpOk.ixM D rfl rfl rfl rfl rfl rfl h8 (fun _ => rfl)))
    | refine goO ?_
    | refine goB ?_
    | refine OpK.of (stpR_ok D rfl) ?_
    | refine W.dv0 mixed rfl (by decide +kernel) ?_
    | refine W.dv1 mixed rfl (by decide +kernel) ?_
    | refine W.dv2 mixed rfl (by decide +kernel) ?_
    | refine W.dm0 mixed rfl (by decide +kernel) (by repeat' (first | exact .nil | refine .box rfl ?_ | refine .arr (rs_low _ _ _) ?_ | refine .dead ?_ | fail)) ?_
    | refine W.dm1 mixed rfl (by decide +kernel) (by repeat' (first | exact .nil | refine .box rfl ?_ | refine .arr (rs_low _ _ _) ?_ | refine .dead ?_ | fail)) ?_
    | refine W.dm2 mixed rfl (by decide +kernel) (by repeat' (first | exact .nil | refine .box rfl ?_ | refine .arr (rs_low _ _ _) ?_ | refine .dead ?_ | fail)) ?_
    | refine WD.done rfl ?_
    | refine WD.t rfl ?_ rfl
    | refine WD.g rfl rfl rfl ?_
    | refine WD.u rfl rfl rfl ?_
    | refine OpD.of (stpR_ok D rfl) ?_
    | (refine WO.gs _ rfl rfl rfl ?_ ?_ <;> intro hb <;> simp only [hb] <;> (try simp at hb) <;> (try contradiction) <;> (try (exfalso; omega)))
    | (refine WG.gs _ rfl rfl rfl ?_ ?_ <;> intro hb <;> simp only [hb] <;> (try simp at hb) <;> (try contradiction) <;> (try (exfalso; omega)))
    | (refine WD.gs _ rfl rfl rfl ?_ ?_ <;> intro hb <;> simp only [hb] <;> (try simp at hb) <;> (try contradiction) <;> (try (exfalso; omega))))
  all_goals first
    | (exfalso; omega)
    | (first | refine Ro.c1 (.inr rfl) [0] rfl (by decide) (kp rfl) ?_ ?_ | refine Ro.a1 (.inr rfl) [0] rfl (by decide) (kp rfl) ?_ ?_ | refine Ro.t1 (.inr rfl) [0] rfl (by decide) (kp rfl) ?_ ?_ rfl); (repeat' (first | exact .nil | refine .cons rfl ?_ ?_ | refine .cons ?_ ?_ | refine .c ?_ | refine .ag ?_ | refine .box ?_ | exact .arr (rs_low _ _ _) | exact .dead | exact .id rfl | exact .sl rfl | exact .ptr rfl | exact .ap rfl | exact .emp | exact .full rfl rfl rfl rfl rfl | fail))
    | trace_state
set_option maxHeartbeats 4000000 in
theorem cal115 {bs : List UInt8} {p : Nat} {n : Int} {l : List Rou} {s : Nat} {p1 : Nat} (ec : Po Try.prog 104 [Rp, I 0] (rdH bs p) (L Rou.e l) (rdH bs p1)) (e1 : Po Try.prog 63 [Rp, I 5] (rdH bs p1) (I s) (rdH bs (p1 + 1))) (hs : s < 5) (e2 : Po Try.prog 63 [Rp, I 2] (rdH bs (p1 + 1)) (I 0) (rdH bs (p1 + 1 + 1))) {s2 t p2 : Nat} {m : Cmd} (e3 : Po Try.prog 63 [Rp, I 5] (rdH bs (p1 + 1 + 1)) (I s2) (rdH bs (p1 + 1 + 1 + 1))) (h3 : s2 < 5) (e4 : Po Try.prog 67 [Rp, I 0] (rdH bs (p1 + 1 + 1 + 1)) (A m.e) (rdH bs p2)) (e5 : Po Try.prog 63 [Rp, I 20] (rdH bs p2) (I t) (rdH bs (p2 + 1))) (e6 : Po Try.prog 63 [Rp, I 16] (rdH bs (p2 + 1)) (I 15) (rdH bs ((p2 + 1) + 1))) {p3 : Nat} (eo : Po Try.prog 118 [Rp, I n] (rdH bs ((p2 + 1) + 1)) (B true) (rdH bs p3)) {k7 : Nat} (e7 : Po Try.prog 63 [Rp, I 6] (rdH bs p3) (I k7) (rdH bs (p3 + 1))) (h7 : 5 ≤ (k7 : Int)) : Po Try.prog 66 [Rp, I n] (rdH bs p) (A (⟨l, 0, true, m, (t : Int)⟩ : Cal).e) (rdH bs (p3 + 1)) := by
  refine Po.of D Try.func66 rfl rfl rfl ?_
  repeat' (first
    | (refine W.cond rfl ?_ ?_ <;> intro hb <;> (try simp at hb) <;> (try contradiction) <;> (try (exfalso; omega)))
    | refine W.dg 3 10 [0] [0,1,4,5,7] [3,6,8] mixed (by decide +kernel) ?_
    | refine W.dge 3 10 [0] [0,1,4,5,7] [3,6,8] mixed (by decide +kernel) ?_
    | refine WG.t rfl ?_ rfl
    | refine WG.s1 rfl rfl rfl rfl rfl ?_
    | refine WG.b1 rfl rfl rfl rfl rfl ?_
    | refine WG.f1 rfl rfl rfl rfl rfl ?_
    | refine WG.n1 rfl rfl rfl ?_
    | apply Gf.go
    | refine WG.u rfl rfl rfl ?_
    | refine WG.done rfl ?_
    | refine GK.go rfl ?_
    | refine GN.go rfl ?_
    | (apply Af.mk; intro z_ x_)
    | (apply Ev.mk; rfl)
    | (apply OpD.of; apply stpR_ok D; rfl)
    | (apply OpD.of; refine OpOk.lenS D rfl rfl rfl rfl)
    | (apply OpD.of; refine OpOk.lenM D rfl rfl rfl rfl)
    | (apply OpD.of; refine OpOk.lenL D rfl rfl rfl rfl)
    | (apply OpD.of; refine OpOk.lenA D rfl rfl rfl rfl rfl rfl)
    | (apply OpD.of; refine OpOk.lenE D rfl rfl rfl rfl)
    | (apply OpD.of; refine OpOk.add rfl rfl rfl (by omega))
    | (apply OpD.of; refine OpOk.sub rfl rfl rfl (by omega))
    | (apply OpD.of; refine OpOk.build2 D rfl rfl rfl rfl rfl rfl)
    | (refine OpK.at 7 ?_; refine co [0] (ec) ?_)
    | (refine OpD.at 7 ?_; refine co [0] (ec) ?_)
    | (refine OpK.at 9 ?_; refine co [0] (e1) ?_)
    | (refine OpD.at 9 ?_; refine co [0] (e1) ?_)
    | (refine OpK.at 12 ?_; refine co [0] (e2) ?_)
    | (refine OpD.at 12 ?_; refine co [0] (e2) ?_)
    | (refine OpK.at 17 ?_; refine co [0] (e3) ?_)
    | (refine OpD.at 17 ?_; refine co [0] (e3) ?_)
    | (refine OpK.at 20 ?_; refine co [0] (e4) ?_)
    | (refine OpD.at 20 ?_; refine co [0] (e4) ?_)
    | (refine OpK.at 22 ?_; refine co [0] (e5) ?_)
    | (refine OpD.at 22 ?_; refine co [0] (e5) ?_)
    | (refine OpK.at 25 ?_; refine co [0] (e6) ?_)
    | (refine OpD.at 25 ?_; refine co [0] (e6) ?_)
    | (refine OpK.at 30 ?_; refine co [0] (eo) ?_)
    | (refine OpD.at 30 ?_; refine co [0] (eo) ?_)
    | (refine OpK.at 32 ?_; refine co [0] (e7) ?_)
    | (refine OpD.at 32 ?_; refine co [0] (e7) ?_)
    | refine goO ?_
    | refine goB ?_
    | refine OpK.of (stpR_ok D rfl) ?_
    | refine W.dv0 mixed rfl (by decide +kernel) ?_
    | refine W.dv1 mixed rfl (by decide +kernel) ?_
    | refine W.dv2 mixed rfl (by decide +kernel) ?_
    | refine W.dm0 mixed rfl (by decide +kernel) (by repeat' (first | exact .nil | refine .box rfl ?_ | refine .arr (rs_low _ _ _) ?_ | refine .dead ?_ | fail)) ?_
    | refine W.dm1 mixed rfl (by decide +kernel) (by repeat' (first | exact .nil | refine .box rfl ?_ | refine .arr (rs_low _ _ _) ?_ | refine .dead ?_ | fail)) ?_
    | refine W.dm2 mixed rfl (by decide +kernel) (by repeat' (first | exact .nil | refine .box rfl ?_ | refine .arr (rs_low _ _ _) ?_ | refine .dead ?_ | fail)) ?_
    | refine WD.done rfl ?_
    | refine WD.t rfl ?_ rfl
    | refine WD.g rfl rfl rfl ?_
    | refine WD.u rfl rfl rfl ?_
    | refine OpD.of (stpR_ok D rfl) ?_
    | (refine WO.gs _ rfl rfl rfl ?_ ?_ <;> intro hb <;> simp only [hb] <;> (try simp at hb) <;> (try contradiction) <;> (try (exfalso; omega)))
    | (refine WG.gs _ rfl rfl rfl ?_ ?_ <;> intro hb <;> simp only [hb] <;> (try simp at hb) <;> (try contradiction) <;> (try (exfalso; omega)))
    | (refine WD.gs _ rfl rfl rfl ?_ ?_ <;> intro hb <;> simp only [hb] <;> (try simp at hb) <;> (try contradiction) <;> (try (exfalso; omega))))
  all_goals first
    | (exfalso; omega)
    | (first | refine Ro.c1 (.inr rfl) [0] rfl (by decide) (kp rfl) ?_ ?_ | refine Ro.a1 (.inr rfl) [0] rfl (by decide) (kp rfl) ?_ ?_ | refine Ro.t1 (.inr rfl) [0] rfl (by decide) (kp rfl) ?_ ?_ rfl); (repeat' (first | exact .nil | refine .cons rfl ?_ ?_ | refine .cons ?_ ?_ | refine .c ?_ | refine .ag ?_ | refine .box ?_ | exact .arr (rs_low _ _ _) | exact .dead | exact .id rfl | exact .sl rfl | exact .ptr rfl | exact .ap rfl | exact .emp | exact .full rfl rfl rfl rfl rfl | fail))
    | trace_state
theorem rous_sm {l : List Rou} (h : shR l) : ∀ x ∈ l, x.Sm := fun x hx => ⟨⟨by have := (h x hx).lo; omega, by have := (h x hx).hi; omega⟩⟩
theorem client_ex {bs : List UInt8} {p : Nat} (ro : Rok bs p) (hq : p + 9000 ≤ 1099511627776) (n : Int) (hn : n ≤ 1000) : ∃ (c : Cal) (p' : Nat), p ≤ p' ∧ p' ≤ p + 1000 ∧ c.Dr ∧ Po Try.prog 66 [Rp, I n] (rdH bs p) (A c.e) (rdH bs p') := by
  obtain ⟨l, p1, a1, a2, a3, a4, ec⟩ := cache_ex ro (by omega) 0 (by omega)
  have la := rous_sm a3
  obtain ⟨s, s1, _, e1⟩ := pick_ex (p := p1) ⟨ro.b, by omega⟩ 5 (by omega)
  have hs : s < 5 := by have := s1 (by omega); omega
  obtain ⟨k2, k1, _, e2⟩ := pick_ex (p := p1 + 1) ⟨ro.b, by omega⟩ 2 (by omega)
  have z0 : (⟨0, [], 0, 0⟩ : Cmd).Sm := ⟨by decide⟩
  have z5 : (⟨5, [], 0, 0⟩ : Cmd).Sm := ⟨by decide⟩
  by_cases w : k2 = 0
  · subst w
    obtain ⟨s2, s21, _, e3⟩ := pick_ex (p := p1 + 1 + 1) ⟨ro.b, by omega⟩ 5 (by omega)
    have h3 : s2 < 5 := by have := s21 (by omega); omega
    obtain ⟨m, p2, m1, m2, _, m4, e4⟩ := cmd_ex (p := p1 + 1 + 1 + 1) ⟨ro.b, by omega⟩ (by omega) 0 (by omega)
    have hm : m.Sm := ⟨by omega⟩
    obtain ⟨t, t1, _, e5⟩ := pick_ex (p := p2) ⟨ro.b, by omega⟩ 20 (by omega)
    have t1 := t1 (by omega)
    obtain ⟨k6, _, _, e6⟩ := pick_ex (p := p2 + 1) ⟨ro.b, by omega⟩ 16 (by omega)
    by_cases h6 : (k6 : Int) = 15
    · obtain rfl : k6 = 15 := by omega
      obtain ⟨b, p3, b1, b2, _, eo⟩ := odd_ex (p := (p2 + 1 + 1)) ⟨ro.b, by omega⟩ n hn
      cases b with
      | false => exact ⟨_, p3, by omega, by omega, ⟨⟨by dsimp only; omega, la, hm⟩, by dsimp only; omega, by dsimp only; omega⟩, cal11N ec e1 hs e2 e3 h3 e4 e5 e6 eo⟩
      | true =>
        obtain ⟨k7, k71, _, e7⟩ := pick_ex (p := p3) ⟨ro.b, by omega⟩ 6 (by omega)
        by_cases w0 : k7 = 0
        · subst w0
          obtain ⟨l2, p4, c1, c2, c3, c4, e8⟩ := cache_ex (p := p3 + 1) ⟨ro.b, by omega⟩ (by omega) 1 (by omega)
          exact ⟨_, p4, by omega, by omega, ⟨⟨by dsimp only; omega, rous_sm c3, hm⟩, by dsimp only; omega, by dsimp only; omega⟩, cal110 ec e1 hs e2 e3 h3 e4 e5 e6 eo e7 e8⟩
        by_cases w1 : k7 = 1
        · subst w1
          obtain ⟨k8, k81, _, e8⟩ := pick_ex (p := p3 + 1) ⟨ro.b, by omega⟩ 2 (by omega)
          have h8 : k8 < ([-1, 1000] : List Int).length := by have := k81 (by omega); simp; omega
          have hv := mem_all (p := fun v => -1 ≤ v ∧ v ≤ 1000) (l := ([-1, 1000] : List Int)) (by decide) k8 h8
          exact ⟨_, p3 + 1 + 1, by omega, by omega, ⟨⟨by dsimp only; omega, la, hm⟩, hv, by dsimp only; omega⟩, cal111 ec e1 hs e2 e3 h3 e4 e5 e6 eo e7 e8 h8⟩
        by_cases w2 : k7 = 2
        · subst w2
          exact ⟨_, p3 + 1, by omega, by omega, ⟨⟨by dsimp only; omega, la, z5⟩, by dsimp only; omega, by dsimp only; omega⟩, cal112 ec e1 hs e2 e3 h3 e4 e5 e6 eo e7⟩
        by_cases w3 : k7 = 3
        · subst w3
          exact ⟨_, p3 + 1, by omega, by omega, ⟨⟨by dsimp only; omega, la, hm⟩, by dsimp only; omega, by dsimp only; omega⟩, cal113 ec e1 hs e2 e3 h3 e4 e5 e6 eo e7⟩
        by_cases w4 : k7 = 4
        · subst w4
          obtain ⟨k8, k81, _, e8⟩ := pick_ex (p := p3 + 1) ⟨ro.b, by omega⟩ 2 (by omega)
          have h8 : k8 < ([-1, 201] : List Int).length := by have := k81 (by omega); simp; omega
          have hv := mem_all (p := fun v => -1 ≤ v ∧ v ≤ 201) (l := ([-1, 201] : List Int)) (by decide) k8 h8
          exact ⟨_, p3 + 1 + 1, by omega, by omega, ⟨⟨by dsimp only; omega, la, hm⟩, by dsimp only; omega, hv⟩, cal114 ec e1 hs e2 e3 h3 e4 e5 e6 eo e7 e8 h8⟩
        · exact ⟨_, p3 + 1, by omega, by omega, ⟨⟨by dsimp only; omega, la, hm⟩, by dsimp only; omega, by dsimp only; omega⟩, cal115 ec e1 hs e2 e3 h3 e4 e5 e6 eo e7 (by omega)⟩
    · obtain ⟨b, p3, b1, b2, _, eo⟩ := odd_ex (p := (p2 + 1 + 1)) ⟨ro.b, by omega⟩ n hn
      cases b with
      | false => exact ⟨_, p3, by omega, by omega, ⟨⟨by dsimp only; omega, la, hm⟩, by dsimp only; omega, by dsimp only; omega⟩, cal10N ec e1 hs e2 e3 h3 e4 e5 e6 h6 eo⟩
      | true =>
        obtain ⟨k7, k71, _, e7⟩ := pick_ex (p := p3) ⟨ro.b, by omega⟩ 6 (by omega)
        by_cases w0 : k7 = 0
        · subst w0
          obtain ⟨l2, p4, c1, c2, c3, c4, e8⟩ := cache_ex (p := p3 + 1) ⟨ro.b, by omega⟩ (by omega) 1 (by omega)
          exact ⟨_, p4, by omega, by omega, ⟨⟨by dsimp only; omega, rous_sm c3, hm⟩, by dsimp only; omega, by dsimp only; omega⟩, cal100 ec e1 hs e2 e3 h3 e4 e5 e6 h6 eo e7 e8⟩
        by_cases w1 : k7 = 1
        · subst w1
          obtain ⟨k8, k81, _, e8⟩ := pick_ex (p := p3 + 1) ⟨ro.b, by omega⟩ 2 (by omega)
          have h8 : k8 < ([-1, 1000] : List Int).length := by have := k81 (by omega); simp; omega
          have hv := mem_all (p := fun v => -1 ≤ v ∧ v ≤ 1000) (l := ([-1, 1000] : List Int)) (by decide) k8 h8
          exact ⟨_, p3 + 1 + 1, by omega, by omega, ⟨⟨by dsimp only; omega, la, hm⟩, hv, by dsimp only; omega⟩, cal101 ec e1 hs e2 e3 h3 e4 e5 e6 h6 eo e7 e8 h8⟩
        by_cases w2 : k7 = 2
        · subst w2
          exact ⟨_, p3 + 1, by omega, by omega, ⟨⟨by dsimp only; omega, la, z5⟩, by dsimp only; omega, by dsimp only; omega⟩, cal102 ec e1 hs e2 e3 h3 e4 e5 e6 h6 eo e7⟩
        by_cases w3 : k7 = 3
        · subst w3
          exact ⟨_, p3 + 1, by omega, by omega, ⟨⟨by dsimp only; omega, la, hm⟩, by dsimp only; omega, by dsimp only; omega⟩, cal103 ec e1 hs e2 e3 h3 e4 e5 e6 h6 eo e7⟩
        by_cases w4 : k7 = 4
        · subst w4
          obtain ⟨k8, k81, _, e8⟩ := pick_ex (p := p3 + 1) ⟨ro.b, by omega⟩ 2 (by omega)
          have h8 : k8 < ([-1, 201] : List Int).length := by have := k81 (by omega); simp; omega
          have hv := mem_all (p := fun v => -1 ≤ v ∧ v ≤ 201) (l := ([-1, 201] : List Int)) (by decide) k8 h8
          exact ⟨_, p3 + 1 + 1, by omega, by omega, ⟨⟨by dsimp only; omega, la, hm⟩, by dsimp only; omega, hv⟩, cal104 ec e1 hs e2 e3 h3 e4 e5 e6 h6 eo e7 e8 h8⟩
        · exact ⟨_, p3 + 1, by omega, by omega, ⟨⟨by dsimp only; omega, la, hm⟩, by dsimp only; omega, by dsimp only; omega⟩, cal105 ec e1 hs e2 e3 h3 e4 e5 e6 h6 eo e7 (by omega)⟩
  · obtain ⟨k6, _, _, e6⟩ := pick_ex (p := p1 + 1 + 1) ⟨ro.b, by omega⟩ 16 (by omega)
    by_cases h6 : (k6 : Int) = 15
    · obtain rfl : k6 = 15 := by omega
      obtain ⟨b, p3, b1, b2, _, eo⟩ := odd_ex (p := (p1 + 1 + 1 + 1)) ⟨ro.b, by omega⟩ n hn
      cases b with
      | false => exact ⟨_, p3, by omega, by omega, ⟨⟨by dsimp only; omega, la, z0⟩, by dsimp only; omega, by dsimp only; omega⟩, cal01N ec e1 hs e2 (by omega) e6 eo⟩
      | true =>
        obtain ⟨k7, k71, _, e7⟩ := pick_ex (p := p3) ⟨ro.b, by omega⟩ 6 (by omega)
        by_cases w0 : k7 = 0
        · subst w0
          obtain ⟨l2, p4, c1, c2, c3, c4, e8⟩ := cache_ex (p := p3 + 1) ⟨ro.b, by omega⟩ (by omega) 1 (by omega)
          exact ⟨_, p4, by omega, by omega, ⟨⟨by dsimp only; omega, rous_sm c3, z0⟩, by dsimp only; omega, by dsimp only; omega⟩, cal010 ec e1 hs e2 (by omega) e6 eo e7 e8⟩
        by_cases w1 : k7 = 1
        · subst w1
          obtain ⟨k8, k81, _, e8⟩ := pick_ex (p := p3 + 1) ⟨ro.b, by omega⟩ 2 (by omega)
          have h8 : k8 < ([-1, 1000] : List Int).length := by have := k81 (by omega); simp; omega
          have hv := mem_all (p := fun v => -1 ≤ v ∧ v ≤ 1000) (l := ([-1, 1000] : List Int)) (by decide) k8 h8
          exact ⟨_, p3 + 1 + 1, by omega, by omega, ⟨⟨by dsimp only; omega, la, z0⟩, hv, by dsimp only; omega⟩, cal011 ec e1 hs e2 (by omega) e6 eo e7 e8 h8⟩
        by_cases w2 : k7 = 2
        · subst w2
          exact ⟨_, p3 + 1, by omega, by omega, ⟨⟨by dsimp only; omega, la, z5⟩, by dsimp only; omega, by dsimp only; omega⟩, cal012 ec e1 hs e2 (by omega) e6 eo e7⟩
        by_cases w3 : k7 = 3
        · subst w3
          exact ⟨_, p3 + 1, by omega, by omega, ⟨⟨by dsimp only; omega, la, z0⟩, by dsimp only; omega, by dsimp only; omega⟩, cal013 ec e1 hs e2 (by omega) e6 eo e7⟩
        by_cases w4 : k7 = 4
        · subst w4
          obtain ⟨k8, k81, _, e8⟩ := pick_ex (p := p3 + 1) ⟨ro.b, by omega⟩ 2 (by omega)
          have h8 : k8 < ([-1, 201] : List Int).length := by have := k81 (by omega); simp; omega
          have hv := mem_all (p := fun v => -1 ≤ v ∧ v ≤ 201) (l := ([-1, 201] : List Int)) (by decide) k8 h8
          exact ⟨_, p3 + 1 + 1, by omega, by omega, ⟨⟨by dsimp only; omega, la, z0⟩, by dsimp only; omega, hv⟩, cal014 ec e1 hs e2 (by omega) e6 eo e7 e8 h8⟩
        · exact ⟨_, p3 + 1, by omega, by omega, ⟨⟨by dsimp only; omega, la, z0⟩, by dsimp only; omega, by dsimp only; omega⟩, cal015 ec e1 hs e2 (by omega) e6 eo e7 (by omega)⟩
    · obtain ⟨b, p3, b1, b2, _, eo⟩ := odd_ex (p := (p1 + 1 + 1 + 1)) ⟨ro.b, by omega⟩ n hn
      cases b with
      | false => exact ⟨_, p3, by omega, by omega, ⟨⟨by dsimp only; omega, la, z0⟩, by dsimp only; omega, by dsimp only; omega⟩, cal00N ec e1 hs e2 (by omega) e6 h6 eo⟩
      | true =>
        obtain ⟨k7, k71, _, e7⟩ := pick_ex (p := p3) ⟨ro.b, by omega⟩ 6 (by omega)
        by_cases w0 : k7 = 0
        · subst w0
          obtain ⟨l2, p4, c1, c2, c3, c4, e8⟩ := cache_ex (p := p3 + 1) ⟨ro.b, by omega⟩ (by omega) 1 (by omega)
          exact ⟨_, p4, by omega, by omega, ⟨⟨by dsimp only; omega, rous_sm c3, z0⟩, by dsimp only; omega, by dsimp only; omega⟩, cal000 ec e1 hs e2 (by omega) e6 h6 eo e7 e8⟩
        by_cases w1 : k7 = 1
        · subst w1
          obtain ⟨k8, k81, _, e8⟩ := pick_ex (p := p3 + 1) ⟨ro.b, by omega⟩ 2 (by omega)
          have h8 : k8 < ([-1, 1000] : List Int).length := by have := k81 (by omega); simp; omega
          have hv := mem_all (p := fun v => -1 ≤ v ∧ v ≤ 1000) (l := ([-1, 1000] : List Int)) (by decide) k8 h8
          exact ⟨_, p3 + 1 + 1, by omega, by omega, ⟨⟨by dsimp only; omega, la, z0⟩, hv, by dsimp only; omega⟩, cal001 ec e1 hs e2 (by omega) e6 h6 eo e7 e8 h8⟩
        by_cases w2 : k7 = 2
        · subst w2
          exact ⟨_, p3 + 1, by omega, by omega, ⟨⟨by dsimp only; omega, la, z5⟩, by dsimp only; omega, by dsimp only; omega⟩, cal002 ec e1 hs e2 (by omega) e6 h6 eo e7⟩
        by_cases w3 : k7 = 3
        · subst w3
          exact ⟨_, p3 + 1, by omega, by omega, ⟨⟨by dsimp only; omega, la, z0⟩, by dsimp only; omega, by dsimp only; omega⟩, cal003 ec e1 hs e2 (by omega) e6 h6 eo e7⟩
        by_cases w4 : k7 = 4
        · subst w4
          obtain ⟨k8, k81, _, e8⟩ := pick_ex (p := p3 + 1) ⟨ro.b, by omega⟩ 2 (by omega)
          have h8 : k8 < ([-1, 201] : List Int).length := by have := k81 (by omega); simp; omega
          have hv := mem_all (p := fun v => -1 ≤ v ∧ v ≤ 201) (l := ([-1, 201] : List Int)) (by decide) k8 h8
          exact ⟨_, p3 + 1 + 1, by omega, by omega, ⟨⟨by dsimp only; omega, la, z0⟩, by dsimp only; omega, hv⟩, cal004 ec e1 hs e2 (by omega) e6 h6 eo e7 e8 h8⟩
        · exact ⟨_, p3 + 1, by omega, by omega, ⟨⟨by dsimp only; omega, la, z0⟩, by dsimp only; omega, by dsimp only; omega⟩, cal005 ec e1 hs e2 (by omega) e6 h6 eo e7 (by omega)⟩
end Go.YtamlleimfopmhaaMc
