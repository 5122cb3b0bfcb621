/- Go functions as plain Lean functions, and for each a proof that its call comes to what the function says; under the conditions that each theorem names. Written by a program of this session. -/
import Derived.Test.YtinnjgogaidhlaaPFnCacheForgetx0
import Derived.Test.YtinnjgogaidhlaaPFnCacheForgetx2
namespace Go.Proofs.Ytinnjgogaidhlaa.PFnCacheForget
open Go.RowKit Go.Proofs.YtinnjgogaidhlaaW.PrintWords Go.Proofs.YtinnjgogaidhlaaW.PrintLast Go.Proofs.YtinnjgogaidhlaaW.PrintMore
attribute [local go_sem high] str_gtr str_leq str_geq
attribute [local go_sem] max2_int min2_int max_two min_two max_three min_three max_four min_four   -- for this text's walks alone
set_option linter.unusedVariables false
set_option linter.unusedSimpArgs false

/-! ### spec_IntervalMeet: function 103 -/
mutual
def spec_IntervalMeet.j0 : Nat → Bool → ByteArray → ByteArray → ByteArray → ByteArray → Option (ByteArray × ByteArray × Bool)
 | 0, _, _, _, _, _ => none
 | k + 1, x14, x200000, x200001, x201000, x201001 => if x14 = true then (some ((⟨#[]⟩ : ByteArray), (⟨#[]⟩ : ByteArray), false)) else (if (Op.bytesLess x200000.toList x201000.toList) = true then (spec_IntervalMeet.j1 k x200000 x200001 x201000 x201001 x201000 x200001) else (spec_IntervalMeet.j1 k x200000 x200001 x201000 x201001 x200000 x200001))
def spec_IntervalMeet.j1 : Nat → ByteArray → ByteArray → ByteArray → ByteArray → ByteArray → ByteArray → Option (ByteArray × ByteArray × Bool)
 | 0, _, _, _, _, _, _ => none
 | k + 1, x200000, x200001, x201000, x201001, x205000, x205001 => if x201001.toList = ([] : List UInt8) then (spec_IntervalMeet.j2 k false x201000 x201001 x205000 x205001) else (if x200001.toList = ([] : List UInt8) then (spec_IntervalMeet.j2 k true x201000 x201001 x205000 x205001) else (spec_IntervalMeet.j2 k (Op.bytesLess x201001.toList x200001.toList) x201000 x201001 x205000 x205001))
def spec_IntervalMeet.j2 : Nat → Bool → ByteArray → ByteArray → ByteArray → ByteArray → Option (ByteArray × ByteArray × Bool)
 | 0, _, _, _, _, _ => none
 | k + 1, x39, x201000, x201001, x205000, x205001 => if x39 = true then ((spec_IntervalValid.f k x205000 x201001).bind fun t205 => (if t205 = true then (some (x205000, x201001, true)) else (some ((⟨#[]⟩ : ByteArray), (⟨#[]⟩ : ByteArray), false)))) else ((spec_IntervalValid.f k x205000 x205001).bind fun t206 => (if t206 = true then (some (x205000, x205001, true)) else (some ((⟨#[]⟩ : ByteArray), (⟨#[]⟩ : ByteArray), false))))
end
def spec_IntervalMeet.f (k : Nat) (a0_0 : ByteArray) (a0_1 : ByteArray) (a1_0 : ByteArray) (a1_1 : ByteArray) : Option (ByteArray × ByteArray × Bool) := (spec_IntervalValid.f k a0_0 a0_1).bind fun t202 => (if t202 = true then ((spec_IntervalValid.f k a1_0 a1_1).bind fun t203 => (spec_IntervalMeet.j0 k (!t203) a0_0 a0_1 a1_0 a1_1)) else (spec_IntervalMeet.j0 k true a0_0 a0_1 a1_0 a1_1))
theorem spec_IntervalMeet.mono_l : ∀ k, (∀ y0 y1 y2 y3 y4, LeO (spec_IntervalMeet.j0 k y0 y1 y2 y3 y4) (spec_IntervalMeet.j0 (k + 1) y0 y1 y2 y3 y4)) ∧ (∀ y0 y1 y2 y3 y4 y5, LeO (spec_IntervalMeet.j1 k y0 y1 y2 y3 y4 y5) (spec_IntervalMeet.j1 (k + 1) y0 y1 y2 y3 y4 y5)) ∧ (∀ y0 y1 y2 y3 y4, LeO (spec_IntervalMeet.j2 k y0 y1 y2 y3 y4) (spec_IntervalMeet.j2 (k + 1) y0 y1 y2 y3 y4))
 | 0 => ⟨fun _ _ _ _ _ r h => by simp [spec_IntervalMeet.j0] at h, fun _ _ _ _ _ _ r h => by simp [spec_IntervalMeet.j1] at h, fun _ _ _ _ _ r h => by simp [spec_IntervalMeet.j2] at h⟩
 | k + 1 => by
  obtain ⟨ih0, ih1, ih2⟩ := spec_IntervalMeet.mono_l k
  refine ⟨?_, ?_, ?_⟩
  ·
   intro y0 y1 y2 y3 y4
   unfold spec_IntervalMeet.j0
   repeat' first
   | (with_reducible exact ih0 _ _ _ _ _)
   | (with_reducible exact ih1 _ _ _ _ _ _)
   | (with_reducible exact ih2 _ _ _ _ _)
   | (with_reducible exact spec_IntervalValid.mono _ _ _)
   | (with_reducible exact LeO.refl _)
   | (with_reducible exact LeO.none _)
   | (with_reducible refine LeO.ite ?_ ?_)
   | (with_reducible refine LeO.bind ?_ (fun _ => ?_))
   | exact ih0 _ _ _ _ _
   | exact ih1 _ _ _ _ _ _
   | exact ih2 _ _ _ _ _
   | exact spec_IntervalValid.mono _ _ _
   | exact LeO.none _
   | refine LeO.ite ?_ ?_
   | refine LeO.bind ?_ (fun _ => ?_)
  ·
   intro y0 y1 y2 y3 y4 y5
   unfold spec_IntervalMeet.j1
   repeat' first
   | (with_reducible exact ih0 _ _ _ _ _)
   | (with_reducible exact ih1 _ _ _ _ _ _)
   | (with_reducible exact ih2 _ _ _ _ _)
   | (with_reducible exact spec_IntervalValid.mono _ _ _)
   | (with_reducible exact LeO.refl _)
   | (with_reducible exact LeO.none _)
   | (with_reducible refine LeO.ite ?_ ?_)
   | (with_reducible refine LeO.bind ?_ (fun _ => ?_))
   | exact ih0 _ _ _ _ _
   | exact ih1 _ _ _ _ _ _
   | exact ih2 _ _ _ _ _
   | exact spec_IntervalValid.mono _ _ _
   | exact LeO.none _
   | refine LeO.ite ?_ ?_
   | refine LeO.bind ?_ (fun _ => ?_)
  ·
   intro y0 y1 y2 y3 y4
   unfold spec_IntervalMeet.j2
   repeat' first
   | (with_reducible exact ih0 _ _ _ _ _)
   | (with_reducible exact ih1 _ _ _ _ _ _)
   | (with_reducible exact ih2 _ _ _ _ _)
   | (with_reducible exact spec_IntervalValid.mono _ _ _)
   | (with_reducible exact LeO.refl _)
   | (with_reducible exact LeO.none _)
   | (with_reducible refine LeO.ite ?_ ?_)
   | (with_reducible refine LeO.bind ?_ (fun _ => ?_))
   | exact ih0 _ _ _ _ _
   | exact ih1 _ _ _ _ _ _
   | exact ih2 _ _ _ _ _
   | exact spec_IntervalValid.mono _ _ _
   | exact LeO.none _
   | refine LeO.ite ?_ ?_
   | refine LeO.bind ?_ (fun _ => ?_)
theorem spec_IntervalMeet.mono : ∀ a0 a1 a2 a3 k, LeO (spec_IntervalMeet.f k a0 a1 a2 a3) (spec_IntervalMeet.f (k + 1) a0 a1 a2 a3) := by
 intro a0 a1 a2 a3 k
 obtain ⟨ih0, ih1, ih2⟩ := spec_IntervalMeet.mono_l k
 unfold spec_IntervalMeet.f
 repeat' first
   | (with_reducible exact ih0 _ _ _ _ _)
   | (with_reducible exact ih1 _ _ _ _ _ _)
   | (with_reducible exact ih2 _ _ _ _ _)
   | (with_reducible exact spec_IntervalValid.mono _ _ _)
   | (with_reducible exact LeO.refl _)
   | (with_reducible exact LeO.none _)
   | (with_reducible refine LeO.ite ?_ ?_)
   | (with_reducible refine LeO.bind ?_ (fun _ => ?_))
   | exact ih0 _ _ _ _ _
   | exact ih1 _ _ _ _ _ _
   | exact ih2 _ _ _ _ _
   | exact spec_IntervalValid.mono _ _ _
   | exact LeO.none _
   | refine LeO.ite ?_ ?_
   | refine LeO.bind ?_ (fun _ => ?_)
set_option maxHeartbeats 8000000 in
set_option maxRecDepth 100000 in
theorem spec_IntervalMeet.calls (k : Nat) (a0_0 : ByteArray) (a0_1 : ByteArray) (a1_0 : ByteArray) (a1_1 : ByteArray) (r1 : ByteArray) (r2 : ByteArray) (r3 : Bool) (w : World) (h : spec_IntervalMeet.f k a0_0 a0_1 a1_0 a1_1 = some (r1, r2, r3)) :
  Calls Try.prog 103 #[.agg #[.string a0_0, .string a0_1], .agg #[.string a1_0, .string a1_1]] w fun e w' => e = .returned (.tuple #[.agg #[.string r1, .string r2], .bool r3]) ∧ Below w.heap.size w w' := by
 have hu25 := Try.underlying25
 have HB := Aside0.mk (Below.refl w.heap.size w)
 have H : ((spec_IntervalValid.f k a0_0 a0_1).bind fun t202 => (if t202 = true then ((spec_IntervalValid.f k a1_0 a1_1).bind fun t203 => (spec_IntervalMeet.j0 k (!t203) a0_0 a0_1 a1_0 a1_1)) else (spec_IntervalMeet.j0 k true a0_0 a0_1 a1_0 a1_1))) = some (r1, r2, r3) := h
 clear h
 have HC3 := Aside0.mk H
 clear H
 go_enter Try.func103, Try.ntmps103
 go_upto_region 1 with (first | ((with_reducible refine gate_dst (N := 2) rfl ?_); refine box_event ?hg (N := 2) ?hd (cs := #[.string a0_0, .string a0_1]) (t := 25) ?hr ?_; (case hd => rfl); (case hg => rfl); (case hr => first | (go_simp; done) | (go_simp; rfl)); intro gb199 hg w4 hbox hb; have n0_ := Aside0.mk (below_step (bz) hb); have n1_ := Aside0.mk (hbox); have n2_ : Aside0 (w.heap.size ≤ gb199) := bsg hg; have n3_ : Aside0 (w.heap.size ≤ gb199) := bsg hg; clear HB; have HB := n0_; have BK199 := n1_; have GW199 := n2_; have GE199 := n3_; clear n0_ n1_ n2_ n3_; clear hb hbox hg) | ((with_reducible refine gate_dst (N := 3) rfl ?_); refine box_event ?hg (N := 3) ?hd (cs := #[.string a1_0, .string a1_1]) (t := 25) ?hr ?_; (case hd => rfl); (case hg => rfl); (case hr => first | (go_simp; done) | (go_simp; rfl)); intro gb200 hg w5 hbox hb; have n0_ := bkb BK199 hb; have n1_ := Aside0.mk (below_step (bz) hb); have n2_ := Aside0.mk (hbox); have n3_ : Aside0 (w.heap.size ≤ gb200) := bsg hg; have n4_ : Aside0 (w.heap.size ≤ gb200) := bsg hg; have n5_ := nlt hg BK199; have n6_ := ngt hg BK199; clear BK199; clear HB; have BK199 := n0_; have HB := n1_; have BK200 := n2_; have GW200 := n3_; have GE200 := n4_; have NB199_200 := n5_; have NB200_199 := n6_; clear n0_ n1_ n2_ n3_ n4_ n5_ n6_; clear hb hbox hg) | ((with_reducible refine gate_dst (N := 4) rfl ?_); refine box_event ?hg (N := 4) ?hd (cs := #[.string (⟨#[]⟩ : ByteArray), .string (⟨#[]⟩ : ByteArray)]) (t := 25) ?hr ?_; (case hd => rfl); (case hg => rfl); (case hr => first | (go_simp; done) | (go_simp; rfl)); intro gb201 hg w6 hbox hb; have n0_ := bkb BK199 hb; have n1_ := bkb BK200 hb; have n2_ := Aside0.mk (below_step (bz) hb); have n3_ := Aside0.mk (hbox); have n4_ : Aside0 (w.heap.size ≤ gb201) := bsg hg; have n5_ : Aside0 (w.heap.size ≤ gb201) := bsg hg; have n6_ := nlt hg BK199; have n7_ := ngt hg BK199; have n8_ := nlt hg BK200; have n9_ := ngt hg BK200; clear BK199; clear BK200; clear HB; have BK199 := n0_; have BK200 := n1_; have HB := n2_; have BK201 := n3_; have GW201 := n4_; have GE201 := n5_; have NB199_201 := n6_; have NB201_199 := n7_; have NB200_201 := n8_; have NB201_200 := n9_; clear n0_ n1_ n2_ n3_ n4_ n5_ n6_ n7_ n8_ n9_; clear hb hbox hg))
 (try simp only [Act.put, List.setIfInBounds_toArray, List.set_cons_zero, List.set_cons_succ])
 go_cut [14] (fun v14 wc => ∃ (kq : Nat) (x14_2 : Bool), v14 = .bool x14_2 ∧ Aside0 (spec_IntervalMeet.j0 kq x14_2 a0_0 a0_1 a1_0 a1_1 = some (r1, r2, r3)) ∧ Aside0 (kq ≤ k) ∧ Aside0 (wc.heap[gb199]? = some (.cells #[.string a0_0, .string a0_1] 25 (0, 0))) ∧ Aside0 (wc.heap[gb200]? = some (.cells #[.string a1_0, .string a1_1] 25 (0, 0))) ∧ Aside0 (wc.heap[gb201]? = some (.cells #[.string (⟨#[]⟩ : ByteArray), .string (⟨#[]⟩ : ByteArray)] 25 (0, 0))) ∧ Aside0 (Below w.heap.size w wc))
 case first =>
  have H := HC3.out
  clear HC3
  replace H := Option.bind_eq_some_iff.mp H
  obtain ⟨t202, A70, H⟩ := H
  try dsimp only at H
  have A7 := Aside0.mk A70
  clear A70
  by_cases c8 : t202 = true
  ·
   subst c8
   rw [if_pos rfl] at H
   replace H := Option.bind_eq_some_iff.mp H
   obtain ⟨t203, A90, H⟩ := H
   try dsimp only at H
   have A9 := Aside0.mk A90
   clear A90
   have H' := Aside0.mk H
   clear H
   have hnb10 := NB199_200.out
   have hnc10 := NB200_199.out
   have hnb11 := NB199_201.out
   have hnc11 := NB201_199.out
   have hcz12_0 : w6.cell? ⟨gb199, 0, none⟩ = some (.string a0_0) := (blk_cell BK199.out 0).trans rfl
   have hcz12_1 : w6.cell? ⟨gb199, 1, none⟩ = some (.string a0_1) := (blk_cell BK199.out 1).trans rfl
   have hfz12_0 := blk_frozen BK199.out 0
   have hfz12_1 := blk_frozen BK199.out 1
   go_wp2_with (first | ((with_reducible refine gate_callee (f := 90) rfl ?_); refine goesL_ (some 8) rfl rfl Try.func90 (by kernel_rfl) rfl #[.agg #[.string a0_0, .string a0_1]] rfl (by (try simp only [List.map_toArray, List.map_cons, List.map_nil]); first | done | rfl | (simp only [List.length_drop, List.length_take]; rfl)) ?_; (with_reducible refine (spec_IntervalValid.calls k a0_0 a0_1 true _ A7.out).mono ?_); rintro e w13 ⟨rfl, hb⟩; refine ⟨_, rfl, ?_⟩; have n0_ := bkb BK199 hb; have n1_ := bkb BK200 hb; have n2_ := bkb BK201 hb; have n3_ := Aside0.mk (below_step (bz) hb); clear BK199; clear BK200; clear BK201; clear HB; have BK199 := n0_; have BK200 := n1_; have BK201 := n2_; have HB := n3_; clear n0_ n1_ n2_ n3_; (try clear hb); (try clear hb2); (try clear hk); (try clear hi); have hnb14 := NB200_201.out; have hnc14 := NB201_200.out; have hcz15_0 : w13.cell? ⟨gb200, 0, none⟩ = some (.string a1_0) := (blk_cell BK200.out 0).trans rfl; have hcz15_1 : w13.cell? ⟨gb200, 1, none⟩ = some (.string a1_1) := (blk_cell BK200.out 1).trans rfl; have hfz15_0 := blk_frozen BK200.out 0; have hfz15_1 := blk_frozen BK200.out 1) | (go_at_call 90; (with_reducible refine (spec_IntervalValid.calls k a1_0 a1_1 t203 _ A9.out).mono ?_); rintro e w16 ⟨rfl, hb⟩; have n0_ := bkb BK199 hb; have n1_ := bkb BK200 hb; have n2_ := bkb BK201 hb; have n3_ := Aside0.mk (below_step (bz) hb); clear BK199; clear BK200; clear BK201; clear HB; have BK199 := n0_; have BK200 := n1_; have BK201 := n2_; have HB := n3_; clear n0_ n1_ n2_ n3_; (try clear hb); (try clear hb2); (try clear hk); (try clear hi)))
   go_meet
   case rel => exact ⟨_, (!t203), (by first | rfl | (simp; done) | exact congrArg Value.bool (ne_nil_b _) | exact congrArg Value.bool (eq_nil_b _) | (simp [*]; done)), H', ⟨by first | omega | exact Nat.le_refl _⟩, ⟨by (with_reducible repeat (first | refine blk_drewN ?_ _ | refine blk_drew ?_ | refine blk_alloc ?_ _)); exact BK199.out⟩, ⟨by (with_reducible repeat (first | refine blk_drewN ?_ _ | refine blk_drew ?_ | refine blk_alloc ?_ _)); exact BK200.out⟩, ⟨by (with_reducible repeat (first | refine blk_drewN ?_ _ | refine blk_drew ?_ | refine blk_alloc ?_ _)); exact BK201.out⟩, ⟨bz⟩⟩
  ·
   replace c8 := Bool.eq_false_iff.mpr c8
   subst c8
   rw [if_neg (show ¬ (false = true) by decide)] at H
   have H' := Aside0.mk H
   clear H
   have hnb17 := NB199_200.out
   have hnc17 := NB200_199.out
   have hnb18 := NB199_201.out
   have hnc18 := NB201_199.out
   have hcz19_0 : w6.cell? ⟨gb199, 0, none⟩ = some (.string a0_0) := (blk_cell BK199.out 0).trans rfl
   have hcz19_1 : w6.cell? ⟨gb199, 1, none⟩ = some (.string a0_1) := (blk_cell BK199.out 1).trans rfl
   have hfz19_0 := blk_frozen BK199.out 0
   have hfz19_1 := blk_frozen BK199.out 1
   go_wp2_with (first | ((with_reducible refine gate_callee (f := 90) rfl ?_); refine goesL_ (some 8) rfl rfl Try.func90 (by kernel_rfl) rfl #[.agg #[.string a0_0, .string a0_1]] rfl (by (try simp only [List.map_toArray, List.map_cons, List.map_nil]); first | done | rfl | (simp only [List.length_drop, List.length_take]; rfl)) ?_; (with_reducible refine (spec_IntervalValid.calls k a0_0 a0_1 false _ A7.out).mono ?_); rintro e w20 ⟨rfl, hb⟩; refine ⟨_, rfl, ?_⟩; have n0_ := bkb BK199 hb; have n1_ := bkb BK200 hb; have n2_ := bkb BK201 hb; have n3_ := Aside0.mk (below_step (bz) hb); clear BK199; clear BK200; clear BK201; clear HB; have BK199 := n0_; have BK200 := n1_; have BK201 := n2_; have HB := n3_; clear n0_ n1_ n2_ n3_; (try clear hb); (try clear hb2); (try clear hk); (try clear hi)))
   go_meet
   case rel => exact ⟨_, (true), (by first | rfl | (simp; done) | exact congrArg Value.bool (ne_nil_b _) | exact congrArg Value.bool (eq_nil_b _) | (simp [*]; done)), H', ⟨by first | omega | exact Nat.le_refl _⟩, ⟨by (with_reducible repeat (first | refine blk_drewN ?_ _ | refine blk_drew ?_ | refine blk_alloc ?_ _)); exact BK199.out⟩, ⟨by (with_reducible repeat (first | refine blk_drewN ?_ _ | refine blk_drew ?_ | refine blk_alloc ?_ _)); exact BK200.out⟩, ⟨by (with_reducible repeat (first | refine blk_drewN ?_ _ | refine blk_drew ?_ | refine blk_alloc ?_ _)); exact BK201.out⟩, ⟨bz⟩⟩
 case rest =>
  clear HC3
  try clear c1
  try clear p2
  try clear c8
  try clear c9
  try clear c10
  try clear c11
  try clear c14
  try clear c17
  try clear c18
  try clear hcz12_0
  try clear hcz12_1
  try clear hcz15_0
  try clear hcz15_1
  try clear hcz19_0
  try clear hcz19_1
  try clear hfz12_0
  try clear hfz12_1
  try clear hfz15_0
  try clear hfz15_1
  try clear hfz19_0
  try clear hfz19_1
  obtain ⟨kq, x14_2, rfl, HA, HJ2, BK199, BK200, BK201, HB⟩ := hcut
  cases kq with
  | zero => exact absurd HA.out (by simp [spec_IntervalMeet.j0])
  | succ kj2 =>
   have H := HA.out
   clear HA
   simp only [spec_IntervalMeet.j0] at H
   by_cases c21 : x14_2 = true
   ·
    subst c21
    rw [if_pos rfl] at H
    simp only [Option.some.injEq, Prod.mk.injEq] at H
    obtain ⟨rfl, rfl, rfl⟩ := H
    have hnb22 := NB201_199.out
    have hnc22 := NB199_201.out
    have hnb23 := NB201_200.out
    have hnc23 := NB200_201.out
    have hcz24_0 : wc.cell? ⟨gb201, 0, none⟩ = some (.string (⟨#[]⟩ : ByteArray)) := (blk_cell BK201.out 0).trans rfl
    have hcz24_1 : wc.cell? ⟨gb201, 1, none⟩ = some (.string (⟨#[]⟩ : ByteArray)) := (blk_cell BK201.out 1).trans rfl
    have hfz24_0 := blk_frozen BK201.out 0
    have hfz24_1 := blk_frozen BK201.out 1
    go_wp2
    refine bodyPost_ret (results_ct rfl _ _ gb201 25 #[.string (⟨#[]⟩ : ByteArray), .string (⟨#[]⟩ : ByteArray)] (0, 0) _ rfl (by (with_reducible repeat (first | refine blk_drewN ?_ _ | refine blk_drew ?_ | refine blk_alloc ?_ _)); refine blk_put (cs := #[.string (⟨#[]⟩ : ByteArray), .string (⟨#[]⟩ : ByteArray)]) ?_ 1 _ rfl; (with_reducible repeat (first | refine blk_drewN ?_ _ | refine blk_drew ?_ | refine blk_alloc ?_ _)); refine blk_put (cs := #[.string (⟨#[]⟩ : ByteArray), .string (⟨#[]⟩ : ByteArray)]) ?_ 0 _ rfl; (with_reducible repeat (first | refine blk_drewN ?_ _ | refine blk_drew ?_ | refine blk_alloc ?_ _)); exact BK201.out) Try.underlying25 rfl (by kernel_rfl)) rfl ?_
    exact ⟨by first | rfl | (simp only [u8w, w64m]; rfl) | (simp [errW_none, errW_some] <;> rfl) | (simp [*, errW_none, errW_some] <;> rfl), bz⟩
   ·
    replace c21 := Bool.eq_false_iff.mpr c21
    subst c21
    rw [if_neg (show ¬ (false = true) by decide)] at H
    have HC25 := Aside0.mk H
    clear H
    have hnb26 := NB199_200.out
    have hnc26 := NB200_199.out
    have hnb27 := NB199_201.out
    have hnc27 := NB201_199.out
    have hcz28_0 : wc.cell? ⟨gb199, 0, none⟩ = some (.string a0_0) := (blk_cell BK199.out 0).trans rfl
    have hcz28_1 : wc.cell? ⟨gb199, 1, none⟩ = some (.string a0_1) := (blk_cell BK199.out 1).trans rfl
    have hfz28_0 := blk_frozen BK199.out 0
    have hfz28_1 := blk_frozen BK199.out 1
    go_upto_if 21 with (first | ((with_reducible refine gate_dst (N := 6) rfl ?_); refine box_event ?hg (N := 6) ?hd (cs := #[.string (⟨#[]⟩ : ByteArray), .string (⟨#[]⟩ : ByteArray)]) (t := 25) ?hr ?_; (case hd => rfl); (case hg => rfl); (case hr => first | (go_simp; done) | (go_simp; rfl)); intro gb204 hg w29 hbox hb; have n0_ := bkb BK199 hb; have n1_ := bkb BK200 hb; have n2_ := bkb BK201 hb; have n3_ := Aside0.mk (below_step (bz) hb); have n4_ := Aside0.mk (hbox); have n5_ : Aside0 (w.heap.size ≤ gb204) := bsg hg; have n6_ : Aside0 (w.heap.size ≤ gb204) := bsg hg; have n7_ := nlt hg BK199; have n8_ := ngt hg BK199; have n9_ := nlt hg BK200; have n10_ := ngt hg BK200; have n11_ := nlt hg BK201; have n12_ := ngt hg BK201; clear BK199; clear BK200; clear BK201; clear HB; have BK199 := n0_; have BK200 := n1_; have BK201 := n2_; have HB := n3_; have BK204 := n4_; have GW204 := n5_; have GE204 := n6_; have NB199_204 := n7_; have NB204_199 := n8_; have NB200_204 := n9_; have NB204_200 := n10_; have NB201_204 := n11_; have NB204_201 := n12_; clear n0_ n1_ n2_ n3_ n4_ n5_ n6_ n7_ n8_ n9_ n10_ n11_ n12_; clear hb hbox hg; have hnb30 := NB204_199.out; have hnc30 := NB199_204.out; have hnb31 := NB204_200.out; have hnc31 := NB200_204.out; have hnb32 := NB204_201.out; have hnc32 := NB201_204.out; have hcz33_0 : w29.cell? ⟨gb204, 0, none⟩ = some (.string (⟨#[]⟩ : ByteArray)) := (blk_cell BK204.out 0).trans rfl; have hcz33_1 : w29.cell? ⟨gb204, 1, none⟩ = some (.string (⟨#[]⟩ : ByteArray)) := (blk_cell BK204.out 1).trans rfl; have hfz33_0 := blk_frozen BK204.out 0; have hfz33_1 := blk_frozen BK204.out 1; have hnb34 := NB200_201.out; have hnc34 := NB201_200.out; have hcz35_0 : w29.cell? ⟨gb200, 0, none⟩ = some (.string a1_0) := (blk_cell BK200.out 0).trans rfl; have hcz35_1 : w29.cell? ⟨gb200, 1, none⟩ = some (.string a1_1) := (blk_cell BK200.out 1).trans rfl; have hfz35_0 := blk_frozen BK200.out 0; have hfz35_1 := blk_frozen BK200.out 1; have hcz36_0 : w29.cell? ⟨gb199, 0, none⟩ = some (.string a0_0) := (blk_cell BK199.out 0).trans rfl; have hcz36_1 : w29.cell? ⟨gb199, 1, none⟩ = some (.string a0_1) := (blk_cell BK199.out 1).trans rfl; have hfz36_0 := blk_frozen BK199.out 0; have hfz36_1 := blk_frozen BK199.out 1))
    (try simp only [Act.put, List.setIfInBounds_toArray, List.set_cons_zero, List.set_cons_succ])
    go_cut [] (fun wc => ∃ (kq : Nat) (x205000_24 : ByteArray), Aside0 (spec_IntervalMeet.j1 kq a0_0 a0_1 a1_0 a1_1 x205000_24 a0_1 = some (r1, r2, r3)) ∧ Aside0 (kq ≤ kj2) ∧ Aside0 (wc.heap[gb199]? = some (.cells #[.string a0_0, .string a0_1] 25 (0, 0))) ∧ Aside0 (wc.heap[gb200]? = some (.cells #[.string a1_0, .string a1_1] 25 (0, 0))) ∧ Aside0 (wc.heap[gb201]? = some (.cells #[.string (⟨#[]⟩ : ByteArray), .string (⟨#[]⟩ : ByteArray)] 25 (0, 0))) ∧ Aside0 (wc.heap[gb204]? = some (.cells #[.string x205000_24, .string a0_1] 25 (0, 0))) ∧ Aside0 (Below w.heap.size w wc))
    case first =>
     have H := HC25.out
     clear HC25
     by_cases c37 : (Op.bytesLess a0_0.toList a1_0.toList) = true
     ·
      rw [if_pos c37] at H
      have c37b0 : (Op.bytesLess a0_0.toList a1_0.toList) = true := c37
      clear c37
      (first | rw [c37b0] | (simp only [i64_w, i32_w]; rw [c37b0]) | skip)
      have H' := Aside0.mk H
      clear H
      have hnb38 := NB200_199.out
      have hnc38 := NB199_200.out
      have hnb39 := NB200_201.out
      have hnc39 := NB201_200.out
      have hnb40 := NB200_204.out
      have hnc40 := NB204_200.out
      have hcz41_0 : w29.cell? ⟨gb200, 0, none⟩ = some (.string a1_0) := (blk_cell BK200.out 0).trans rfl
      have hcz41_1 : w29.cell? ⟨gb200, 1, none⟩ = some (.string a1_1) := (blk_cell BK200.out 1).trans rfl
      have hfz41_0 := blk_frozen BK200.out 0
      have hfz41_1 := blk_frozen BK200.out 1
      have hnb42 := NB204_199.out
      have hnc42 := NB199_204.out
      have hnb43 := NB204_201.out
      have hnc43 := NB201_204.out
      have hcz44_0 : w29.cell? ⟨gb204, 0, none⟩ = some (.string (⟨#[]⟩ : ByteArray)) := (blk_cell BK204.out 0).trans rfl
      have hcz44_1 : w29.cell? ⟨gb204, 1, none⟩ = some (.string (⟨#[]⟩ : ByteArray)) := (blk_cell BK204.out 1).trans rfl
      have hfz44_0 := blk_frozen BK204.out 0
      have hfz44_1 := blk_frozen BK204.out 1
      go_wp2
      go_meet
      case rel => exact ⟨_, (a1_0), H', ⟨by have := HJ2.out; first | omega | exact Nat.le_refl _⟩, ⟨by (with_reducible repeat (first | refine blk_drewN ?_ _ | refine blk_drew ?_ | refine blk_alloc ?_ _)); refine blk_far ?_ NB199_204.out _; (with_reducible repeat (first | refine blk_drewN ?_ _ | refine blk_drew ?_ | refine blk_alloc ?_ _)); refine blk_far ?_ NB199_204.out _; (with_reducible repeat (first | refine blk_drewN ?_ _ | refine blk_drew ?_ | refine blk_alloc ?_ _)); refine blk_far ?_ NB199_204.out _; (with_reducible repeat (first | refine blk_drewN ?_ _ | refine blk_drew ?_ | refine blk_alloc ?_ _)); exact BK199.out⟩, ⟨by (with_reducible repeat (first | refine blk_drewN ?_ _ | refine blk_drew ?_ | refine blk_alloc ?_ _)); refine blk_far ?_ NB200_204.out _; (with_reducible repeat (first | refine blk_drewN ?_ _ | refine blk_drew ?_ | refine blk_alloc ?_ _)); refine blk_far ?_ NB200_204.out _; (with_reducible repeat (first | refine blk_drewN ?_ _ | refine blk_drew ?_ | refine blk_alloc ?_ _)); refine blk_far ?_ NB200_204.out _; (with_reducible repeat (first | refine blk_drewN ?_ _ | refine blk_drew ?_ | refine blk_alloc ?_ _)); exact BK200.out⟩, ⟨by (with_reducible repeat (first | refine blk_drewN ?_ _ | refine blk_drew ?_ | refine blk_alloc ?_ _)); refine blk_far ?_ NB201_204.out _; (with_reducible repeat (first | refine blk_drewN ?_ _ | refine blk_drew ?_ | refine blk_alloc ?_ _)); refine blk_far ?_ NB201_204.out _; (with_reducible repeat (first | refine blk_drewN ?_ _ | refine blk_drew ?_ | refine blk_alloc ?_ _)); refine blk_far ?_ NB201_204.out _; (with_reducible repeat (first | refine blk_drewN ?_ _ | refine blk_drew ?_ | refine blk_alloc ?_ _)); exact BK201.out⟩, ⟨by (with_reducible repeat (first | refine blk_drewN ?_ _ | refine blk_drew ?_ | refine blk_alloc ?_ _)); refine blk_put (cs := #[.string a0_0, .string a0_1]) ?_ 0 _ rfl; (with_reducible repeat (first | refine blk_drewN ?_ _ | refine blk_drew ?_ | refine blk_alloc ?_ _)); refine blk_put (cs := #[.string a0_0, .string (⟨#[]⟩ : ByteArray)]) ?_ 1 _ rfl; (with_reducible repeat (first | refine blk_drewN ?_ _ | refine blk_drew ?_ | refine blk_alloc ?_ _)); refine blk_put (cs := #[.string (⟨#[]⟩ : ByteArray), .string (⟨#[]⟩ : ByteArray)]) ?_ 0 _ rfl; (with_reducible repeat (first | refine blk_drewN ?_ _ | refine blk_drew ?_ | refine blk_alloc ?_ _)); exact BK204.out⟩, ⟨bz⟩⟩
     ·
      rw [if_neg c37] at H
      have c37b0 : (Op.bytesLess a0_0.toList a1_0.toList) = false := by simpa using c37
      clear c37
      (first | rw [c37b0] | (simp only [i64_w, i32_w]; rw [c37b0]) | skip)
      have H' := Aside0.mk H
      clear H
      go_wp2
      go_meet
      case rel => exact ⟨_, (a0_0), H', ⟨by have := HJ2.out; first | omega | exact Nat.le_refl _⟩, ⟨by (with_reducible repeat (first | refine blk_drewN ?_ _ | refine blk_drew ?_ | refine blk_alloc ?_ _)); refine blk_far ?_ NB199_204.out _; (with_reducible repeat (first | refine blk_drewN ?_ _ | refine blk_drew ?_ | refine blk_alloc ?_ _)); refine blk_far ?_ NB199_204.out _; (with_reducible repeat (first | refine blk_drewN ?_ _ | refine blk_drew ?_ | refine blk_alloc ?_ _)); exact BK199.out⟩, ⟨by (with_reducible repeat (first | refine blk_drewN ?_ _ | refine blk_drew ?_ | refine blk_alloc ?_ _)); refine blk_far ?_ NB200_204.out _; (with_reducible repeat (first | refine blk_drewN ?_ _ | refine blk_drew ?_ | refine blk_alloc ?_ _)); refine blk_far ?_ NB200_204.out _; (with_reducible repeat (first | refine blk_drewN ?_ _ | refine blk_drew ?_ | refine blk_alloc ?_ _)); exact BK200.out⟩, ⟨by (with_reducible repeat (first | refine blk_drewN ?_ _ | refine blk_drew ?_ | refine blk_alloc ?_ _)); refine blk_far ?_ NB201_204.out _; (with_reducible repeat (first | refine blk_drewN ?_ _ | refine blk_drew ?_ | refine blk_alloc ?_ _)); refine blk_far ?_ NB201_204.out _; (with_reducible repeat (first | refine blk_drewN ?_ _ | refine blk_drew ?_ | refine blk_alloc ?_ _)); exact BK201.out⟩, ⟨by (with_reducible repeat (first | refine blk_drewN ?_ _ | refine blk_drew ?_ | refine blk_alloc ?_ _)); refine blk_put (cs := #[.string a0_0, .string (⟨#[]⟩ : ByteArray)]) ?_ 1 _ rfl; (with_reducible repeat (first | refine blk_drewN ?_ _ | refine blk_drew ?_ | refine blk_alloc ?_ _)); refine blk_put (cs := #[.string (⟨#[]⟩ : ByteArray), .string (⟨#[]⟩ : ByteArray)]) ?_ 0 _ rfl; (with_reducible repeat (first | refine blk_drewN ?_ _ | refine blk_drew ?_ | refine blk_alloc ?_ _)); exact BK204.out⟩, ⟨bz⟩⟩
    case rest =>
     clear HC25
     try clear c1
     try clear c2
     try clear p2
     try clear c3
     try clear c4
     try clear c8
     try clear c9
     try clear c10
     try clear c11
     try clear c14
     try clear c17
     try clear c18
     try clear c21
     try clear c22
     try clear c23
     try clear c26
     try clear c27
     try clear c30
     try clear c31
     try clear c32
     try clear c34
     try clear c37
     try clear c37b0
     try clear c38
     try clear c39
     try clear c40
     try clear c42
     try clear c43
     try clear hcz12_0
     try clear hcz12_1
     try clear hcz15_0
     try clear hcz15_1
     try clear hcz19_0
     try clear hcz19_1
     try clear hcz24_0
     try clear hcz24_1
     try clear hcz28_0
     try clear hcz28_1
     try clear hcz33_0
     try clear hcz33_1
     try clear hcz35_0
     try clear hcz35_1
     try clear hcz36_0
     try clear hcz36_1
     try clear hcz41_0
     try clear hcz41_1
     try clear hcz44_0
     try clear hcz44_1
     try clear hfz12_0
     try clear hfz12_1
     try clear hfz15_0
     try clear hfz15_1
     try clear hfz19_0
     try clear hfz19_1
     try clear hfz24_0
     try clear hfz24_1
     try clear hfz28_0
     try clear hfz28_1
     try clear hfz33_0
     try clear hfz33_1
     try clear hfz35_0
     try clear hfz35_1
     try clear hfz36_0
     try clear hfz36_1
     try clear hfz41_0
     try clear hfz41_1
     try clear hfz44_0
     try clear hfz44_1
     try clear p2
     obtain ⟨kq, x205000_24, HA, HJ24, BK199, BK200, BK201, BK204, HB⟩ := hcut
     cases kq with
     | zero => exact absurd HA.out (by simp [spec_IntervalMeet.j1])
     | succ kj24 =>
      have H := HA.out
      clear HA
      simp only [spec_IntervalMeet.j1] at H
      have HC45 := Aside0.mk H
      clear H
      go_upto_region 6 with (fail)
      go_cut [39] (fun v39 wc => ∃ (kq : Nat) (x39_44 : Bool), v39 = .bool x39_44 ∧ Aside0 (spec_IntervalMeet.j2 kq x39_44 a1_0 a1_1 x205000_24 a0_1 = some (r1, r2, r3)) ∧ Aside0 (kq ≤ kj24) ∧ Aside0 (wc.heap[gb199]? = some (.cells #[.string a0_0, .string a0_1] 25 (0, 0))) ∧ Aside0 (wc.heap[gb200]? = some (.cells #[.string a1_0, .string a1_1] 25 (0, 0))) ∧ Aside0 (wc.heap[gb201]? = some (.cells #[.string (⟨#[]⟩ : ByteArray), .string (⟨#[]⟩ : ByteArray)] 25 (0, 0))) ∧ Aside0 (wc.heap[gb204]? = some (.cells #[.string x205000_24, .string a0_1] 25 (0, 0))) ∧ Aside0 (Below w.heap.size w wc))
      case first =>
       have H := HC45.out
       clear HC45
       by_cases c46 : a1_1.toList = ([] : List UInt8)
       ·
        rw [if_pos c46] at H
        have c46b0 : (a1_1.toList == ([] : List UInt8)) = true := beq_iff_eq.mpr c46
        have c46b1 : (a1_1.toList != ([] : List UInt8)) = false := bne_eq_false_iff_eq.mpr c46
        clear c46
        (first | rw [c46b0] | (simp only [i64_w, i32_w]; rw [c46b0]) | skip)
        have H' := Aside0.mk H
        clear H
        have hnb47 := NB200_199.out
        have hnc47 := NB199_200.out
        have hnb48 := NB200_201.out
        have hnc48 := NB201_200.out
        have hnb49 := NB200_204.out
        have hnc49 := NB204_200.out
        have hcz50_0 : wc.cell? ⟨gb200, 0, none⟩ = some (.string a1_0) := (blk_cell BK200.out 0).trans rfl
        have hcz50_1 : wc.cell? ⟨gb200, 1, none⟩ = some (.string a1_1) := (blk_cell BK200.out 1).trans rfl
        have hfz50_0 := blk_frozen BK200.out 0
        have hfz50_1 := blk_frozen BK200.out 1
        go_wp2
        go_meet
        case rel => exact ⟨_, (false), (by first | rfl | (simp; done) | exact congrArg Value.bool (ne_nil_b _) | exact congrArg Value.bool (eq_nil_b _) | (simp [*]; done)), H', ⟨by have := HJ2.out; have := HJ24.out; first | omega | exact Nat.le_refl _⟩, ⟨by (with_reducible repeat (first | refine blk_drewN ?_ _ | refine blk_drew ?_ | refine blk_alloc ?_ _)); exact BK199.out⟩, ⟨by (with_reducible repeat (first | refine blk_drewN ?_ _ | refine blk_drew ?_ | refine blk_alloc ?_ _)); exact BK200.out⟩, ⟨by (with_reducible repeat (first | refine blk_drewN ?_ _ | refine blk_drew ?_ | refine blk_alloc ?_ _)); exact BK201.out⟩, ⟨by (with_reducible repeat (first | refine blk_drewN ?_ _ | refine blk_drew ?_ | refine blk_alloc ?_ _)); exact BK204.out⟩, ⟨bz⟩⟩
       ·
        rw [if_neg c46] at H
        have c46b0 : (a1_1.toList == ([] : List UInt8)) = false := beq_eq_false_iff_ne.mpr c46
        have c46b1 : (a1_1.toList != ([] : List UInt8)) = true := bne_iff_ne.mpr c46
        (first | rw [c46b0] | (simp only [i64_w, i32_w]; rw [c46b0]) | skip)
        by_cases c51 : a0_1.toList = ([] : List UInt8)
        ·
         rw [if_pos c51] at H
         have c51b0 : (a0_1.toList == ([] : List UInt8)) = true := beq_iff_eq.mpr c51
         have c51b1 : (a0_1.toList != ([] : List UInt8)) = false := bne_eq_false_iff_eq.mpr c51
         clear c51
         have H' := Aside0.mk H
         clear H
         have hnb52 := NB200_199.out
         have hnc52 := NB199_200.out
         have hnb53 := NB200_201.out
         have hnc53 := NB201_200.out
         have hnb54 := NB200_204.out
         have hnc54 := NB204_200.out
         have hcz55_0 : wc.cell? ⟨gb200, 0, none⟩ = some (.string a1_0) := (blk_cell BK200.out 0).trans rfl
         have hcz55_1 : wc.cell? ⟨gb200, 1, none⟩ = some (.string a1_1) := (blk_cell BK200.out 1).trans rfl
         have hfz55_0 := blk_frozen BK200.out 0
         have hfz55_1 := blk_frozen BK200.out 1
         have hnb56 := NB199_201.out
         have hnc56 := NB201_199.out
         have hnb57 := NB199_204.out
         have hnc57 := NB204_199.out
         have hcz58_0 : wc.cell? ⟨gb199, 0, none⟩ = some (.string a0_0) := (blk_cell BK199.out 0).trans rfl
         have hcz58_1 : wc.cell? ⟨gb199, 1, none⟩ = some (.string a0_1) := (blk_cell BK199.out 1).trans rfl
         have hfz58_0 := blk_frozen BK199.out 0
         have hfz58_1 := blk_frozen BK199.out 1
         go_wp2
         go_meet
         case rel => exact ⟨_, (true), (by first | rfl | (simp; done) | exact congrArg Value.bool (ne_nil_b _) | exact congrArg Value.bool (eq_nil_b _) | (simp [*]; done)), H', ⟨by have := HJ2.out; have := HJ24.out; first | omega | exact Nat.le_refl _⟩, ⟨by (with_reducible repeat (first | refine blk_drewN ?_ _ | refine blk_drew ?_ | refine blk_alloc ?_ _)); exact BK199.out⟩, ⟨by (with_reducible repeat (first | refine blk_drewN ?_ _ | refine blk_drew ?_ | refine blk_alloc ?_ _)); exact BK200.out⟩, ⟨by (with_reducible repeat (first | refine blk_drewN ?_ _ | refine blk_drew ?_ | refine blk_alloc ?_ _)); exact BK201.out⟩, ⟨by (with_reducible repeat (first | refine blk_drewN ?_ _ | refine blk_drew ?_ | refine blk_alloc ?_ _)); exact BK204.out⟩, ⟨bz⟩⟩
        ·
         rw [if_neg c51] at H
         have c51b0 : (a0_1.toList == ([] : List UInt8)) = false := beq_eq_false_iff_ne.mpr c51
         have c51b1 : (a0_1.toList != ([] : List UInt8)) = true := bne_iff_ne.mpr c51
         have H' := Aside0.mk H
         clear H
         have hnb59 := NB200_199.out
         have hnc59 := NB199_200.out
         have hnb60 := NB200_201.out
         have hnc60 := NB201_200.out
         have hnb61 := NB200_204.out
         have hnc61 := NB204_200.out
         have hcz62_0 : wc.cell? ⟨gb200, 0, none⟩ = some (.string a1_0) := (blk_cell BK200.out 0).trans rfl
         have hcz62_1 : wc.cell? ⟨gb200, 1, none⟩ = some (.string a1_1) := (blk_cell BK200.out 1).trans rfl
         have hfz62_0 := blk_frozen BK200.out 0
         have hfz62_1 := blk_frozen BK200.out 1
         have hnb63 := NB199_201.out
         have hnc63 := NB201_199.out
         have hnb64 := NB199_204.out
         have hnc64 := NB204_199.out
         have hcz65_0 : wc.cell? ⟨gb199, 0, none⟩ = some (.string a0_0) := (blk_cell BK199.out 0).trans rfl
         have hcz65_1 : wc.cell? ⟨gb199, 1, none⟩ = some (.string a0_1) := (blk_cell BK199.out 1).trans rfl
         have hfz65_0 := blk_frozen BK199.out 0
         have hfz65_1 := blk_frozen BK199.out 1
         go_wp2
         go_meet
         case rel => exact ⟨_, ((Op.bytesLess a1_1.toList a0_1.toList)), (by first | rfl | (simp; done) | exact congrArg Value.bool (ne_nil_b _) | exact congrArg Value.bool (eq_nil_b _) | (simp [*]; done)), H', ⟨by have := HJ2.out; have := HJ24.out; first | omega | exact Nat.le_refl _⟩, ⟨by (with_reducible repeat (first | refine blk_drewN ?_ _ | refine blk_drew ?_ | refine blk_alloc ?_ _)); exact BK199.out⟩, ⟨by (with_reducible repeat (first | refine blk_drewN ?_ _ | refine blk_drew ?_ | refine blk_alloc ?_ _)); exact BK200.out⟩, ⟨by (with_reducible repeat (first | refine blk_drewN ?_ _ | refine blk_drew ?_ | refine blk_alloc ?_ _)); exact BK201.out⟩, ⟨by (with_reducible repeat (first | refine blk_drewN ?_ _ | refine blk_drew ?_ | refine blk_alloc ?_ _)); exact BK204.out⟩, ⟨bz⟩⟩
      case rest =>
       clear HC45
       try clear c1
       try clear c2
       try clear p2
       try clear c3
       try clear c4
       try clear c5
       try clear c6
       try clear c8
       try clear c9
       try clear c10
       try clear c11
       try clear c14
       try clear c17
       try clear c18
       try clear c21
       try clear c22
       try clear c23
       try clear c26
       try clear c27
       try clear c30
       try clear c31
       try clear c32
       try clear c34
       try clear c37
       try clear c37b0
       try clear c38
       try clear c39
       try clear c40
       try clear c42
       try clear c43
       try clear c46
       try clear c46b0
       try clear c46b1
       try clear c47
       try clear c48
       try clear c49
       try clear c51
       try clear c51b0
       try clear c51b1
       try clear c52
       try clear c53
       try clear c54
       try clear c56
       try clear c57
       try clear c59
       try clear c60
       try clear c61
       try clear c63
       try clear c64
       try clear hcz12_0
       try clear hcz12_1
       try clear hcz15_0
       try clear hcz15_1
       try clear hcz19_0
       try clear hcz19_1
       try clear hcz24_0
       try clear hcz24_1
       try clear hcz28_0
       try clear hcz28_1
       try clear hcz33_0
       try clear hcz33_1
       try clear hcz35_0
       try clear hcz35_1
       try clear hcz36_0
       try clear hcz36_1
       try clear hcz41_0
       try clear hcz41_1
       try clear hcz44_0
       try clear hcz44_1
       try clear hcz50_0
       try clear hcz50_1
       try clear hcz55_0
       try clear hcz55_1
       try clear hcz58_0
       try clear hcz58_1
       try clear hcz62_0
       try clear hcz62_1
       try clear hcz65_0
       try clear hcz65_1
       try clear hfz12_0
       try clear hfz12_1
       try clear hfz15_0
       try clear hfz15_1
       try clear hfz19_0
       try clear hfz19_1
       try clear hfz24_0
       try clear hfz24_1
       try clear hfz28_0
       try clear hfz28_1
       try clear hfz33_0
       try clear hfz33_1
       try clear hfz35_0
       try clear hfz35_1
       try clear hfz36_0
       try clear hfz36_1
       try clear hfz41_0
       try clear hfz41_1
       try clear hfz44_0
       try clear hfz44_1
       try clear hfz50_0
       try clear hfz50_1
       try clear hfz55_0
       try clear hfz55_1
       try clear hfz58_0
       try clear hfz58_1
       try clear hfz62_0
       try clear hfz62_1
       try clear hfz65_0
       try clear hfz65_1
       try clear p2
       obtain ⟨kq, x39_44, rfl, HA, HJ44, BK199, BK200, BK201, BK204, HB⟩ := hcut
       cases kq with
       | zero => exact absurd HA.out (by simp [spec_IntervalMeet.j2])
       | succ kj44 =>
        have H := HA.out
        clear HA
        simp only [spec_IntervalMeet.j2] at H
        by_cases c66 : x39_44 = true
        ·
         subst c66
         rw [if_pos rfl] at H
         replace H := Option.bind_eq_some_iff.mp H
         obtain ⟨t205, A670, H⟩ := H
         try dsimp only at H
         have A67 := Aside0.mk A670
         clear A670
         by_cases c68 : t205 = true
         ·
          subst c68
          rw [if_pos rfl] at H
          simp only [Option.some.injEq, Prod.mk.injEq] at H
          obtain ⟨rfl, rfl, rfl⟩ := H
          have hnb69 := NB200_199.out
          have hnc69 := NB199_200.out
          have hnb70 := NB200_201.out
          have hnc70 := NB201_200.out
          have hnb71 := NB200_204.out
          have hnc71 := NB204_200.out
          have hcz72_0 : wc.cell? ⟨gb200, 0, none⟩ = some (.string a1_0) := (blk_cell BK200.out 0).trans rfl
          have hcz72_1 : wc.cell? ⟨gb200, 1, none⟩ = some (.string a1_1) := (blk_cell BK200.out 1).trans rfl
          have hfz72_0 := blk_frozen BK200.out 0
          have hfz72_1 := blk_frozen BK200.out 1
          have hnb73 := NB204_199.out
          have hnc73 := NB199_204.out
          have hnb74 := NB204_201.out
          have hnc74 := NB201_204.out
          have hcz75_0 : wc.cell? ⟨gb204, 0, none⟩ = some (.string x205000_24) := (blk_cell BK204.out 0).trans rfl
          have hcz75_1 : wc.cell? ⟨gb204, 1, none⟩ = some (.string a0_1) := (blk_cell BK204.out 1).trans rfl
          have hfz75_0 := blk_frozen BK204.out 0
          have hfz75_1 := blk_frozen BK204.out 1
          go_wp2_with (first | ((with_reducible refine gate_callee (f := 90) rfl ?_); refine goesL_ (some 44) rfl rfl Try.func90 (by kernel_rfl) rfl #[.agg #[.string x205000_24, .string a1_1]] rfl (by (try simp only [List.map_toArray, List.map_cons, List.map_nil]); first | done | rfl | (simp only [List.length_drop, List.length_take]; rfl)) ?_; (with_reducible refine (spec_IntervalValid.calls kj44 x205000_24 a1_1 true _ A67.out).mono ?_); rintro e w76 ⟨rfl, hb⟩; refine ⟨_, rfl, ?_⟩; have n0_ := Aside0.mk (blk_below (g := gb199) (o := .cells #[.string a0_0, .string a0_1] 25 (0, 0)) (by (with_reducible repeat (first | refine blk_drewN ?_ _ | refine blk_drew ?_ | refine blk_alloc ?_ _)); refine blk_far ?_ NB199_204.out _; (with_reducible repeat (first | refine blk_drewN ?_ _ | refine blk_drew ?_ | refine blk_alloc ?_ _)); exact BK199.out) hb); have n1_ := Aside0.mk (blk_below (g := gb200) (o := .cells #[.string a1_0, .string a1_1] 25 (0, 0)) (by (with_reducible repeat (first | refine blk_drewN ?_ _ | refine blk_drew ?_ | refine blk_alloc ?_ _)); refine blk_far ?_ NB200_204.out _; (with_reducible repeat (first | refine blk_drewN ?_ _ | refine blk_drew ?_ | refine blk_alloc ?_ _)); exact BK200.out) hb); have n2_ := Aside0.mk (blk_below (g := gb201) (o := .cells #[.string (⟨#[]⟩ : ByteArray), .string (⟨#[]⟩ : ByteArray)] 25 (0, 0)) (by (with_reducible repeat (first | refine blk_drewN ?_ _ | refine blk_drew ?_ | refine blk_alloc ?_ _)); refine blk_far ?_ NB201_204.out _; (with_reducible repeat (first | refine blk_drewN ?_ _ | refine blk_drew ?_ | refine blk_alloc ?_ _)); exact BK201.out) hb); have n3_ := Aside0.mk (blk_below (g := gb204) (o := .cells #[.string x205000_24, .string a1_1] 25 (0, 0)) (by (with_reducible repeat (first | refine blk_drewN ?_ _ | refine blk_drew ?_ | refine blk_alloc ?_ _)); refine blk_put (cs := #[.string x205000_24, .string a0_1]) ?_ 1 _ rfl; (with_reducible repeat (first | refine blk_drewN ?_ _ | refine blk_drew ?_ | refine blk_alloc ?_ _)); exact BK204.out) hb); have n4_ := Aside0.mk (below_step (bz) hb); clear BK199; clear BK200; clear BK201; clear BK204; clear HB; have BK199 := n0_; have BK200 := n1_; have BK201 := n2_; have BK204 := n3_; have HB := n4_; clear n0_ n1_ n2_ n3_ n4_; (try clear hb); (try clear hb2); (try clear hk); (try clear hi); have hcz77_0 : w76.cell? ⟨gb204, 0, none⟩ = some (.string x205000_24) := (blk_cell BK204.out 0).trans rfl; have hcz77_1 : w76.cell? ⟨gb204, 1, none⟩ = some (.string a1_1) := (blk_cell BK204.out 1).trans rfl; have hfz77_0 := blk_frozen BK204.out 0; have hfz77_1 := blk_frozen BK204.out 1; have hnb78 := NB201_199.out; have hnc78 := NB199_201.out; have hcz79_0 : w76.cell? ⟨gb201, 0, none⟩ = some (.string (⟨#[]⟩ : ByteArray)) := (blk_cell BK201.out 0).trans rfl; have hcz79_1 : w76.cell? ⟨gb201, 1, none⟩ = some (.string (⟨#[]⟩ : ByteArray)) := (blk_cell BK201.out 1).trans rfl; have hfz79_0 := blk_frozen BK201.out 0; have hfz79_1 := blk_frozen BK201.out 1))
          refine bodyPost_ret (results_ct rfl _ _ gb201 25 #[.string x205000_24, .string a1_1] (0, 0) _ rfl (by (with_reducible repeat (first | refine blk_drewN ?_ _ | refine blk_drew ?_ | refine blk_alloc ?_ _)); refine blk_put (cs := #[.string x205000_24, .string (⟨#[]⟩ : ByteArray)]) ?_ 1 _ rfl; (with_reducible repeat (first | refine blk_drewN ?_ _ | refine blk_drew ?_ | refine blk_alloc ?_ _)); refine blk_put (cs := #[.string (⟨#[]⟩ : ByteArray), .string (⟨#[]⟩ : ByteArray)]) ?_ 0 _ rfl; (with_reducible repeat (first | refine blk_drewN ?_ _ | refine blk_drew ?_ | refine blk_alloc ?_ _)); exact BK201.out) Try.underlying25 rfl (by kernel_rfl)) rfl ?_
          exact ⟨by first | rfl | (simp only [u8w, w64m]; rfl) | (simp [errW_none, errW_some] <;> rfl) | (simp [*, errW_none, errW_some] <;> rfl), bz⟩
         ·
          replace c68 := Bool.eq_false_iff.mpr c68
          subst c68
          rw [if_neg (show ¬ (false = true) by decide)] at H
          simp only [Option.some.injEq, Prod.mk.injEq] at H
          obtain ⟨rfl, rfl, rfl⟩ := H
          have hnb80 := NB200_199.out
          have hnc80 := NB199_200.out
          have hnb81 := NB200_201.out
          have hnc81 := NB201_200.out
          have hnb82 := NB200_204.out
          have hnc82 := NB204_200.out
          have hcz83_0 : wc.cell? ⟨gb200, 0, none⟩ = some (.string a1_0) := (blk_cell BK200.out 0).trans rfl
          have hcz83_1 : wc.cell? ⟨gb200, 1, none⟩ = some (.string a1_1) := (blk_cell BK200.out 1).trans rfl
          have hfz83_0 := blk_frozen BK200.out 0
          have hfz83_1 := blk_frozen BK200.out 1
          have hnb84 := NB204_199.out
          have hnc84 := NB199_204.out
          have hnb85 := NB204_201.out
          have hnc85 := NB201_204.out
          have hcz86_0 : wc.cell? ⟨gb204, 0, none⟩ = some (.string x205000_24) := (blk_cell BK204.out 0).trans rfl
          have hcz86_1 : wc.cell? ⟨gb204, 1, none⟩ = some (.string a0_1) := (blk_cell BK204.out 1).trans rfl
          have hfz86_0 := blk_frozen BK204.out 0
          have hfz86_1 := blk_frozen BK204.out 1
          go_wp2_with (first | ((with_reducible refine gate_callee (f := 90) rfl ?_); refine goesL_ (some 44) rfl rfl Try.func90 (by kernel_rfl) rfl #[.agg #[.string x205000_24, .string a1_1]] rfl (by (try simp only [List.map_toArray, List.map_cons, List.map_nil]); first | done | rfl | (simp only [List.length_drop, List.length_take]; rfl)) ?_; (with_reducible refine (spec_IntervalValid.calls kj44 x205000_24 a1_1 false _ A67.out).mono ?_); rintro e w87 ⟨rfl, hb⟩; refine ⟨_, rfl, ?_⟩; have n0_ := Aside0.mk (blk_below (g := gb199) (o := .cells #[.string a0_0, .string a0_1] 25 (0, 0)) (by (with_reducible repeat (first | refine blk_drewN ?_ _ | refine blk_drew ?_ | refine blk_alloc ?_ _)); refine blk_far ?_ NB199_204.out _; (with_reducible repeat (first | refine blk_drewN ?_ _ | refine blk_drew ?_ | refine blk_alloc ?_ _)); exact BK199.out) hb); have n1_ := Aside0.mk (blk_below (g := gb200) (o := .cells #[.string a1_0, .string a1_1] 25 (0, 0)) (by (with_reducible repeat (first | refine blk_drewN ?_ _ | refine blk_drew ?_ | refine blk_alloc ?_ _)); refine blk_far ?_ NB200_204.out _; (with_reducible repeat (first | refine blk_drewN ?_ _ | refine blk_drew ?_ | refine blk_alloc ?_ _)); exact BK200.out) hb); have n2_ := Aside0.mk (blk_below (g := gb201) (o := .cells #[.string (⟨#[]⟩ : ByteArray), .string (⟨#[]⟩ : ByteArray)] 25 (0, 0)) (by (with_reducible repeat (first | refine blk_drewN ?_ _ | refine blk_drew ?_ | refine blk_alloc ?_ _)); refine blk_far ?_ NB201_204.out _; (with_reducible repeat (first | refine blk_drewN ?_ _ | refine blk_drew ?_ | refine blk_alloc ?_ _)); exact BK201.out) hb); have n3_ := Aside0.mk (blk_below (g := gb204) (o := .cells #[.string x205000_24, .string a1_1] 25 (0, 0)) (by (with_reducible repeat (first | refine blk_drewN ?_ _ | refine blk_drew ?_ | refine blk_alloc ?_ _)); refine blk_put (cs := #[.string x205000_24, .string a0_1]) ?_ 1 _ rfl; (with_reducible repeat (first | refine blk_drewN ?_ _ | refine blk_drew ?_ | refine blk_alloc ?_ _)); exact BK204.out) hb); have n4_ := Aside0.mk (below_step (bz) hb); clear BK199; clear BK200; clear BK201; clear BK204; clear HB; have BK199 := n0_; have BK200 := n1_; have BK201 := n2_; have BK204 := n3_; have HB := n4_; clear n0_ n1_ n2_ n3_ n4_; (try clear hb); (try clear hb2); (try clear hk); (try clear hi); have hnb88 := NB201_199.out; have hnc88 := NB199_201.out; have hcz89_0 : w87.cell? ⟨gb201, 0, none⟩ = some (.string (⟨#[]⟩ : ByteArray)) := (blk_cell BK201.out 0).trans rfl; have hcz89_1 : w87.cell? ⟨gb201, 1, none⟩ = some (.string (⟨#[]⟩ : ByteArray)) := (blk_cell BK201.out 1).trans rfl; have hfz89_0 := blk_frozen BK201.out 0; have hfz89_1 := blk_frozen BK201.out 1))
          refine bodyPost_ret (results_ct rfl _ _ gb201 25 #[.string (⟨#[]⟩ : ByteArray), .string (⟨#[]⟩ : ByteArray)] (0, 0) _ rfl (by (with_reducible repeat (first | refine blk_drewN ?_ _ | refine blk_drew ?_ | refine blk_alloc ?_ _)); refine blk_put (cs := #[.string (⟨#[]⟩ : ByteArray), .string (⟨#[]⟩ : ByteArray)]) ?_ 1 _ rfl; (with_reducible repeat (first | refine blk_drewN ?_ _ | refine blk_drew ?_ | refine blk_alloc ?_ _)); refine blk_put (cs := #[.string (⟨#[]⟩ : ByteArray), .string (⟨#[]⟩ : ByteArray)]) ?_ 0 _ rfl; (with_reducible repeat (first | refine blk_drewN ?_ _ | refine blk_drew ?_ | refine blk_alloc ?_ _)); exact BK201.out) Try.underlying25 rfl (by kernel_rfl)) rfl ?_
          exact ⟨by first | rfl | (simp only [u8w, w64m]; rfl) | (simp [errW_none, errW_some] <;> rfl) | (simp [*, errW_none, errW_some] <;> rfl), bz⟩
        ·
         replace c66 := Bool.eq_false_iff.mpr c66
         subst c66
         rw [if_neg (show ¬ (false = true) by decide)] at H
         replace H := Option.bind_eq_some_iff.mp H
         obtain ⟨t206, A900, H⟩ := H
         try dsimp only at H
         have A90 := Aside0.mk A900
         clear A900
         by_cases c91 : t206 = true
         ·
          subst c91
          rw [if_pos rfl] at H
          simp only [Option.some.injEq, Prod.mk.injEq] at H
          obtain ⟨rfl, rfl, rfl⟩ := H
          have hnb92 := NB204_199.out
          have hnc92 := NB199_204.out
          have hnb93 := NB204_200.out
          have hnc93 := NB200_204.out
          have hnb94 := NB204_201.out
          have hnc94 := NB201_204.out
          have hcz95_0 : wc.cell? ⟨gb204, 0, none⟩ = some (.string x205000_24) := (blk_cell BK204.out 0).trans rfl
          have hcz95_1 : wc.cell? ⟨gb204, 1, none⟩ = some (.string a0_1) := (blk_cell BK204.out 1).trans rfl
          have hfz95_0 := blk_frozen BK204.out 0
          have hfz95_1 := blk_frozen BK204.out 1
          go_wp2_with (first | ((with_reducible refine gate_callee (f := 90) rfl ?_); refine goesL_ (some 44) rfl rfl Try.func90 (by kernel_rfl) rfl #[.agg #[.string x205000_24, .string a0_1]] rfl (by (try simp only [List.map_toArray, List.map_cons, List.map_nil]); first | done | rfl | (simp only [List.length_drop, List.length_take]; rfl)) ?_; (with_reducible refine (spec_IntervalValid.calls kj44 x205000_24 a0_1 true _ A90.out).mono ?_); rintro e w96 ⟨rfl, hb⟩; refine ⟨_, rfl, ?_⟩; have n0_ := bkb BK199 hb; have n1_ := bkb BK200 hb; have n2_ := bkb BK201 hb; have n3_ := bkb BK204 hb; have n4_ := Aside0.mk (below_step (bz) hb); clear BK199; clear BK200; clear BK201; clear BK204; clear HB; have BK199 := n0_; have BK200 := n1_; have BK201 := n2_; have BK204 := n3_; have HB := n4_; clear n0_ n1_ n2_ n3_ n4_; (try clear hb); (try clear hb2); (try clear hk); (try clear hi); have hcz97_0 : w96.cell? ⟨gb204, 0, none⟩ = some (.string x205000_24) := (blk_cell BK204.out 0).trans rfl; have hcz97_1 : w96.cell? ⟨gb204, 1, none⟩ = some (.string a0_1) := (blk_cell BK204.out 1).trans rfl; have hfz97_0 := blk_frozen BK204.out 0; have hfz97_1 := blk_frozen BK204.out 1; have hnb98 := NB201_199.out; have hnc98 := NB199_201.out; have hnb99 := NB201_200.out; have hnc99 := NB200_201.out; have hcz100_0 : w96.cell? ⟨gb201, 0, none⟩ = some (.string (⟨#[]⟩ : ByteArray)) := (blk_cell BK201.out 0).trans rfl; have hcz100_1 : w96.cell? ⟨gb201, 1, none⟩ = some (.string (⟨#[]⟩ : ByteArray)) := (blk_cell BK201.out 1).trans rfl; have hfz100_0 := blk_frozen BK201.out 0; have hfz100_1 := blk_frozen BK201.out 1))
          refine bodyPost_ret (results_ct rfl _ _ gb201 25 #[.string x205000_24, .string a0_1] (0, 0) _ rfl (by (with_reducible repeat (first | refine blk_drewN ?_ _ | refine blk_drew ?_ | refine blk_alloc ?_ _)); refine blk_put (cs := #[.string x205000_24, .string (⟨#[]⟩ : ByteArray)]) ?_ 1 _ rfl; (with_reducible repeat (first | refine blk_drewN ?_ _ | refine blk_drew ?_ | refine blk_alloc ?_ _)); refine blk_put (cs := #[.string (⟨#[]⟩ : ByteArray), .string (⟨#[]⟩ : ByteArray)]) ?_ 0 _ rfl; (with_reducible repeat (first | refine blk_drewN ?_ _ | refine blk_drew ?_ | refine blk_alloc ?_ _)); exact BK201.out) Try.underlying25 rfl (by kernel_rfl)) rfl ?_
          exact ⟨by first | rfl | (simp only [u8w, w64m]; rfl) | (simp [errW_none, errW_some] <;> rfl) | (simp [*, errW_none, errW_some] <;> rfl), bz⟩
         ·
          replace c91 := Bool.eq_false_iff.mpr c91
          subst c91
          rw [if_neg (show ¬ (false = true) by decide)] at H
          simp only [Option.some.injEq, Prod.mk.injEq] at H
          obtain ⟨rfl, rfl, rfl⟩ := H
          have hnb101 := NB204_199.out
          have hnc101 := NB199_204.out
          have hnb102 := NB204_200.out
          have hnc102 := NB200_204.out
          have hnb103 := NB204_201.out
          have hnc103 := NB201_204.out
          have hcz104_0 : wc.cell? ⟨gb204, 0, none⟩ = some (.string x205000_24) := (blk_cell BK204.out 0).trans rfl
          have hcz104_1 : wc.cell? ⟨gb204, 1, none⟩ = some (.string a0_1) := (blk_cell BK204.out 1).trans rfl
          have hfz104_0 := blk_frozen BK204.out 0
          have hfz104_1 := blk_frozen BK204.out 1
          go_wp2_with (first | ((with_reducible refine gate_callee (f := 90) rfl ?_); refine goesL_ (some 44) rfl rfl Try.func90 (by kernel_rfl) rfl #[.agg #[.string x205000_24, .string a0_1]] rfl (by (try simp only [List.map_toArray, List.map_cons, List.map_nil]); first | done | rfl | (simp only [List.length_drop, List.length_take]; rfl)) ?_; (with_reducible refine (spec_IntervalValid.calls kj44 x205000_24 a0_1 false _ A90.out).mono ?_); rintro e w105 ⟨rfl, hb⟩; refine ⟨_, rfl, ?_⟩; have n0_ := bkb BK199 hb; have n1_ := bkb BK200 hb; have n2_ := bkb BK201 hb; have n3_ := bkb BK204 hb; have n4_ := Aside0.mk (below_step (bz) hb); clear BK199; clear BK200; clear BK201; clear BK204; clear HB; have BK199 := n0_; have BK200 := n1_; have BK201 := n2_; have BK204 := n3_; have HB := n4_; clear n0_ n1_ n2_ n3_ n4_; (try clear hb); (try clear hb2); (try clear hk); (try clear hi); have hnb106 := NB201_199.out; have hnc106 := NB199_201.out; have hnb107 := NB201_200.out; have hnc107 := NB200_201.out; have hcz108_0 : w105.cell? ⟨gb201, 0, none⟩ = some (.string (⟨#[]⟩ : ByteArray)) := (blk_cell BK201.out 0).trans rfl; have hcz108_1 : w105.cell? ⟨gb201, 1, none⟩ = some (.string (⟨#[]⟩ : ByteArray)) := (blk_cell BK201.out 1).trans rfl; have hfz108_0 := blk_frozen BK201.out 0; have hfz108_1 := blk_frozen BK201.out 1))
          refine bodyPost_ret (results_ct rfl _ _ gb201 25 #[.string (⟨#[]⟩ : ByteArray), .string (⟨#[]⟩ : ByteArray)] (0, 0) _ rfl (by (with_reducible repeat (first | refine blk_drewN ?_ _ | refine blk_drew ?_ | refine blk_alloc ?_ _)); refine blk_put (cs := #[.string (⟨#[]⟩ : ByteArray), .string (⟨#[]⟩ : ByteArray)]) ?_ 1 _ rfl; (with_reducible repeat (first | refine blk_drewN ?_ _ | refine blk_drew ?_ | refine blk_alloc ?_ _)); refine blk_put (cs := #[.string (⟨#[]⟩ : ByteArray), .string (⟨#[]⟩ : ByteArray)]) ?_ 0 _ rfl; (with_reducible repeat (first | refine blk_drewN ?_ _ | refine blk_drew ?_ | refine blk_alloc ?_ _)); exact BK201.out) Try.underlying25 rfl (by kernel_rfl)) rfl ?_
          exact ⟨by first | rfl | (simp only [u8w, w64m]; rfl) | (simp [errW_none, errW_some] <;> rfl) | (simp [*, errW_none, errW_some] <;> rfl), bz⟩

end Go.Proofs.Ytinnjgogaidhlaa.PFnCacheForget
