/- Go functions as plain Lean functions, and for each a proof that its call comes to what the function says; under the conditions that each theorem names. Written by a program of this session. -/
import Derived.Test.YtkjkokljgbpbbaaPFnMergeRoutesx0
import Derived.Test.YtkjkokljgbpbbaaPFnMergeRoutesx1
import Derived.Test.YtkjkokljgbpbbaaPFnMergeRoutesx2
import Derived.Test.YtkjkokljgbpbbaaPFnMergeRoutesx3
import Derived.Test.YtkjkokljgbpbbaaPFnMergeRoutesx5
import Derived.Test.YtkjkokljgbpbbaaPFnMergeRoutesx10
namespace Go.Proofs.Ytkjkokljgbpbbaa.PFnMergeRoutes
open Go.RowKit Go.Proofs.YtkjkokljgbpbbaaW.PrintWords Go.Proofs.YtkjkokljgbpbbaaW.PrintLast Go.Proofs.YtkjkokljgbpbbaaW.PrintMore
attribute [local go_sem high] str_gtr str_leq str_geq
attribute [local go_sem] max2_int min2_int max_two min_two max_three min_three max_four min_four   -- for this text's walks alone
set_option linter.unusedVariables false
set_option linter.unusedSimpArgs false

attribute [local go_sem high] eqA35
/-! ### laws_sameRoutes: function 33 -/
def laws_sameRoutes.l0 : Nat → List (S35) → List (S35) → Int → Option (Bool)
 | 0, _, _, _ => none
 | k + 1, x0, x1, x5 => if x5 < (x0.length : Int) then (if 0 ≤ x5 then (if x5 < (x1.length : Int) then (if (!(((rd_T35 x0 x5).f0) == ((rd_T35 x1 x5).f0)) || ((!((((rd_T35 x0 x5).f1.f0).toList) == (((rd_T35 x1 x5).f1.f0).toList)) || (!((((rd_T35 x0 x5).f1.f1).toList) == (((rd_T35 x1 x5).f1.f1).toList)))))) = true then (some false) else (laws_sameRoutes.l0 k x0 x1 (wrap64 (x5 + 1)))) else (none)) else (none)) else (some true)
def laws_sameRoutes.f (k : Nat) (l0 : List (S35)) (l1 : List (S35)) : Option (Bool) := if (l0.length : Int) = (l1.length : Int) then (laws_sameRoutes.l0 k l0 l1 0) else (some false)
theorem laws_sameRoutes.mono_l : ∀ k, (∀ y0 y1 y2, LeO (laws_sameRoutes.l0 k y0 y1 y2) (laws_sameRoutes.l0 (k + 1) y0 y1 y2))
 | 0 => fun _ _ _ r h => by simp [laws_sameRoutes.l0] at h
 | k + 1 => by
  have ih0 := laws_sameRoutes.mono_l k
  ·
   intro y0 y1 y2
   unfold laws_sameRoutes.l0
   repeat' first
   | (with_reducible exact ih0 _ _ _)
   | (with_reducible exact LeO.refl _)
   | (with_reducible exact LeO.none _)
   | (with_reducible refine LeO.ite ?_ ?_)
   | (with_reducible refine LeO.bind ?_ (fun _ => ?_))
   | exact ih0 _ _ _
   | exact LeO.none _
   | refine LeO.ite ?_ ?_
   | refine LeO.bind ?_ (fun _ => ?_)
theorem laws_sameRoutes.mono : ∀ a0 a1 k, LeO (laws_sameRoutes.f k a0 a1) (laws_sameRoutes.f (k + 1) a0 a1) := by
 intro a0 a1 k
 have ih0 := laws_sameRoutes.mono_l k
 unfold laws_sameRoutes.f
 repeat' first
   | (with_reducible exact ih0 _ _ _)
   | (with_reducible exact LeO.refl _)
   | (with_reducible exact LeO.none _)
   | (with_reducible refine LeO.ite ?_ ?_)
   | (with_reducible refine LeO.bind ?_ (fun _ => ?_))
   | exact ih0 _ _ _
   | exact LeO.none _
   | refine LeO.ite ?_ ?_
   | refine LeO.bind ?_ (fun _ => ?_)
set_option maxHeartbeats 8000000 in
set_option maxRecDepth 100000 in
theorem laws_sameRoutes.calls (k : Nat) (A0 : Option Addr) (c0 : Nat) (l0 : List (S35)) (A1 : Option Addr) (c1 : Nat) (l1 : List (S35)) (r : Bool) (w : World) (hr0 : Kd.C k35 w A0 l0.length l0) (hc0 : l0.length ≤ c0) (hr1 : Kd.C k35 w A1 l1.length l1) (hc1 : l1.length ≤ c1) (h : laws_sameRoutes.f k l0 l1 = some r) :
  Calls Try.prog 33 #[.slice A0 l0.length c0, .slice A1 l1.length c1] w fun e w' => e = .returned (.bool r) ∧ Drawn0 w w' := by
 have hu35 := Try.underlying35
 have HR0 := Aside0.mk hr0
 have HC0 := Aside0.mk hc0
 clear hr0 hc0
 have HR1 := Aside0.mk hr1
 have HC1 := Aside0.mk hc1
 clear hr1 hc1
 have H : (if (l0.length : Int) = (l1.length : Int) then (laws_sameRoutes.l0 k l0 l1 0) else (some false)) = some r := h
 clear h
 by_cases c3 : (l0.length : Int) = (l1.length : Int)
 ·
  rw [if_pos c3] at H
  have c3b0 : ((l0.length : Int) == (l1.length : Int)) = true := beq_iff_eq.mpr c3
  have c3b1 : ((l0.length : Int) != (l1.length : Int)) = false := bne_eq_false_iff_eq.mpr c3
  have c3b2 : (l0.length == l1.length) = true := by first | simpa using c3 | (simp at c3 ⊢; omega)
  clear c3
  have H' := Aside0.mk H
  clear H
  go_enter Try.func33, Try.ntmps33
  go_wp2
  repeat (go_quiet (fail); try go_wp2)
  go_loopg [5] k (fun kq v5 w' => ∃ (x5_1 : Int), v5 = .int .i64 x5_1 ∧ Aside0 (laws_sameRoutes.l0 kq l0 l1 x5_1 = some r) ∧ Aside0 (kq ≤ k) ∧ Drawn0 w w')
  case atStart => exact ⟨(0), (by first | rfl | (simp; done) | exact congrArg Value.bool (ne_nil_b _) | exact congrArg Value.bool (eq_nil_b _) | (simp [*]; done)), H', ⟨Nat.le_refl _⟩, by repeat (first | exact Drawn0.refl _ | apply Drawn0.step)⟩
  case round =>
   clear H'
   try clear c1
   try clear p2
   try clear c3
   try clear c3b0
   try clear c3b1
   try clear c3b2
   obtain ⟨x5_1, rfl, HA, HK1, ⟨m1, rfl⟩⟩ := hrel
   cases gk with
   | zero => exact absurd HA.out (by simp [laws_sameRoutes.l0])
   | succ k1 =>
    have H := HA.out
    clear HA
    simp only [laws_sameRoutes.l0] at H
    by_cases c4 : x5_1 < (l0.length : Int)
    ·
     rw [if_pos c4] at H
     have c4b0 : decide (x5_1 < (l0.length : Int)) = true := decide_eq_true c4
     clear c4
     by_cases c5 : 0 ≤ x5_1
     ·
      rw [if_pos c5] at H
      have c5b0 : decide (0 ≤ x5_1) = true := decide_eq_true c5
      clear c5
      by_cases c6 : x5_1 < (l1.length : Int)
      ·
       rw [if_pos c6] at H
       have c6b0 : decide (x5_1 < (l1.length : Int)) = true := decide_eq_true c6
       clear c6
       by_cases c7 : (!(((rd_T35 l0 x5_1).f0) == ((rd_T35 l1 x5_1).f0)) || ((!((((rd_T35 l0 x5_1).f1.f0).toList) == (((rd_T35 l1 x5_1).f1.f0).toList)) || (!((((rd_T35 l0 x5_1).f1.f1).toList) == (((rd_T35 l1 x5_1).f1.f1).toList)))))) = true
       ·
        rw [if_pos c7] at H
        have c7b0 : (!(((rd_T35 l0 x5_1).f0) == ((rd_T35 l1 x5_1).f0)) || ((!((((rd_T35 l0 x5_1).f1.f0).toList) == (((rd_T35 l1 x5_1).f1.f0).toList)) || (!((((rd_T35 l0 x5_1).f1.f1).toList) == (((rd_T35 l1 x5_1).f1.f1).toList)))))) = true := c7
        clear c7
        obtain rfl := Option.some.inj H
        have p412 : 0 ≤ (x5_1 : Int) := of_decide_eq_true (by first | (with_reducible assumption) | assumption)
        have q412 : x5_1 < (l0.length : Int) := of_decide_eq_true (by first | (with_reducible assumption) | assumption)
        obtain ⟨ad412, e412, hx412_0, hx412_1, hx412_2⟩ := at_T35 HR0.out x5_1 p412 q412
        cases e412
        replace p412 := eq_true p412
        replace q412 := eq_true q412
        have p413 : 0 ≤ (x5_1 : Int) := of_decide_eq_true (by first | (with_reducible assumption) | assumption)
        have q413 : x5_1 < (l1.length : Int) := of_decide_eq_true (by first | (with_reducible assumption) | assumption)
        obtain ⟨ad413, e413, hx413_0, hx413_1, hx413_2⟩ := at_T35 HR1.out x5_1 p413 q413
        cases e413
        replace p413 := eq_true p413
        replace q413 := eq_true q413
        go_wp2
        repeat (go_quiet (fail); try go_wp2)
        go_ret
        exact ⟨by first | rfl | (simp; done) | exact congrArg Value.bool (ne_nil_b _) | exact congrArg Value.bool (eq_nil_b _) | (simp [*]; done), by repeat (first | exact Drawn0.refl _ | apply Drawn0.step)⟩
       ·
        rw [if_neg c7] at H
        have c7b0 : (!(((rd_T35 l0 x5_1).f0) == ((rd_T35 l1 x5_1).f0)) || ((!((((rd_T35 l0 x5_1).f1.f0).toList) == (((rd_T35 l1 x5_1).f1.f0).toList)) || (!((((rd_T35 l0 x5_1).f1.f1).toList) == (((rd_T35 l1 x5_1).f1.f1).toList)))))) = false := by simpa using c7
        clear c7
        have H' := Aside0.mk H
        clear H
        have p412 : 0 ≤ (x5_1 : Int) := of_decide_eq_true (by first | (with_reducible assumption) | assumption)
        have q412 : x5_1 < (l0.length : Int) := of_decide_eq_true (by first | (with_reducible assumption) | assumption)
        obtain ⟨ad412, e412, hx412_0, hx412_1, hx412_2⟩ := at_T35 HR0.out x5_1 p412 q412
        cases e412
        replace p412 := eq_true p412
        replace q412 := eq_true q412
        have p413 : 0 ≤ (x5_1 : Int) := of_decide_eq_true (by first | (with_reducible assumption) | assumption)
        have q413 : x5_1 < (l1.length : Int) := of_decide_eq_true (by first | (with_reducible assumption) | assumption)
        obtain ⟨ad413, e413, hx413_0, hx413_1, hx413_2⟩ := at_T35 HR1.out x5_1 p413 q413
        cases e413
        replace p413 := eq_true p413
        replace q413 := eq_true q413
        go_wp2
        repeat (go_quiet (fail); try go_wp2)
        go_roundg k1
        case measure => have := HK1.out; omega
        case rel => exact ⟨(wrap64 (x5_1 + 1)), (by first | rfl | (simp; done) | exact congrArg Value.bool (ne_nil_b _) | exact congrArg Value.bool (eq_nil_b _) | (simp [*]; done)), H', ⟨by have := HK1.out; omega⟩, by repeat (first | exact Drawn0.refl _ | apply Drawn0.step)⟩
      ·
       rw [if_neg c6] at H
       exact absurd H (by simp)
     ·
      rw [if_neg c5] at H
      exact absurd H (by simp)
    ·
     rw [if_neg c4] at H
     have c4b0 : decide (x5_1 < (l0.length : Int)) = false := decide_eq_false c4
     clear c4
     obtain rfl := Option.some.inj H
     go_wp2
     repeat (go_quiet (fail); try go_wp2)
     go_ret
     exact ⟨by first | rfl | (simp; done) | exact congrArg Value.bool (ne_nil_b _) | exact congrArg Value.bool (eq_nil_b _) | (simp [*]; done), by repeat (first | exact Drawn0.refl _ | apply Drawn0.step)⟩
 ·
  rw [if_neg c3] at H
  have c3b0 : ((l0.length : Int) == (l1.length : Int)) = false := beq_eq_false_iff_ne.mpr c3
  have c3b1 : ((l0.length : Int) != (l1.length : Int)) = true := bne_iff_ne.mpr c3
  have c3b2 : (l0.length == l1.length) = false := by first | simpa using c3 | (simp at c3 ⊢; omega)
  obtain rfl := Option.some.inj H
  go_enter Try.func33, Try.ntmps33
  go_wp2
  repeat (go_quiet (fail); try go_wp2)
  go_ret
  exact ⟨by first | rfl | (simp; done) | exact congrArg Value.bool (ne_nil_b _) | exact congrArg Value.bool (eq_nil_b _) | (simp [*]; done), by repeat (first | exact Drawn0.refl _ | apply Drawn0.step)⟩

/-! ### impl_IntervalCut: function 99 -/
def impl_IntervalCut.j0 : Nat → ByteArray → Bool → ByteArray → ByteArray → Option (ByteArray × ByteArray × ByteArray × ByteArray × Bool)
 | 0, _, _, _, _ => none
 | k + 1, x1, x16, x415000, x415001 => if x16 = true then (some ((⟨#[]⟩ : ByteArray), (⟨#[]⟩ : ByteArray), (⟨#[]⟩ : ByteArray), (⟨#[]⟩ : ByteArray), false)) else ((impl_IntervalValid.f k x415000 x1).bind fun t421 => (if t421 = true then ((impl_IntervalValid.f k x1 x415001).bind fun t422 => (if t422 = true then (some (x415000, x1, x1, x415001, true)) else (some ((⟨#[]⟩ : ByteArray), (⟨#[]⟩ : ByteArray), (⟨#[]⟩ : ByteArray), (⟨#[]⟩ : ByteArray), false)))) else (some ((⟨#[]⟩ : ByteArray), (⟨#[]⟩ : ByteArray), (⟨#[]⟩ : ByteArray), (⟨#[]⟩ : ByteArray), false))))
def impl_IntervalCut.f (k : Nat) (a0_0 : ByteArray) (a0_1 : ByteArray) (a1 : ByteArray) : Option (ByteArray × ByteArray × ByteArray × ByteArray × Bool) := (impl_IntervalValid.f k a0_0 a0_1).bind fun t417 => (if t417 = true then ((impl_KeyValid.f k a1).bind fun t418 => (impl_IntervalCut.j0 k a1 (!t418) a0_0 a0_1)) else (impl_IntervalCut.j0 k a1 true a0_0 a0_1))
theorem impl_IntervalCut.mono_l : ∀ k, (∀ y0 y1 y2 y3, LeO (impl_IntervalCut.j0 k y0 y1 y2 y3) (impl_IntervalCut.j0 (k + 1) y0 y1 y2 y3))
 | 0 => fun _ _ _ _ r h => by simp [impl_IntervalCut.j0] at h
 | k + 1 => by
  have ih0 := impl_IntervalCut.mono_l k
  ·
   intro y0 y1 y2 y3
   unfold impl_IntervalCut.j0
   repeat' first
   | (with_reducible exact ih0 _ _ _ _)
   | (with_reducible exact impl_IntervalValid.mono _ _ _)
   | (with_reducible exact impl_KeyValid.mono _ _)
   | (with_reducible exact LeO.refl _)
   | (with_reducible exact LeO.none _)
   | (with_reducible refine LeO.ite ?_ ?_)
   | (with_reducible refine LeO.bind ?_ (fun _ => ?_))
   | exact ih0 _ _ _ _
   | exact impl_IntervalValid.mono _ _ _
   | exact impl_KeyValid.mono _ _
   | exact LeO.none _
   | refine LeO.ite ?_ ?_
   | refine LeO.bind ?_ (fun _ => ?_)
theorem impl_IntervalCut.mono : ∀ a0 a1 a2 k, LeO (impl_IntervalCut.f k a0 a1 a2) (impl_IntervalCut.f (k + 1) a0 a1 a2) := by
 intro a0 a1 a2 k
 have ih0 := impl_IntervalCut.mono_l k
 unfold impl_IntervalCut.f
 repeat' first
   | (with_reducible exact ih0 _ _ _ _)
   | (with_reducible exact impl_IntervalValid.mono _ _ _)
   | (with_reducible exact impl_KeyValid.mono _ _)
   | (with_reducible exact LeO.refl _)
   | (with_reducible exact LeO.none _)
   | (with_reducible refine LeO.ite ?_ ?_)
   | (with_reducible refine LeO.bind ?_ (fun _ => ?_))
   | exact ih0 _ _ _ _
   | exact impl_IntervalValid.mono _ _ _
   | exact impl_KeyValid.mono _ _
   | exact LeO.none _
   | refine LeO.ite ?_ ?_
   | refine LeO.bind ?_ (fun _ => ?_)
set_option maxHeartbeats 8000000 in
set_option maxRecDepth 100000 in
theorem impl_IntervalCut.calls (k : Nat) (a0_0 : ByteArray) (a0_1 : ByteArray) (a1 : ByteArray) (r1 : ByteArray) (r2 : ByteArray) (r3 : ByteArray) (r4 : ByteArray) (r5 : Bool) (w : World) (h : impl_IntervalCut.f k a0_0 a0_1 a1 = some (r1, r2, r3, r4, r5)) :
  Calls Try.prog 99 #[.agg #[.string a0_0, .string a0_1], .string a1] w fun e w' => e = .returned (.tuple #[.agg #[.string r1, .string r2], .agg #[.string r3, .string r4], .bool r5]) ∧ Below w.heap.size w w' := by
 have hu31 := Try.underlying31
 have HB := Aside0.mk (Below.refl w.heap.size w)
 have H : ((impl_IntervalValid.f k a0_0 a0_1).bind fun t417 => (if t417 = true then ((impl_KeyValid.f k a1).bind fun t418 => (impl_IntervalCut.j0 k a1 (!t418) a0_0 a0_1)) else (impl_IntervalCut.j0 k a1 true a0_0 a0_1))) = some (r1, r2, r3, r4, r5) := h
 clear h
 have HC3 := Aside0.mk H
 clear H
 go_enter Try.func99, Try.ntmps99
 go_upto_region 1 with (first | ((with_reducible refine gate_dst (N := 2) rfl ?_); refine box_event ?hg (N := 2) ?hd (cs := #[.string a0_0, .string a0_1]) (t := 31) ?hr ?_; (case hd => rfl); (case hg => rfl); (case hr => first | (go_simp; done) | (go_simp; rfl)); intro gb414 hg w4 hbox hb; have n0_ := Aside0.mk (below_step (bz) hb); have n1_ := Aside0.mk (hbox); have n2_ : Aside0 (w.heap.size ≤ gb414) := bsg hg; have n3_ : Aside0 (w.heap.size ≤ gb414) := bsg hg; clear HB; have HB := n0_; have BK414 := n1_; have GW414 := n2_; have GE414 := n3_; clear n0_ n1_ n2_ n3_; clear hb hbox hg) | ((with_reducible refine gate_dst (N := 4) rfl ?_); refine box_event ?hg (N := 4) ?hd (cs := #[.string (⟨#[]⟩ : ByteArray), .string (⟨#[]⟩ : ByteArray)]) (t := 31) ?hr ?_; (case hd => rfl); (case hg => rfl); (case hr => first | (go_simp; done) | (go_simp; rfl)); intro gb415 hg w5 hbox hb; have n0_ := bkb BK414 hb; have n1_ := Aside0.mk (below_step (bz) hb); have n2_ := Aside0.mk (hbox); have n3_ : Aside0 (w.heap.size ≤ gb415) := bsg hg; have n4_ : Aside0 (w.heap.size ≤ gb415) := bsg hg; have n5_ := nlt hg BK414; have n6_ := ngt hg BK414; clear BK414; clear HB; have BK414 := n0_; have HB := n1_; have BK415 := n2_; have GW415 := n3_; have GE415 := n4_; have NB414_415 := n5_; have NB415_414 := n6_; clear n0_ n1_ n2_ n3_ n4_ n5_ n6_; clear hb hbox hg) | ((with_reducible refine gate_dst (N := 5) rfl ?_); refine box_event ?hg (N := 5) ?hd (cs := #[.string (⟨#[]⟩ : ByteArray), .string (⟨#[]⟩ : ByteArray)]) (t := 31) ?hr ?_; (case hd => rfl); (case hg => rfl); (case hr => first | (go_simp; done) | (go_simp; rfl)); intro gb416 hg w6 hbox hb; have n0_ := bkb BK414 hb; have n1_ := bkb BK415 hb; have n2_ := Aside0.mk (below_step (bz) hb); have n3_ := Aside0.mk (hbox); have n4_ : Aside0 (w.heap.size ≤ gb416) := bsg hg; have n5_ : Aside0 (w.heap.size ≤ gb416) := bsg hg; have n6_ := nlt hg BK414; have n7_ := ngt hg BK414; have n8_ := nlt hg BK415; have n9_ := ngt hg BK415; clear BK414; clear BK415; clear HB; have BK414 := n0_; have BK415 := n1_; have HB := n2_; have BK416 := n3_; have GW416 := n4_; have GE416 := n5_; have NB414_416 := n6_; have NB416_414 := n7_; have NB415_416 := n8_; have NB416_415 := n9_; clear n0_ n1_ n2_ n3_ n4_ n5_ n6_ n7_ n8_ n9_; clear hb hbox hg))
 (try simp only [Act.put, List.setIfInBounds_toArray, List.set_cons_zero, List.set_cons_succ])
 go_cut [16] (fun v16 wc => ∃ (kq : Nat) (x16_2 : Bool), v16 = .bool x16_2 ∧ Aside0 (impl_IntervalCut.j0 kq a1 x16_2 a0_0 a0_1 = some (r1, r2, r3, r4, r5)) ∧ Aside0 (kq ≤ k) ∧ Aside0 (wc.heap[gb414]? = some (.cells #[.string a0_0, .string a0_1] 31 (0, 0))) ∧ Aside0 (wc.heap[gb415]? = some (.cells #[.string (⟨#[]⟩ : ByteArray), .string (⟨#[]⟩ : ByteArray)] 31 (0, 0))) ∧ Aside0 (wc.heap[gb416]? = some (.cells #[.string (⟨#[]⟩ : ByteArray), .string (⟨#[]⟩ : ByteArray)] 31 (0, 0))) ∧ Aside0 (Below w.heap.size w wc))
 case first =>
  have H := HC3.out
  clear HC3
  replace H := Option.bind_eq_some_iff.mp H
  obtain ⟨t417, A70, H⟩ := H
  try dsimp only at H
  have A7 := Aside0.mk A70
  clear A70
  by_cases c8 : t417 = true
  ·
   subst c8
   rw [if_pos rfl] at H
   replace H := Option.bind_eq_some_iff.mp H
   obtain ⟨t418, A90, H⟩ := H
   try dsimp only at H
   have A9 := Aside0.mk A90
   clear A90
   have H' := Aside0.mk H
   clear H
   have hnb10 := NB414_415.out
   have hnc10 := NB415_414.out
   have hnb11 := NB414_416.out
   have hnc11 := NB416_414.out
   obtain ⟨hcz12_0, hcz12_1⟩ := cl2 BK414
   obtain ⟨hfz12_0, hfz12_1⟩ := fz2 BK414
   go_wp2_with (first | ((with_reducible refine gate_callee (f := 82) rfl ?_); refine goesL_ (some 10) rfl rfl Try.func82 (by kernel_rfl) rfl #[.agg #[.string a0_0, .string a0_1]] rfl (by (try simp only [List.map_toArray, List.map_cons, List.map_nil]); first | done | rfl | (simp only [List.length_drop, List.length_take]; rfl)) ?_; (with_reducible refine (impl_IntervalValid.calls k a0_0 a0_1 true _ A7.out).mono ?_); rintro e w13 ⟨rfl, hb⟩; refine ⟨_, rfl, ?_⟩; have n0_ := bkb BK414 hb; have n1_ := bkb BK415 hb; have n2_ := bkb BK416 hb; have n3_ := Aside0.mk (below_step (bz) hb); clear BK414; clear BK415; clear BK416; clear HB; have BK414 := n0_; have BK415 := n1_; have BK416 := n2_; have HB := n3_; clear n0_ n1_ n2_ n3_; (try clear hb); (try clear hb2); (try clear hk); (try clear hi)) | (go_at_call 19; (with_reducible refine (impl_KeyValid.calls k a1 t418 _ A9.out).mono ?_); rintro e w' ⟨rfl, ⟨nd, rfl⟩⟩))
   go_meet
   case rel => exact ⟨_, (!t418), (by first | rfl | (simp; done) | exact congrArg Value.bool (ne_nil_b _) | exact congrArg Value.bool (eq_nil_b _) | (simp [*]; done)), H', ⟨by first | omega | exact Nat.le_refl _⟩, ⟨by (with_reducible repeat (first | refine blk_drewN ?_ _ | refine blk_drew ?_ | refine blk_alloc ?_ _)); exact BK414.out⟩, ⟨by (with_reducible repeat (first | refine blk_drewN ?_ _ | refine blk_drew ?_ | refine blk_alloc ?_ _)); exact BK415.out⟩, ⟨by (with_reducible repeat (first | refine blk_drewN ?_ _ | refine blk_drew ?_ | refine blk_alloc ?_ _)); exact BK416.out⟩, ⟨bz⟩⟩
  ·
   replace c8 := Bool.eq_false_iff.mpr c8
   subst c8
   rw [if_neg (show ¬ (false = true) by decide)] at H
   have H' := Aside0.mk H
   clear H
   have hnb14 := NB414_415.out
   have hnc14 := NB415_414.out
   have hnb15 := NB414_416.out
   have hnc15 := NB416_414.out
   obtain ⟨hcz16_0, hcz16_1⟩ := cl2 BK414
   obtain ⟨hfz16_0, hfz16_1⟩ := fz2 BK414
   go_wp2_with (first | ((with_reducible refine gate_callee (f := 82) rfl ?_); refine goesL_ (some 10) rfl rfl Try.func82 (by kernel_rfl) rfl #[.agg #[.string a0_0, .string a0_1]] rfl (by (try simp only [List.map_toArray, List.map_cons, List.map_nil]); first | done | rfl | (simp only [List.length_drop, List.length_take]; rfl)) ?_; (with_reducible refine (impl_IntervalValid.calls k a0_0 a0_1 false _ A7.out).mono ?_); rintro e w17 ⟨rfl, hb⟩; refine ⟨_, rfl, ?_⟩; have n0_ := bkb BK414 hb; have n1_ := bkb BK415 hb; have n2_ := bkb BK416 hb; have n3_ := Aside0.mk (below_step (bz) hb); clear BK414; clear BK415; clear BK416; clear HB; have BK414 := n0_; have BK415 := n1_; have BK416 := n2_; have HB := n3_; clear n0_ n1_ n2_ n3_; (try clear hb); (try clear hb2); (try clear hk); (try clear hi)))
   go_meet
   case rel => exact ⟨_, (true), (by first | rfl | (simp; done) | exact congrArg Value.bool (ne_nil_b _) | exact congrArg Value.bool (eq_nil_b _) | (simp [*]; done)), H', ⟨by first | omega | exact Nat.le_refl _⟩, ⟨by (with_reducible repeat (first | refine blk_drewN ?_ _ | refine blk_drew ?_ | refine blk_alloc ?_ _)); exact BK414.out⟩, ⟨by (with_reducible repeat (first | refine blk_drewN ?_ _ | refine blk_drew ?_ | refine blk_alloc ?_ _)); exact BK415.out⟩, ⟨by (with_reducible repeat (first | refine blk_drewN ?_ _ | refine blk_drew ?_ | refine blk_alloc ?_ _)); exact BK416.out⟩, ⟨bz⟩⟩
 case rest =>
  clear HC3
  try clear c1
  try clear p2
  try clear c8
  try clear c9
  try clear c10
  try clear c11
  try clear c14
  try clear c15
  try clear hcz12_0
  try clear hcz12_1
  try clear hcz16_0
  try clear hcz16_1
  try clear hfz12_0
  try clear hfz12_1
  try clear hfz16_0
  try clear hfz16_1
  obtain ⟨kq, x16_2, rfl, HA, HJ2, BK414, BK415, BK416, HB⟩ := hcut
  cases kq with
  | zero => exact absurd HA.out (by simp [impl_IntervalCut.j0])
  | succ kj2 =>
   have H := HA.out
   clear HA
   simp only [impl_IntervalCut.j0] at H
   by_cases c18 : x16_2 = true
   ·
    subst c18
    rw [if_pos rfl] at H
    simp only [Option.some.injEq, Prod.mk.injEq] at H
    obtain ⟨rfl, rfl, rfl, rfl, rfl⟩ := H
    have hnb19 := NB415_414.out
    have hnc19 := NB414_415.out
    have hnb20 := NB415_416.out
    have hnc20 := NB416_415.out
    obtain ⟨hcz21_0, hcz21_1⟩ := cl2 BK415
    obtain ⟨hfz21_0, hfz21_1⟩ := fz2 BK415
    have hnb22 := NB416_414.out
    have hnc22 := NB414_416.out
    obtain ⟨hcz23_0, hcz23_1⟩ := cl2 BK416
    obtain ⟨hfz23_0, hfz23_1⟩ := fz2 BK416
    go_wp2
    refine bodyPost_ret (results_list (rs := [.cell 4 31, .cell 5 31, .tmp 6]) rfl (by simp) (.cell gb415 31 #[.string (⟨#[]⟩ : ByteArray), .string (⟨#[]⟩ : ByteArray)] (0, 0) _ rfl (by (with_reducible repeat (first | refine blk_drewN ?_ _ | refine blk_drew ?_ | refine blk_alloc ?_ _)); refine blk_far ?_ NB415_416.out _; (with_reducible repeat (first | refine blk_drewN ?_ _ | refine blk_drew ?_ | refine blk_alloc ?_ _)); refine blk_far ?_ NB415_416.out _; (with_reducible repeat (first | refine blk_drewN ?_ _ | refine blk_drew ?_ | refine blk_alloc ?_ _)); refine blk_put (cs := #[.string (⟨#[]⟩ : ByteArray), .string (⟨#[]⟩ : ByteArray)]) ?_ 1 _ rfl; (with_reducible repeat (first | refine blk_drewN ?_ _ | refine blk_drew ?_ | refine blk_alloc ?_ _)); refine blk_put (cs := #[.string (⟨#[]⟩ : ByteArray), .string (⟨#[]⟩ : ByteArray)]) ?_ 0 _ rfl; (with_reducible repeat (first | refine blk_drewN ?_ _ | refine blk_drew ?_ | refine blk_alloc ?_ _)); exact BK415.out) Try.underlying31 rfl (by kernel_rfl) (.cell gb416 31 #[.string (⟨#[]⟩ : ByteArray), .string (⟨#[]⟩ : ByteArray)] (0, 0) _ rfl (by (with_reducible repeat (first | refine blk_drewN ?_ _ | refine blk_drew ?_ | refine blk_alloc ?_ _)); refine blk_put (cs := #[.string (⟨#[]⟩ : ByteArray), .string (⟨#[]⟩ : ByteArray)]) ?_ 1 _ rfl; (with_reducible repeat (first | refine blk_drewN ?_ _ | refine blk_drew ?_ | refine blk_alloc ?_ _)); refine blk_put (cs := #[.string (⟨#[]⟩ : ByteArray), .string (⟨#[]⟩ : ByteArray)]) ?_ 0 _ rfl; (with_reducible repeat (first | refine blk_drewN ?_ _ | refine blk_drew ?_ | refine blk_alloc ?_ _)); refine blk_far ?_ NB416_415.out _; (with_reducible repeat (first | refine blk_drewN ?_ _ | refine blk_drew ?_ | refine blk_alloc ?_ _)); refine blk_far ?_ NB416_415.out _; (with_reducible repeat (first | refine blk_drewN ?_ _ | refine blk_drew ?_ | refine blk_alloc ?_ _)); exact BK416.out) Try.underlying31 rfl (by kernel_rfl) (.tmp .nil)))) rfl ?_
    exact ⟨by first | rfl | (simp only [u8w, w64m]; rfl) | (simp [errW_none, errW_some] <;> rfl) | (simp [*, errW_none, errW_some] <;> rfl), bz⟩
   ·
    replace c18 := Bool.eq_false_iff.mpr c18
    subst c18
    rw [if_neg (show ¬ (false = true) by decide)] at H
    replace H := Option.bind_eq_some_iff.mp H
    obtain ⟨t421, A240, H⟩ := H
    try dsimp only at H
    have A24 := Aside0.mk A240
    clear A240
    by_cases c25 : t421 = true
    ·
     subst c25
     rw [if_pos rfl] at H
     replace H := Option.bind_eq_some_iff.mp H
     obtain ⟨t422, A260, H⟩ := H
     try dsimp only at H
     have A26 := Aside0.mk A260
     clear A260
     by_cases c27 : t422 = true
     ·
      subst c27
      rw [if_pos rfl] at H
      simp only [Option.some.injEq, Prod.mk.injEq] at H
      obtain ⟨rfl, rfl, rfl, rfl, rfl⟩ := H
      have hnb28 := NB414_415.out
      have hnc28 := NB415_414.out
      have hnb29 := NB414_416.out
      have hnc29 := NB416_414.out
      obtain ⟨hcz30_0, hcz30_1⟩ := cl2 BK414
      obtain ⟨hfz30_0, hfz30_1⟩ := fz2 BK414
      try go_wp2_with (first | ((with_reducible refine gate_dst (N := 7) rfl ?_); refine box_event ?hg (N := 7) ?hd (cs := #[.string (⟨#[]⟩ : ByteArray), .string (⟨#[]⟩ : ByteArray)]) (t := 31) ?hr ?_; (case hd => rfl); (case hg => rfl); (case hr => first | (go_simp; done) | (go_simp; rfl)); intro gb419 hg w31 hbox hb; have n0_ := bkb BK414 hb; have n1_ := bkb BK415 hb; have n2_ := bkb BK416 hb; have n3_ := Aside0.mk (below_step (bz) hb); have n4_ := Aside0.mk (hbox); have n5_ : Aside0 (w.heap.size ≤ gb419) := bsg hg; have n6_ : Aside0 (w.heap.size ≤ gb419) := bsg hg; have n7_ := nlt hg BK414; have n8_ := ngt hg BK414; have n9_ := nlt hg BK415; have n10_ := ngt hg BK415; have n11_ := nlt hg BK416; have n12_ := ngt hg BK416; clear BK414; clear BK415; clear BK416; clear HB; have BK414 := n0_; have BK415 := n1_; have BK416 := n2_; have HB := n3_; have BK419 := n4_; have GW419 := n5_; have GE419 := n6_; have NB414_419 := n7_; have NB419_414 := n8_; have NB415_419 := n9_; have NB419_415 := n10_; have NB416_419 := n11_; have NB419_416 := n12_; clear n0_ n1_ n2_ n3_ n4_ n5_ n6_ n7_ n8_ n9_ n10_ n11_ n12_; clear hb hbox hg; have hnb32 := NB419_414.out; have hnc32 := NB414_419.out; have hnb33 := NB419_415.out; have hnc33 := NB415_419.out; have hnb34 := NB419_416.out; have hnc34 := NB416_419.out; obtain ⟨hcz35_0, hcz35_1⟩ := cl2 BK419; obtain ⟨hfz35_0, hfz35_1⟩ := fz2 BK419; obtain ⟨hcz36_0, hcz36_1⟩ := cl2 BK414; obtain ⟨hfz36_0, hfz36_1⟩ := fz2 BK414) | ((with_reducible refine gate_dst (N := 8) rfl ?_); refine box_event ?hg (N := 8) ?hd (cs := #[.string (⟨#[]⟩ : ByteArray), .string (⟨#[]⟩ : ByteArray)]) (t := 31) ?hr ?_; (case hd => rfl); (case hg => rfl); (case hr => first | (go_simp; done) | (go_simp; rfl)); intro gb420 hg w37 hbox hb; have n0_ := bkb BK414 hb; have n1_ := bkb BK415 hb; have n2_ := bkb BK416 hb; have n3_ := Aside0.mk (blk_below (g := gb419) (o := .cells #[.string a0_0, .string a1] 31 (0, 0)) (by (with_reducible repeat (first | refine blk_drewN ?_ _ | refine blk_drew ?_ | refine blk_alloc ?_ _)); refine blk_put (cs := #[.string a0_0, .string (⟨#[]⟩ : ByteArray)]) ?_ 1 _ rfl; (with_reducible repeat (first | refine blk_drewN ?_ _ | refine blk_drew ?_ | refine blk_alloc ?_ _)); refine blk_put (cs := #[.string (⟨#[]⟩ : ByteArray), .string (⟨#[]⟩ : ByteArray)]) ?_ 0 _ rfl; (with_reducible repeat (first | refine blk_drewN ?_ _ | refine blk_drew ?_ | refine blk_alloc ?_ _)); exact BK419.out) hb); have n4_ := Aside0.mk (below_step (bz) hb); have n5_ := Aside0.mk (hbox); have n6_ : Aside0 (w.heap.size ≤ gb420) := bsg hg; have n7_ : Aside0 (w.heap.size ≤ gb420) := bsg hg; have n8_ := nlt hg BK414; have n9_ := ngt hg BK414; have n10_ := nlt hg BK415; have n11_ := ngt hg BK415; have n12_ := nlt hg BK416; have n13_ := ngt hg BK416; have n14_ := Aside0.mk ((by rw [hg]; exact Nat.ne_of_lt (blk_lt (g := gb419) (o := .cells #[.string a0_0, .string a1] 31 (0, 0)) (by (with_reducible repeat (first | refine blk_drewN ?_ _ | refine blk_drew ?_ | refine blk_alloc ?_ _)); refine blk_put (cs := #[.string a0_0, .string (⟨#[]⟩ : ByteArray)]) ?_ 1 _ rfl; (with_reducible repeat (first | refine blk_drewN ?_ _ | refine blk_drew ?_ | refine blk_alloc ?_ _)); refine blk_put (cs := #[.string (⟨#[]⟩ : ByteArray), .string (⟨#[]⟩ : ByteArray)]) ?_ 0 _ rfl; (with_reducible repeat (first | refine blk_drewN ?_ _ | refine blk_drew ?_ | refine blk_alloc ?_ _)); exact BK419.out)) : gb419 ≠ gb420)); have n15_ := Aside0.mk ((by rw [hg]; exact Nat.ne_of_gt (blk_lt (g := gb419) (o := .cells #[.string a0_0, .string a1] 31 (0, 0)) (by (with_reducible repeat (first | refine blk_drewN ?_ _ | refine blk_drew ?_ | refine blk_alloc ?_ _)); refine blk_put (cs := #[.string a0_0, .string (⟨#[]⟩ : ByteArray)]) ?_ 1 _ rfl; (with_reducible repeat (first | refine blk_drewN ?_ _ | refine blk_drew ?_ | refine blk_alloc ?_ _)); refine blk_put (cs := #[.string (⟨#[]⟩ : ByteArray), .string (⟨#[]⟩ : ByteArray)]) ?_ 0 _ rfl; (with_reducible repeat (first | refine blk_drewN ?_ _ | refine blk_drew ?_ | refine blk_alloc ?_ _)); exact BK419.out)) : gb420 ≠ gb419)); clear BK414; clear BK415; clear BK416; clear BK419; clear HB; have BK414 := n0_; have BK415 := n1_; have BK416 := n2_; have BK419 := n3_; have HB := n4_; have BK420 := n5_; have GW420 := n6_; have GE420 := n7_; have NB414_420 := n8_; have NB420_414 := n9_; have NB415_420 := n10_; have NB420_415 := n11_; have NB416_420 := n12_; have NB420_416 := n13_; have NB419_420 := n14_; have NB420_419 := n15_; clear n0_ n1_ n2_ n3_ n4_ n5_ n6_ n7_ n8_ n9_ n10_ n11_ n12_ n13_ n14_ n15_; clear hb hbox hg; have hnb38 := NB420_414.out; have hnc38 := NB414_420.out; have hnb39 := NB420_415.out; have hnc39 := NB415_420.out; have hnb40 := NB420_416.out; have hnc40 := NB416_420.out; have hnb41 := NB420_419.out; have hnc41 := NB419_420.out; obtain ⟨hcz42_0, hcz42_1⟩ := cl2 BK420; obtain ⟨hfz42_0, hfz42_1⟩ := fz2 BK420; obtain ⟨hcz43_0, hcz43_1⟩ := cl2 BK419; obtain ⟨hfz43_0, hfz43_1⟩ := fz2 BK419) | ((with_reducible refine gate_callee (f := 82) rfl ?_); refine goesL_ (some 28) rfl rfl Try.func82 (by kernel_rfl) rfl #[.agg #[.string a0_0, .string a1]] rfl (by (try simp only [List.map_toArray, List.map_cons, List.map_nil]); first | done | rfl | (simp only [List.length_drop, List.length_take]; rfl)) ?_; (with_reducible refine (impl_IntervalValid.calls kj2 a0_0 a1 true _ A24.out).mono ?_); rintro e w44 ⟨rfl, hb⟩; refine ⟨_, rfl, ?_⟩; have n0_ := bkb BK414 hb; have n1_ := bkb BK415 hb; have n2_ := bkb BK416 hb; have n3_ := bkb BK419 hb; have n4_ := Aside0.mk (blk_below (g := gb420) (o := .cells #[.string a1, .string a0_1] 31 (0, 0)) (by (with_reducible repeat (first | refine blk_drewN ?_ _ | refine blk_drew ?_ | refine blk_alloc ?_ _)); refine blk_put (cs := #[.string a1, .string (⟨#[]⟩ : ByteArray)]) ?_ 1 _ rfl; (with_reducible repeat (first | refine blk_drewN ?_ _ | refine blk_drew ?_ | refine blk_alloc ?_ _)); refine blk_put (cs := #[.string (⟨#[]⟩ : ByteArray), .string (⟨#[]⟩ : ByteArray)]) ?_ 0 _ rfl; (with_reducible repeat (first | refine blk_drewN ?_ _ | refine blk_drew ?_ | refine blk_alloc ?_ _)); exact BK420.out) hb); have n5_ := Aside0.mk (below_step (bz) hb); clear BK414; clear BK415; clear BK416; clear BK419; clear BK420; clear HB; have BK414 := n0_; have BK415 := n1_; have BK416 := n2_; have BK419 := n3_; have BK420 := n4_; have HB := n5_; clear n0_ n1_ n2_ n3_ n4_ n5_; (try clear hb); (try clear hb2); (try clear hk); (try clear hi); obtain ⟨hcz45_0, hcz45_1⟩ := cl2 BK420; obtain ⟨hfz45_0, hfz45_1⟩ := fz2 BK420) | (go_at_call 82; (with_reducible refine (impl_IntervalValid.calls kj2 a1 a0_1 true _ A26.out).mono ?_); rintro e w46 ⟨rfl, hb⟩; have n0_ := bkb BK414 hb; have n1_ := bkb BK415 hb; have n2_ := bkb BK416 hb; have n3_ := bkb BK419 hb; have n4_ := bkb BK420 hb; have n5_ := Aside0.mk (below_step (bz) hb); clear BK414; clear BK415; clear BK416; clear BK419; clear BK420; clear HB; have BK414 := n0_; have BK415 := n1_; have BK416 := n2_; have BK419 := n3_; have BK420 := n4_; have HB := n5_; clear n0_ n1_ n2_ n3_ n4_ n5_; (try clear hb); (try clear hb2); (try clear hk); (try clear hi)))
      have n0_ := Aside0.mk (blk_drew BK414.out)
      have n1_ := Aside0.mk (blk_drew BK415.out)
      have n2_ := Aside0.mk (blk_drew BK416.out)
      have n3_ := Aside0.mk (blk_drew BK419.out)
      have n4_ := Aside0.mk (blk_drew BK420.out)
      have n5_ := Aside0.mk (below_drew1 HB.out)
      clear BK414
      clear BK415
      clear BK416
      clear BK419
      clear BK420
      clear HB
      have BK414 := n0_
      have BK415 := n1_
      have BK416 := n2_
      have BK419 := n3_
      have BK420 := n4_
      have HB := n5_
      clear n0_ n1_ n2_ n3_ n4_ n5_
      refine start_ (n := 5) (S := fun w' => w'.cell? ⟨gb419, 0, none⟩ = some (.string a0_0) ∧ w'.cell? ⟨gb419, 1, none⟩ = some (.string a1) ∧ w'.cell? ⟨gb420, 0, none⟩ = some (.string a1) ∧ w'.cell? ⟨gb420, 1, none⟩ = some (.string a0_1)) (ds := []) #[false, false, false, false, false] (by kernel_rfl) rfl rfl ⟨(blk_cell BK419.out 0).trans rfl, (blk_cell BK419.out 1).trans rfl, (blk_cell BK420.out 0).trans rfl, (blk_cell BK420.out 1).trans rfl⟩ (fun hHeld => ?_)
      generalize w46.drew = w47 at BK414 BK415 BK416 BK419 BK420 HB hHeld ⊢
      refine take_ (i := 0) (N := some 37) (v := ?_) (a' := ?_) #[true, false, false, false, false] rfl rfl (by kernel_rfl) (fun _ _ _ h => h) (Or.inl ⟨by rfl, ?_⟩) hHeld ?_ ?_
      rotate_left
      ·
       rintro w' ⟨s0, s1, s2, s3⟩
       go_simp
       with_reducible rfl
      rotate_left
      ·
       simp only [sx]
       rfl
      refine take_ (i := 1) (N := some 38) (v := ?_) (a' := ?_) #[true, true, false, false, false] rfl rfl (by kernel_rfl) (fun _ _ _ h => h) (Or.inl ⟨by rfl, ?_⟩) hHeld ?_ ?_
      rotate_left
      ·
       rintro w' ⟨s0, s1, s2, s3⟩
       go_simp
       with_reducible rfl
      rotate_left
      ·
       simp only [sx]
       rfl
      refine one_ (i := 2) (N := none) #[true, true, true, false, false] rfl rfl (by kernel_rfl) (by decide) (fun K hK => ?_)
      have hs48 : w47.cell? ⟨gb415, 0, none⟩ = some (.string (⟨#[]⟩ : ByteArray)) := (blk_cell BK415.out 0).trans rfl
      have hfs48 := blk_frozen BK415.out 0
      have hns48_0 := NB414_415.out
      have hns48_2 := NB416_415.out
      have hns48_3 := NB419_415.out
      have hns48_4 := NB420_415.out
      have hms48_0 := NB415_414.out
      have hms48_2 := NB415_416.out
      have hms48_3 := NB415_419.out
      have hms48_4 := NB415_420.out
      have hs49 : w47.cell? ⟨gb415, 1, none⟩ = some (.string (⟨#[]⟩ : ByteArray)) := (blk_cell BK415.out 1).trans rfl
      have hfs49 := blk_frozen BK415.out 1
      have hns49_0 := NB414_415.out
      have hns49_2 := NB416_415.out
      have hns49_3 := NB419_415.out
      have hns49_4 := NB420_415.out
      have hms49_0 := NB415_414.out
      have hms49_2 := NB415_416.out
      have hms49_3 := NB415_419.out
      have hms49_4 := NB415_420.out
      refine skip_ (w1 := ?_) (by rfl) rfl ?_ ?_
      rotate_left
      ·
       go_simp
       rfl
      refine hK.out _ _ ⟨(cf NB419_415 ((cf NB419_415 (hHeld.1)))), (cf NB419_415 ((cf NB419_415 (hHeld.2.1)))), (cf NB420_415 ((cf NB420_415 (hHeld.2.2.1)))), (cf NB420_415 ((cf NB420_415 (hHeld.2.2.2))))⟩ (fun hHeld => ?_)
      clear hK K
      refine one_ (i := 3) (N := none) #[true, true, true, true, false] rfl rfl (by kernel_rfl) (by decide) (fun K hK => ?_)
      have hs50 : w47.cell? ⟨gb416, 0, none⟩ = some (.string (⟨#[]⟩ : ByteArray)) := (blk_cell BK416.out 0).trans rfl
      have hfs50 := blk_frozen BK416.out 0
      have hns50_0 := NB414_416.out
      have hns50_1 := NB415_416.out
      have hns50_3 := NB419_416.out
      have hns50_4 := NB420_416.out
      have hms50_0 := NB416_414.out
      have hms50_1 := NB416_415.out
      have hms50_3 := NB416_419.out
      have hms50_4 := NB416_420.out
      have hs51 : w47.cell? ⟨gb416, 1, none⟩ = some (.string (⟨#[]⟩ : ByteArray)) := (blk_cell BK416.out 1).trans rfl
      have hfs51 := blk_frozen BK416.out 1
      have hns51_0 := NB414_416.out
      have hns51_1 := NB415_416.out
      have hns51_3 := NB419_416.out
      have hns51_4 := NB420_416.out
      have hms51_0 := NB416_414.out
      have hms51_1 := NB416_415.out
      have hms51_3 := NB416_419.out
      have hms51_4 := NB416_420.out
      refine skip_ (w1 := ?_) (by rfl) rfl ?_ ?_
      rotate_left
      ·
       go_simp
       rfl
      refine hK.out _ _ ⟨(cf NB419_416 ((cf NB419_416 (hHeld.1)))), (cf NB419_416 ((cf NB419_416 (hHeld.2.1)))), (cf NB420_416 ((cf NB420_416 (hHeld.2.2.1)))), (cf NB420_416 ((cf NB420_416 (hHeld.2.2.2))))⟩ (fun hHeld => ?_)
      clear hK K
      refine pure_ (i := 4) (N := some 6) (v := ?_) (a' := ?_) #[true, true, true, true, true] rfl rfl (by kernel_rfl) (fun _ _ _ h => h) (Or.inl ⟨by rfl, ?_⟩) ?_ ?_
      rotate_left
      ·
       intro w'
       go_simp
       with_reducible rfl
      rotate_left
      ·
       simp only [sx]
       rfl
      refine done_ (by kernel_rfl) ?_
      try go_wp2
      refine bodyPost_ret (results_list (rs := [.cell 4 31, .cell 5 31, .tmp 6]) rfl (by simp) (.cell gb415 31 #[.string a0_0, .string a1] (0, 0) _ rfl (by (with_reducible repeat (first | refine blk_drewN ?_ _ | refine blk_drew ?_ | refine blk_alloc ?_ _)); refine blk_far ?_ NB415_416.out _; (with_reducible repeat (first | refine blk_drewN ?_ _ | refine blk_drew ?_ | refine blk_alloc ?_ _)); refine blk_far ?_ NB415_416.out _; (with_reducible repeat (first | refine blk_drewN ?_ _ | refine blk_drew ?_ | refine blk_alloc ?_ _)); refine blk_put (cs := #[.string a0_0, .string (⟨#[]⟩ : ByteArray)]) ?_ 1 _ rfl; (with_reducible repeat (first | refine blk_drewN ?_ _ | refine blk_drew ?_ | refine blk_alloc ?_ _)); refine blk_put (cs := #[.string (⟨#[]⟩ : ByteArray), .string (⟨#[]⟩ : ByteArray)]) ?_ 0 _ rfl; (with_reducible repeat (first | refine blk_drewN ?_ _ | refine blk_drew ?_ | refine blk_alloc ?_ _)); exact BK415.out) Try.underlying31 rfl (by kernel_rfl) (.cell gb416 31 #[.string a1, .string a0_1] (0, 0) _ rfl (by (with_reducible repeat (first | refine blk_drewN ?_ _ | refine blk_drew ?_ | refine blk_alloc ?_ _)); refine blk_put (cs := #[.string a1, .string (⟨#[]⟩ : ByteArray)]) ?_ 1 _ rfl; (with_reducible repeat (first | refine blk_drewN ?_ _ | refine blk_drew ?_ | refine blk_alloc ?_ _)); refine blk_put (cs := #[.string (⟨#[]⟩ : ByteArray), .string (⟨#[]⟩ : ByteArray)]) ?_ 0 _ rfl; (with_reducible repeat (first | refine blk_drewN ?_ _ | refine blk_drew ?_ | refine blk_alloc ?_ _)); refine blk_far ?_ NB416_415.out _; (with_reducible repeat (first | refine blk_drewN ?_ _ | refine blk_drew ?_ | refine blk_alloc ?_ _)); refine blk_far ?_ NB416_415.out _; (with_reducible repeat (first | refine blk_drewN ?_ _ | refine blk_drew ?_ | refine blk_alloc ?_ _)); exact BK416.out) Try.underlying31 rfl (by kernel_rfl) (.tmp .nil)))) rfl ?_
      exact ⟨by first | rfl | (simp only [u8w, w64m]; rfl) | (simp [errW_none, errW_some] <;> rfl) | (simp [*, errW_none, errW_some] <;> rfl), bz⟩
     ·
      replace c27 := Bool.eq_false_iff.mpr c27
      subst c27
      rw [if_neg (show ¬ (false = true) by decide)] at H
      simp only [Option.some.injEq, Prod.mk.injEq] at H
      obtain ⟨rfl, rfl, rfl, rfl, rfl⟩ := H
      have hnb52 := NB414_415.out
      have hnc52 := NB415_414.out
      have hnb53 := NB414_416.out
      have hnc53 := NB416_414.out
      obtain ⟨hcz54_0, hcz54_1⟩ := cl2 BK414
      obtain ⟨hfz54_0, hfz54_1⟩ := fz2 BK414
      go_wp2_with (first | ((with_reducible refine gate_dst (N := 7) rfl ?_); refine box_event ?hg (N := 7) ?hd (cs := #[.string (⟨#[]⟩ : ByteArray), .string (⟨#[]⟩ : ByteArray)]) (t := 31) ?hr ?_; (case hd => rfl); (case hg => rfl); (case hr => first | (go_simp; done) | (go_simp; rfl)); intro gb419 hg w55 hbox hb; have n0_ := bkb BK414 hb; have n1_ := bkb BK415 hb; have n2_ := bkb BK416 hb; have n3_ := Aside0.mk (below_step (bz) hb); have n4_ := Aside0.mk (hbox); have n5_ : Aside0 (w.heap.size ≤ gb419) := bsg hg; have n6_ : Aside0 (w.heap.size ≤ gb419) := bsg hg; have n7_ := nlt hg BK414; have n8_ := ngt hg BK414; have n9_ := nlt hg BK415; have n10_ := ngt hg BK415; have n11_ := nlt hg BK416; have n12_ := ngt hg BK416; clear BK414; clear BK415; clear BK416; clear HB; have BK414 := n0_; have BK415 := n1_; have BK416 := n2_; have HB := n3_; have BK419 := n4_; have GW419 := n5_; have GE419 := n6_; have NB414_419 := n7_; have NB419_414 := n8_; have NB415_419 := n9_; have NB419_415 := n10_; have NB416_419 := n11_; have NB419_416 := n12_; clear n0_ n1_ n2_ n3_ n4_ n5_ n6_ n7_ n8_ n9_ n10_ n11_ n12_; clear hb hbox hg; have hnb56 := NB419_414.out; have hnc56 := NB414_419.out; have hnb57 := NB419_415.out; have hnc57 := NB415_419.out; have hnb58 := NB419_416.out; have hnc58 := NB416_419.out; obtain ⟨hcz59_0, hcz59_1⟩ := cl2 BK419; obtain ⟨hfz59_0, hfz59_1⟩ := fz2 BK419; obtain ⟨hcz60_0, hcz60_1⟩ := cl2 BK414; obtain ⟨hfz60_0, hfz60_1⟩ := fz2 BK414) | ((with_reducible refine gate_dst (N := 8) rfl ?_); refine box_event ?hg (N := 8) ?hd (cs := #[.string (⟨#[]⟩ : ByteArray), .string (⟨#[]⟩ : ByteArray)]) (t := 31) ?hr ?_; (case hd => rfl); (case hg => rfl); (case hr => first | (go_simp; done) | (go_simp; rfl)); intro gb420 hg w61 hbox hb; have n0_ := bkb BK414 hb; have n1_ := bkb BK415 hb; have n2_ := bkb BK416 hb; have n3_ := Aside0.mk (blk_below (g := gb419) (o := .cells #[.string a0_0, .string a1] 31 (0, 0)) (by (with_reducible repeat (first | refine blk_drewN ?_ _ | refine blk_drew ?_ | refine blk_alloc ?_ _)); refine blk_put (cs := #[.string a0_0, .string (⟨#[]⟩ : ByteArray)]) ?_ 1 _ rfl; (with_reducible repeat (first | refine blk_drewN ?_ _ | refine blk_drew ?_ | refine blk_alloc ?_ _)); refine blk_put (cs := #[.string (⟨#[]⟩ : ByteArray), .string (⟨#[]⟩ : ByteArray)]) ?_ 0 _ rfl; (with_reducible repeat (first | refine blk_drewN ?_ _ | refine blk_drew ?_ | refine blk_alloc ?_ _)); exact BK419.out) hb); have n4_ := Aside0.mk (below_step (bz) hb); have n5_ := Aside0.mk (hbox); have n6_ : Aside0 (w.heap.size ≤ gb420) := bsg hg; have n7_ : Aside0 (w.heap.size ≤ gb420) := bsg hg; have n8_ := nlt hg BK414; have n9_ := ngt hg BK414; have n10_ := nlt hg BK415; have n11_ := ngt hg BK415; have n12_ := nlt hg BK416; have n13_ := ngt hg BK416; have n14_ := Aside0.mk ((by rw [hg]; exact Nat.ne_of_lt (blk_lt (g := gb419) (o := .cells #[.string a0_0, .string a1] 31 (0, 0)) (by (with_reducible repeat (first | refine blk_drewN ?_ _ | refine blk_drew ?_ | refine blk_alloc ?_ _)); refine blk_put (cs := #[.string a0_0, .string (⟨#[]⟩ : ByteArray)]) ?_ 1 _ rfl; (with_reducible repeat (first | refine blk_drewN ?_ _ | refine blk_drew ?_ | refine blk_alloc ?_ _)); refine blk_put (cs := #[.string (⟨#[]⟩ : ByteArray), .string (⟨#[]⟩ : ByteArray)]) ?_ 0 _ rfl; (with_reducible repeat (first | refine blk_drewN ?_ _ | refine blk_drew ?_ | refine blk_alloc ?_ _)); exact BK419.out)) : gb419 ≠ gb420)); have n15_ := Aside0.mk ((by rw [hg]; exact Nat.ne_of_gt (blk_lt (g := gb419) (o := .cells #[.string a0_0, .string a1] 31 (0, 0)) (by (with_reducible repeat (first | refine blk_drewN ?_ _ | refine blk_drew ?_ | refine blk_alloc ?_ _)); refine blk_put (cs := #[.string a0_0, .string (⟨#[]⟩ : ByteArray)]) ?_ 1 _ rfl; (with_reducible repeat (first | refine blk_drewN ?_ _ | refine blk_drew ?_ | refine blk_alloc ?_ _)); refine blk_put (cs := #[.string (⟨#[]⟩ : ByteArray), .string (⟨#[]⟩ : ByteArray)]) ?_ 0 _ rfl; (with_reducible repeat (first | refine blk_drewN ?_ _ | refine blk_drew ?_ | refine blk_alloc ?_ _)); exact BK419.out)) : gb420 ≠ gb419)); clear BK414; clear BK415; clear BK416; clear BK419; clear HB; have BK414 := n0_; have BK415 := n1_; have BK416 := n2_; have BK419 := n3_; have HB := n4_; have BK420 := n5_; have GW420 := n6_; have GE420 := n7_; have NB414_420 := n8_; have NB420_414 := n9_; have NB415_420 := n10_; have NB420_415 := n11_; have NB416_420 := n12_; have NB420_416 := n13_; have NB419_420 := n14_; have NB420_419 := n15_; clear n0_ n1_ n2_ n3_ n4_ n5_ n6_ n7_ n8_ n9_ n10_ n11_ n12_ n13_ n14_ n15_; clear hb hbox hg; have hnb62 := NB420_414.out; have hnc62 := NB414_420.out; have hnb63 := NB420_415.out; have hnc63 := NB415_420.out; have hnb64 := NB420_416.out; have hnc64 := NB416_420.out; have hnb65 := NB420_419.out; have hnc65 := NB419_420.out; obtain ⟨hcz66_0, hcz66_1⟩ := cl2 BK420; obtain ⟨hfz66_0, hfz66_1⟩ := fz2 BK420; obtain ⟨hcz67_0, hcz67_1⟩ := cl2 BK419; obtain ⟨hfz67_0, hfz67_1⟩ := fz2 BK419) | ((with_reducible refine gate_callee (f := 82) rfl ?_); refine goesL_ (some 28) rfl rfl Try.func82 (by kernel_rfl) rfl #[.agg #[.string a0_0, .string a1]] rfl (by (try simp only [List.map_toArray, List.map_cons, List.map_nil]); first | done | rfl | (simp only [List.length_drop, List.length_take]; rfl)) ?_; (with_reducible refine (impl_IntervalValid.calls kj2 a0_0 a1 true _ A24.out).mono ?_); rintro e w68 ⟨rfl, hb⟩; refine ⟨_, rfl, ?_⟩; have n0_ := bkb BK414 hb; have n1_ := bkb BK415 hb; have n2_ := bkb BK416 hb; have n3_ := bkb BK419 hb; have n4_ := Aside0.mk (blk_below (g := gb420) (o := .cells #[.string a1, .string a0_1] 31 (0, 0)) (by (with_reducible repeat (first | refine blk_drewN ?_ _ | refine blk_drew ?_ | refine blk_alloc ?_ _)); refine blk_put (cs := #[.string a1, .string (⟨#[]⟩ : ByteArray)]) ?_ 1 _ rfl; (with_reducible repeat (first | refine blk_drewN ?_ _ | refine blk_drew ?_ | refine blk_alloc ?_ _)); refine blk_put (cs := #[.string (⟨#[]⟩ : ByteArray), .string (⟨#[]⟩ : ByteArray)]) ?_ 0 _ rfl; (with_reducible repeat (first | refine blk_drewN ?_ _ | refine blk_drew ?_ | refine blk_alloc ?_ _)); exact BK420.out) hb); have n5_ := Aside0.mk (below_step (bz) hb); clear BK414; clear BK415; clear BK416; clear BK419; clear BK420; clear HB; have BK414 := n0_; have BK415 := n1_; have BK416 := n2_; have BK419 := n3_; have BK420 := n4_; have HB := n5_; clear n0_ n1_ n2_ n3_ n4_ n5_; (try clear hb); (try clear hb2); (try clear hk); (try clear hi); obtain ⟨hcz69_0, hcz69_1⟩ := cl2 BK420; obtain ⟨hfz69_0, hfz69_1⟩ := fz2 BK420) | (go_at_call 82; (with_reducible refine (impl_IntervalValid.calls kj2 a1 a0_1 false _ A26.out).mono ?_); rintro e w70 ⟨rfl, hb⟩; have n0_ := bkb BK414 hb; have n1_ := bkb BK415 hb; have n2_ := bkb BK416 hb; have n3_ := bkb BK419 hb; have n4_ := bkb BK420 hb; have n5_ := Aside0.mk (below_step (bz) hb); clear BK414; clear BK415; clear BK416; clear BK419; clear BK420; clear HB; have BK414 := n0_; have BK415 := n1_; have BK416 := n2_; have BK419 := n3_; have BK420 := n4_; have HB := n5_; clear n0_ n1_ n2_ n3_ n4_ n5_; (try clear hb); (try clear hb2); (try clear hk); (try clear hi); have hnb71 := NB415_416.out; have hnc71 := NB416_415.out; obtain ⟨hcz72_0, hcz72_1⟩ := cl2 BK415; obtain ⟨hfz72_0, hfz72_1⟩ := fz2 BK415; obtain ⟨hcz73_0, hcz73_1⟩ := cl2 BK416; obtain ⟨hfz73_0, hfz73_1⟩ := fz2 BK416))
      refine bodyPost_ret (results_list (rs := [.cell 4 31, .cell 5 31, .tmp 6]) rfl (by simp) (.cell gb415 31 #[.string (⟨#[]⟩ : ByteArray), .string (⟨#[]⟩ : ByteArray)] (0, 0) _ rfl (by (with_reducible repeat (first | refine blk_drewN ?_ _ | refine blk_drew ?_ | refine blk_alloc ?_ _)); refine blk_far ?_ NB415_416.out _; (with_reducible repeat (first | refine blk_drewN ?_ _ | refine blk_drew ?_ | refine blk_alloc ?_ _)); refine blk_far ?_ NB415_416.out _; (with_reducible repeat (first | refine blk_drewN ?_ _ | refine blk_drew ?_ | refine blk_alloc ?_ _)); refine blk_put (cs := #[.string (⟨#[]⟩ : ByteArray), .string (⟨#[]⟩ : ByteArray)]) ?_ 1 _ rfl; (with_reducible repeat (first | refine blk_drewN ?_ _ | refine blk_drew ?_ | refine blk_alloc ?_ _)); refine blk_put (cs := #[.string (⟨#[]⟩ : ByteArray), .string (⟨#[]⟩ : ByteArray)]) ?_ 0 _ rfl; (with_reducible repeat (first | refine blk_drewN ?_ _ | refine blk_drew ?_ | refine blk_alloc ?_ _)); exact BK415.out) Try.underlying31 rfl (by kernel_rfl) (.cell gb416 31 #[.string (⟨#[]⟩ : ByteArray), .string (⟨#[]⟩ : ByteArray)] (0, 0) _ rfl (by (with_reducible repeat (first | refine blk_drewN ?_ _ | refine blk_drew ?_ | refine blk_alloc ?_ _)); refine blk_put (cs := #[.string (⟨#[]⟩ : ByteArray), .string (⟨#[]⟩ : ByteArray)]) ?_ 1 _ rfl; (with_reducible repeat (first | refine blk_drewN ?_ _ | refine blk_drew ?_ | refine blk_alloc ?_ _)); refine blk_put (cs := #[.string (⟨#[]⟩ : ByteArray), .string (⟨#[]⟩ : ByteArray)]) ?_ 0 _ rfl; (with_reducible repeat (first | refine blk_drewN ?_ _ | refine blk_drew ?_ | refine blk_alloc ?_ _)); refine blk_far ?_ NB416_415.out _; (with_reducible repeat (first | refine blk_drewN ?_ _ | refine blk_drew ?_ | refine blk_alloc ?_ _)); refine blk_far ?_ NB416_415.out _; (with_reducible repeat (first | refine blk_drewN ?_ _ | refine blk_drew ?_ | refine blk_alloc ?_ _)); exact BK416.out) Try.underlying31 rfl (by kernel_rfl) (.tmp .nil)))) rfl ?_
      exact ⟨by first | rfl | (simp only [u8w, w64m]; rfl) | (simp [errW_none, errW_some] <;> rfl) | (simp [*, errW_none, errW_some] <;> rfl), bz⟩
    ·
     replace c25 := Bool.eq_false_iff.mpr c25
     subst c25
     rw [if_neg (show ¬ (false = true) by decide)] at H
     simp only [Option.some.injEq, Prod.mk.injEq] at H
     obtain ⟨rfl, rfl, rfl, rfl, rfl⟩ := H
     have hnb74 := NB414_415.out
     have hnc74 := NB415_414.out
     have hnb75 := NB414_416.out
     have hnc75 := NB416_414.out
     obtain ⟨hcz76_0, hcz76_1⟩ := cl2 BK414
     obtain ⟨hfz76_0, hfz76_1⟩ := fz2 BK414
     go_wp2_with (first | ((with_reducible refine gate_dst (N := 7) rfl ?_); refine box_event ?hg (N := 7) ?hd (cs := #[.string (⟨#[]⟩ : ByteArray), .string (⟨#[]⟩ : ByteArray)]) (t := 31) ?hr ?_; (case hd => rfl); (case hg => rfl); (case hr => first | (go_simp; done) | (go_simp; rfl)); intro gb419 hg w77 hbox hb; have n0_ := bkb BK414 hb; have n1_ := bkb BK415 hb; have n2_ := bkb BK416 hb; have n3_ := Aside0.mk (below_step (bz) hb); have n4_ := Aside0.mk (hbox); have n5_ : Aside0 (w.heap.size ≤ gb419) := bsg hg; have n6_ : Aside0 (w.heap.size ≤ gb419) := bsg hg; have n7_ := nlt hg BK414; have n8_ := ngt hg BK414; have n9_ := nlt hg BK415; have n10_ := ngt hg BK415; have n11_ := nlt hg BK416; have n12_ := ngt hg BK416; clear BK414; clear BK415; clear BK416; clear HB; have BK414 := n0_; have BK415 := n1_; have BK416 := n2_; have HB := n3_; have BK419 := n4_; have GW419 := n5_; have GE419 := n6_; have NB414_419 := n7_; have NB419_414 := n8_; have NB415_419 := n9_; have NB419_415 := n10_; have NB416_419 := n11_; have NB419_416 := n12_; clear n0_ n1_ n2_ n3_ n4_ n5_ n6_ n7_ n8_ n9_ n10_ n11_ n12_; clear hb hbox hg; have hnb78 := NB419_414.out; have hnc78 := NB414_419.out; have hnb79 := NB419_415.out; have hnc79 := NB415_419.out; have hnb80 := NB419_416.out; have hnc80 := NB416_419.out; obtain ⟨hcz81_0, hcz81_1⟩ := cl2 BK419; obtain ⟨hfz81_0, hfz81_1⟩ := fz2 BK419; obtain ⟨hcz82_0, hcz82_1⟩ := cl2 BK414; obtain ⟨hfz82_0, hfz82_1⟩ := fz2 BK414) | ((with_reducible refine gate_dst (N := 8) rfl ?_); refine box_event ?hg (N := 8) ?hd (cs := #[.string (⟨#[]⟩ : ByteArray), .string (⟨#[]⟩ : ByteArray)]) (t := 31) ?hr ?_; (case hd => rfl); (case hg => rfl); (case hr => first | (go_simp; done) | (go_simp; rfl)); intro gb420 hg w83 hbox hb; have n0_ := bkb BK414 hb; have n1_ := bkb BK415 hb; have n2_ := bkb BK416 hb; have n3_ := Aside0.mk (blk_below (g := gb419) (o := .cells #[.string a0_0, .string a1] 31 (0, 0)) (by (with_reducible repeat (first | refine blk_drewN ?_ _ | refine blk_drew ?_ | refine blk_alloc ?_ _)); refine blk_put (cs := #[.string a0_0, .string (⟨#[]⟩ : ByteArray)]) ?_ 1 _ rfl; (with_reducible repeat (first | refine blk_drewN ?_ _ | refine blk_drew ?_ | refine blk_alloc ?_ _)); refine blk_put (cs := #[.string (⟨#[]⟩ : ByteArray), .string (⟨#[]⟩ : ByteArray)]) ?_ 0 _ rfl; (with_reducible repeat (first | refine blk_drewN ?_ _ | refine blk_drew ?_ | refine blk_alloc ?_ _)); exact BK419.out) hb); have n4_ := Aside0.mk (below_step (bz) hb); have n5_ := Aside0.mk (hbox); have n6_ : Aside0 (w.heap.size ≤ gb420) := bsg hg; have n7_ : Aside0 (w.heap.size ≤ gb420) := bsg hg; have n8_ := nlt hg BK414; have n9_ := ngt hg BK414; have n10_ := nlt hg BK415; have n11_ := ngt hg BK415; have n12_ := nlt hg BK416; have n13_ := ngt hg BK416; have n14_ := Aside0.mk ((by rw [hg]; exact Nat.ne_of_lt (blk_lt (g := gb419) (o := .cells #[.string a0_0, .string a1] 31 (0, 0)) (by (with_reducible repeat (first | refine blk_drewN ?_ _ | refine blk_drew ?_ | refine blk_alloc ?_ _)); refine blk_put (cs := #[.string a0_0, .string (⟨#[]⟩ : ByteArray)]) ?_ 1 _ rfl; (with_reducible repeat (first | refine blk_drewN ?_ _ | refine blk_drew ?_ | refine blk_alloc ?_ _)); refine blk_put (cs := #[.string (⟨#[]⟩ : ByteArray), .string (⟨#[]⟩ : ByteArray)]) ?_ 0 _ rfl; (with_reducible repeat (first | refine blk_drewN ?_ _ | refine blk_drew ?_ | refine blk_alloc ?_ _)); exact BK419.out)) : gb419 ≠ gb420)); have n15_ := Aside0.mk ((by rw [hg]; exact Nat.ne_of_gt (blk_lt (g := gb419) (o := .cells #[.string a0_0, .string a1] 31 (0, 0)) (by (with_reducible repeat (first | refine blk_drewN ?_ _ | refine blk_drew ?_ | refine blk_alloc ?_ _)); refine blk_put (cs := #[.string a0_0, .string (⟨#[]⟩ : ByteArray)]) ?_ 1 _ rfl; (with_reducible repeat (first | refine blk_drewN ?_ _ | refine blk_drew ?_ | refine blk_alloc ?_ _)); refine blk_put (cs := #[.string (⟨#[]⟩ : ByteArray), .string (⟨#[]⟩ : ByteArray)]) ?_ 0 _ rfl; (with_reducible repeat (first | refine blk_drewN ?_ _ | refine blk_drew ?_ | refine blk_alloc ?_ _)); exact BK419.out)) : gb420 ≠ gb419)); clear BK414; clear BK415; clear BK416; clear BK419; clear HB; have BK414 := n0_; have BK415 := n1_; have BK416 := n2_; have BK419 := n3_; have HB := n4_; have BK420 := n5_; have GW420 := n6_; have GE420 := n7_; have NB414_420 := n8_; have NB420_414 := n9_; have NB415_420 := n10_; have NB420_415 := n11_; have NB416_420 := n12_; have NB420_416 := n13_; have NB419_420 := n14_; have NB420_419 := n15_; clear n0_ n1_ n2_ n3_ n4_ n5_ n6_ n7_ n8_ n9_ n10_ n11_ n12_ n13_ n14_ n15_; clear hb hbox hg; have hnb84 := NB420_414.out; have hnc84 := NB414_420.out; have hnb85 := NB420_415.out; have hnc85 := NB415_420.out; have hnb86 := NB420_416.out; have hnc86 := NB416_420.out; have hnb87 := NB420_419.out; have hnc87 := NB419_420.out; obtain ⟨hcz88_0, hcz88_1⟩ := cl2 BK420; obtain ⟨hfz88_0, hfz88_1⟩ := fz2 BK420; obtain ⟨hcz89_0, hcz89_1⟩ := cl2 BK419; obtain ⟨hfz89_0, hfz89_1⟩ := fz2 BK419) | ((with_reducible refine gate_callee (f := 82) rfl ?_); refine goesL_ (some 28) rfl rfl Try.func82 (by kernel_rfl) rfl #[.agg #[.string a0_0, .string a1]] rfl (by (try simp only [List.map_toArray, List.map_cons, List.map_nil]); first | done | rfl | (simp only [List.length_drop, List.length_take]; rfl)) ?_; (with_reducible refine (impl_IntervalValid.calls kj2 a0_0 a1 false _ A24.out).mono ?_); rintro e w90 ⟨rfl, hb⟩; refine ⟨_, rfl, ?_⟩; have n0_ := bkb BK414 hb; have n1_ := bkb BK415 hb; have n2_ := bkb BK416 hb; have n3_ := bkb BK419 hb; have n4_ := Aside0.mk (blk_below (g := gb420) (o := .cells #[.string a1, .string a0_1] 31 (0, 0)) (by (with_reducible repeat (first | refine blk_drewN ?_ _ | refine blk_drew ?_ | refine blk_alloc ?_ _)); refine blk_put (cs := #[.string a1, .string (⟨#[]⟩ : ByteArray)]) ?_ 1 _ rfl; (with_reducible repeat (first | refine blk_drewN ?_ _ | refine blk_drew ?_ | refine blk_alloc ?_ _)); refine blk_put (cs := #[.string (⟨#[]⟩ : ByteArray), .string (⟨#[]⟩ : ByteArray)]) ?_ 0 _ rfl; (with_reducible repeat (first | refine blk_drewN ?_ _ | refine blk_drew ?_ | refine blk_alloc ?_ _)); exact BK420.out) hb); have n5_ := Aside0.mk (below_step (bz) hb); clear BK414; clear BK415; clear BK416; clear BK419; clear BK420; clear HB; have BK414 := n0_; have BK415 := n1_; have BK416 := n2_; have BK419 := n3_; have BK420 := n4_; have HB := n5_; clear n0_ n1_ n2_ n3_ n4_ n5_; (try clear hb); (try clear hb2); (try clear hk); (try clear hi); have hnb91 := NB415_416.out; have hnc91 := NB416_415.out; obtain ⟨hcz92_0, hcz92_1⟩ := cl2 BK415; obtain ⟨hfz92_0, hfz92_1⟩ := fz2 BK415; obtain ⟨hcz93_0, hcz93_1⟩ := cl2 BK416; obtain ⟨hfz93_0, hfz93_1⟩ := fz2 BK416))
     refine bodyPost_ret (results_list (rs := [.cell 4 31, .cell 5 31, .tmp 6]) rfl (by simp) (.cell gb415 31 #[.string (⟨#[]⟩ : ByteArray), .string (⟨#[]⟩ : ByteArray)] (0, 0) _ rfl (by (with_reducible repeat (first | refine blk_drewN ?_ _ | refine blk_drew ?_ | refine blk_alloc ?_ _)); refine blk_far ?_ NB415_416.out _; (with_reducible repeat (first | refine blk_drewN ?_ _ | refine blk_drew ?_ | refine blk_alloc ?_ _)); refine blk_far ?_ NB415_416.out _; (with_reducible repeat (first | refine blk_drewN ?_ _ | refine blk_drew ?_ | refine blk_alloc ?_ _)); refine blk_put (cs := #[.string (⟨#[]⟩ : ByteArray), .string (⟨#[]⟩ : ByteArray)]) ?_ 1 _ rfl; (with_reducible repeat (first | refine blk_drewN ?_ _ | refine blk_drew ?_ | refine blk_alloc ?_ _)); refine blk_put (cs := #[.string (⟨#[]⟩ : ByteArray), .string (⟨#[]⟩ : ByteArray)]) ?_ 0 _ rfl; (with_reducible repeat (first | refine blk_drewN ?_ _ | refine blk_drew ?_ | refine blk_alloc ?_ _)); exact BK415.out) Try.underlying31 rfl (by kernel_rfl) (.cell gb416 31 #[.string (⟨#[]⟩ : ByteArray), .string (⟨#[]⟩ : ByteArray)] (0, 0) _ rfl (by (with_reducible repeat (first | refine blk_drewN ?_ _ | refine blk_drew ?_ | refine blk_alloc ?_ _)); refine blk_put (cs := #[.string (⟨#[]⟩ : ByteArray), .string (⟨#[]⟩ : ByteArray)]) ?_ 1 _ rfl; (with_reducible repeat (first | refine blk_drewN ?_ _ | refine blk_drew ?_ | refine blk_alloc ?_ _)); refine blk_put (cs := #[.string (⟨#[]⟩ : ByteArray), .string (⟨#[]⟩ : ByteArray)]) ?_ 0 _ rfl; (with_reducible repeat (first | refine blk_drewN ?_ _ | refine blk_drew ?_ | refine blk_alloc ?_ _)); refine blk_far ?_ NB416_415.out _; (with_reducible repeat (first | refine blk_drewN ?_ _ | refine blk_drew ?_ | refine blk_alloc ?_ _)); refine blk_far ?_ NB416_415.out _; (with_reducible repeat (first | refine blk_drewN ?_ _ | refine blk_drew ?_ | refine blk_alloc ?_ _)); exact BK416.out) Try.underlying31 rfl (by kernel_rfl) (.tmp .nil)))) rfl ?_
     exact ⟨by first | rfl | (simp only [u8w, w64m]; rfl) | (simp [errW_none, errW_some] <;> rfl) | (simp [*, errW_none, errW_some] <;> rfl), bz⟩

/-! ### impl_SplitRoute: function 34 -/
def impl_SplitRoute.f (k : Nat) (l0 : List (S35)) (a1 : Int) (a2 : ByteArray) (a3 : Int) (a4 : Int) : Option ((List (S35)) × Bool) := (impl_RoutesValid.f k l0).bind fun t423 => (if t423 = true then ((impl_routePlace.f k l0 a1).bind fun t424 => (if t424 < 0 then ((impl_Route_94.f l0).bind fun t425 => (some (t425, false))) else (if 0 ≤ t424 then (if t424 < (l0.length : Int) then ((impl_IntervalCut.f k ((rd_T35 l0 t424).f1.f0) ((rd_T35 l0 t424).f1.f1) a2).bind fun bt429 => (if bt429.2.2.2.2 = true then ((impl_Route_96.f l0 t424 1 (([(⟨a3, (⟨bt429.1, bt429.2.1⟩ : S31)⟩ : S35), (⟨a4, (⟨bt429.2.2.1, bt429.2.2.2.1⟩ : S31)⟩ : S35)] : List (S35)))).bind fun t442 => ((impl_RoutesValid.f k t442).bind fun t445 => (if t445 = true then (some (t442, true)) else ((impl_Route_94.f l0).bind fun t446 => (some (t446, false)))))) else ((impl_Route_94.f l0).bind fun t436 => (some (t436, false))))) else (none)) else (none)))) else (some (([] : List (S35)), false)))
theorem impl_SplitRoute.mono : ∀ a0 a1 a2 a3 a4 k, LeO (impl_SplitRoute.f k a0 a1 a2 a3 a4) (impl_SplitRoute.f (k + 1) a0 a1 a2 a3 a4) := by
 intro a0 a1 a2 a3 a4 k
 unfold impl_SplitRoute.f
 repeat' first
   | (with_reducible exact impl_IntervalCut.mono _ _ _ _)
   | (with_reducible exact impl_RoutesValid.mono _ _)
   | (with_reducible exact impl_routePlace.mono _ _ _)
   | (with_reducible exact LeO.refl _)
   | (with_reducible exact LeO.none _)
   | (with_reducible refine LeO.ite ?_ ?_)
   | (with_reducible refine LeO.bind ?_ (fun _ => ?_))
   | exact impl_IntervalCut.mono _ _ _ _
   | exact impl_RoutesValid.mono _ _
   | exact impl_routePlace.mono _ _ _
   | exact LeO.none _
   | refine LeO.ite ?_ ?_
   | refine LeO.bind ?_ (fun _ => ?_)
set_option maxHeartbeats 8000000 in
set_option maxRecDepth 100000 in
theorem impl_SplitRoute.calls (k : Nat) (A0 : Option Addr) (c0 : Nat) (l0 : List (S35)) (a1 : Int) (a2 : ByteArray) (a3 : Int) (a4 : Int) (r1 : List (S35)) (r2 : Bool) (w : World) (hr0 : Kd.C k35 w A0 l0.length l0) (hc0 : l0.length ≤ c0) (h : impl_SplitRoute.f k l0 a1 a2 a3 a4 = some (r1, r2)) :
  Calls Try.prog 34 #[.slice A0 l0.length c0, .int .i64 a1, .string a2, .int .i64 a3, .int .i64 a4] w fun e w' => ∃ v0_ : Value, e = .returned (.tuple #[v0_, .bool r2]) ∧ Kd.R k35 35 w' w.heap.size (fun _ => True) v0_ r1 ∧ Below w.heap.size w w' := by
 have hu31 := Try.underlying31
 have hu35 := Try.underlying35
 have HR0 := Aside0.mk hr0
 have HC0 := Aside0.mk hc0
 clear hr0 hc0
 have HB := Aside0.mk (Below.refl w.heap.size w)
 have H : ((impl_RoutesValid.f k l0).bind fun t423 => (if t423 = true then ((impl_routePlace.f k l0 a1).bind fun t424 => (if t424 < 0 then ((impl_Route_94.f l0).bind fun t425 => (some (t425, false))) else (if 0 ≤ t424 then (if t424 < (l0.length : Int) then ((impl_IntervalCut.f k ((rd_T35 l0 t424).f1.f0) ((rd_T35 l0 t424).f1.f1) a2).bind fun bt429 => (if bt429.2.2.2.2 = true then ((impl_Route_96.f l0 t424 1 (([(⟨a3, (⟨bt429.1, bt429.2.1⟩ : S31)⟩ : S35), (⟨a4, (⟨bt429.2.2.1, bt429.2.2.2.1⟩ : S31)⟩ : S35)] : List (S35)))).bind fun t442 => ((impl_RoutesValid.f k t442).bind fun t445 => (if t445 = true then (some (t442, true)) else ((impl_Route_94.f l0).bind fun t446 => (some (t446, false)))))) else ((impl_Route_94.f l0).bind fun t436 => (some (t436, false))))) else (none)) else (none)))) else (some (([] : List (S35)), false)))) = some (r1, r2) := h
 clear h
 replace H := Option.bind_eq_some_iff.mp H
 obtain ⟨t423, A60, H⟩ := H
 try dsimp only at H
 have A6 := Aside0.mk A60
 clear A60
 by_cases c7 : t423 = true
 ·
  subst c7
  rw [if_pos rfl] at H
  replace H := Option.bind_eq_some_iff.mp H
  obtain ⟨t424, A80, H⟩ := H
  try dsimp only at H
  have A8 := Aside0.mk A80
  clear A80
  by_cases c9 : t424 < 0
  ·
   rw [if_pos c9] at H
   have c9b0 : decide (t424 < 0) = true := decide_eq_true c9
   clear c9
   replace H := Option.bind_eq_some_iff.mp H
   obtain ⟨t425, A100, H⟩ := H
   try dsimp only at H
   have A10 := Aside0.mk A100
   clear A100
   simp only [Option.some.injEq, Prod.mk.injEq] at H
   obtain ⟨rfl, rfl⟩ := H
   go_enter Try.func34, Try.ntmps34
   go_wp2_with (first | ((with_reducible refine gate_callee (f := 18) rfl ?_); refine goesL_ (some 18) rfl rfl Try.func18 (by kernel_rfl) rfl #[.slice A0 l0.length c0] rfl (by (try simp only [List.map_toArray, List.map_cons, List.map_nil]); first | done | rfl | (simp only [List.length_drop, List.length_take]; rfl)) ?_; (with_reducible refine (impl_RoutesValid.calls k _ _ l0 true _ ?side1 ?side2 A6.out).mono ?_); (case side1 => repeat (first | exact HR0.out | (with_reducible refine Kd.C_alloc ?_ _) | (with_reducible refine Kd.C_drewN ?_ _) | (with_reducible refine Kd.C_drew ?_))); (case side2 => exact HC0.out); rintro e w11 ⟨rfl, hb⟩; refine ⟨_, rfl, ?_⟩; have n0_ := Aside0.mk (below_step (bz) hb); clear HB; have HB := n0_; clear n0_; (try clear hb); (try clear hb2); (try clear hk); (try clear hi)) | ((with_reducible refine gate_callee (f := 81) rfl ?_); refine goesL_ (some 22) rfl rfl Try.func81 (by kernel_rfl) rfl #[.slice A0 l0.length c0, .int .i64 a1] rfl (by (try simp only [List.map_toArray, List.map_cons, List.map_nil]); first | done | rfl | (simp only [List.length_drop, List.length_take]; rfl)) ?_; (with_reducible refine (impl_routePlace.calls k _ _ l0 a1 t424 _ ?side1 ?side2 A8.out).mono ?_); (case side1 => repeat (first | exact (Kd.C_below HR0.out HB.out) | (with_reducible refine Kd.C_alloc ?_ _) | (with_reducible refine Kd.C_drewN ?_ _) | (with_reducible refine Kd.C_drew ?_))); (case side2 => exact HC0.out); rintro e w12 ⟨rfl, hb⟩; refine ⟨_, rfl, ?_⟩; have n0_ := Aside0.mk (below_step (bz) hb); clear HB; have HB := n0_; clear n0_; (try clear hb); (try clear hb2); (try clear hk); (try clear hi)) | ((with_reducible refine gate_callee (f := 94) rfl ?_); refine goesL_ (some 26) rfl rfl Try.func94 (by kernel_rfl) rfl #[.slice A0 l0.length c0] rfl (by (try simp only [List.map_toArray, List.map_cons, List.map_nil]); first | done | rfl | (simp only [List.length_drop, List.length_take]; rfl)) ?_; (with_reducible refine (impl_Route_94.calls _ _ l0 t425 _ ?side1 ?side2 A10.out).mono ?_); (case side1 => repeat (first | exact (Kd.C_below HR0.out HB.out) | (with_reducible refine Kd.C_alloc ?_ _) | (with_reducible refine Kd.C_drewN ?_ _) | (with_reducible refine Kd.C_drew ?_))); (case side2 => exact HC0.out); rintro e w13 ⟨v426, rfl, ho0, hb⟩; refine ⟨_, rfl, ?_⟩; have n0_ := Aside0.mk (Kd.R_lower ho0 (below_size (bz))); have n1_ := Aside0.mk (below_step (bz) hb); clear HB; have HO427 := n0_; have HB := n1_; clear n0_ n1_; (try clear hb); (try clear hb2); (try clear hk); (try clear hi); (try clear ho0)))
   go_ret2
   exact ⟨_, by first | rfl | (simp only [u8w, w64m]; rfl) | (simp [errW_none, errW_some] <;> rfl) | (simp [*, errW_none, errW_some] <;> rfl), by (with_reducible repeat (first | apply Kd.R_alloc | apply Kd.R_drewN | apply Kd.R_drew)); exact HO427.out, bz⟩
  ·
   rw [if_neg c9] at H
   have c9b0 : decide (t424 < 0) = false := decide_eq_false c9
   clear c9
   by_cases c14 : 0 ≤ t424
   ·
    rw [if_pos c14] at H
    have c14b0 : decide (0 ≤ t424) = true := decide_eq_true c14
    clear c14
    by_cases c15 : t424 < (l0.length : Int)
    ·
     rw [if_pos c15] at H
     have c15b0 : decide (t424 < (l0.length : Int)) = true := decide_eq_true c15
     clear c15
     replace H := Option.bind_eq_some_iff.mp H
     obtain ⟨⟨t429, t430, t431, t432, t433⟩, A160, H⟩ := H
     try dsimp only at H
     have A16 := Aside0.mk A160
     clear A160
     by_cases c17 : t433 = true
     ·
      subst c17
      rw [if_pos rfl] at H
      obtain ⟨y439, hy439⟩ : ∃ y_ : List (S35), y_ = (([(⟨a3, (⟨t429, t430⟩ : S31)⟩ : S35), (⟨a4, (⟨t431, t432⟩ : S31)⟩ : S35)] : List (S35))) := ⟨_, rfl⟩
      replace H : ((impl_Route_96.f l0 t424 1 y439).bind fun t442 => ((impl_RoutesValid.f k t442).bind fun t445 => (if t445 = true then (some (t442, true)) else ((impl_Route_94.f l0).bind fun t446 => (some (t446, false)))))) = some (r1, r2) := by first | (rw [hy439]; with_reducible exact H) | (have H2_ := (Option.bind_some _ _).symm.trans H; rw [hy439]; with_reducible exact H2_) | (have H2_ := (Option.bind_some _ _).symm.trans H; with_reducible exact H2_) | with_reducible exact H | (rw [hy439]; exact H) | exact H
      have Ny439 := Aside0.mk hy439
      clear hy439
      replace H := Option.bind_eq_some_iff.mp H
      obtain ⟨t442, A180, H⟩ := H
      try dsimp only at H
      have A18 := Aside0.mk A180
      clear A180
      replace H := Option.bind_eq_some_iff.mp H
      obtain ⟨t445, A190, H⟩ := H
      try dsimp only at H
      have A19 := Aside0.mk A190
      clear A190
      by_cases c20 : t445 = true
      ·
       subst c20
       rw [if_pos rfl] at H
       simp only [Option.some.injEq, Prod.mk.injEq] at H
       obtain ⟨rfl, rfl⟩ := H
       go_enter Try.func34, Try.ntmps34
       go_wp2_with (first | ((with_reducible refine gate_callee (f := 18) rfl ?_); refine goesL_ (some 18) rfl rfl Try.func18 (by kernel_rfl) rfl #[.slice A0 l0.length c0] rfl (by (try simp only [List.map_toArray, List.map_cons, List.map_nil]); first | done | rfl | (simp only [List.length_drop, List.length_take]; rfl)) ?_; (with_reducible refine (impl_RoutesValid.calls k _ _ l0 true _ ?side1 ?side2 A6.out).mono ?_); (case side1 => repeat (first | exact HR0.out | (with_reducible refine Kd.C_alloc ?_ _) | (with_reducible refine Kd.C_drewN ?_ _) | (with_reducible refine Kd.C_drew ?_))); (case side2 => exact HC0.out); rintro e w21 ⟨rfl, hb⟩; refine ⟨_, rfl, ?_⟩; have n0_ := Aside0.mk (below_step (bz) hb); clear HB; have HB := n0_; clear n0_; (try clear hb); (try clear hb2); (try clear hk); (try clear hi)) | ((with_reducible refine gate_callee (f := 81) rfl ?_); refine goesL_ (some 22) rfl rfl Try.func81 (by kernel_rfl) rfl #[.slice A0 l0.length c0, .int .i64 a1] rfl (by (try simp only [List.map_toArray, List.map_cons, List.map_nil]); first | done | rfl | (simp only [List.length_drop, List.length_take]; rfl)) ?_; (with_reducible refine (impl_routePlace.calls k _ _ l0 a1 t424 _ ?side1 ?side2 A8.out).mono ?_); (case side1 => repeat (first | exact (Kd.C_below HR0.out HB.out) | (with_reducible refine Kd.C_alloc ?_ _) | (with_reducible refine Kd.C_drewN ?_ _) | (with_reducible refine Kd.C_drew ?_))); (case side2 => exact HC0.out); rintro e w22 ⟨rfl, hb⟩; refine ⟨_, rfl, ?_⟩; have n0_ := Aside0.mk (below_step (bz) hb); clear HB; have HB := n0_; clear n0_; (try clear hb); (try clear hb2); (try clear hk); (try clear hi); have p428 : 0 ≤ (t424 : Int) := of_decide_eq_true (by first | (with_reducible assumption) | assumption); have q428 : t424 < (l0.length : Int) := of_decide_eq_true (by first | (with_reducible assumption) | assumption); obtain ⟨ad428, e428, hx428_0, hx428_1, hx428_2⟩ := at_T35 HR0.out t424 p428 q428; cases e428; replace hx428_0 := (HB.out.cell (World.block_lt_of_cell? w _ hx428_0)).trans hx428_0; replace hx428_1 := (HB.out.cell (World.block_lt_of_cell? w _ hx428_1)).trans hx428_1; replace hx428_2 := (HB.out.cell (World.block_lt_of_cell? w _ hx428_2)).trans hx428_2; replace p428 := eq_true p428; replace q428 := eq_true q428) | ((with_reducible refine gate_callee (f := 99) rfl ?_); refine goesL_ (some 34) rfl rfl Try.func99 (by kernel_rfl) rfl #[.agg #[.string ((rd_T35 l0 t424).f1.f0), .string ((rd_T35 l0 t424).f1.f1)], .string a2] rfl (by (try simp only [List.map_toArray, List.map_cons, List.map_nil]); first | done | rfl | (simp only [List.length_drop, List.length_take]; rfl)) ?_; (with_reducible refine (impl_IntervalCut.calls k ((rd_T35 l0 t424).f1.f0) ((rd_T35 l0 t424).f1.f1) a2 t429 t430 t431 t432 true _ A16.out).mono ?_); rintro e w23 ⟨rfl, hb⟩; refine ⟨_, rfl, ?_⟩; have n0_ := Aside0.mk (below_step (bz) hb); clear HB; have HB := n0_; clear n0_; (try clear hb); (try clear hb2); (try clear hk); (try clear hi)) | ((with_reducible refine gate_dst (N := 13) rfl ?_); refine box_event ?hg (N := 13) ?hd (cs := #[.string (⟨#[]⟩ : ByteArray), .string (⟨#[]⟩ : ByteArray)]) (t := 31) ?hr ?_; (case hd => rfl); (case hg => rfl); (case hr => first | (go_simp; done) | (go_simp; rfl)); intro gb434 hg w24 hbox hb; have n0_ := Aside0.mk (below_step (bz) hb); have n1_ := Aside0.mk (hbox); have n2_ : Aside0 (w.heap.size ≤ gb434) := bsg hg; have n3_ : Aside0 (w.heap.size ≤ gb434) := bsg hg; clear HB; have HB := n0_; have BK434 := n1_; have GW434 := n2_; have GE434 := n3_; clear n0_ n1_ n2_ n3_; clear hb hbox hg) | ((with_reducible refine gate_dst (N := 14) rfl ?_); refine box_event ?hg (N := 14) ?hd (cs := #[.string (⟨#[]⟩ : ByteArray), .string (⟨#[]⟩ : ByteArray)]) (t := 31) ?hr ?_; (case hd => rfl); (case hg => rfl); (case hr => first | (go_simp; done) | (go_simp; rfl)); intro gb435 hg w25 hbox hb; have n0_ := bkb BK434 hb; have n1_ := Aside0.mk (below_step (bz) hb); have n2_ := Aside0.mk (hbox); have n3_ : Aside0 (w.heap.size ≤ gb435) := bsg hg; have n4_ : Aside0 (w.heap.size ≤ gb435) := bsg hg; have n5_ := nlt hg BK434; have n6_ := ngt hg BK434; clear BK434; clear HB; have BK434 := n0_; have HB := n1_; have BK435 := n2_; have GW435 := n3_; have GE435 := n4_; have NB434_435 := n5_; have NB435_434 := n6_; clear n0_ n1_ n2_ n3_ n4_ n5_ n6_; clear hb hbox hg; have hnb26 := NB434_435.out; have hnc26 := NB435_434.out; obtain ⟨hcz27_0, hcz27_1⟩ := cl2 BK434; obtain ⟨hfz27_0, hfz27_1⟩ := fz2 BK434; obtain ⟨hcz28_0, hcz28_1⟩ := cl2 BK435; obtain ⟨hfz28_0, hfz28_1⟩ := fz2 BK435) | ((with_reducible refine gate_dst (N := 50) rfl ?_); refine Kd.R_lit k35 _ 35 ?hg (N := 50) ?hd (xs := ([(⟨a3, (⟨t429, t430⟩ : S31)⟩ : S35), (⟨a4, (⟨t431, t432⟩ : S31)⟩ : S35)] : List (S35))) (inner := [.int .i64 a3, .string t429, .string t430, .int .i64 a4, .string t431, .string t432]) (ok := fun _ => True) (okp := fun _ => True) ?hr ?hp (fun _ hk => hk) trivial (Below.refl _ _) (Nat.le_refl _) (by simp) ?_; (case hd => rfl); (case hg => rfl); (case hr => first | (go_simp; done) | (go_simp; rfl)); (case hp => exact (Reps.c3 (show Kd.M k35 _ _ _ (⟨a3, (⟨t429, t430⟩ : S31)⟩ : S35) [.int .i64 a3, .string t429, .string t430] from (k35_mkM _ _ _ (⟨a3, (⟨t429, t430⟩ : S31)⟩ : S35) )) (Reps.c3 (show Kd.M k35 _ _ _ (⟨a4, (⟨t431, t432⟩ : S31)⟩ : S35) [.int .i64 a4, .string t431, .string t432] from (k35_mkM _ _ _ (⟨a4, (⟨t431, t432⟩ : S31)⟩ : S35) )) (Reps.none _ _)))); intro v440 w29 ho30 hb hg_ hnew_; clear hg_ hnew_; (first | rw [← Ny439.out] at ho30 | (simp only [Int.reduceToNat] at ho30; rw [← Ny439.out] at ho30)); have n0_ := Aside0.mk (Kd.R_lower ho30 (below_size (bz))); have n1_ := Aside0.mk (blk_below (g := gb434) (o := .cells #[.string t429, .string t430] 31 (0, 0)) (by (with_reducible repeat (first | refine blk_drewN ?_ _ | refine blk_drew ?_ | refine blk_alloc ?_ _)); refine blk_far ?_ NB434_435.out _; (with_reducible repeat (first | refine blk_drewN ?_ _ | refine blk_drew ?_ | refine blk_alloc ?_ _)); refine blk_far ?_ NB434_435.out _; (with_reducible repeat (first | refine blk_drewN ?_ _ | refine blk_drew ?_ | refine blk_alloc ?_ _)); refine blk_put (cs := #[.string t429, .string (⟨#[]⟩ : ByteArray)]) ?_ 1 _ rfl; (with_reducible repeat (first | refine blk_drewN ?_ _ | refine blk_drew ?_ | refine blk_alloc ?_ _)); refine blk_put (cs := #[.string (⟨#[]⟩ : ByteArray), .string (⟨#[]⟩ : ByteArray)]) ?_ 0 _ rfl; (with_reducible repeat (first | refine blk_drewN ?_ _ | refine blk_drew ?_ | refine blk_alloc ?_ _)); exact BK434.out) hb); have n2_ := Aside0.mk (blk_below (g := gb435) (o := .cells #[.string t431, .string t432] 31 (0, 0)) (by (with_reducible repeat (first | refine blk_drewN ?_ _ | refine blk_drew ?_ | refine blk_alloc ?_ _)); refine blk_put (cs := #[.string t431, .string (⟨#[]⟩ : ByteArray)]) ?_ 1 _ rfl; (with_reducible repeat (first | refine blk_drewN ?_ _ | refine blk_drew ?_ | refine blk_alloc ?_ _)); refine blk_put (cs := #[.string (⟨#[]⟩ : ByteArray), .string (⟨#[]⟩ : ByteArray)]) ?_ 0 _ rfl; (with_reducible repeat (first | refine blk_drewN ?_ _ | refine blk_drew ?_ | refine blk_alloc ?_ _)); refine blk_far ?_ NB435_434.out _; (with_reducible repeat (first | refine blk_drewN ?_ _ | refine blk_drew ?_ | refine blk_alloc ?_ _)); refine blk_far ?_ NB435_434.out _; (with_reducible repeat (first | refine blk_drewN ?_ _ | refine blk_drew ?_ | refine blk_alloc ?_ _)); exact BK435.out) hb); have n3_ := Aside0.mk (below_step (bz) hb); clear BK434; clear BK435; clear HB; have HO441 := n0_; have BK434 := n1_; have BK435 := n2_; have HB := n3_; clear n0_ n1_ n2_ n3_; clear hb ho30; obtain ⟨Ao31, co31, eo31⟩ := Kd.R_slice HO441.out; subst eo31) | ((with_reducible refine gate_callee (f := 96) rfl ?_); refine goesL_ (some 51) rfl rfl Try.func96 (by kernel_rfl) rfl #[.slice (some ad428) l0.length c0, .int .i64 t424, .int .i64 1, .slice Ao31 y439.length co31] rfl (by (try simp only [List.map_toArray, List.map_cons, List.map_nil]); first | done | rfl | (simp only [List.length_drop, List.length_take]; rfl)) ?_; (with_reducible refine (impl_Route_96.calls _ _ l0 t424 1 _ _ y439 t442 _ ?side1 ?side2 ?side3 ?side4 A18.out).mono ?_); (case side1 => repeat (first | exact (Kd.C_below HR0.out HB.out) | (with_reducible refine Kd.C_alloc ?_ _) | (with_reducible refine Kd.C_drewN ?_ _) | (with_reducible refine Kd.C_drew ?_))); (case side2 => exact HC0.out); (case side3 => repeat (first | exact (Kd.R_reads' HO441.out).2.2 | (with_reducible refine Kd.C_alloc ?_ _) | (with_reducible refine Kd.C_drewN ?_ _) | (with_reducible refine Kd.C_drew ?_))); (case side4 => exact (Kd.R_reads' HO441.out).2.1); rintro e w32 ⟨v443, rfl, ho0, hb⟩; refine ⟨_, rfl, ?_⟩; have n0_ := Aside0.mk (Kd.R_elder' (by (with_reducible repeat (first | apply Kd.R_alloc | apply Kd.R_drewN | apply Kd.R_drew)); exact HO441.out) (Kd.R_base ho0) hb); have n1_ := Aside0.mk (Kd.R_lower (Kd.R_new' ho0 (Kd.R_lt (by (with_reducible repeat (first | apply Kd.R_alloc | apply Kd.R_drewN | apply Kd.R_drew)); exact HO441.out))) (below_size (bz))); have n2_ := bkb BK434 hb; have n3_ := bkb BK435 hb; have n4_ := Aside0.mk (below_step (bz) hb); clear HO441; clear BK434; clear BK435; clear HB; have HO441 := n0_; have HO444 := n1_; have BK434 := n2_; have BK435 := n3_; have HB := n4_; clear n0_ n1_ n2_ n3_ n4_; (try clear hb); (try clear hb2); (try clear hk); (try clear hi); (try clear ho0); obtain ⟨Ao33, co33, eo33⟩ := Kd.R_slice HO444.out; subst eo33) | ((with_reducible refine gate_callee (f := 18) rfl ?_); refine goesL_ (some 53) rfl rfl Try.func18 (by kernel_rfl) rfl #[.slice Ao33 t442.length co33] rfl (by (try simp only [List.map_toArray, List.map_cons, List.map_nil]); first | done | rfl | (simp only [List.length_drop, List.length_take]; rfl)) ?_; (with_reducible refine (impl_RoutesValid.calls k _ _ t442 true _ ?side1 ?side2 A19.out).mono ?_); (case side1 => repeat (first | exact (Kd.R_reads' HO444.out).2.2 | (with_reducible refine Kd.C_alloc ?_ _) | (with_reducible refine Kd.C_drewN ?_ _) | (with_reducible refine Kd.C_drew ?_))); (case side2 => exact (Kd.R_reads' HO444.out).2.1); rintro e w34 ⟨rfl, hb⟩; refine ⟨_, rfl, ?_⟩; have n0_ := Aside0.mk (Kd.R_below (by (with_reducible repeat (first | apply Kd.R_alloc | apply Kd.R_drewN | apply Kd.R_drew)); exact HO441.out) hb); have n1_ := Aside0.mk (Kd.R_below (by (with_reducible repeat (first | apply Kd.R_alloc | apply Kd.R_drewN | apply Kd.R_drew)); exact HO444.out) hb); have n2_ := bkb BK434 hb; have n3_ := bkb BK435 hb; have n4_ := Aside0.mk (below_step (bz) hb); clear HO441; clear HO444; clear BK434; clear BK435; clear HB; have HO441 := n0_; have HO444 := n1_; have BK434 := n2_; have BK435 := n3_; have HB := n4_; clear n0_ n1_ n2_ n3_ n4_; (try clear hb); (try clear hb2); (try clear hk); (try clear hi)))
       go_ret2
       exact ⟨_, by first | rfl | (simp only [u8w, w64m]; rfl) | (simp [errW_none, errW_some] <;> rfl) | (simp [*, errW_none, errW_some] <;> rfl), by (with_reducible repeat (first | apply Kd.R_alloc | apply Kd.R_drewN | apply Kd.R_drew)); exact Kd.R_mono HO444.out (fun _ hk => trivial), bz⟩
      ·
       replace c20 := Bool.eq_false_iff.mpr c20
       subst c20
       rw [if_neg (show ¬ (false = true) by decide)] at H
       replace H := Option.bind_eq_some_iff.mp H
       obtain ⟨t446, A350, H⟩ := H
       try dsimp only at H
       have A35 := Aside0.mk A350
       clear A350
       simp only [Option.some.injEq, Prod.mk.injEq] at H
       obtain ⟨rfl, rfl⟩ := H
       go_enter Try.func34, Try.ntmps34
       go_wp2_with (first | ((with_reducible refine gate_callee (f := 18) rfl ?_); refine goesL_ (some 18) rfl rfl Try.func18 (by kernel_rfl) rfl #[.slice A0 l0.length c0] rfl (by (try simp only [List.map_toArray, List.map_cons, List.map_nil]); first | done | rfl | (simp only [List.length_drop, List.length_take]; rfl)) ?_; (with_reducible refine (impl_RoutesValid.calls k _ _ l0 true _ ?side1 ?side2 A6.out).mono ?_); (case side1 => repeat (first | exact HR0.out | (with_reducible refine Kd.C_alloc ?_ _) | (with_reducible refine Kd.C_drewN ?_ _) | (with_reducible refine Kd.C_drew ?_))); (case side2 => exact HC0.out); rintro e w36 ⟨rfl, hb⟩; refine ⟨_, rfl, ?_⟩; have n0_ := Aside0.mk (below_step (bz) hb); clear HB; have HB := n0_; clear n0_; (try clear hb); (try clear hb2); (try clear hk); (try clear hi)) | ((with_reducible refine gate_callee (f := 81) rfl ?_); refine goesL_ (some 22) rfl rfl Try.func81 (by kernel_rfl) rfl #[.slice A0 l0.length c0, .int .i64 a1] rfl (by (try simp only [List.map_toArray, List.map_cons, List.map_nil]); first | done | rfl | (simp only [List.length_drop, List.length_take]; rfl)) ?_; (with_reducible refine (impl_routePlace.calls k _ _ l0 a1 t424 _ ?side1 ?side2 A8.out).mono ?_); (case side1 => repeat (first | exact (Kd.C_below HR0.out HB.out) | (with_reducible refine Kd.C_alloc ?_ _) | (with_reducible refine Kd.C_drewN ?_ _) | (with_reducible refine Kd.C_drew ?_))); (case side2 => exact HC0.out); rintro e w37 ⟨rfl, hb⟩; refine ⟨_, rfl, ?_⟩; have n0_ := Aside0.mk (below_step (bz) hb); clear HB; have HB := n0_; clear n0_; (try clear hb); (try clear hb2); (try clear hk); (try clear hi); have p428 : 0 ≤ (t424 : Int) := of_decide_eq_true (by first | (with_reducible assumption) | assumption); have q428 : t424 < (l0.length : Int) := of_decide_eq_true (by first | (with_reducible assumption) | assumption); obtain ⟨ad428, e428, hx428_0, hx428_1, hx428_2⟩ := at_T35 HR0.out t424 p428 q428; cases e428; replace hx428_0 := (HB.out.cell (World.block_lt_of_cell? w _ hx428_0)).trans hx428_0; replace hx428_1 := (HB.out.cell (World.block_lt_of_cell? w _ hx428_1)).trans hx428_1; replace hx428_2 := (HB.out.cell (World.block_lt_of_cell? w _ hx428_2)).trans hx428_2; replace p428 := eq_true p428; replace q428 := eq_true q428) | ((with_reducible refine gate_callee (f := 99) rfl ?_); refine goesL_ (some 34) rfl rfl Try.func99 (by kernel_rfl) rfl #[.agg #[.string ((rd_T35 l0 t424).f1.f0), .string ((rd_T35 l0 t424).f1.f1)], .string a2] rfl (by (try simp only [List.map_toArray, List.map_cons, List.map_nil]); first | done | rfl | (simp only [List.length_drop, List.length_take]; rfl)) ?_; (with_reducible refine (impl_IntervalCut.calls k ((rd_T35 l0 t424).f1.f0) ((rd_T35 l0 t424).f1.f1) a2 t429 t430 t431 t432 true _ A16.out).mono ?_); rintro e w38 ⟨rfl, hb⟩; refine ⟨_, rfl, ?_⟩; have n0_ := Aside0.mk (below_step (bz) hb); clear HB; have HB := n0_; clear n0_; (try clear hb); (try clear hb2); (try clear hk); (try clear hi)) | ((with_reducible refine gate_dst (N := 13) rfl ?_); refine box_event ?hg (N := 13) ?hd (cs := #[.string (⟨#[]⟩ : ByteArray), .string (⟨#[]⟩ : ByteArray)]) (t := 31) ?hr ?_; (case hd => rfl); (case hg => rfl); (case hr => first | (go_simp; done) | (go_simp; rfl)); intro gb434 hg w39 hbox hb; have n0_ := Aside0.mk (below_step (bz) hb); have n1_ := Aside0.mk (hbox); have n2_ : Aside0 (w.heap.size ≤ gb434) := bsg hg; have n3_ : Aside0 (w.heap.size ≤ gb434) := bsg hg; clear HB; have HB := n0_; have BK434 := n1_; have GW434 := n2_; have GE434 := n3_; clear n0_ n1_ n2_ n3_; clear hb hbox hg) | ((with_reducible refine gate_dst (N := 14) rfl ?_); refine box_event ?hg (N := 14) ?hd (cs := #[.string (⟨#[]⟩ : ByteArray), .string (⟨#[]⟩ : ByteArray)]) (t := 31) ?hr ?_; (case hd => rfl); (case hg => rfl); (case hr => first | (go_simp; done) | (go_simp; rfl)); intro gb435 hg w40 hbox hb; have n0_ := bkb BK434 hb; have n1_ := Aside0.mk (below_step (bz) hb); have n2_ := Aside0.mk (hbox); have n3_ : Aside0 (w.heap.size ≤ gb435) := bsg hg; have n4_ : Aside0 (w.heap.size ≤ gb435) := bsg hg; have n5_ := nlt hg BK434; have n6_ := ngt hg BK434; clear BK434; clear HB; have BK434 := n0_; have HB := n1_; have BK435 := n2_; have GW435 := n3_; have GE435 := n4_; have NB434_435 := n5_; have NB435_434 := n6_; clear n0_ n1_ n2_ n3_ n4_ n5_ n6_; clear hb hbox hg; have hnb41 := NB434_435.out; have hnc41 := NB435_434.out; obtain ⟨hcz42_0, hcz42_1⟩ := cl2 BK434; obtain ⟨hfz42_0, hfz42_1⟩ := fz2 BK434; obtain ⟨hcz43_0, hcz43_1⟩ := cl2 BK435; obtain ⟨hfz43_0, hfz43_1⟩ := fz2 BK435) | ((with_reducible refine gate_dst (N := 50) rfl ?_); refine Kd.R_lit k35 _ 35 ?hg (N := 50) ?hd (xs := ([(⟨a3, (⟨t429, t430⟩ : S31)⟩ : S35), (⟨a4, (⟨t431, t432⟩ : S31)⟩ : S35)] : List (S35))) (inner := [.int .i64 a3, .string t429, .string t430, .int .i64 a4, .string t431, .string t432]) (ok := fun _ => True) (okp := fun _ => True) ?hr ?hp (fun _ hk => hk) trivial (Below.refl _ _) (Nat.le_refl _) (by simp) ?_; (case hd => rfl); (case hg => rfl); (case hr => first | (go_simp; done) | (go_simp; rfl)); (case hp => exact (Reps.c3 (show Kd.M k35 _ _ _ (⟨a3, (⟨t429, t430⟩ : S31)⟩ : S35) [.int .i64 a3, .string t429, .string t430] from (k35_mkM _ _ _ (⟨a3, (⟨t429, t430⟩ : S31)⟩ : S35) )) (Reps.c3 (show Kd.M k35 _ _ _ (⟨a4, (⟨t431, t432⟩ : S31)⟩ : S35) [.int .i64 a4, .string t431, .string t432] from (k35_mkM _ _ _ (⟨a4, (⟨t431, t432⟩ : S31)⟩ : S35) )) (Reps.none _ _)))); intro v440 w44 ho45 hb hg_ hnew_; clear hg_ hnew_; (first | rw [← Ny439.out] at ho45 | (simp only [Int.reduceToNat] at ho45; rw [← Ny439.out] at ho45)); have n0_ := Aside0.mk (Kd.R_lower ho45 (below_size (bz))); have n1_ := Aside0.mk (blk_below (g := gb434) (o := .cells #[.string t429, .string t430] 31 (0, 0)) (by (with_reducible repeat (first | refine blk_drewN ?_ _ | refine blk_drew ?_ | refine blk_alloc ?_ _)); refine blk_far ?_ NB434_435.out _; (with_reducible repeat (first | refine blk_drewN ?_ _ | refine blk_drew ?_ | refine blk_alloc ?_ _)); refine blk_far ?_ NB434_435.out _; (with_reducible repeat (first | refine blk_drewN ?_ _ | refine blk_drew ?_ | refine blk_alloc ?_ _)); refine blk_put (cs := #[.string t429, .string (⟨#[]⟩ : ByteArray)]) ?_ 1 _ rfl; (with_reducible repeat (first | refine blk_drewN ?_ _ | refine blk_drew ?_ | refine blk_alloc ?_ _)); refine blk_put (cs := #[.string (⟨#[]⟩ : ByteArray), .string (⟨#[]⟩ : ByteArray)]) ?_ 0 _ rfl; (with_reducible repeat (first | refine blk_drewN ?_ _ | refine blk_drew ?_ | refine blk_alloc ?_ _)); exact BK434.out) hb); have n2_ := Aside0.mk (blk_below (g := gb435) (o := .cells #[.string t431, .string t432] 31 (0, 0)) (by (with_reducible repeat (first | refine blk_drewN ?_ _ | refine blk_drew ?_ | refine blk_alloc ?_ _)); refine blk_put (cs := #[.string t431, .string (⟨#[]⟩ : ByteArray)]) ?_ 1 _ rfl; (with_reducible repeat (first | refine blk_drewN ?_ _ | refine blk_drew ?_ | refine blk_alloc ?_ _)); refine blk_put (cs := #[.string (⟨#[]⟩ : ByteArray), .string (⟨#[]⟩ : ByteArray)]) ?_ 0 _ rfl; (with_reducible repeat (first | refine blk_drewN ?_ _ | refine blk_drew ?_ | refine blk_alloc ?_ _)); refine blk_far ?_ NB435_434.out _; (with_reducible repeat (first | refine blk_drewN ?_ _ | refine blk_drew ?_ | refine blk_alloc ?_ _)); refine blk_far ?_ NB435_434.out _; (with_reducible repeat (first | refine blk_drewN ?_ _ | refine blk_drew ?_ | refine blk_alloc ?_ _)); exact BK435.out) hb); have n3_ := Aside0.mk (below_step (bz) hb); clear BK434; clear BK435; clear HB; have HO441 := n0_; have BK434 := n1_; have BK435 := n2_; have HB := n3_; clear n0_ n1_ n2_ n3_; clear hb ho45; obtain ⟨Ao46, co46, eo46⟩ := Kd.R_slice HO441.out; subst eo46) | ((with_reducible refine gate_callee (f := 96) rfl ?_); refine goesL_ (some 51) rfl rfl Try.func96 (by kernel_rfl) rfl #[.slice (some ad428) l0.length c0, .int .i64 t424, .int .i64 1, .slice Ao46 y439.length co46] rfl (by (try simp only [List.map_toArray, List.map_cons, List.map_nil]); first | done | rfl | (simp only [List.length_drop, List.length_take]; rfl)) ?_; (with_reducible refine (impl_Route_96.calls _ _ l0 t424 1 _ _ y439 t442 _ ?side1 ?side2 ?side3 ?side4 A18.out).mono ?_); (case side1 => repeat (first | exact (Kd.C_below HR0.out HB.out) | (with_reducible refine Kd.C_alloc ?_ _) | (with_reducible refine Kd.C_drewN ?_ _) | (with_reducible refine Kd.C_drew ?_))); (case side2 => exact HC0.out); (case side3 => repeat (first | exact (Kd.R_reads' HO441.out).2.2 | (with_reducible refine Kd.C_alloc ?_ _) | (with_reducible refine Kd.C_drewN ?_ _) | (with_reducible refine Kd.C_drew ?_))); (case side4 => exact (Kd.R_reads' HO441.out).2.1); rintro e w47 ⟨v443, rfl, ho0, hb⟩; refine ⟨_, rfl, ?_⟩; have n0_ := Aside0.mk (Kd.R_elder' (by (with_reducible repeat (first | apply Kd.R_alloc | apply Kd.R_drewN | apply Kd.R_drew)); exact HO441.out) (Kd.R_base ho0) hb); have n1_ := Aside0.mk (Kd.R_lower (Kd.R_new' ho0 (Kd.R_lt (by (with_reducible repeat (first | apply Kd.R_alloc | apply Kd.R_drewN | apply Kd.R_drew)); exact HO441.out))) (below_size (bz))); have n2_ := bkb BK434 hb; have n3_ := bkb BK435 hb; have n4_ := Aside0.mk (below_step (bz) hb); clear HO441; clear BK434; clear BK435; clear HB; have HO441 := n0_; have HO444 := n1_; have BK434 := n2_; have BK435 := n3_; have HB := n4_; clear n0_ n1_ n2_ n3_ n4_; (try clear hb); (try clear hb2); (try clear hk); (try clear hi); (try clear ho0); obtain ⟨Ao48, co48, eo48⟩ := Kd.R_slice HO444.out; subst eo48) | ((with_reducible refine gate_callee (f := 18) rfl ?_); refine goesL_ (some 53) rfl rfl Try.func18 (by kernel_rfl) rfl #[.slice Ao48 t442.length co48] rfl (by (try simp only [List.map_toArray, List.map_cons, List.map_nil]); first | done | rfl | (simp only [List.length_drop, List.length_take]; rfl)) ?_; (with_reducible refine (impl_RoutesValid.calls k _ _ t442 false _ ?side1 ?side2 A19.out).mono ?_); (case side1 => repeat (first | exact (Kd.R_reads' HO444.out).2.2 | (with_reducible refine Kd.C_alloc ?_ _) | (with_reducible refine Kd.C_drewN ?_ _) | (with_reducible refine Kd.C_drew ?_))); (case side2 => exact (Kd.R_reads' HO444.out).2.1); rintro e w49 ⟨rfl, hb⟩; refine ⟨_, rfl, ?_⟩; have n0_ := Aside0.mk (Kd.R_below (by (with_reducible repeat (first | apply Kd.R_alloc | apply Kd.R_drewN | apply Kd.R_drew)); exact HO441.out) hb); have n1_ := Aside0.mk (Kd.R_below (by (with_reducible repeat (first | apply Kd.R_alloc | apply Kd.R_drewN | apply Kd.R_drew)); exact HO444.out) hb); have n2_ := bkb BK434 hb; have n3_ := bkb BK435 hb; have n4_ := Aside0.mk (below_step (bz) hb); clear HO441; clear HO444; clear BK434; clear BK435; clear HB; have HO441 := n0_; have HO444 := n1_; have BK434 := n2_; have BK435 := n3_; have HB := n4_; clear n0_ n1_ n2_ n3_ n4_; (try clear hb); (try clear hb2); (try clear hk); (try clear hi)) | ((with_reducible refine gate_callee (f := 94) rfl ?_); refine goesL_ (some 56) rfl rfl Try.func94 (by kernel_rfl) rfl #[.slice (some ad428) l0.length c0] rfl (by (try simp only [List.map_toArray, List.map_cons, List.map_nil]); first | done | rfl | (simp only [List.length_drop, List.length_take]; rfl)) ?_; (with_reducible refine (impl_Route_94.calls _ _ l0 t446 _ ?side1 ?side2 A35.out).mono ?_); (case side1 => repeat (first | exact (Kd.C_below HR0.out HB.out) | (with_reducible refine Kd.C_alloc ?_ _) | (with_reducible refine Kd.C_drewN ?_ _) | (with_reducible refine Kd.C_drew ?_))); (case side2 => exact HC0.out); rintro e w50 ⟨v447, rfl, ho0, hb⟩; refine ⟨_, rfl, ?_⟩; have n0_ := Aside0.mk (Kd.R_elder' (by (with_reducible repeat (first | apply Kd.R_alloc | apply Kd.R_drewN | apply Kd.R_drew)); exact HO441.out) (Kd.R_base ho0) hb); have n1_ := Aside0.mk (Kd.R_elder' (by (with_reducible repeat (first | apply Kd.R_alloc | apply Kd.R_drewN | apply Kd.R_drew)); exact HO444.out) (Kd.R_base ho0) hb); have n2_ := Aside0.mk (Kd.R_lower (Kd.R_new' (Kd.R_new' ho0 (Kd.R_lt (by (with_reducible repeat (first | apply Kd.R_alloc | apply Kd.R_drewN | apply Kd.R_drew)); exact HO441.out))) (Kd.R_lt (by (with_reducible repeat (first | apply Kd.R_alloc | apply Kd.R_drewN | apply Kd.R_drew)); exact HO444.out))) (below_size (bz))); have n3_ := bkb BK434 hb; have n4_ := bkb BK435 hb; have n5_ := Aside0.mk (below_step (bz) hb); clear HO441; clear HO444; clear BK434; clear BK435; clear HB; have HO441 := n0_; have HO444 := n1_; have HO448 := n2_; have BK434 := n3_; have BK435 := n4_; have HB := n5_; clear n0_ n1_ n2_ n3_ n4_ n5_; (try clear hb); (try clear hb2); (try clear hk); (try clear hi); (try clear ho0)))
       go_ret2
       exact ⟨_, by first | rfl | (simp only [u8w, w64m]; rfl) | (simp [errW_none, errW_some] <;> rfl) | (simp [*, errW_none, errW_some] <;> rfl), by (with_reducible repeat (first | apply Kd.R_alloc | apply Kd.R_drewN | apply Kd.R_drew)); exact Kd.R_mono HO448.out (fun _ hk => trivial), bz⟩
     ·
      replace c17 := Bool.eq_false_iff.mpr c17
      subst c17
      rw [if_neg (show ¬ (false = true) by decide)] at H
      replace H := Option.bind_eq_some_iff.mp H
      obtain ⟨t436, A510, H⟩ := H
      try dsimp only at H
      have A51 := Aside0.mk A510
      clear A510
      simp only [Option.some.injEq, Prod.mk.injEq] at H
      obtain ⟨rfl, rfl⟩ := H
      go_enter Try.func34, Try.ntmps34
      go_wp2_with (first | ((with_reducible refine gate_callee (f := 18) rfl ?_); refine goesL_ (some 18) rfl rfl Try.func18 (by kernel_rfl) rfl #[.slice A0 l0.length c0] rfl (by (try simp only [List.map_toArray, List.map_cons, List.map_nil]); first | done | rfl | (simp only [List.length_drop, List.length_take]; rfl)) ?_; (with_reducible refine (impl_RoutesValid.calls k _ _ l0 true _ ?side1 ?side2 A6.out).mono ?_); (case side1 => repeat (first | exact HR0.out | (with_reducible refine Kd.C_alloc ?_ _) | (with_reducible refine Kd.C_drewN ?_ _) | (with_reducible refine Kd.C_drew ?_))); (case side2 => exact HC0.out); rintro e w52 ⟨rfl, hb⟩; refine ⟨_, rfl, ?_⟩; have n0_ := Aside0.mk (below_step (bz) hb); clear HB; have HB := n0_; clear n0_; (try clear hb); (try clear hb2); (try clear hk); (try clear hi)) | ((with_reducible refine gate_callee (f := 81) rfl ?_); refine goesL_ (some 22) rfl rfl Try.func81 (by kernel_rfl) rfl #[.slice A0 l0.length c0, .int .i64 a1] rfl (by (try simp only [List.map_toArray, List.map_cons, List.map_nil]); first | done | rfl | (simp only [List.length_drop, List.length_take]; rfl)) ?_; (with_reducible refine (impl_routePlace.calls k _ _ l0 a1 t424 _ ?side1 ?side2 A8.out).mono ?_); (case side1 => repeat (first | exact (Kd.C_below HR0.out HB.out) | (with_reducible refine Kd.C_alloc ?_ _) | (with_reducible refine Kd.C_drewN ?_ _) | (with_reducible refine Kd.C_drew ?_))); (case side2 => exact HC0.out); rintro e w53 ⟨rfl, hb⟩; refine ⟨_, rfl, ?_⟩; have n0_ := Aside0.mk (below_step (bz) hb); clear HB; have HB := n0_; clear n0_; (try clear hb); (try clear hb2); (try clear hk); (try clear hi); have p428 : 0 ≤ (t424 : Int) := of_decide_eq_true (by first | (with_reducible assumption) | assumption); have q428 : t424 < (l0.length : Int) := of_decide_eq_true (by first | (with_reducible assumption) | assumption); obtain ⟨ad428, e428, hx428_0, hx428_1, hx428_2⟩ := at_T35 HR0.out t424 p428 q428; cases e428; replace hx428_0 := (HB.out.cell (World.block_lt_of_cell? w _ hx428_0)).trans hx428_0; replace hx428_1 := (HB.out.cell (World.block_lt_of_cell? w _ hx428_1)).trans hx428_1; replace hx428_2 := (HB.out.cell (World.block_lt_of_cell? w _ hx428_2)).trans hx428_2; replace p428 := eq_true p428; replace q428 := eq_true q428) | ((with_reducible refine gate_callee (f := 99) rfl ?_); refine goesL_ (some 34) rfl rfl Try.func99 (by kernel_rfl) rfl #[.agg #[.string ((rd_T35 l0 t424).f1.f0), .string ((rd_T35 l0 t424).f1.f1)], .string a2] rfl (by (try simp only [List.map_toArray, List.map_cons, List.map_nil]); first | done | rfl | (simp only [List.length_drop, List.length_take]; rfl)) ?_; (with_reducible refine (impl_IntervalCut.calls k ((rd_T35 l0 t424).f1.f0) ((rd_T35 l0 t424).f1.f1) a2 t429 t430 t431 t432 false _ A16.out).mono ?_); rintro e w54 ⟨rfl, hb⟩; refine ⟨_, rfl, ?_⟩; have n0_ := Aside0.mk (below_step (bz) hb); clear HB; have HB := n0_; clear n0_; (try clear hb); (try clear hb2); (try clear hk); (try clear hi)) | ((with_reducible refine gate_dst (N := 13) rfl ?_); refine box_event ?hg (N := 13) ?hd (cs := #[.string (⟨#[]⟩ : ByteArray), .string (⟨#[]⟩ : ByteArray)]) (t := 31) ?hr ?_; (case hd => rfl); (case hg => rfl); (case hr => first | (go_simp; done) | (go_simp; rfl)); intro gb434 hg w55 hbox hb; have n0_ := Aside0.mk (below_step (bz) hb); have n1_ := Aside0.mk (hbox); have n2_ : Aside0 (w.heap.size ≤ gb434) := bsg hg; have n3_ : Aside0 (w.heap.size ≤ gb434) := bsg hg; clear HB; have HB := n0_; have BK434 := n1_; have GW434 := n2_; have GE434 := n3_; clear n0_ n1_ n2_ n3_; clear hb hbox hg) | ((with_reducible refine gate_dst (N := 14) rfl ?_); refine box_event ?hg (N := 14) ?hd (cs := #[.string (⟨#[]⟩ : ByteArray), .string (⟨#[]⟩ : ByteArray)]) (t := 31) ?hr ?_; (case hd => rfl); (case hg => rfl); (case hr => first | (go_simp; done) | (go_simp; rfl)); intro gb435 hg w56 hbox hb; have n0_ := bkb BK434 hb; have n1_ := Aside0.mk (below_step (bz) hb); have n2_ := Aside0.mk (hbox); have n3_ : Aside0 (w.heap.size ≤ gb435) := bsg hg; have n4_ : Aside0 (w.heap.size ≤ gb435) := bsg hg; have n5_ := nlt hg BK434; have n6_ := ngt hg BK434; clear BK434; clear HB; have BK434 := n0_; have HB := n1_; have BK435 := n2_; have GW435 := n3_; have GE435 := n4_; have NB434_435 := n5_; have NB435_434 := n6_; clear n0_ n1_ n2_ n3_ n4_ n5_ n6_; clear hb hbox hg; have hnb57 := NB434_435.out; have hnc57 := NB435_434.out; obtain ⟨hcz58_0, hcz58_1⟩ := cl2 BK434; obtain ⟨hfz58_0, hfz58_1⟩ := fz2 BK434; obtain ⟨hcz59_0, hcz59_1⟩ := cl2 BK435; obtain ⟨hfz59_0, hfz59_1⟩ := fz2 BK435) | ((with_reducible refine gate_callee (f := 94) rfl ?_); refine goesL_ (some 41) rfl rfl Try.func94 (by kernel_rfl) rfl #[.slice (some ad428) l0.length c0] rfl (by (try simp only [List.map_toArray, List.map_cons, List.map_nil]); first | done | rfl | (simp only [List.length_drop, List.length_take]; rfl)) ?_; (with_reducible refine (impl_Route_94.calls _ _ l0 t436 _ ?side1 ?side2 A51.out).mono ?_); (case side1 => exact Kd.C_below HR0.out (bz)); (case side2 => exact HC0.out); rintro e w60 ⟨v437, rfl, ho0, hb⟩; refine ⟨_, rfl, ?_⟩; have n0_ := Aside0.mk (Kd.R_lower ho0 (below_size (bz))); have n1_ := Aside0.mk (blk_below (g := gb434) (o := .cells #[.string t429, .string t430] 31 (0, 0)) (by (with_reducible repeat (first | refine blk_drewN ?_ _ | refine blk_drew ?_ | refine blk_alloc ?_ _)); refine blk_far ?_ NB434_435.out _; (with_reducible repeat (first | refine blk_drewN ?_ _ | refine blk_drew ?_ | refine blk_alloc ?_ _)); refine blk_far ?_ NB434_435.out _; (with_reducible repeat (first | refine blk_drewN ?_ _ | refine blk_drew ?_ | refine blk_alloc ?_ _)); refine blk_put (cs := #[.string t429, .string (⟨#[]⟩ : ByteArray)]) ?_ 1 _ rfl; (with_reducible repeat (first | refine blk_drewN ?_ _ | refine blk_drew ?_ | refine blk_alloc ?_ _)); refine blk_put (cs := #[.string (⟨#[]⟩ : ByteArray), .string (⟨#[]⟩ : ByteArray)]) ?_ 0 _ rfl; (with_reducible repeat (first | refine blk_drewN ?_ _ | refine blk_drew ?_ | refine blk_alloc ?_ _)); exact BK434.out) hb); have n2_ := Aside0.mk (blk_below (g := gb435) (o := .cells #[.string t431, .string t432] 31 (0, 0)) (by (with_reducible repeat (first | refine blk_drewN ?_ _ | refine blk_drew ?_ | refine blk_alloc ?_ _)); refine blk_put (cs := #[.string t431, .string (⟨#[]⟩ : ByteArray)]) ?_ 1 _ rfl; (with_reducible repeat (first | refine blk_drewN ?_ _ | refine blk_drew ?_ | refine blk_alloc ?_ _)); refine blk_put (cs := #[.string (⟨#[]⟩ : ByteArray), .string (⟨#[]⟩ : ByteArray)]) ?_ 0 _ rfl; (with_reducible repeat (first | refine blk_drewN ?_ _ | refine blk_drew ?_ | refine blk_alloc ?_ _)); refine blk_far ?_ NB435_434.out _; (with_reducible repeat (first | refine blk_drewN ?_ _ | refine blk_drew ?_ | refine blk_alloc ?_ _)); refine blk_far ?_ NB435_434.out _; (with_reducible repeat (first | refine blk_drewN ?_ _ | refine blk_drew ?_ | refine blk_alloc ?_ _)); exact BK435.out) hb); have n3_ := Aside0.mk (below_step (bz) hb); clear BK434; clear BK435; clear HB; have HO438 := n0_; have BK434 := n1_; have BK435 := n2_; have HB := n3_; clear n0_ n1_ n2_ n3_; (try clear hb); (try clear hb2); (try clear hk); (try clear hi); (try clear ho0)))
      go_ret2
      exact ⟨_, by first | rfl | (simp only [u8w, w64m]; rfl) | (simp [errW_none, errW_some] <;> rfl) | (simp [*, errW_none, errW_some] <;> rfl), by (with_reducible repeat (first | apply Kd.R_alloc | apply Kd.R_drewN | apply Kd.R_drew)); exact HO438.out, bz⟩
    ·
     rw [if_neg c15] at H
     exact absurd H (by simp)
   ·
    rw [if_neg c14] at H
    exact absurd H (by simp)
 ·
  replace c7 := Bool.eq_false_iff.mpr c7
  subst c7
  rw [if_neg (show ¬ (false = true) by decide)] at H
  simp only [Option.some.injEq, Prod.mk.injEq] at H
  obtain ⟨rfl, rfl⟩ := H
  go_enter Try.func34, Try.ntmps34
  go_wp2_with (first | ((with_reducible refine gate_callee (f := 18) rfl ?_); refine goesL_ (some 18) rfl rfl Try.func18 (by kernel_rfl) rfl #[.slice A0 l0.length c0] rfl (by (try simp only [List.map_toArray, List.map_cons, List.map_nil]); first | done | rfl | (simp only [List.length_drop, List.length_take]; rfl)) ?_; (with_reducible refine (impl_RoutesValid.calls k _ _ l0 false _ ?side1 ?side2 A6.out).mono ?_); (case side1 => repeat (first | exact HR0.out | (with_reducible refine Kd.C_alloc ?_ _) | (with_reducible refine Kd.C_drewN ?_ _) | (with_reducible refine Kd.C_drew ?_))); (case side2 => exact HC0.out); rintro e w61 ⟨rfl, hb⟩; refine ⟨_, rfl, ?_⟩; have n0_ := Aside0.mk (below_step (bz) hb); clear HB; have HB := n0_; clear n0_; (try clear hb); (try clear hb2); (try clear hk); (try clear hi)))
  go_ret2
  exact ⟨_, by first | rfl | (simp only [u8w, w64m]; rfl) | (simp [errW_none, errW_some] <;> rfl) | (simp [*, errW_none, errW_some] <;> rfl), by first | exact Kd.R_nil _ _ _ _ _ | exact Kd.N_nil _ _ _ _ _ | exact Kd.V_nil _ _ _ _ _ | exact Kd.Q_nil _ _ _ _ _ | exact Kd.S_nil _ _ _ _ _, bz⟩

end Go.Proofs.Ytkjkokljgbpbbaa.PFnMergeRoutes
