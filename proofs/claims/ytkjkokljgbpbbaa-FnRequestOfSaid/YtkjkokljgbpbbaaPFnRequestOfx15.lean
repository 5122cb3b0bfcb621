/- Go functions as plain Lean functions, and for each a proof that its call comes to what the function says; under the conditions that each theorem names. Written by a program of this session. -/
import Derived.Test.YtkjkokljgbpbbaaPFnRequestOfx0
import Derived.Test.YtkjkokljgbpbbaaPFnRequestOfx1
import Derived.Test.YtkjkokljgbpbbaaPFnRequestOfx14
namespace Go.Proofs.Ytkjkokljgbpbbaa.PFnRequestOf
open Go.RowKit Go.Proofs.YtkjkokljgbpbbaaW.PrintWords Go.Proofs.YtkjkokljgbpbbaaW.PrintLast Go.Proofs.YtkjkokljgbpbbaaW.PrintMore
attribute [local go_sem high] str_gtr str_leq str_geq
attribute [local go_sem] max2_int min2_int max_two min_two max_three min_three max_four min_four   -- for this text's walks alone
set_option linter.unusedVariables false
set_option linter.unusedSimpArgs false

attribute [local go_sem high] eqA39
/-! ### impl_CallerValid: function 24 -/
def impl_CallerValid.j0 : Nat → Bool → List (S35) → Int → Bool → Int → ByteArray → Int → Int → Int → Option (Bool)
 | 0, _, _, _, _, _, _, _, _, _ => none
 | k + 1, x16, x378000, x378001, x378002, x378003, x378004, x378005, x378006, x378007 => if x16 = true then (some false) else (if x378002 = true then (if x378001 ≥ 1 then ((impl_wishValid.f k x378003 x378004 x378005 x378006).bind fun t379 => (if t379 = true then ((impl_timeValid.f x378007).bind fun t380 => (some t380)) else (some false))) else (some false)) else (if (x378003 == 0 && (x378004.toList == ([] : List UInt8) && (x378005 == 0 && (x378006 == 0)))) = true then (some (x378007 == 0)) else (some false)))
def impl_CallerValid.f (k : Nat) (l0_0 : List (S35)) (a0_1 : Int) (a0_2 : Bool) (a0_3 : Int) (a0_4 : ByteArray) (a0_5 : Int) (a0_6 : Int) (a0_7 : Int) : Option (Bool) := (impl_CacheValid.f k l0_0).bind fun t378 => (if t378 = true then (if a0_1 < 0 then (impl_CallerValid.j0 k true l0_0 a0_1 a0_2 a0_3 a0_4 a0_5 a0_6 a0_7) else (impl_CallerValid.j0 k (decide (a0_1 > 999)) l0_0 a0_1 a0_2 a0_3 a0_4 a0_5 a0_6 a0_7)) else (impl_CallerValid.j0 k true l0_0 a0_1 a0_2 a0_3 a0_4 a0_5 a0_6 a0_7))
theorem impl_CallerValid.mono_l : ∀ k, (∀ y0 y1 y2 y3 y4 y5 y6 y7 y8, LeO (impl_CallerValid.j0 k y0 y1 y2 y3 y4 y5 y6 y7 y8) (impl_CallerValid.j0 (k + 1) y0 y1 y2 y3 y4 y5 y6 y7 y8))
 | 0 => fun _ _ _ _ _ _ _ _ _ r h => by simp [impl_CallerValid.j0] at h
 | k + 1 => by
  have ih0 := impl_CallerValid.mono_l k
  ·
   intro y0 y1 y2 y3 y4 y5 y6 y7 y8
   unfold impl_CallerValid.j0
   repeat' first
   | (with_reducible exact ih0 _ _ _ _ _ _ _ _ _)
   | (with_reducible exact impl_CacheValid.mono _ _)
   | (with_reducible exact impl_wishValid.mono _ _ _ _ _)
   | (with_reducible exact LeO.refl _)
   | (with_reducible exact LeO.none _)
   | (with_reducible refine LeO.ite ?_ ?_)
   | (with_reducible refine LeO.bind ?_ (fun _ => ?_))
   | exact ih0 _ _ _ _ _ _ _ _ _
   | exact impl_CacheValid.mono _ _
   | exact impl_wishValid.mono _ _ _ _ _
   | exact LeO.none _
   | refine LeO.ite ?_ ?_
   | refine LeO.bind ?_ (fun _ => ?_)
theorem impl_CallerValid.mono : ∀ a0 a1 a2 a3 a4 a5 a6 a7 k, LeO (impl_CallerValid.f k a0 a1 a2 a3 a4 a5 a6 a7) (impl_CallerValid.f (k + 1) a0 a1 a2 a3 a4 a5 a6 a7) := by
 intro a0 a1 a2 a3 a4 a5 a6 a7 k
 have ih0 := impl_CallerValid.mono_l k
 unfold impl_CallerValid.f
 repeat' first
   | (with_reducible exact ih0 _ _ _ _ _ _ _ _ _)
   | (with_reducible exact impl_CacheValid.mono _ _)
   | (with_reducible exact impl_wishValid.mono _ _ _ _ _)
   | (with_reducible exact LeO.refl _)
   | (with_reducible exact LeO.none _)
   | (with_reducible refine LeO.ite ?_ ?_)
   | (with_reducible refine LeO.bind ?_ (fun _ => ?_))
   | exact ih0 _ _ _ _ _ _ _ _ _
   | exact impl_CacheValid.mono _ _
   | exact impl_wishValid.mono _ _ _ _ _
   | exact LeO.none _
   | refine LeO.ite ?_ ?_
   | refine LeO.bind ?_ (fun _ => ?_)
set_option maxHeartbeats 8000000 in
set_option maxRecDepth 100000 in
theorem impl_CallerValid.calls (k : Nat) (A0_0 : Option Addr) (c0_0 : Nat) (l0_0 : List (S35)) (a0_1 : Int) (a0_2 : Bool) (a0_3 : Int) (a0_4 : ByteArray) (a0_5 : Int) (a0_6 : Int) (a0_7 : Int) (r : Bool) (w : World) (hr0_0 : Kd.C k35 w A0_0 l0_0.length l0_0) (hc0_0 : l0_0.length ≤ c0_0) (h : impl_CallerValid.f k l0_0 a0_1 a0_2 a0_3 a0_4 a0_5 a0_6 a0_7 = some r) :
  Calls Try.prog 24 #[.agg #[.slice A0_0 l0_0.length c0_0, .int .i64 a0_1, .bool a0_2, .int .i64 a0_3, .string a0_4, .int .i64 a0_5, .int .i64 a0_6, .int .i64 a0_7]] w fun e w' => e = .returned (.bool r) ∧ Below w.heap.size w w' := by
 have hu41 := Try.underlying41
 have hu39 := Try.underlying39
 have HR0_0 := Aside0.mk hr0_0
 have HC0_0 := Aside0.mk hc0_0
 clear hr0_0 hc0_0
 have HB := Aside0.mk (Below.refl w.heap.size w)
 have H : ((impl_CacheValid.f k l0_0).bind fun t378 => (if t378 = true then (if a0_1 < 0 then (impl_CallerValid.j0 k true l0_0 a0_1 a0_2 a0_3 a0_4 a0_5 a0_6 a0_7) else (impl_CallerValid.j0 k (decide (a0_1 > 999)) l0_0 a0_1 a0_2 a0_3 a0_4 a0_5 a0_6 a0_7)) else (impl_CallerValid.j0 k true l0_0 a0_1 a0_2 a0_3 a0_4 a0_5 a0_6 a0_7))) = some r := h
 clear h
 have HC2 := Aside0.mk H
 clear H
 go_enter Try.func24, Try.ntmps24
 go_upto_region 1 with (first | ((with_reducible refine gate_dst (N := 1) rfl ?_); refine box_event ?hg (N := 1) ?hd (cs := #[.slice A0_0 l0_0.length c0_0, .int .i64 a0_1, .bool a0_2, .int .i64 a0_3, .string a0_4, .int .i64 a0_5, .int .i64 a0_6, .int .i64 a0_7]) (t := 41) ?hr ?_; (case hd => rfl); (case hg => rfl); (case hr => first | (go_simp; done) | (go_simp; rfl)); intro gb377 hg w3 hbox hb; have n0_ := Aside0.mk (below_step (bz) hb); have n1_ := Aside0.mk (hbox); have n2_ : Aside0 (w.heap.size ≤ gb377) := bsg hg; have n3_ : Aside0 (w.heap.size ≤ gb377) := bsg hg; clear HB; have HB := n0_; have BK377 := n1_; have GW377 := n2_; have GE377 := n3_; clear n0_ n1_ n2_ n3_; clear hb hbox hg))
 (try simp only [Act.put, List.setIfInBounds_toArray, List.set_cons_zero, List.set_cons_succ])
 go_cut [16] (fun v16 wc => ∃ (kq : Nat) (x16_1 : Bool), v16 = .bool x16_1 ∧ Aside0 (impl_CallerValid.j0 kq x16_1 l0_0 a0_1 a0_2 a0_3 a0_4 a0_5 a0_6 a0_7 = some r) ∧ Aside0 (kq ≤ k) ∧ Aside0 (wc.heap[gb377]? = some (.cells #[(.slice A0_0 l0_0.length c0_0), .int .i64 a0_1, .bool a0_2, .int .i64 a0_3, .string a0_4, .int .i64 a0_5, .int .i64 a0_6, .int .i64 a0_7] 41 (0, 0))) ∧ Aside0 (Below w.heap.size w wc))
 case first =>
  have H := HC2.out
  clear HC2
  replace H := Option.bind_eq_some_iff.mp H
  obtain ⟨t378, A40, H⟩ := H
  try dsimp only at H
  have A4 := Aside0.mk A40
  clear A40
  by_cases c5 : t378 = true
  ·
   subst c5
   rw [if_pos rfl] at H
   by_cases c6 : a0_1 < 0
   ·
    rw [if_pos c6] at H
    have c6b0 : decide (a0_1 < 0) = true := decide_eq_true c6
    clear c6
    (first | rw [c6b0] | (simp only [i64_w, i32_w]; rw [c6b0]) | skip)
    have H' := Aside0.mk H
    clear H
    have hcz7_0 : w3.cell? ⟨gb377, 0, none⟩ = some (.slice A0_0 l0_0.length c0_0) := (blk_cell BK377.out 0).trans rfl
    have hcz7_1 : w3.cell? ⟨gb377, 1, none⟩ = some (.int .i64 a0_1) := (blk_cell BK377.out 1).trans rfl
    have hcz7_2 : w3.cell? ⟨gb377, 2, none⟩ = some (.bool a0_2) := (blk_cell BK377.out 2).trans rfl
    have hcz7_3 : w3.cell? ⟨gb377, 3, none⟩ = some (.int .i64 a0_3) := (blk_cell BK377.out 3).trans rfl
    have hcz7_4 : w3.cell? ⟨gb377, 4, none⟩ = some (.string a0_4) := (blk_cell BK377.out 4).trans rfl
    have hcz7_5 : w3.cell? ⟨gb377, 5, none⟩ = some (.int .i64 a0_5) := (blk_cell BK377.out 5).trans rfl
    have hcz7_6 : w3.cell? ⟨gb377, 6, none⟩ = some (.int .i64 a0_6) := (blk_cell BK377.out 6).trans rfl
    have hcz7_7 : w3.cell? ⟨gb377, 7, none⟩ = some (.int .i64 a0_7) := (blk_cell BK377.out 7).trans rfl
    have hfz7_0 := blk_frozen BK377.out 0
    have hfz7_1 := blk_frozen BK377.out 1
    have hfz7_2 := blk_frozen BK377.out 2
    have hfz7_3 := blk_frozen BK377.out 3
    have hfz7_4 := blk_frozen BK377.out 4
    have hfz7_5 := blk_frozen BK377.out 5
    have hfz7_6 := blk_frozen BK377.out 6
    have hfz7_7 := blk_frozen BK377.out 7
    go_wp2_with (first | ((with_reducible refine gate_callee (f := 85) rfl ?_); refine goesL_ (some 5) rfl rfl Try.func85 (by kernel_rfl) rfl #[.slice A0_0 l0_0.length c0_0] rfl (by (try simp only [List.map_toArray, List.map_cons, List.map_nil]); first | done | rfl | (simp only [List.length_drop, List.length_take]; rfl)) ?_; (with_reducible refine (impl_CacheValid.calls k _ _ l0_0 true _ ?side1 ?side2 A4.out).mono ?_); (case side1 => repeat (first | exact (Kd.C_below HR0_0.out HB.out) | (with_reducible refine Kd.C_alloc ?_ _) | (with_reducible refine Kd.C_drewN ?_ _) | (with_reducible refine Kd.C_drew ?_))); (case side2 => exact HC0_0.out); rintro e w8 ⟨rfl, hb⟩; refine ⟨_, rfl, ?_⟩; have n0_ := bkb BK377 hb; have n1_ := Aside0.mk (below_step (bz) hb); clear BK377; clear HB; have BK377 := n0_; have HB := n1_; clear n0_ n1_; (try clear hb); (try clear hb2); (try clear hk); (try clear hi); have hcz9_0 : w8.cell? ⟨gb377, 0, none⟩ = some (.slice A0_0 l0_0.length c0_0) := (blk_cell BK377.out 0).trans rfl; have hcz9_1 : w8.cell? ⟨gb377, 1, none⟩ = some (.int .i64 a0_1) := (blk_cell BK377.out 1).trans rfl; have hcz9_2 : w8.cell? ⟨gb377, 2, none⟩ = some (.bool a0_2) := (blk_cell BK377.out 2).trans rfl; have hcz9_3 : w8.cell? ⟨gb377, 3, none⟩ = some (.int .i64 a0_3) := (blk_cell BK377.out 3).trans rfl; have hcz9_4 : w8.cell? ⟨gb377, 4, none⟩ = some (.string a0_4) := (blk_cell BK377.out 4).trans rfl; have hcz9_5 : w8.cell? ⟨gb377, 5, none⟩ = some (.int .i64 a0_5) := (blk_cell BK377.out 5).trans rfl; have hcz9_6 : w8.cell? ⟨gb377, 6, none⟩ = some (.int .i64 a0_6) := (blk_cell BK377.out 6).trans rfl; have hcz9_7 : w8.cell? ⟨gb377, 7, none⟩ = some (.int .i64 a0_7) := (blk_cell BK377.out 7).trans rfl; have hfz9_0 := blk_frozen BK377.out 0; have hfz9_1 := blk_frozen BK377.out 1; have hfz9_2 := blk_frozen BK377.out 2; have hfz9_3 := blk_frozen BK377.out 3; have hfz9_4 := blk_frozen BK377.out 4; have hfz9_5 := blk_frozen BK377.out 5; have hfz9_6 := blk_frozen BK377.out 6; have hfz9_7 := blk_frozen BK377.out 7))
    go_meet
    case rel => exact ⟨_, (true), (by first | rfl | (simp; done) | exact congrArg Value.bool (ne_nil_b _) | exact congrArg Value.bool (eq_nil_b _) | (simp [*]; done)), H', ⟨by first | omega | exact Nat.le_refl _⟩, ⟨by (with_reducible repeat (first | refine blk_drewN ?_ _ | refine blk_drew ?_ | refine blk_alloc ?_ _)); exact BK377.out⟩, ⟨bz⟩⟩
   ·
    rw [if_neg c6] at H
    have c6b0 : decide (a0_1 < 0) = false := decide_eq_false c6
    clear c6
    (first | rw [c6b0] | (simp only [i64_w, i32_w]; rw [c6b0]) | skip)
    have H' := Aside0.mk H
    clear H
    have hcz10_0 : w3.cell? ⟨gb377, 0, none⟩ = some (.slice A0_0 l0_0.length c0_0) := (blk_cell BK377.out 0).trans rfl
    have hcz10_1 : w3.cell? ⟨gb377, 1, none⟩ = some (.int .i64 a0_1) := (blk_cell BK377.out 1).trans rfl
    have hcz10_2 : w3.cell? ⟨gb377, 2, none⟩ = some (.bool a0_2) := (blk_cell BK377.out 2).trans rfl
    have hcz10_3 : w3.cell? ⟨gb377, 3, none⟩ = some (.int .i64 a0_3) := (blk_cell BK377.out 3).trans rfl
    have hcz10_4 : w3.cell? ⟨gb377, 4, none⟩ = some (.string a0_4) := (blk_cell BK377.out 4).trans rfl
    have hcz10_5 : w3.cell? ⟨gb377, 5, none⟩ = some (.int .i64 a0_5) := (blk_cell BK377.out 5).trans rfl
    have hcz10_6 : w3.cell? ⟨gb377, 6, none⟩ = some (.int .i64 a0_6) := (blk_cell BK377.out 6).trans rfl
    have hcz10_7 : w3.cell? ⟨gb377, 7, none⟩ = some (.int .i64 a0_7) := (blk_cell BK377.out 7).trans rfl
    have hfz10_0 := blk_frozen BK377.out 0
    have hfz10_1 := blk_frozen BK377.out 1
    have hfz10_2 := blk_frozen BK377.out 2
    have hfz10_3 := blk_frozen BK377.out 3
    have hfz10_4 := blk_frozen BK377.out 4
    have hfz10_5 := blk_frozen BK377.out 5
    have hfz10_6 := blk_frozen BK377.out 6
    have hfz10_7 := blk_frozen BK377.out 7
    go_wp2_with (first | ((with_reducible refine gate_callee (f := 85) rfl ?_); refine goesL_ (some 5) rfl rfl Try.func85 (by kernel_rfl) rfl #[.slice A0_0 l0_0.length c0_0] rfl (by (try simp only [List.map_toArray, List.map_cons, List.map_nil]); first | done | rfl | (simp only [List.length_drop, List.length_take]; rfl)) ?_; (with_reducible refine (impl_CacheValid.calls k _ _ l0_0 true _ ?side1 ?side2 A4.out).mono ?_); (case side1 => repeat (first | exact (Kd.C_below HR0_0.out HB.out) | (with_reducible refine Kd.C_alloc ?_ _) | (with_reducible refine Kd.C_drewN ?_ _) | (with_reducible refine Kd.C_drew ?_))); (case side2 => exact HC0_0.out); rintro e w11 ⟨rfl, hb⟩; refine ⟨_, rfl, ?_⟩; have n0_ := bkb BK377 hb; have n1_ := Aside0.mk (below_step (bz) hb); clear BK377; clear HB; have BK377 := n0_; have HB := n1_; clear n0_ n1_; (try clear hb); (try clear hb2); (try clear hk); (try clear hi); have hcz12_0 : w11.cell? ⟨gb377, 0, none⟩ = some (.slice A0_0 l0_0.length c0_0) := (blk_cell BK377.out 0).trans rfl; have hcz12_1 : w11.cell? ⟨gb377, 1, none⟩ = some (.int .i64 a0_1) := (blk_cell BK377.out 1).trans rfl; have hcz12_2 : w11.cell? ⟨gb377, 2, none⟩ = some (.bool a0_2) := (blk_cell BK377.out 2).trans rfl; have hcz12_3 : w11.cell? ⟨gb377, 3, none⟩ = some (.int .i64 a0_3) := (blk_cell BK377.out 3).trans rfl; have hcz12_4 : w11.cell? ⟨gb377, 4, none⟩ = some (.string a0_4) := (blk_cell BK377.out 4).trans rfl; have hcz12_5 : w11.cell? ⟨gb377, 5, none⟩ = some (.int .i64 a0_5) := (blk_cell BK377.out 5).trans rfl; have hcz12_6 : w11.cell? ⟨gb377, 6, none⟩ = some (.int .i64 a0_6) := (blk_cell BK377.out 6).trans rfl; have hcz12_7 : w11.cell? ⟨gb377, 7, none⟩ = some (.int .i64 a0_7) := (blk_cell BK377.out 7).trans rfl; have hfz12_0 := blk_frozen BK377.out 0; have hfz12_1 := blk_frozen BK377.out 1; have hfz12_2 := blk_frozen BK377.out 2; have hfz12_3 := blk_frozen BK377.out 3; have hfz12_4 := blk_frozen BK377.out 4; have hfz12_5 := blk_frozen BK377.out 5; have hfz12_6 := blk_frozen BK377.out 6; have hfz12_7 := blk_frozen BK377.out 7))
    go_meet
    case rel => exact ⟨_, (decide (a0_1 > 999)), (by first | rfl | (simp; done) | exact congrArg Value.bool (ne_nil_b _) | exact congrArg Value.bool (eq_nil_b _) | (simp [*]; done)), H', ⟨by first | omega | exact Nat.le_refl _⟩, ⟨by (with_reducible repeat (first | refine blk_drewN ?_ _ | refine blk_drew ?_ | refine blk_alloc ?_ _)); exact BK377.out⟩, ⟨bz⟩⟩
  ·
   replace c5 := Bool.eq_false_iff.mpr c5
   subst c5
   rw [if_neg (show ¬ (false = true) by decide)] at H
   have H' := Aside0.mk H
   clear H
   have hcz13_0 : w3.cell? ⟨gb377, 0, none⟩ = some (.slice A0_0 l0_0.length c0_0) := (blk_cell BK377.out 0).trans rfl
   have hcz13_1 : w3.cell? ⟨gb377, 1, none⟩ = some (.int .i64 a0_1) := (blk_cell BK377.out 1).trans rfl
   have hcz13_2 : w3.cell? ⟨gb377, 2, none⟩ = some (.bool a0_2) := (blk_cell BK377.out 2).trans rfl
   have hcz13_3 : w3.cell? ⟨gb377, 3, none⟩ = some (.int .i64 a0_3) := (blk_cell BK377.out 3).trans rfl
   have hcz13_4 : w3.cell? ⟨gb377, 4, none⟩ = some (.string a0_4) := (blk_cell BK377.out 4).trans rfl
   have hcz13_5 : w3.cell? ⟨gb377, 5, none⟩ = some (.int .i64 a0_5) := (blk_cell BK377.out 5).trans rfl
   have hcz13_6 : w3.cell? ⟨gb377, 6, none⟩ = some (.int .i64 a0_6) := (blk_cell BK377.out 6).trans rfl
   have hcz13_7 : w3.cell? ⟨gb377, 7, none⟩ = some (.int .i64 a0_7) := (blk_cell BK377.out 7).trans rfl
   have hfz13_0 := blk_frozen BK377.out 0
   have hfz13_1 := blk_frozen BK377.out 1
   have hfz13_2 := blk_frozen BK377.out 2
   have hfz13_3 := blk_frozen BK377.out 3
   have hfz13_4 := blk_frozen BK377.out 4
   have hfz13_5 := blk_frozen BK377.out 5
   have hfz13_6 := blk_frozen BK377.out 6
   have hfz13_7 := blk_frozen BK377.out 7
   go_wp2_with (first | ((with_reducible refine gate_callee (f := 85) rfl ?_); refine goesL_ (some 5) rfl rfl Try.func85 (by kernel_rfl) rfl #[.slice A0_0 l0_0.length c0_0] rfl (by (try simp only [List.map_toArray, List.map_cons, List.map_nil]); first | done | rfl | (simp only [List.length_drop, List.length_take]; rfl)) ?_; (with_reducible refine (impl_CacheValid.calls k _ _ l0_0 false _ ?side1 ?side2 A4.out).mono ?_); (case side1 => repeat (first | exact (Kd.C_below HR0_0.out HB.out) | (with_reducible refine Kd.C_alloc ?_ _) | (with_reducible refine Kd.C_drewN ?_ _) | (with_reducible refine Kd.C_drew ?_))); (case side2 => exact HC0_0.out); rintro e w14 ⟨rfl, hb⟩; refine ⟨_, rfl, ?_⟩; have n0_ := bkb BK377 hb; have n1_ := Aside0.mk (below_step (bz) hb); clear BK377; clear HB; have BK377 := n0_; have HB := n1_; clear n0_ n1_; (try clear hb); (try clear hb2); (try clear hk); (try clear hi)))
   go_meet
   case rel => exact ⟨_, (true), (by first | rfl | (simp; done) | exact congrArg Value.bool (ne_nil_b _) | exact congrArg Value.bool (eq_nil_b _) | (simp [*]; done)), H', ⟨by first | omega | exact Nat.le_refl _⟩, ⟨by (with_reducible repeat (first | refine blk_drewN ?_ _ | refine blk_drew ?_ | refine blk_alloc ?_ _)); exact BK377.out⟩, ⟨bz⟩⟩
 case rest =>
  clear HC2
  try clear c2
  try clear p2
  try clear c5
  try clear c6
  try clear c6b0
  try clear c8
  try clear hcz10_0
  try clear hcz10_1
  try clear hcz10_2
  try clear hcz10_3
  try clear hcz10_4
  try clear hcz10_5
  try clear hcz10_6
  try clear hcz10_7
  try clear hcz12_0
  try clear hcz12_1
  try clear hcz12_2
  try clear hcz12_3
  try clear hcz12_4
  try clear hcz12_5
  try clear hcz12_6
  try clear hcz12_7
  try clear hcz13_0
  try clear hcz13_1
  try clear hcz13_2
  try clear hcz13_3
  try clear hcz13_4
  try clear hcz13_5
  try clear hcz13_6
  try clear hcz13_7
  try clear hcz7_0
  try clear hcz7_1
  try clear hcz7_2
  try clear hcz7_3
  try clear hcz7_4
  try clear hcz7_5
  try clear hcz7_6
  try clear hcz7_7
  try clear hcz9_0
  try clear hcz9_1
  try clear hcz9_2
  try clear hcz9_3
  try clear hcz9_4
  try clear hcz9_5
  try clear hcz9_6
  try clear hcz9_7
  try clear hfz10_0
  try clear hfz10_1
  try clear hfz10_2
  try clear hfz10_3
  try clear hfz10_4
  try clear hfz10_5
  try clear hfz10_6
  try clear hfz10_7
  try clear hfz12_0
  try clear hfz12_1
  try clear hfz12_2
  try clear hfz12_3
  try clear hfz12_4
  try clear hfz12_5
  try clear hfz12_6
  try clear hfz12_7
  try clear hfz13_0
  try clear hfz13_1
  try clear hfz13_2
  try clear hfz13_3
  try clear hfz13_4
  try clear hfz13_5
  try clear hfz13_6
  try clear hfz13_7
  try clear hfz7_0
  try clear hfz7_1
  try clear hfz7_2
  try clear hfz7_3
  try clear hfz7_4
  try clear hfz7_5
  try clear hfz7_6
  try clear hfz7_7
  try clear hfz9_0
  try clear hfz9_1
  try clear hfz9_2
  try clear hfz9_3
  try clear hfz9_4
  try clear hfz9_5
  try clear hfz9_6
  try clear hfz9_7
  obtain ⟨kq, x16_1, rfl, HA, HJ1, BK377, HB⟩ := hcut
  cases kq with
  | zero => exact absurd HA.out (by simp [impl_CallerValid.j0])
  | succ kj1 =>
   have H := HA.out
   clear HA
   simp only [impl_CallerValid.j0] at H
   by_cases c15 : x16_1 = true
   ·
    subst c15
    rw [if_pos rfl] at H
    obtain rfl := Option.some.inj H
    go_wp2
    go_ret
    exact ⟨by first | rfl | (simp only [u8w, w64m]; rfl) | (simp [errW_none, errW_some] <;> rfl) | (simp [*, errW_none, errW_some] <;> rfl), bz⟩
   ·
    replace c15 := Bool.eq_false_iff.mpr c15
    subst c15
    rw [if_neg (show ¬ (false = true) by decide)] at H
    by_cases c16 : a0_2 = true
    ·
     subst c16
     rw [if_pos rfl] at H
     by_cases c17 : a0_1 ≥ 1
     ·
      rw [if_pos c17] at H
      have c17b0 : decide (1 ≤ a0_1) = true := decide_eq_true c17
      clear c17
      replace H := Option.bind_eq_some_iff.mp H
      obtain ⟨t379, A180, H⟩ := H
      try dsimp only at H
      have A18 := Aside0.mk A180
      clear A180
      by_cases c19 : t379 = true
      ·
       subst c19
       rw [if_pos rfl] at H
       replace H := Option.bind_eq_some_iff.mp H
       obtain ⟨t380, A200, H⟩ := H
       try dsimp only at H
       have A20 := Aside0.mk A200
       clear A200
       obtain rfl := Option.some.inj H
       have hcz21_0 : wc.cell? ⟨gb377, 0, none⟩ = some (.slice A0_0 l0_0.length c0_0) := (blk_cell BK377.out 0).trans rfl
       have hcz21_1 : wc.cell? ⟨gb377, 1, none⟩ = some (.int .i64 a0_1) := (blk_cell BK377.out 1).trans rfl
       have hcz21_2 : wc.cell? ⟨gb377, 2, none⟩ = some (.bool true) := (blk_cell BK377.out 2).trans rfl
       have hcz21_3 : wc.cell? ⟨gb377, 3, none⟩ = some (.int .i64 a0_3) := (blk_cell BK377.out 3).trans rfl
       have hcz21_4 : wc.cell? ⟨gb377, 4, none⟩ = some (.string a0_4) := (blk_cell BK377.out 4).trans rfl
       have hcz21_5 : wc.cell? ⟨gb377, 5, none⟩ = some (.int .i64 a0_5) := (blk_cell BK377.out 5).trans rfl
       have hcz21_6 : wc.cell? ⟨gb377, 6, none⟩ = some (.int .i64 a0_6) := (blk_cell BK377.out 6).trans rfl
       have hcz21_7 : wc.cell? ⟨gb377, 7, none⟩ = some (.int .i64 a0_7) := (blk_cell BK377.out 7).trans rfl
       have hfz21_0 := blk_frozen BK377.out 0
       have hfz21_1 := blk_frozen BK377.out 1
       have hfz21_2 := blk_frozen BK377.out 2
       have hfz21_3 := blk_frozen BK377.out 3
       have hfz21_4 := blk_frozen BK377.out 4
       have hfz21_5 := blk_frozen BK377.out 5
       have hfz21_6 := blk_frozen BK377.out 6
       have hfz21_7 := blk_frozen BK377.out 7
       go_wp2_with (first | (go_at_call 86; (with_reducible refine (impl_wishValid.calls kj1 a0_3 a0_4 a0_5 a0_6 true _ A18.out).mono ?_); rintro e w22 ⟨rfl, hb⟩; have n0_ := bkb BK377 hb; have n1_ := Aside0.mk (below_step (bz) hb); clear BK377; clear HB; have BK377 := n0_; have HB := n1_; clear n0_ n1_; (try clear hb); (try clear hb2); (try clear hk); (try clear hi); have hcz23_0 : w22.cell? ⟨gb377, 0, none⟩ = some (.slice A0_0 l0_0.length c0_0) := (blk_cell BK377.out 0).trans rfl; have hcz23_1 : w22.cell? ⟨gb377, 1, none⟩ = some (.int .i64 a0_1) := (blk_cell BK377.out 1).trans rfl; have hcz23_2 : w22.cell? ⟨gb377, 2, none⟩ = some (.bool true) := (blk_cell BK377.out 2).trans rfl; have hcz23_3 : w22.cell? ⟨gb377, 3, none⟩ = some (.int .i64 a0_3) := (blk_cell BK377.out 3).trans rfl; have hcz23_4 : w22.cell? ⟨gb377, 4, none⟩ = some (.string a0_4) := (blk_cell BK377.out 4).trans rfl; have hcz23_5 : w22.cell? ⟨gb377, 5, none⟩ = some (.int .i64 a0_5) := (blk_cell BK377.out 5).trans rfl; have hcz23_6 : w22.cell? ⟨gb377, 6, none⟩ = some (.int .i64 a0_6) := (blk_cell BK377.out 6).trans rfl; have hcz23_7 : w22.cell? ⟨gb377, 7, none⟩ = some (.int .i64 a0_7) := (blk_cell BK377.out 7).trans rfl; have hfz23_0 := blk_frozen BK377.out 0; have hfz23_1 := blk_frozen BK377.out 1; have hfz23_2 := blk_frozen BK377.out 2; have hfz23_3 := blk_frozen BK377.out 3; have hfz23_4 := blk_frozen BK377.out 4; have hfz23_5 := blk_frozen BK377.out 5; have hfz23_6 := blk_frozen BK377.out 6; have hfz23_7 := blk_frozen BK377.out 7) | (go_at_call 87; (with_reducible refine (impl_timeValid.calls a0_7 t380 _ A20.out).mono ?_); rintro e w' ⟨rfl, ⟨nd, rfl⟩⟩))
       go_ret
       exact ⟨by first | rfl | (simp only [u8w, w64m]; rfl) | (simp [errW_none, errW_some] <;> rfl) | (simp [*, errW_none, errW_some] <;> rfl), bz⟩
      ·
       replace c19 := Bool.eq_false_iff.mpr c19
       subst c19
       rw [if_neg (show ¬ (false = true) by decide)] at H
       obtain rfl := Option.some.inj H
       have hcz24_0 : wc.cell? ⟨gb377, 0, none⟩ = some (.slice A0_0 l0_0.length c0_0) := (blk_cell BK377.out 0).trans rfl
       have hcz24_1 : wc.cell? ⟨gb377, 1, none⟩ = some (.int .i64 a0_1) := (blk_cell BK377.out 1).trans rfl
       have hcz24_2 : wc.cell? ⟨gb377, 2, none⟩ = some (.bool true) := (blk_cell BK377.out 2).trans rfl
       have hcz24_3 : wc.cell? ⟨gb377, 3, none⟩ = some (.int .i64 a0_3) := (blk_cell BK377.out 3).trans rfl
       have hcz24_4 : wc.cell? ⟨gb377, 4, none⟩ = some (.string a0_4) := (blk_cell BK377.out 4).trans rfl
       have hcz24_5 : wc.cell? ⟨gb377, 5, none⟩ = some (.int .i64 a0_5) := (blk_cell BK377.out 5).trans rfl
       have hcz24_6 : wc.cell? ⟨gb377, 6, none⟩ = some (.int .i64 a0_6) := (blk_cell BK377.out 6).trans rfl
       have hcz24_7 : wc.cell? ⟨gb377, 7, none⟩ = some (.int .i64 a0_7) := (blk_cell BK377.out 7).trans rfl
       have hfz24_0 := blk_frozen BK377.out 0
       have hfz24_1 := blk_frozen BK377.out 1
       have hfz24_2 := blk_frozen BK377.out 2
       have hfz24_3 := blk_frozen BK377.out 3
       have hfz24_4 := blk_frozen BK377.out 4
       have hfz24_5 := blk_frozen BK377.out 5
       have hfz24_6 := blk_frozen BK377.out 6
       have hfz24_7 := blk_frozen BK377.out 7
       go_wp2_with (first | (go_at_call 86; (with_reducible refine (impl_wishValid.calls kj1 a0_3 a0_4 a0_5 a0_6 false _ A18.out).mono ?_); rintro e w25 ⟨rfl, hb⟩; have n0_ := bkb BK377 hb; have n1_ := Aside0.mk (below_step (bz) hb); clear BK377; clear HB; have BK377 := n0_; have HB := n1_; clear n0_ n1_; (try clear hb); (try clear hb2); (try clear hk); (try clear hi)))
       go_ret
       exact ⟨by first | rfl | (simp only [u8w, w64m]; rfl) | (simp [errW_none, errW_some] <;> rfl) | (simp [*, errW_none, errW_some] <;> rfl), bz⟩
     ·
      rw [if_neg c17] at H
      have c17b0 : decide (1 ≤ a0_1) = false := decide_eq_false c17
      clear c17
      obtain rfl := Option.some.inj H
      have hcz26_0 : wc.cell? ⟨gb377, 0, none⟩ = some (.slice A0_0 l0_0.length c0_0) := (blk_cell BK377.out 0).trans rfl
      have hcz26_1 : wc.cell? ⟨gb377, 1, none⟩ = some (.int .i64 a0_1) := (blk_cell BK377.out 1).trans rfl
      have hcz26_2 : wc.cell? ⟨gb377, 2, none⟩ = some (.bool true) := (blk_cell BK377.out 2).trans rfl
      have hcz26_3 : wc.cell? ⟨gb377, 3, none⟩ = some (.int .i64 a0_3) := (blk_cell BK377.out 3).trans rfl
      have hcz26_4 : wc.cell? ⟨gb377, 4, none⟩ = some (.string a0_4) := (blk_cell BK377.out 4).trans rfl
      have hcz26_5 : wc.cell? ⟨gb377, 5, none⟩ = some (.int .i64 a0_5) := (blk_cell BK377.out 5).trans rfl
      have hcz26_6 : wc.cell? ⟨gb377, 6, none⟩ = some (.int .i64 a0_6) := (blk_cell BK377.out 6).trans rfl
      have hcz26_7 : wc.cell? ⟨gb377, 7, none⟩ = some (.int .i64 a0_7) := (blk_cell BK377.out 7).trans rfl
      have hfz26_0 := blk_frozen BK377.out 0
      have hfz26_1 := blk_frozen BK377.out 1
      have hfz26_2 := blk_frozen BK377.out 2
      have hfz26_3 := blk_frozen BK377.out 3
      have hfz26_4 := blk_frozen BK377.out 4
      have hfz26_5 := blk_frozen BK377.out 5
      have hfz26_6 := blk_frozen BK377.out 6
      have hfz26_7 := blk_frozen BK377.out 7
      go_wp2
      go_ret
      exact ⟨by first | rfl | (simp only [u8w, w64m]; rfl) | (simp [errW_none, errW_some] <;> rfl) | (simp [*, errW_none, errW_some] <;> rfl), bz⟩
    ·
     replace c16 := Bool.eq_false_iff.mpr c16
     subst c16
     rw [if_neg (show ¬ (false = true) by decide)] at H
     by_cases c27 : (a0_3 == 0 && (a0_4.toList == ([] : List UInt8) && (a0_5 == 0 && (a0_6 == 0)))) = true
     ·
      rw [if_pos c27] at H
      have c27b0 : (a0_3 == 0 && (a0_4.toList == ([] : List UInt8) && (a0_5 == 0 && (a0_6 == 0)))) = true := c27
      (try (have c27b1 : decide (a0_3 = 0 && (a0_4.toList == ([] : List UInt8) && (a0_5 == 0 && (a0_6 == 0)))) = true := by simpa using c27))
      (try (have c27b2 : (a0_3 == 0 && (a0_4.toList == ([] : List UInt8) && (a0_5 == 0 && (a0_6 == 0)))) = true := by simpa using c27))
      (try (have c27b9 := c27b0; simp only [← eq_nil_b] at c27b9))
      clear c27
      obtain rfl := Option.some.inj H
      have hcz28_0 : wc.cell? ⟨gb377, 0, none⟩ = some (.slice A0_0 l0_0.length c0_0) := (blk_cell BK377.out 0).trans rfl
      have hcz28_1 : wc.cell? ⟨gb377, 1, none⟩ = some (.int .i64 a0_1) := (blk_cell BK377.out 1).trans rfl
      have hcz28_2 : wc.cell? ⟨gb377, 2, none⟩ = some (.bool false) := (blk_cell BK377.out 2).trans rfl
      have hcz28_3 : wc.cell? ⟨gb377, 3, none⟩ = some (.int .i64 a0_3) := (blk_cell BK377.out 3).trans rfl
      have hcz28_4 : wc.cell? ⟨gb377, 4, none⟩ = some (.string a0_4) := (blk_cell BK377.out 4).trans rfl
      have hcz28_5 : wc.cell? ⟨gb377, 5, none⟩ = some (.int .i64 a0_5) := (blk_cell BK377.out 5).trans rfl
      have hcz28_6 : wc.cell? ⟨gb377, 6, none⟩ = some (.int .i64 a0_6) := (blk_cell BK377.out 6).trans rfl
      have hcz28_7 : wc.cell? ⟨gb377, 7, none⟩ = some (.int .i64 a0_7) := (blk_cell BK377.out 7).trans rfl
      have hfz28_0 := blk_frozen BK377.out 0
      have hfz28_1 := blk_frozen BK377.out 1
      have hfz28_2 := blk_frozen BK377.out 2
      have hfz28_3 := blk_frozen BK377.out 3
      have hfz28_4 := blk_frozen BK377.out 4
      have hfz28_5 := blk_frozen BK377.out 5
      have hfz28_6 := blk_frozen BK377.out 6
      have hfz28_7 := blk_frozen BK377.out 7
      go_wp2
      go_ret
      exact ⟨by first | rfl | (simp only [u8w, w64m]; rfl) | (simp [errW_none, errW_some] <;> rfl) | (simp [*, errW_none, errW_some] <;> rfl), bz⟩
     ·
      rw [if_neg c27] at H
      have c27b0 : (a0_3 == 0 && (a0_4.toList == ([] : List UInt8) && (a0_5 == 0 && (a0_6 == 0)))) = false := by simpa using c27
      (try (have c27b1 : decide (a0_3 = 0 && (a0_4.toList == ([] : List UInt8) && (a0_5 == 0 && (a0_6 == 0)))) = false := by simpa using c27))
      (try (have c27b2 : (a0_3 == 0 && (a0_4.toList == ([] : List UInt8) && (a0_5 == 0 && (a0_6 == 0)))) = false := by simpa using c27))
      (try (have c27b3 : ¬ (a0_3 = 0 && (a0_4.toList == ([] : List UInt8) && (a0_5 == 0 && (a0_6 == 0)))) := by simpa using c27))
      (try (have c27b9 := c27b0; simp only [← eq_nil_b] at c27b9))
      clear c27
      obtain rfl := Option.some.inj H
      have hcz29_0 : wc.cell? ⟨gb377, 0, none⟩ = some (.slice A0_0 l0_0.length c0_0) := (blk_cell BK377.out 0).trans rfl
      have hcz29_1 : wc.cell? ⟨gb377, 1, none⟩ = some (.int .i64 a0_1) := (blk_cell BK377.out 1).trans rfl
      have hcz29_2 : wc.cell? ⟨gb377, 2, none⟩ = some (.bool false) := (blk_cell BK377.out 2).trans rfl
      have hcz29_3 : wc.cell? ⟨gb377, 3, none⟩ = some (.int .i64 a0_3) := (blk_cell BK377.out 3).trans rfl
      have hcz29_4 : wc.cell? ⟨gb377, 4, none⟩ = some (.string a0_4) := (blk_cell BK377.out 4).trans rfl
      have hcz29_5 : wc.cell? ⟨gb377, 5, none⟩ = some (.int .i64 a0_5) := (blk_cell BK377.out 5).trans rfl
      have hcz29_6 : wc.cell? ⟨gb377, 6, none⟩ = some (.int .i64 a0_6) := (blk_cell BK377.out 6).trans rfl
      have hcz29_7 : wc.cell? ⟨gb377, 7, none⟩ = some (.int .i64 a0_7) := (blk_cell BK377.out 7).trans rfl
      have hfz29_0 := blk_frozen BK377.out 0
      have hfz29_1 := blk_frozen BK377.out 1
      have hfz29_2 := blk_frozen BK377.out 2
      have hfz29_3 := blk_frozen BK377.out 3
      have hfz29_4 := blk_frozen BK377.out 4
      have hfz29_5 := blk_frozen BK377.out 5
      have hfz29_6 := blk_frozen BK377.out 6
      have hfz29_7 := blk_frozen BK377.out 7
      go_wp2
      go_ret
      exact ⟨by first | rfl | (simp only [u8w, w64m]; rfl) | (simp [errW_none, errW_some] <;> rfl) | (simp [*, errW_none, errW_some] <;> rfl), bz⟩

/-! ### impl_RequestOf: function 27 -/
def impl_RequestOf.f (k : Nat) (l0_0 : List (S35)) (a0_1 : Int) (a0_2 : Bool) (a0_3 : Int) (a0_4 : ByteArray) (a0_5 : Int) (a0_6 : Int) (a0_7 : Int) (a1 : Int) : Option (Int × Int × Int × ByteArray × Int × Int × Bool) := (impl_CallerValid.f k l0_0 a0_1 a0_2 a0_3 a0_4 a0_5 a0_6 a0_7).bind fun t383 => (if t383 = true then (if a0_2 = true then (if a1 < 0 then (some (0, 0, 0, (⟨#[]⟩ : ByteArray), 0, 0, false)) else (if a1 ≥ 4 then (some (0, 0, 0, (⟨#[]⟩ : ByteArray), 0, 0, false)) else (some (a1, a0_1, a0_3, a0_4, a0_5, a0_6, true)))) else (some (0, 0, 0, (⟨#[]⟩ : ByteArray), 0, 0, false))) else (some (0, 0, 0, (⟨#[]⟩ : ByteArray), 0, 0, false)))
theorem impl_RequestOf.mono : ∀ a0 a1 a2 a3 a4 a5 a6 a7 a8 k, LeO (impl_RequestOf.f k a0 a1 a2 a3 a4 a5 a6 a7 a8) (impl_RequestOf.f (k + 1) a0 a1 a2 a3 a4 a5 a6 a7 a8) := by
 intro a0 a1 a2 a3 a4 a5 a6 a7 a8 k
 unfold impl_RequestOf.f
 repeat' first
   | (with_reducible exact impl_CallerValid.mono _ _ _ _ _ _ _ _ _)
   | (with_reducible exact LeO.refl _)
   | (with_reducible exact LeO.none _)
   | (with_reducible refine LeO.ite ?_ ?_)
   | (with_reducible refine LeO.bind ?_ (fun _ => ?_))
   | exact impl_CallerValid.mono _ _ _ _ _ _ _ _ _
   | exact LeO.none _
   | refine LeO.ite ?_ ?_
   | refine LeO.bind ?_ (fun _ => ?_)
set_option maxHeartbeats 8000000 in
set_option maxRecDepth 100000 in
theorem impl_RequestOf.calls (k : Nat) (A0_0 : Option Addr) (c0_0 : Nat) (l0_0 : List (S35)) (a0_1 : Int) (a0_2 : Bool) (a0_3 : Int) (a0_4 : ByteArray) (a0_5 : Int) (a0_6 : Int) (a0_7 : Int) (a1 : Int) (r1 : Int) (r2 : Int) (r3 : Int) (r4 : ByteArray) (r5 : Int) (r6 : Int) (r7 : Bool) (w : World) (hr0_0 : Kd.C k35 w A0_0 l0_0.length l0_0) (hc0_0 : l0_0.length ≤ c0_0) (h : impl_RequestOf.f k l0_0 a0_1 a0_2 a0_3 a0_4 a0_5 a0_6 a0_7 a1 = some (r1, r2, r3, r4, r5, r6, r7)) :
  Calls Try.prog 27 #[.agg #[.slice A0_0 l0_0.length c0_0, .int .i64 a0_1, .bool a0_2, .int .i64 a0_3, .string a0_4, .int .i64 a0_5, .int .i64 a0_6, .int .i64 a0_7], .int .i64 a1] w fun e w' => e = .returned (.tuple #[.agg #[.int .i64 r1, .int .i64 r2, .int .i64 r3, .string r4, .int .i64 r5, .int .i64 r6], .bool r7]) ∧ Below w.heap.size w w' := by
 have hu41 := Try.underlying41
 have hu47 := Try.underlying47
 have hu39 := Try.underlying39
 have HR0_0 := Aside0.mk hr0_0
 have HC0_0 := Aside0.mk hc0_0
 clear hr0_0 hc0_0
 have HB := Aside0.mk (Below.refl w.heap.size w)
 have H : ((impl_CallerValid.f k l0_0 a0_1 a0_2 a0_3 a0_4 a0_5 a0_6 a0_7).bind fun t383 => (if t383 = true then (if a0_2 = true then (if a1 < 0 then (some (0, 0, 0, (⟨#[]⟩ : ByteArray), 0, 0, false)) else (if a1 ≥ 4 then (some (0, 0, 0, (⟨#[]⟩ : ByteArray), 0, 0, false)) else (some (a1, a0_1, a0_3, a0_4, a0_5, a0_6, true)))) else (some (0, 0, 0, (⟨#[]⟩ : ByteArray), 0, 0, false))) else (some (0, 0, 0, (⟨#[]⟩ : ByteArray), 0, 0, false)))) = some (r1, r2, r3, r4, r5, r6, r7) := h
 clear h
 replace H := Option.bind_eq_some_iff.mp H
 obtain ⟨t383, A30, H⟩ := H
 try dsimp only at H
 have A3 := Aside0.mk A30
 clear A30
 by_cases c4 : t383 = true
 ·
  subst c4
  rw [if_pos rfl] at H
  by_cases c5 : a0_2 = true
  ·
   subst c5
   rw [if_pos rfl] at H
   by_cases c6 : a1 < 0
   ·
    rw [if_pos c6] at H
    have c6b0 : decide (a1 < 0) = true := decide_eq_true c6
    clear c6
    simp only [Option.some.injEq, Prod.mk.injEq] at H
    obtain ⟨rfl, rfl, rfl, rfl, rfl, rfl, rfl⟩ := H
    go_enter Try.func27, Try.ntmps27
    go_wp2_with (first | ((with_reducible refine gate_dst (N := 2) rfl ?_); refine box_event ?hg (N := 2) ?hd (cs := #[.slice A0_0 l0_0.length c0_0, .int .i64 a0_1, .bool true, .int .i64 a0_3, .string a0_4, .int .i64 a0_5, .int .i64 a0_6, .int .i64 a0_7]) (t := 41) ?hr ?_; (case hd => rfl); (case hg => rfl); (case hr => first | (go_simp; done) | (go_simp; rfl)); intro gb381 hg w7 hbox hb; have n0_ := Aside0.mk (below_step (bz) hb); have n1_ := Aside0.mk (hbox); have n2_ : Aside0 (w.heap.size ≤ gb381) := bsg hg; have n3_ : Aside0 (w.heap.size ≤ gb381) := bsg hg; clear HB; have HB := n0_; have BK381 := n1_; have GW381 := n2_; have GE381 := n3_; clear n0_ n1_ n2_ n3_; clear hb hbox hg) | ((with_reducible refine gate_dst (N := 4) rfl ?_); refine box_event ?hg (N := 4) ?hd (cs := #[.int .i64 0, .int .i64 0, .int .i64 0, .string (⟨#[]⟩ : ByteArray), .int .i64 0, .int .i64 0]) (t := 47) ?hr ?_; (case hd => rfl); (case hg => rfl); (case hr => first | (go_simp; done) | (go_simp; rfl)); intro gb382 hg w8 hbox hb; have n0_ := bkb BK381 hb; have n1_ := Aside0.mk (below_step (bz) hb); have n2_ := Aside0.mk (hbox); have n3_ : Aside0 (w.heap.size ≤ gb382) := bsg hg; have n4_ : Aside0 (w.heap.size ≤ gb382) := bsg hg; have n5_ := nlt hg BK381; have n6_ := ngt hg BK381; clear BK381; clear HB; have BK381 := n0_; have HB := n1_; have BK382 := n2_; have GW382 := n3_; have GE382 := n4_; have NB381_382 := n5_; have NB382_381 := n6_; clear n0_ n1_ n2_ n3_ n4_ n5_ n6_; clear hb hbox hg; have hnb9 := NB381_382.out; have hnc9 := NB382_381.out; have hcz10_0 : w8.cell? ⟨gb381, 0, none⟩ = some (.slice A0_0 l0_0.length c0_0) := (blk_cell BK381.out 0).trans rfl; have hcz10_1 : w8.cell? ⟨gb381, 1, none⟩ = some (.int .i64 a0_1) := (blk_cell BK381.out 1).trans rfl; have hcz10_2 : w8.cell? ⟨gb381, 2, none⟩ = some (.bool true) := (blk_cell BK381.out 2).trans rfl; have hcz10_3 : w8.cell? ⟨gb381, 3, none⟩ = some (.int .i64 a0_3) := (blk_cell BK381.out 3).trans rfl; have hcz10_4 : w8.cell? ⟨gb381, 4, none⟩ = some (.string a0_4) := (blk_cell BK381.out 4).trans rfl; have hcz10_5 : w8.cell? ⟨gb381, 5, none⟩ = some (.int .i64 a0_5) := (blk_cell BK381.out 5).trans rfl; have hcz10_6 : w8.cell? ⟨gb381, 6, none⟩ = some (.int .i64 a0_6) := (blk_cell BK381.out 6).trans rfl; have hcz10_7 : w8.cell? ⟨gb381, 7, none⟩ = some (.int .i64 a0_7) := (blk_cell BK381.out 7).trans rfl; have hfz10_0 := blk_frozen BK381.out 0; have hfz10_1 := blk_frozen BK381.out 1; have hfz10_2 := blk_frozen BK381.out 2; have hfz10_3 := blk_frozen BK381.out 3; have hfz10_4 := blk_frozen BK381.out 4; have hfz10_5 := blk_frozen BK381.out 5; have hfz10_6 := blk_frozen BK381.out 6; have hfz10_7 := blk_frozen BK381.out 7) | ((with_reducible refine gate_callee (f := 24) rfl ?_); refine goesL_ (some 7) rfl rfl Try.func24 (by kernel_rfl) rfl #[.agg #[.slice A0_0 l0_0.length c0_0, .int .i64 a0_1, .bool true, .int .i64 a0_3, .string a0_4, .int .i64 a0_5, .int .i64 a0_6, .int .i64 a0_7]] rfl (by (try simp only [List.map_toArray, List.map_cons, List.map_nil]); first | done | rfl | (simp only [List.length_drop, List.length_take]; rfl)) ?_; (with_reducible refine (impl_CallerValid.calls k _ _ l0_0 a0_1 true a0_3 a0_4 a0_5 a0_6 a0_7 true _ ?side1 ?side2 A3.out).mono ?_); (case side1 => repeat (first | exact (Kd.C_below HR0_0.out HB.out) | (with_reducible refine Kd.C_alloc ?_ _) | (with_reducible refine Kd.C_drewN ?_ _) | (with_reducible refine Kd.C_drew ?_))); (case side2 => exact HC0_0.out); rintro e w11 ⟨rfl, hb⟩; refine ⟨_, rfl, ?_⟩; have n0_ := bkb BK381 hb; have n1_ := bkb BK382 hb; have n2_ := Aside0.mk (below_step (bz) hb); clear BK381; clear BK382; clear HB; have BK381 := n0_; have BK382 := n1_; have HB := n2_; clear n0_ n1_ n2_; (try clear hb); (try clear hb2); (try clear hk); (try clear hi); have hcz12_0 : w11.cell? ⟨gb381, 0, none⟩ = some (.slice A0_0 l0_0.length c0_0) := (blk_cell BK381.out 0).trans rfl; have hcz12_1 : w11.cell? ⟨gb381, 1, none⟩ = some (.int .i64 a0_1) := (blk_cell BK381.out 1).trans rfl; have hcz12_2 : w11.cell? ⟨gb381, 2, none⟩ = some (.bool true) := (blk_cell BK381.out 2).trans rfl; have hcz12_3 : w11.cell? ⟨gb381, 3, none⟩ = some (.int .i64 a0_3) := (blk_cell BK381.out 3).trans rfl; have hcz12_4 : w11.cell? ⟨gb381, 4, none⟩ = some (.string a0_4) := (blk_cell BK381.out 4).trans rfl; have hcz12_5 : w11.cell? ⟨gb381, 5, none⟩ = some (.int .i64 a0_5) := (blk_cell BK381.out 5).trans rfl; have hcz12_6 : w11.cell? ⟨gb381, 6, none⟩ = some (.int .i64 a0_6) := (blk_cell BK381.out 6).trans rfl; have hcz12_7 : w11.cell? ⟨gb381, 7, none⟩ = some (.int .i64 a0_7) := (blk_cell BK381.out 7).trans rfl; have hfz12_0 := blk_frozen BK381.out 0; have hfz12_1 := blk_frozen BK381.out 1; have hfz12_2 := blk_frozen BK381.out 2; have hfz12_3 := blk_frozen BK381.out 3; have hfz12_4 := blk_frozen BK381.out 4; have hfz12_5 := blk_frozen BK381.out 5; have hfz12_6 := blk_frozen BK381.out 6; have hfz12_7 := blk_frozen BK381.out 7; have hcz13_0 : w11.cell? ⟨gb382, 0, none⟩ = some (.int .i64 0) := (blk_cell BK382.out 0).trans rfl; have hcz13_1 : w11.cell? ⟨gb382, 1, none⟩ = some (.int .i64 0) := (blk_cell BK382.out 1).trans rfl; have hcz13_2 : w11.cell? ⟨gb382, 2, none⟩ = some (.int .i64 0) := (blk_cell BK382.out 2).trans rfl; have hcz13_3 : w11.cell? ⟨gb382, 3, none⟩ = some (.string (⟨#[]⟩ : ByteArray)) := (blk_cell BK382.out 3).trans rfl; have hcz13_4 : w11.cell? ⟨gb382, 4, none⟩ = some (.int .i64 0) := (blk_cell BK382.out 4).trans rfl; have hcz13_5 : w11.cell? ⟨gb382, 5, none⟩ = some (.int .i64 0) := (blk_cell BK382.out 5).trans rfl; have hfz13_0 := blk_frozen BK382.out 0; have hfz13_1 := blk_frozen BK382.out 1; have hfz13_2 := blk_frozen BK382.out 2; have hfz13_3 := blk_frozen BK382.out 3; have hfz13_4 := blk_frozen BK382.out 4; have hfz13_5 := blk_frozen BK382.out 5))
    refine bodyPost_ret (results_ct rfl _ _ gb382 47 #[.int .i64 0, .int .i64 0, .int .i64 0, .string (⟨#[]⟩ : ByteArray), .int .i64 0, .int .i64 0] (0, 0) _ rfl (by (with_reducible repeat (first | refine blk_drewN ?_ _ | refine blk_drew ?_ | refine blk_alloc ?_ _)); refine blk_put (cs := #[.int .i64 0, .int .i64 0, .int .i64 0, .string (⟨#[]⟩ : ByteArray), .int .i64 0, .int .i64 0]) ?_ 5 _ rfl; (with_reducible repeat (first | refine blk_drewN ?_ _ | refine blk_drew ?_ | refine blk_alloc ?_ _)); refine blk_put (cs := #[.int .i64 0, .int .i64 0, .int .i64 0, .string (⟨#[]⟩ : ByteArray), .int .i64 0, .int .i64 0]) ?_ 4 _ rfl; (with_reducible repeat (first | refine blk_drewN ?_ _ | refine blk_drew ?_ | refine blk_alloc ?_ _)); refine blk_put (cs := #[.int .i64 0, .int .i64 0, .int .i64 0, .string (⟨#[]⟩ : ByteArray), .int .i64 0, .int .i64 0]) ?_ 3 _ rfl; (with_reducible repeat (first | refine blk_drewN ?_ _ | refine blk_drew ?_ | refine blk_alloc ?_ _)); refine blk_put (cs := #[.int .i64 0, .int .i64 0, .int .i64 0, .string (⟨#[]⟩ : ByteArray), .int .i64 0, .int .i64 0]) ?_ 2 _ rfl; (with_reducible repeat (first | refine blk_drewN ?_ _ | refine blk_drew ?_ | refine blk_alloc ?_ _)); refine blk_put (cs := #[.int .i64 0, .int .i64 0, .int .i64 0, .string (⟨#[]⟩ : ByteArray), .int .i64 0, .int .i64 0]) ?_ 1 _ rfl; (with_reducible repeat (first | refine blk_drewN ?_ _ | refine blk_drew ?_ | refine blk_alloc ?_ _)); refine blk_put (cs := #[.int .i64 0, .int .i64 0, .int .i64 0, .string (⟨#[]⟩ : ByteArray), .int .i64 0, .int .i64 0]) ?_ 0 _ rfl; (with_reducible repeat (first | refine blk_drewN ?_ _ | refine blk_drew ?_ | refine blk_alloc ?_ _)); exact BK382.out) Try.underlying47 rfl (by kernel_rfl)) rfl ?_
    exact ⟨by first | rfl | (simp only [u8w, w64m]; rfl) | (simp [errW_none, errW_some] <;> rfl) | (simp [*, errW_none, errW_some] <;> rfl), bz⟩
   ·
    rw [if_neg c6] at H
    have c6b0 : decide (a1 < 0) = false := decide_eq_false c6
    clear c6
    by_cases c14 : a1 ≥ 4
    ·
     rw [if_pos c14] at H
     have c14b0 : decide (4 ≤ a1) = true := decide_eq_true c14
     clear c14
     simp only [Option.some.injEq, Prod.mk.injEq] at H
     obtain ⟨rfl, rfl, rfl, rfl, rfl, rfl, rfl⟩ := H
     go_enter Try.func27, Try.ntmps27
     go_wp2_with (first | ((with_reducible refine gate_dst (N := 2) rfl ?_); refine box_event ?hg (N := 2) ?hd (cs := #[.slice A0_0 l0_0.length c0_0, .int .i64 a0_1, .bool true, .int .i64 a0_3, .string a0_4, .int .i64 a0_5, .int .i64 a0_6, .int .i64 a0_7]) (t := 41) ?hr ?_; (case hd => rfl); (case hg => rfl); (case hr => first | (go_simp; done) | (go_simp; rfl)); intro gb381 hg w15 hbox hb; have n0_ := Aside0.mk (below_step (bz) hb); have n1_ := Aside0.mk (hbox); have n2_ : Aside0 (w.heap.size ≤ gb381) := bsg hg; have n3_ : Aside0 (w.heap.size ≤ gb381) := bsg hg; clear HB; have HB := n0_; have BK381 := n1_; have GW381 := n2_; have GE381 := n3_; clear n0_ n1_ n2_ n3_; clear hb hbox hg) | ((with_reducible refine gate_dst (N := 4) rfl ?_); refine box_event ?hg (N := 4) ?hd (cs := #[.int .i64 0, .int .i64 0, .int .i64 0, .string (⟨#[]⟩ : ByteArray), .int .i64 0, .int .i64 0]) (t := 47) ?hr ?_; (case hd => rfl); (case hg => rfl); (case hr => first | (go_simp; done) | (go_simp; rfl)); intro gb382 hg w16 hbox hb; have n0_ := bkb BK381 hb; have n1_ := Aside0.mk (below_step (bz) hb); have n2_ := Aside0.mk (hbox); have n3_ : Aside0 (w.heap.size ≤ gb382) := bsg hg; have n4_ : Aside0 (w.heap.size ≤ gb382) := bsg hg; have n5_ := nlt hg BK381; have n6_ := ngt hg BK381; clear BK381; clear HB; have BK381 := n0_; have HB := n1_; have BK382 := n2_; have GW382 := n3_; have GE382 := n4_; have NB381_382 := n5_; have NB382_381 := n6_; clear n0_ n1_ n2_ n3_ n4_ n5_ n6_; clear hb hbox hg; have hnb17 := NB381_382.out; have hnc17 := NB382_381.out; have hcz18_0 : w16.cell? ⟨gb381, 0, none⟩ = some (.slice A0_0 l0_0.length c0_0) := (blk_cell BK381.out 0).trans rfl; have hcz18_1 : w16.cell? ⟨gb381, 1, none⟩ = some (.int .i64 a0_1) := (blk_cell BK381.out 1).trans rfl; have hcz18_2 : w16.cell? ⟨gb381, 2, none⟩ = some (.bool true) := (blk_cell BK381.out 2).trans rfl; have hcz18_3 : w16.cell? ⟨gb381, 3, none⟩ = some (.int .i64 a0_3) := (blk_cell BK381.out 3).trans rfl; have hcz18_4 : w16.cell? ⟨gb381, 4, none⟩ = some (.string a0_4) := (blk_cell BK381.out 4).trans rfl; have hcz18_5 : w16.cell? ⟨gb381, 5, none⟩ = some (.int .i64 a0_5) := (blk_cell BK381.out 5).trans rfl; have hcz18_6 : w16.cell? ⟨gb381, 6, none⟩ = some (.int .i64 a0_6) := (blk_cell BK381.out 6).trans rfl; have hcz18_7 : w16.cell? ⟨gb381, 7, none⟩ = some (.int .i64 a0_7) := (blk_cell BK381.out 7).trans rfl; have hfz18_0 := blk_frozen BK381.out 0; have hfz18_1 := blk_frozen BK381.out 1; have hfz18_2 := blk_frozen BK381.out 2; have hfz18_3 := blk_frozen BK381.out 3; have hfz18_4 := blk_frozen BK381.out 4; have hfz18_5 := blk_frozen BK381.out 5; have hfz18_6 := blk_frozen BK381.out 6; have hfz18_7 := blk_frozen BK381.out 7) | ((with_reducible refine gate_callee (f := 24) rfl ?_); refine goesL_ (some 7) rfl rfl Try.func24 (by kernel_rfl) rfl #[.agg #[.slice A0_0 l0_0.length c0_0, .int .i64 a0_1, .bool true, .int .i64 a0_3, .string a0_4, .int .i64 a0_5, .int .i64 a0_6, .int .i64 a0_7]] rfl (by (try simp only [List.map_toArray, List.map_cons, List.map_nil]); first | done | rfl | (simp only [List.length_drop, List.length_take]; rfl)) ?_; (with_reducible refine (impl_CallerValid.calls k _ _ l0_0 a0_1 true a0_3 a0_4 a0_5 a0_6 a0_7 true _ ?side1 ?side2 A3.out).mono ?_); (case side1 => repeat (first | exact (Kd.C_below HR0_0.out HB.out) | (with_reducible refine Kd.C_alloc ?_ _) | (with_reducible refine Kd.C_drewN ?_ _) | (with_reducible refine Kd.C_drew ?_))); (case side2 => exact HC0_0.out); rintro e w19 ⟨rfl, hb⟩; refine ⟨_, rfl, ?_⟩; have n0_ := bkb BK381 hb; have n1_ := bkb BK382 hb; have n2_ := Aside0.mk (below_step (bz) hb); clear BK381; clear BK382; clear HB; have BK381 := n0_; have BK382 := n1_; have HB := n2_; clear n0_ n1_ n2_; (try clear hb); (try clear hb2); (try clear hk); (try clear hi); have hcz20_0 : w19.cell? ⟨gb381, 0, none⟩ = some (.slice A0_0 l0_0.length c0_0) := (blk_cell BK381.out 0).trans rfl; have hcz20_1 : w19.cell? ⟨gb381, 1, none⟩ = some (.int .i64 a0_1) := (blk_cell BK381.out 1).trans rfl; have hcz20_2 : w19.cell? ⟨gb381, 2, none⟩ = some (.bool true) := (blk_cell BK381.out 2).trans rfl; have hcz20_3 : w19.cell? ⟨gb381, 3, none⟩ = some (.int .i64 a0_3) := (blk_cell BK381.out 3).trans rfl; have hcz20_4 : w19.cell? ⟨gb381, 4, none⟩ = some (.string a0_4) := (blk_cell BK381.out 4).trans rfl; have hcz20_5 : w19.cell? ⟨gb381, 5, none⟩ = some (.int .i64 a0_5) := (blk_cell BK381.out 5).trans rfl; have hcz20_6 : w19.cell? ⟨gb381, 6, none⟩ = some (.int .i64 a0_6) := (blk_cell BK381.out 6).trans rfl; have hcz20_7 : w19.cell? ⟨gb381, 7, none⟩ = some (.int .i64 a0_7) := (blk_cell BK381.out 7).trans rfl; have hfz20_0 := blk_frozen BK381.out 0; have hfz20_1 := blk_frozen BK381.out 1; have hfz20_2 := blk_frozen BK381.out 2; have hfz20_3 := blk_frozen BK381.out 3; have hfz20_4 := blk_frozen BK381.out 4; have hfz20_5 := blk_frozen BK381.out 5; have hfz20_6 := blk_frozen BK381.out 6; have hfz20_7 := blk_frozen BK381.out 7; have hcz21_0 : w19.cell? ⟨gb382, 0, none⟩ = some (.int .i64 0) := (blk_cell BK382.out 0).trans rfl; have hcz21_1 : w19.cell? ⟨gb382, 1, none⟩ = some (.int .i64 0) := (blk_cell BK382.out 1).trans rfl; have hcz21_2 : w19.cell? ⟨gb382, 2, none⟩ = some (.int .i64 0) := (blk_cell BK382.out 2).trans rfl; have hcz21_3 : w19.cell? ⟨gb382, 3, none⟩ = some (.string (⟨#[]⟩ : ByteArray)) := (blk_cell BK382.out 3).trans rfl; have hcz21_4 : w19.cell? ⟨gb382, 4, none⟩ = some (.int .i64 0) := (blk_cell BK382.out 4).trans rfl; have hcz21_5 : w19.cell? ⟨gb382, 5, none⟩ = some (.int .i64 0) := (blk_cell BK382.out 5).trans rfl; have hfz21_0 := blk_frozen BK382.out 0; have hfz21_1 := blk_frozen BK382.out 1; have hfz21_2 := blk_frozen BK382.out 2; have hfz21_3 := blk_frozen BK382.out 3; have hfz21_4 := blk_frozen BK382.out 4; have hfz21_5 := blk_frozen BK382.out 5))
     refine bodyPost_ret (results_ct rfl _ _ gb382 47 #[.int .i64 0, .int .i64 0, .int .i64 0, .string (⟨#[]⟩ : ByteArray), .int .i64 0, .int .i64 0] (0, 0) _ rfl (by (with_reducible repeat (first | refine blk_drewN ?_ _ | refine blk_drew ?_ | refine blk_alloc ?_ _)); refine blk_put (cs := #[.int .i64 0, .int .i64 0, .int .i64 0, .string (⟨#[]⟩ : ByteArray), .int .i64 0, .int .i64 0]) ?_ 5 _ rfl; (with_reducible repeat (first | refine blk_drewN ?_ _ | refine blk_drew ?_ | refine blk_alloc ?_ _)); refine blk_put (cs := #[.int .i64 0, .int .i64 0, .int .i64 0, .string (⟨#[]⟩ : ByteArray), .int .i64 0, .int .i64 0]) ?_ 4 _ rfl; (with_reducible repeat (first | refine blk_drewN ?_ _ | refine blk_drew ?_ | refine blk_alloc ?_ _)); refine blk_put (cs := #[.int .i64 0, .int .i64 0, .int .i64 0, .string (⟨#[]⟩ : ByteArray), .int .i64 0, .int .i64 0]) ?_ 3 _ rfl; (with_reducible repeat (first | refine blk_drewN ?_ _ | refine blk_drew ?_ | refine blk_alloc ?_ _)); refine blk_put (cs := #[.int .i64 0, .int .i64 0, .int .i64 0, .string (⟨#[]⟩ : ByteArray), .int .i64 0, .int .i64 0]) ?_ 2 _ rfl; (with_reducible repeat (first | refine blk_drewN ?_ _ | refine blk_drew ?_ | refine blk_alloc ?_ _)); refine blk_put (cs := #[.int .i64 0, .int .i64 0, .int .i64 0, .string (⟨#[]⟩ : ByteArray), .int .i64 0, .int .i64 0]) ?_ 1 _ rfl; (with_reducible repeat (first | refine blk_drewN ?_ _ | refine blk_drew ?_ | refine blk_alloc ?_ _)); refine blk_put (cs := #[.int .i64 0, .int .i64 0, .int .i64 0, .string (⟨#[]⟩ : ByteArray), .int .i64 0, .int .i64 0]) ?_ 0 _ rfl; (with_reducible repeat (first | refine blk_drewN ?_ _ | refine blk_drew ?_ | refine blk_alloc ?_ _)); exact BK382.out) Try.underlying47 rfl (by kernel_rfl)) rfl ?_
     exact ⟨by first | rfl | (simp only [u8w, w64m]; rfl) | (simp [errW_none, errW_some] <;> rfl) | (simp [*, errW_none, errW_some] <;> rfl), bz⟩
    ·
     rw [if_neg c14] at H
     have c14b0 : decide (4 ≤ a1) = false := decide_eq_false c14
     clear c14
     simp only [Option.some.injEq, Prod.mk.injEq] at H
     obtain ⟨rfl, rfl, rfl, rfl, rfl, rfl, rfl⟩ := H
     go_enter Try.func27, Try.ntmps27
     go_wp2_with (first | ((with_reducible refine gate_dst (N := 2) rfl ?_); refine box_event ?hg (N := 2) ?hd (cs := #[.slice A0_0 l0_0.length c0_0, .int .i64 a0_1, .bool true, .int .i64 a0_3, .string a0_4, .int .i64 a0_5, .int .i64 a0_6, .int .i64 a0_7]) (t := 41) ?hr ?_; (case hd => rfl); (case hg => rfl); (case hr => first | (go_simp; done) | (go_simp; rfl)); intro gb381 hg w22 hbox hb; have n0_ := Aside0.mk (below_step (bz) hb); have n1_ := Aside0.mk (hbox); have n2_ : Aside0 (w.heap.size ≤ gb381) := bsg hg; have n3_ : Aside0 (w.heap.size ≤ gb381) := bsg hg; clear HB; have HB := n0_; have BK381 := n1_; have GW381 := n2_; have GE381 := n3_; clear n0_ n1_ n2_ n3_; clear hb hbox hg) | ((with_reducible refine gate_dst (N := 4) rfl ?_); refine box_event ?hg (N := 4) ?hd (cs := #[.int .i64 0, .int .i64 0, .int .i64 0, .string (⟨#[]⟩ : ByteArray), .int .i64 0, .int .i64 0]) (t := 47) ?hr ?_; (case hd => rfl); (case hg => rfl); (case hr => first | (go_simp; done) | (go_simp; rfl)); intro gb382 hg w23 hbox hb; have n0_ := bkb BK381 hb; have n1_ := Aside0.mk (below_step (bz) hb); have n2_ := Aside0.mk (hbox); have n3_ : Aside0 (w.heap.size ≤ gb382) := bsg hg; have n4_ : Aside0 (w.heap.size ≤ gb382) := bsg hg; have n5_ := nlt hg BK381; have n6_ := ngt hg BK381; clear BK381; clear HB; have BK381 := n0_; have HB := n1_; have BK382 := n2_; have GW382 := n3_; have GE382 := n4_; have NB381_382 := n5_; have NB382_381 := n6_; clear n0_ n1_ n2_ n3_ n4_ n5_ n6_; clear hb hbox hg; have hnb24 := NB381_382.out; have hnc24 := NB382_381.out; have hcz25_0 : w23.cell? ⟨gb381, 0, none⟩ = some (.slice A0_0 l0_0.length c0_0) := (blk_cell BK381.out 0).trans rfl; have hcz25_1 : w23.cell? ⟨gb381, 1, none⟩ = some (.int .i64 a0_1) := (blk_cell BK381.out 1).trans rfl; have hcz25_2 : w23.cell? ⟨gb381, 2, none⟩ = some (.bool true) := (blk_cell BK381.out 2).trans rfl; have hcz25_3 : w23.cell? ⟨gb381, 3, none⟩ = some (.int .i64 a0_3) := (blk_cell BK381.out 3).trans rfl; have hcz25_4 : w23.cell? ⟨gb381, 4, none⟩ = some (.string a0_4) := (blk_cell BK381.out 4).trans rfl; have hcz25_5 : w23.cell? ⟨gb381, 5, none⟩ = some (.int .i64 a0_5) := (blk_cell BK381.out 5).trans rfl; have hcz25_6 : w23.cell? ⟨gb381, 6, none⟩ = some (.int .i64 a0_6) := (blk_cell BK381.out 6).trans rfl; have hcz25_7 : w23.cell? ⟨gb381, 7, none⟩ = some (.int .i64 a0_7) := (blk_cell BK381.out 7).trans rfl; have hfz25_0 := blk_frozen BK381.out 0; have hfz25_1 := blk_frozen BK381.out 1; have hfz25_2 := blk_frozen BK381.out 2; have hfz25_3 := blk_frozen BK381.out 3; have hfz25_4 := blk_frozen BK381.out 4; have hfz25_5 := blk_frozen BK381.out 5; have hfz25_6 := blk_frozen BK381.out 6; have hfz25_7 := blk_frozen BK381.out 7) | ((with_reducible refine gate_callee (f := 24) rfl ?_); refine goesL_ (some 7) rfl rfl Try.func24 (by kernel_rfl) rfl #[.agg #[.slice A0_0 l0_0.length c0_0, .int .i64 a0_1, .bool true, .int .i64 a0_3, .string a0_4, .int .i64 a0_5, .int .i64 a0_6, .int .i64 a0_7]] rfl (by (try simp only [List.map_toArray, List.map_cons, List.map_nil]); first | done | rfl | (simp only [List.length_drop, List.length_take]; rfl)) ?_; (with_reducible refine (impl_CallerValid.calls k _ _ l0_0 a0_1 true a0_3 a0_4 a0_5 a0_6 a0_7 true _ ?side1 ?side2 A3.out).mono ?_); (case side1 => repeat (first | exact (Kd.C_below HR0_0.out HB.out) | (with_reducible refine Kd.C_alloc ?_ _) | (with_reducible refine Kd.C_drewN ?_ _) | (with_reducible refine Kd.C_drew ?_))); (case side2 => exact HC0_0.out); rintro e w26 ⟨rfl, hb⟩; refine ⟨_, rfl, ?_⟩; have n0_ := bkb BK381 hb; have n1_ := bkb BK382 hb; have n2_ := Aside0.mk (below_step (bz) hb); clear BK381; clear BK382; clear HB; have BK381 := n0_; have BK382 := n1_; have HB := n2_; clear n0_ n1_ n2_; (try clear hb); (try clear hb2); (try clear hk); (try clear hi); have hcz27_0 : w26.cell? ⟨gb381, 0, none⟩ = some (.slice A0_0 l0_0.length c0_0) := (blk_cell BK381.out 0).trans rfl; have hcz27_1 : w26.cell? ⟨gb381, 1, none⟩ = some (.int .i64 a0_1) := (blk_cell BK381.out 1).trans rfl; have hcz27_2 : w26.cell? ⟨gb381, 2, none⟩ = some (.bool true) := (blk_cell BK381.out 2).trans rfl; have hcz27_3 : w26.cell? ⟨gb381, 3, none⟩ = some (.int .i64 a0_3) := (blk_cell BK381.out 3).trans rfl; have hcz27_4 : w26.cell? ⟨gb381, 4, none⟩ = some (.string a0_4) := (blk_cell BK381.out 4).trans rfl; have hcz27_5 : w26.cell? ⟨gb381, 5, none⟩ = some (.int .i64 a0_5) := (blk_cell BK381.out 5).trans rfl; have hcz27_6 : w26.cell? ⟨gb381, 6, none⟩ = some (.int .i64 a0_6) := (blk_cell BK381.out 6).trans rfl; have hcz27_7 : w26.cell? ⟨gb381, 7, none⟩ = some (.int .i64 a0_7) := (blk_cell BK381.out 7).trans rfl; have hfz27_0 := blk_frozen BK381.out 0; have hfz27_1 := blk_frozen BK381.out 1; have hfz27_2 := blk_frozen BK381.out 2; have hfz27_3 := blk_frozen BK381.out 3; have hfz27_4 := blk_frozen BK381.out 4; have hfz27_5 := blk_frozen BK381.out 5; have hfz27_6 := blk_frozen BK381.out 6; have hfz27_7 := blk_frozen BK381.out 7; have hcz28_0 : w26.cell? ⟨gb382, 0, none⟩ = some (.int .i64 0) := (blk_cell BK382.out 0).trans rfl; have hcz28_1 : w26.cell? ⟨gb382, 1, none⟩ = some (.int .i64 0) := (blk_cell BK382.out 1).trans rfl; have hcz28_2 : w26.cell? ⟨gb382, 2, none⟩ = some (.int .i64 0) := (blk_cell BK382.out 2).trans rfl; have hcz28_3 : w26.cell? ⟨gb382, 3, none⟩ = some (.string (⟨#[]⟩ : ByteArray)) := (blk_cell BK382.out 3).trans rfl; have hcz28_4 : w26.cell? ⟨gb382, 4, none⟩ = some (.int .i64 0) := (blk_cell BK382.out 4).trans rfl; have hcz28_5 : w26.cell? ⟨gb382, 5, none⟩ = some (.int .i64 0) := (blk_cell BK382.out 5).trans rfl; have hfz28_0 := blk_frozen BK382.out 0; have hfz28_1 := blk_frozen BK382.out 1; have hfz28_2 := blk_frozen BK382.out 2; have hfz28_3 := blk_frozen BK382.out 3; have hfz28_4 := blk_frozen BK382.out 4; have hfz28_5 := blk_frozen BK382.out 5))
     refine bodyPost_ret (results_ct rfl _ _ gb382 47 #[.int .i64 a1, .int .i64 a0_1, .int .i64 a0_3, .string a0_4, .int .i64 a0_5, .int .i64 a0_6] (0, 0) _ rfl (by (with_reducible repeat (first | refine blk_drewN ?_ _ | refine blk_drew ?_ | refine blk_alloc ?_ _)); refine blk_put (cs := #[.int .i64 a1, .int .i64 a0_1, .int .i64 a0_3, .string a0_4, .int .i64 a0_5, .int .i64 0]) ?_ 5 _ rfl; (with_reducible repeat (first | refine blk_drewN ?_ _ | refine blk_drew ?_ | refine blk_alloc ?_ _)); refine blk_put (cs := #[.int .i64 a1, .int .i64 a0_1, .int .i64 a0_3, .string a0_4, .int .i64 0, .int .i64 0]) ?_ 4 _ rfl; (with_reducible repeat (first | refine blk_drewN ?_ _ | refine blk_drew ?_ | refine blk_alloc ?_ _)); refine blk_put (cs := #[.int .i64 a1, .int .i64 a0_1, .int .i64 a0_3, .string (⟨#[]⟩ : ByteArray), .int .i64 0, .int .i64 0]) ?_ 3 _ rfl; (with_reducible repeat (first | refine blk_drewN ?_ _ | refine blk_drew ?_ | refine blk_alloc ?_ _)); refine blk_put (cs := #[.int .i64 a1, .int .i64 a0_1, .int .i64 0, .string (⟨#[]⟩ : ByteArray), .int .i64 0, .int .i64 0]) ?_ 2 _ rfl; (with_reducible repeat (first | refine blk_drewN ?_ _ | refine blk_drew ?_ | refine blk_alloc ?_ _)); refine blk_put (cs := #[.int .i64 a1, .int .i64 0, .int .i64 0, .string (⟨#[]⟩ : ByteArray), .int .i64 0, .int .i64 0]) ?_ 1 _ rfl; (with_reducible repeat (first | refine blk_drewN ?_ _ | refine blk_drew ?_ | refine blk_alloc ?_ _)); refine blk_put (cs := #[.int .i64 0, .int .i64 0, .int .i64 0, .string (⟨#[]⟩ : ByteArray), .int .i64 0, .int .i64 0]) ?_ 0 _ rfl; (with_reducible repeat (first | refine blk_drewN ?_ _ | refine blk_drew ?_ | refine blk_alloc ?_ _)); exact BK382.out) Try.underlying47 rfl (by kernel_rfl)) rfl ?_
     exact ⟨by first | rfl | (simp only [u8w, w64m]; rfl) | (simp [errW_none, errW_some] <;> rfl) | (simp [*, errW_none, errW_some] <;> rfl), bz⟩
  ·
   replace c5 := Bool.eq_false_iff.mpr c5
   subst c5
   rw [if_neg (show ¬ (false = true) by decide)] at H
   simp only [Option.some.injEq, Prod.mk.injEq] at H
   obtain ⟨rfl, rfl, rfl, rfl, rfl, rfl, rfl⟩ := H
   go_enter Try.func27, Try.ntmps27
   go_wp2_with (first | ((with_reducible refine gate_dst (N := 2) rfl ?_); refine box_event ?hg (N := 2) ?hd (cs := #[.slice A0_0 l0_0.length c0_0, .int .i64 a0_1, .bool false, .int .i64 a0_3, .string a0_4, .int .i64 a0_5, .int .i64 a0_6, .int .i64 a0_7]) (t := 41) ?hr ?_; (case hd => rfl); (case hg => rfl); (case hr => first | (go_simp; done) | (go_simp; rfl)); intro gb381 hg w29 hbox hb; have n0_ := Aside0.mk (below_step (bz) hb); have n1_ := Aside0.mk (hbox); have n2_ : Aside0 (w.heap.size ≤ gb381) := bsg hg; have n3_ : Aside0 (w.heap.size ≤ gb381) := bsg hg; clear HB; have HB := n0_; have BK381 := n1_; have GW381 := n2_; have GE381 := n3_; clear n0_ n1_ n2_ n3_; clear hb hbox hg) | ((with_reducible refine gate_dst (N := 4) rfl ?_); refine box_event ?hg (N := 4) ?hd (cs := #[.int .i64 0, .int .i64 0, .int .i64 0, .string (⟨#[]⟩ : ByteArray), .int .i64 0, .int .i64 0]) (t := 47) ?hr ?_; (case hd => rfl); (case hg => rfl); (case hr => first | (go_simp; done) | (go_simp; rfl)); intro gb382 hg w30 hbox hb; have n0_ := bkb BK381 hb; have n1_ := Aside0.mk (below_step (bz) hb); have n2_ := Aside0.mk (hbox); have n3_ : Aside0 (w.heap.size ≤ gb382) := bsg hg; have n4_ : Aside0 (w.heap.size ≤ gb382) := bsg hg; have n5_ := nlt hg BK381; have n6_ := ngt hg BK381; clear BK381; clear HB; have BK381 := n0_; have HB := n1_; have BK382 := n2_; have GW382 := n3_; have GE382 := n4_; have NB381_382 := n5_; have NB382_381 := n6_; clear n0_ n1_ n2_ n3_ n4_ n5_ n6_; clear hb hbox hg; have hnb31 := NB381_382.out; have hnc31 := NB382_381.out; have hcz32_0 : w30.cell? ⟨gb381, 0, none⟩ = some (.slice A0_0 l0_0.length c0_0) := (blk_cell BK381.out 0).trans rfl; have hcz32_1 : w30.cell? ⟨gb381, 1, none⟩ = some (.int .i64 a0_1) := (blk_cell BK381.out 1).trans rfl; have hcz32_2 : w30.cell? ⟨gb381, 2, none⟩ = some (.bool false) := (blk_cell BK381.out 2).trans rfl; have hcz32_3 : w30.cell? ⟨gb381, 3, none⟩ = some (.int .i64 a0_3) := (blk_cell BK381.out 3).trans rfl; have hcz32_4 : w30.cell? ⟨gb381, 4, none⟩ = some (.string a0_4) := (blk_cell BK381.out 4).trans rfl; have hcz32_5 : w30.cell? ⟨gb381, 5, none⟩ = some (.int .i64 a0_5) := (blk_cell BK381.out 5).trans rfl; have hcz32_6 : w30.cell? ⟨gb381, 6, none⟩ = some (.int .i64 a0_6) := (blk_cell BK381.out 6).trans rfl; have hcz32_7 : w30.cell? ⟨gb381, 7, none⟩ = some (.int .i64 a0_7) := (blk_cell BK381.out 7).trans rfl; have hfz32_0 := blk_frozen BK381.out 0; have hfz32_1 := blk_frozen BK381.out 1; have hfz32_2 := blk_frozen BK381.out 2; have hfz32_3 := blk_frozen BK381.out 3; have hfz32_4 := blk_frozen BK381.out 4; have hfz32_5 := blk_frozen BK381.out 5; have hfz32_6 := blk_frozen BK381.out 6; have hfz32_7 := blk_frozen BK381.out 7) | ((with_reducible refine gate_callee (f := 24) rfl ?_); refine goesL_ (some 7) rfl rfl Try.func24 (by kernel_rfl) rfl #[.agg #[.slice A0_0 l0_0.length c0_0, .int .i64 a0_1, .bool false, .int .i64 a0_3, .string a0_4, .int .i64 a0_5, .int .i64 a0_6, .int .i64 a0_7]] rfl (by (try simp only [List.map_toArray, List.map_cons, List.map_nil]); first | done | rfl | (simp only [List.length_drop, List.length_take]; rfl)) ?_; (with_reducible refine (impl_CallerValid.calls k _ _ l0_0 a0_1 false a0_3 a0_4 a0_5 a0_6 a0_7 true _ ?side1 ?side2 A3.out).mono ?_); (case side1 => repeat (first | exact (Kd.C_below HR0_0.out HB.out) | (with_reducible refine Kd.C_alloc ?_ _) | (with_reducible refine Kd.C_drewN ?_ _) | (with_reducible refine Kd.C_drew ?_))); (case side2 => exact HC0_0.out); rintro e w33 ⟨rfl, hb⟩; refine ⟨_, rfl, ?_⟩; have n0_ := bkb BK381 hb; have n1_ := bkb BK382 hb; have n2_ := Aside0.mk (below_step (bz) hb); clear BK381; clear BK382; clear HB; have BK381 := n0_; have BK382 := n1_; have HB := n2_; clear n0_ n1_ n2_; (try clear hb); (try clear hb2); (try clear hk); (try clear hi); have hcz34_0 : w33.cell? ⟨gb381, 0, none⟩ = some (.slice A0_0 l0_0.length c0_0) := (blk_cell BK381.out 0).trans rfl; have hcz34_1 : w33.cell? ⟨gb381, 1, none⟩ = some (.int .i64 a0_1) := (blk_cell BK381.out 1).trans rfl; have hcz34_2 : w33.cell? ⟨gb381, 2, none⟩ = some (.bool false) := (blk_cell BK381.out 2).trans rfl; have hcz34_3 : w33.cell? ⟨gb381, 3, none⟩ = some (.int .i64 a0_3) := (blk_cell BK381.out 3).trans rfl; have hcz34_4 : w33.cell? ⟨gb381, 4, none⟩ = some (.string a0_4) := (blk_cell BK381.out 4).trans rfl; have hcz34_5 : w33.cell? ⟨gb381, 5, none⟩ = some (.int .i64 a0_5) := (blk_cell BK381.out 5).trans rfl; have hcz34_6 : w33.cell? ⟨gb381, 6, none⟩ = some (.int .i64 a0_6) := (blk_cell BK381.out 6).trans rfl; have hcz34_7 : w33.cell? ⟨gb381, 7, none⟩ = some (.int .i64 a0_7) := (blk_cell BK381.out 7).trans rfl; have hfz34_0 := blk_frozen BK381.out 0; have hfz34_1 := blk_frozen BK381.out 1; have hfz34_2 := blk_frozen BK381.out 2; have hfz34_3 := blk_frozen BK381.out 3; have hfz34_4 := blk_frozen BK381.out 4; have hfz34_5 := blk_frozen BK381.out 5; have hfz34_6 := blk_frozen BK381.out 6; have hfz34_7 := blk_frozen BK381.out 7; have hcz35_0 : w33.cell? ⟨gb382, 0, none⟩ = some (.int .i64 0) := (blk_cell BK382.out 0).trans rfl; have hcz35_1 : w33.cell? ⟨gb382, 1, none⟩ = some (.int .i64 0) := (blk_cell BK382.out 1).trans rfl; have hcz35_2 : w33.cell? ⟨gb382, 2, none⟩ = some (.int .i64 0) := (blk_cell BK382.out 2).trans rfl; have hcz35_3 : w33.cell? ⟨gb382, 3, none⟩ = some (.string (⟨#[]⟩ : ByteArray)) := (blk_cell BK382.out 3).trans rfl; have hcz35_4 : w33.cell? ⟨gb382, 4, none⟩ = some (.int .i64 0) := (blk_cell BK382.out 4).trans rfl; have hcz35_5 : w33.cell? ⟨gb382, 5, none⟩ = some (.int .i64 0) := (blk_cell BK382.out 5).trans rfl; have hfz35_0 := blk_frozen BK382.out 0; have hfz35_1 := blk_frozen BK382.out 1; have hfz35_2 := blk_frozen BK382.out 2; have hfz35_3 := blk_frozen BK382.out 3; have hfz35_4 := blk_frozen BK382.out 4; have hfz35_5 := blk_frozen BK382.out 5))
   refine bodyPost_ret (results_ct rfl _ _ gb382 47 #[.int .i64 0, .int .i64 0, .int .i64 0, .string (⟨#[]⟩ : ByteArray), .int .i64 0, .int .i64 0] (0, 0) _ rfl (by (with_reducible repeat (first | refine blk_drewN ?_ _ | refine blk_drew ?_ | refine blk_alloc ?_ _)); refine blk_put (cs := #[.int .i64 0, .int .i64 0, .int .i64 0, .string (⟨#[]⟩ : ByteArray), .int .i64 0, .int .i64 0]) ?_ 5 _ rfl; (with_reducible repeat (first | refine blk_drewN ?_ _ | refine blk_drew ?_ | refine blk_alloc ?_ _)); refine blk_put (cs := #[.int .i64 0, .int .i64 0, .int .i64 0, .string (⟨#[]⟩ : ByteArray), .int .i64 0, .int .i64 0]) ?_ 4 _ rfl; (with_reducible repeat (first | refine blk_drewN ?_ _ | refine blk_drew ?_ | refine blk_alloc ?_ _)); refine blk_put (cs := #[.int .i64 0, .int .i64 0, .int .i64 0, .string (⟨#[]⟩ : ByteArray), .int .i64 0, .int .i64 0]) ?_ 3 _ rfl; (with_reducible repeat (first | refine blk_drewN ?_ _ | refine blk_drew ?_ | refine blk_alloc ?_ _)); refine blk_put (cs := #[.int .i64 0, .int .i64 0, .int .i64 0, .string (⟨#[]⟩ : ByteArray), .int .i64 0, .int .i64 0]) ?_ 2 _ rfl; (with_reducible repeat (first | refine blk_drewN ?_ _ | refine blk_drew ?_ | refine blk_alloc ?_ _)); refine blk_put (cs := #[.int .i64 0, .int .i64 0, .int .i64 0, .string (⟨#[]⟩ : ByteArray), .int .i64 0, .int .i64 0]) ?_ 1 _ rfl; (with_reducible repeat (first | refine blk_drewN ?_ _ | refine blk_drew ?_ | refine blk_alloc ?_ _)); refine blk_put (cs := #[.int .i64 0, .int .i64 0, .int .i64 0, .string (⟨#[]⟩ : ByteArray), .int .i64 0, .int .i64 0]) ?_ 0 _ rfl; (with_reducible repeat (first | refine blk_drewN ?_ _ | refine blk_drew ?_ | refine blk_alloc ?_ _)); exact BK382.out) Try.underlying47 rfl (by kernel_rfl)) rfl ?_
   exact ⟨by first | rfl | (simp only [u8w, w64m]; rfl) | (simp [errW_none, errW_some] <;> rfl) | (simp [*, errW_none, errW_some] <;> rfl), bz⟩
 ·
  replace c4 := Bool.eq_false_iff.mpr c4
  subst c4
  rw [if_neg (show ¬ (false = true) by decide)] at H
  simp only [Option.some.injEq, Prod.mk.injEq] at H
  obtain ⟨rfl, rfl, rfl, rfl, rfl, rfl, rfl⟩ := H
  go_enter Try.func27, Try.ntmps27
  go_wp2_with (first | ((with_reducible refine gate_dst (N := 2) rfl ?_); refine box_event ?hg (N := 2) ?hd (cs := #[.slice A0_0 l0_0.length c0_0, .int .i64 a0_1, .bool a0_2, .int .i64 a0_3, .string a0_4, .int .i64 a0_5, .int .i64 a0_6, .int .i64 a0_7]) (t := 41) ?hr ?_; (case hd => rfl); (case hg => rfl); (case hr => first | (go_simp; done) | (go_simp; rfl)); intro gb381 hg w36 hbox hb; have n0_ := Aside0.mk (below_step (bz) hb); have n1_ := Aside0.mk (hbox); have n2_ : Aside0 (w.heap.size ≤ gb381) := bsg hg; have n3_ : Aside0 (w.heap.size ≤ gb381) := bsg hg; clear HB; have HB := n0_; have BK381 := n1_; have GW381 := n2_; have GE381 := n3_; clear n0_ n1_ n2_ n3_; clear hb hbox hg) | ((with_reducible refine gate_dst (N := 4) rfl ?_); refine box_event ?hg (N := 4) ?hd (cs := #[.int .i64 0, .int .i64 0, .int .i64 0, .string (⟨#[]⟩ : ByteArray), .int .i64 0, .int .i64 0]) (t := 47) ?hr ?_; (case hd => rfl); (case hg => rfl); (case hr => first | (go_simp; done) | (go_simp; rfl)); intro gb382 hg w37 hbox hb; have n0_ := bkb BK381 hb; have n1_ := Aside0.mk (below_step (bz) hb); have n2_ := Aside0.mk (hbox); have n3_ : Aside0 (w.heap.size ≤ gb382) := bsg hg; have n4_ : Aside0 (w.heap.size ≤ gb382) := bsg hg; have n5_ := nlt hg BK381; have n6_ := ngt hg BK381; clear BK381; clear HB; have BK381 := n0_; have HB := n1_; have BK382 := n2_; have GW382 := n3_; have GE382 := n4_; have NB381_382 := n5_; have NB382_381 := n6_; clear n0_ n1_ n2_ n3_ n4_ n5_ n6_; clear hb hbox hg; have hnb38 := NB381_382.out; have hnc38 := NB382_381.out; have hcz39_0 : w37.cell? ⟨gb381, 0, none⟩ = some (.slice A0_0 l0_0.length c0_0) := (blk_cell BK381.out 0).trans rfl; have hcz39_1 : w37.cell? ⟨gb381, 1, none⟩ = some (.int .i64 a0_1) := (blk_cell BK381.out 1).trans rfl; have hcz39_2 : w37.cell? ⟨gb381, 2, none⟩ = some (.bool a0_2) := (blk_cell BK381.out 2).trans rfl; have hcz39_3 : w37.cell? ⟨gb381, 3, none⟩ = some (.int .i64 a0_3) := (blk_cell BK381.out 3).trans rfl; have hcz39_4 : w37.cell? ⟨gb381, 4, none⟩ = some (.string a0_4) := (blk_cell BK381.out 4).trans rfl; have hcz39_5 : w37.cell? ⟨gb381, 5, none⟩ = some (.int .i64 a0_5) := (blk_cell BK381.out 5).trans rfl; have hcz39_6 : w37.cell? ⟨gb381, 6, none⟩ = some (.int .i64 a0_6) := (blk_cell BK381.out 6).trans rfl; have hcz39_7 : w37.cell? ⟨gb381, 7, none⟩ = some (.int .i64 a0_7) := (blk_cell BK381.out 7).trans rfl; have hfz39_0 := blk_frozen BK381.out 0; have hfz39_1 := blk_frozen BK381.out 1; have hfz39_2 := blk_frozen BK381.out 2; have hfz39_3 := blk_frozen BK381.out 3; have hfz39_4 := blk_frozen BK381.out 4; have hfz39_5 := blk_frozen BK381.out 5; have hfz39_6 := blk_frozen BK381.out 6; have hfz39_7 := blk_frozen BK381.out 7) | ((with_reducible refine gate_callee (f := 24) rfl ?_); refine goesL_ (some 7) rfl rfl Try.func24 (by kernel_rfl) rfl #[.agg #[.slice A0_0 l0_0.length c0_0, .int .i64 a0_1, .bool a0_2, .int .i64 a0_3, .string a0_4, .int .i64 a0_5, .int .i64 a0_6, .int .i64 a0_7]] rfl (by (try simp only [List.map_toArray, List.map_cons, List.map_nil]); first | done | rfl | (simp only [List.length_drop, List.length_take]; rfl)) ?_; (with_reducible refine (impl_CallerValid.calls k _ _ l0_0 a0_1 a0_2 a0_3 a0_4 a0_5 a0_6 a0_7 false _ ?side1 ?side2 A3.out).mono ?_); (case side1 => repeat (first | exact (Kd.C_below HR0_0.out HB.out) | (with_reducible refine Kd.C_alloc ?_ _) | (with_reducible refine Kd.C_drewN ?_ _) | (with_reducible refine Kd.C_drew ?_))); (case side2 => exact HC0_0.out); rintro e w40 ⟨rfl, hb⟩; refine ⟨_, rfl, ?_⟩; have n0_ := bkb BK381 hb; have n1_ := bkb BK382 hb; have n2_ := Aside0.mk (below_step (bz) hb); clear BK381; clear BK382; clear HB; have BK381 := n0_; have BK382 := n1_; have HB := n2_; clear n0_ n1_ n2_; (try clear hb); (try clear hb2); (try clear hk); (try clear hi); have hcz41_0 : w40.cell? ⟨gb382, 0, none⟩ = some (.int .i64 0) := (blk_cell BK382.out 0).trans rfl; have hcz41_1 : w40.cell? ⟨gb382, 1, none⟩ = some (.int .i64 0) := (blk_cell BK382.out 1).trans rfl; have hcz41_2 : w40.cell? ⟨gb382, 2, none⟩ = some (.int .i64 0) := (blk_cell BK382.out 2).trans rfl; have hcz41_3 : w40.cell? ⟨gb382, 3, none⟩ = some (.string (⟨#[]⟩ : ByteArray)) := (blk_cell BK382.out 3).trans rfl; have hcz41_4 : w40.cell? ⟨gb382, 4, none⟩ = some (.int .i64 0) := (blk_cell BK382.out 4).trans rfl; have hcz41_5 : w40.cell? ⟨gb382, 5, none⟩ = some (.int .i64 0) := (blk_cell BK382.out 5).trans rfl; have hfz41_0 := blk_frozen BK382.out 0; have hfz41_1 := blk_frozen BK382.out 1; have hfz41_2 := blk_frozen BK382.out 2; have hfz41_3 := blk_frozen BK382.out 3; have hfz41_4 := blk_frozen BK382.out 4; have hfz41_5 := blk_frozen BK382.out 5))
  refine bodyPost_ret (results_ct rfl _ _ gb382 47 #[.int .i64 0, .int .i64 0, .int .i64 0, .string (⟨#[]⟩ : ByteArray), .int .i64 0, .int .i64 0] (0, 0) _ rfl (by (with_reducible repeat (first | refine blk_drewN ?_ _ | refine blk_drew ?_ | refine blk_alloc ?_ _)); refine blk_put (cs := #[.int .i64 0, .int .i64 0, .int .i64 0, .string (⟨#[]⟩ : ByteArray), .int .i64 0, .int .i64 0]) ?_ 5 _ rfl; (with_reducible repeat (first | refine blk_drewN ?_ _ | refine blk_drew ?_ | refine blk_alloc ?_ _)); refine blk_put (cs := #[.int .i64 0, .int .i64 0, .int .i64 0, .string (⟨#[]⟩ : ByteArray), .int .i64 0, .int .i64 0]) ?_ 4 _ rfl; (with_reducible repeat (first | refine blk_drewN ?_ _ | refine blk_drew ?_ | refine blk_alloc ?_ _)); refine blk_put (cs := #[.int .i64 0, .int .i64 0, .int .i64 0, .string (⟨#[]⟩ : ByteArray), .int .i64 0, .int .i64 0]) ?_ 3 _ rfl; (with_reducible repeat (first | refine blk_drewN ?_ _ | refine blk_drew ?_ | refine blk_alloc ?_ _)); refine blk_put (cs := #[.int .i64 0, .int .i64 0, .int .i64 0, .string (⟨#[]⟩ : ByteArray), .int .i64 0, .int .i64 0]) ?_ 2 _ rfl; (with_reducible repeat (first | refine blk_drewN ?_ _ | refine blk_drew ?_ | refine blk_alloc ?_ _)); refine blk_put (cs := #[.int .i64 0, .int .i64 0, .int .i64 0, .string (⟨#[]⟩ : ByteArray), .int .i64 0, .int .i64 0]) ?_ 1 _ rfl; (with_reducible repeat (first | refine blk_drewN ?_ _ | refine blk_drew ?_ | refine blk_alloc ?_ _)); refine blk_put (cs := #[.int .i64 0, .int .i64 0, .int .i64 0, .string (⟨#[]⟩ : ByteArray), .int .i64 0, .int .i64 0]) ?_ 0 _ rfl; (with_reducible repeat (first | refine blk_drewN ?_ _ | refine blk_drew ?_ | refine blk_alloc ?_ _)); exact BK382.out) Try.underlying47 rfl (by kernel_rfl)) rfl ?_
  exact ⟨by first | rfl | (simp only [u8w, w64m]; rfl) | (simp [errW_none, errW_some] <;> rfl) | (simp [*, errW_none, errW_some] <;> rfl), bz⟩

end Go.Proofs.Ytkjkokljgbpbbaa.PFnRequestOf
