/- Go functions as plain Lean functions, and for each a proof that its call comes to what the function says; under the conditions that each theorem names. Written by a program of this session. -/
import Derived.Test.YtinnjgogaidhlaaPFnExactRequestOfx0
import Derived.Test.YtinnjgogaidhlaaPFnExactRequestOfx1
import Derived.Test.YtinnjgogaidhlaaPFnExactRequestOfx3
import Derived.Test.YtinnjgogaidhlaaPFnExactRequestOfx9
namespace Go.Proofs.Ytinnjgogaidhlaa.PFnExactRequestOf
open Go.RowKit Go.Proofs.YtinnjgogaidhlaaW.PrintWords Go.Proofs.YtinnjgogaidhlaaW.PrintLast Go.Proofs.YtinnjgogaidhlaaW.PrintMore
attribute [local go_sem high] str_gtr str_leq str_geq
attribute [local go_sem] max2_int min2_int max_two min_two max_three min_three max_four min_four   -- for this text's walks alone
set_option linter.unusedVariables false
set_option linter.unusedSimpArgs false

attribute [local go_sem high] eqA55
/-! ### impl_CallerValid: function 39 -/
def impl_CallerValid.j0 : Nat → Bool → List (S43) → Int → Bool → Int → ByteArray → Int → Int → Int → Option (Bool)
 | 0, _, _, _, _, _, _, _, _, _ => none
 | k + 1, x16, x216000, x216001, x216002, x216003, x216004, x216005, x216006, x216007 => if x16 = true then (some false) else (if x216002 = true then (if x216001 ≥ 1 then ((impl_wishValid.f k x216003 x216004 x216005 x216006).bind fun t217 => (if t217 = true then ((impl_timeValid.f x216007).bind fun t218 => (some t218)) else (some false))) else (some false)) else (if (x216003 == 0 && (x216004.toList == ([] : List UInt8) && (x216005 == 0 && (x216006 == 0)))) = true then (some (x216007 == 0)) else (some false)))
def impl_CallerValid.f (k : Nat) (l0_0 : List (S43)) (a0_1 : Int) (a0_2 : Bool) (a0_3 : Int) (a0_4 : ByteArray) (a0_5 : Int) (a0_6 : Int) (a0_7 : Int) : Option (Bool) := (impl_CacheValid.f k l0_0).bind fun t216 => (if t216 = true then (if a0_1 < 0 then (impl_CallerValid.j0 k true l0_0 a0_1 a0_2 a0_3 a0_4 a0_5 a0_6 a0_7) else (impl_CallerValid.j0 k (decide (a0_1 > 999)) l0_0 a0_1 a0_2 a0_3 a0_4 a0_5 a0_6 a0_7)) else (impl_CallerValid.j0 k true l0_0 a0_1 a0_2 a0_3 a0_4 a0_5 a0_6 a0_7))
theorem impl_CallerValid.mono_l : ∀ k, (∀ y0 y1 y2 y3 y4 y5 y6 y7 y8, LeO (impl_CallerValid.j0 k y0 y1 y2 y3 y4 y5 y6 y7 y8) (impl_CallerValid.j0 (k + 1) y0 y1 y2 y3 y4 y5 y6 y7 y8))
 | 0 => fun _ _ _ _ _ _ _ _ _ r h => by simp [impl_CallerValid.j0] at h
 | k + 1 => by
  have ih0 := impl_CallerValid.mono_l k
  ·
   intro y0 y1 y2 y3 y4 y5 y6 y7 y8
   unfold impl_CallerValid.j0
   repeat' first
   | (with_reducible exact ih0 _ _ _ _ _ _ _ _ _)
   | (with_reducible exact impl_CacheValid.mono _ _)
   | (with_reducible exact impl_wishValid.mono _ _ _ _ _)
   | (with_reducible exact LeO.refl _)
   | (with_reducible exact LeO.none _)
   | (with_reducible refine LeO.ite ?_ ?_)
   | (with_reducible refine LeO.bind ?_ (fun _ => ?_))
   | exact ih0 _ _ _ _ _ _ _ _ _
   | exact impl_CacheValid.mono _ _
   | exact impl_wishValid.mono _ _ _ _ _
   | exact LeO.none _
   | refine LeO.ite ?_ ?_
   | refine LeO.bind ?_ (fun _ => ?_)
theorem impl_CallerValid.mono : ∀ a0 a1 a2 a3 a4 a5 a6 a7 k, LeO (impl_CallerValid.f k a0 a1 a2 a3 a4 a5 a6 a7) (impl_CallerValid.f (k + 1) a0 a1 a2 a3 a4 a5 a6 a7) := by
 intro a0 a1 a2 a3 a4 a5 a6 a7 k
 have ih0 := impl_CallerValid.mono_l k
 unfold impl_CallerValid.f
 repeat' first
   | (with_reducible exact ih0 _ _ _ _ _ _ _ _ _)
   | (with_reducible exact impl_CacheValid.mono _ _)
   | (with_reducible exact impl_wishValid.mono _ _ _ _ _)
   | (with_reducible exact LeO.refl _)
   | (with_reducible exact LeO.none _)
   | (with_reducible refine LeO.ite ?_ ?_)
   | (with_reducible refine LeO.bind ?_ (fun _ => ?_))
   | exact ih0 _ _ _ _ _ _ _ _ _
   | exact impl_CacheValid.mono _ _
   | exact impl_wishValid.mono _ _ _ _ _
   | exact LeO.none _
   | refine LeO.ite ?_ ?_
   | refine LeO.bind ?_ (fun _ => ?_)
set_option maxHeartbeats 8000000 in
set_option maxRecDepth 100000 in
theorem impl_CallerValid.calls (k : Nat) (A0_0 : Option Addr) (c0_0 : Nat) (l0_0 : List (S43)) (a0_1 : Int) (a0_2 : Bool) (a0_3 : Int) (a0_4 : ByteArray) (a0_5 : Int) (a0_6 : Int) (a0_7 : Int) (r : Bool) (w : World) (hr0_0 : Kd.C k43 w A0_0 l0_0.length l0_0) (hc0_0 : l0_0.length ≤ c0_0) (h : impl_CallerValid.f k l0_0 a0_1 a0_2 a0_3 a0_4 a0_5 a0_6 a0_7 = some r) :
  Calls Try.prog 39 #[.agg #[.slice A0_0 l0_0.length c0_0, .int .i64 a0_1, .bool a0_2, .int .i64 a0_3, .string a0_4, .int .i64 a0_5, .int .i64 a0_6, .int .i64 a0_7]] w fun e w' => e = .returned (.bool r) ∧ Below w.heap.size w w' := by
 have hu57 := Try.underlying57
 have hu55 := Try.underlying55
 have HR0_0 := Aside0.mk hr0_0
 have HC0_0 := Aside0.mk hc0_0
 clear hr0_0 hc0_0
 have HB := Aside0.mk (Below.refl w.heap.size w)
 have H : ((impl_CacheValid.f k l0_0).bind fun t216 => (if t216 = true then (if a0_1 < 0 then (impl_CallerValid.j0 k true l0_0 a0_1 a0_2 a0_3 a0_4 a0_5 a0_6 a0_7) else (impl_CallerValid.j0 k (decide (a0_1 > 999)) l0_0 a0_1 a0_2 a0_3 a0_4 a0_5 a0_6 a0_7)) else (impl_CallerValid.j0 k true l0_0 a0_1 a0_2 a0_3 a0_4 a0_5 a0_6 a0_7))) = some r := h
 clear h
 have HC2 := Aside0.mk H
 clear H
 go_enter Try.func39, Try.ntmps39
 go_upto_region 1 with (first | ((with_reducible refine gate_dst (N := 1) rfl ?_); refine box_event ?hg (N := 1) ?hd (cs := #[.slice A0_0 l0_0.length c0_0, .int .i64 a0_1, .bool a0_2, .int .i64 a0_3, .string a0_4, .int .i64 a0_5, .int .i64 a0_6, .int .i64 a0_7]) (t := 57) ?hr ?_; (case hd => rfl); (case hg => rfl); (case hr => first | (go_simp; done) | (go_simp; rfl)); intro gb215 hg w3 hbox hb; have n0_ := Aside0.mk (below_step (bz) hb); have n1_ := Aside0.mk (hbox); have n2_ : Aside0 (w.heap.size ≤ gb215) := bsg hg; have n3_ : Aside0 (w.heap.size ≤ gb215) := bsg hg; clear HB; have HB := n0_; have BK215 := n1_; have GW215 := n2_; have GE215 := n3_; clear n0_ n1_ n2_ n3_; clear hb hbox hg))
 (try simp only [Act.put, List.setIfInBounds_toArray, List.set_cons_zero, List.set_cons_succ])
 go_cut [16] (fun v16 wc => ∃ (kq : Nat) (x16_1 : Bool), v16 = .bool x16_1 ∧ Aside0 (impl_CallerValid.j0 kq x16_1 l0_0 a0_1 a0_2 a0_3 a0_4 a0_5 a0_6 a0_7 = some r) ∧ Aside0 (kq ≤ k) ∧ Aside0 (wc.heap[gb215]? = some (.cells #[(.slice A0_0 l0_0.length c0_0), .int .i64 a0_1, .bool a0_2, .int .i64 a0_3, .string a0_4, .int .i64 a0_5, .int .i64 a0_6, .int .i64 a0_7] 57 (0, 0))) ∧ Aside0 (Below w.heap.size w wc))
 case first =>
  have H := HC2.out
  clear HC2
  replace H := Option.bind_eq_some_iff.mp H
  obtain ⟨t216, A40, H⟩ := H
  try dsimp only at H
  have A4 := Aside0.mk A40
  clear A40
  by_cases c5 : t216 = true
  ·
   subst c5
   rw [if_pos rfl] at H
   by_cases c6 : a0_1 < 0
   ·
    rw [if_pos c6] at H
    have c6b0 : decide (a0_1 < 0) = true := decide_eq_true c6
    clear c6
    (first | rw [c6b0] | (simp only [i64_w, i32_w]; rw [c6b0]) | skip)
    have H' := Aside0.mk H
    clear H
    have hcz7_0 : w3.cell? ⟨gb215, 0, none⟩ = some (.slice A0_0 l0_0.length c0_0) := (blk_cell BK215.out 0).trans rfl
    have hcz7_1 : w3.cell? ⟨gb215, 1, none⟩ = some (.int .i64 a0_1) := (blk_cell BK215.out 1).trans rfl
    have hcz7_2 : w3.cell? ⟨gb215, 2, none⟩ = some (.bool a0_2) := (blk_cell BK215.out 2).trans rfl
    have hcz7_3 : w3.cell? ⟨gb215, 3, none⟩ = some (.int .i64 a0_3) := (blk_cell BK215.out 3).trans rfl
    have hcz7_4 : w3.cell? ⟨gb215, 4, none⟩ = some (.string a0_4) := (blk_cell BK215.out 4).trans rfl
    have hcz7_5 : w3.cell? ⟨gb215, 5, none⟩ = some (.int .i64 a0_5) := (blk_cell BK215.out 5).trans rfl
    have hcz7_6 : w3.cell? ⟨gb215, 6, none⟩ = some (.int .i64 a0_6) := (blk_cell BK215.out 6).trans rfl
    have hcz7_7 : w3.cell? ⟨gb215, 7, none⟩ = some (.int .i64 a0_7) := (blk_cell BK215.out 7).trans rfl
    have hfz7_0 := blk_frozen BK215.out 0
    have hfz7_1 := blk_frozen BK215.out 1
    have hfz7_2 := blk_frozen BK215.out 2
    have hfz7_3 := blk_frozen BK215.out 3
    have hfz7_4 := blk_frozen BK215.out 4
    have hfz7_5 := blk_frozen BK215.out 5
    have hfz7_6 := blk_frozen BK215.out 6
    have hfz7_7 := blk_frozen BK215.out 7
    go_wp2_with (first | ((with_reducible refine gate_callee (f := 29) rfl ?_); refine goesL_ (some 5) rfl rfl Try.func29 (by kernel_rfl) rfl #[.slice A0_0 l0_0.length c0_0] rfl (by (try simp only [List.map_toArray, List.map_cons, List.map_nil]); first | done | rfl | (simp only [List.length_drop, List.length_take]; rfl)) ?_; (with_reducible refine (impl_CacheValid.calls k _ _ l0_0 true _ ?side1 ?side2 A4.out).mono ?_); (case side1 => repeat (first | exact (Kd.C_below HR0_0.out HB.out) | (with_reducible refine Kd.C_alloc ?_ _) | (with_reducible refine Kd.C_drewN ?_ _) | (with_reducible refine Kd.C_drew ?_))); (case side2 => exact HC0_0.out); rintro e w8 ⟨rfl, hb⟩; refine ⟨_, rfl, ?_⟩; have n0_ := bkb BK215 hb; have n1_ := Aside0.mk (below_step (bz) hb); clear BK215; clear HB; have BK215 := n0_; have HB := n1_; clear n0_ n1_; (try clear hb); (try clear hb2); (try clear hk); (try clear hi); have hcz9_0 : w8.cell? ⟨gb215, 0, none⟩ = some (.slice A0_0 l0_0.length c0_0) := (blk_cell BK215.out 0).trans rfl; have hcz9_1 : w8.cell? ⟨gb215, 1, none⟩ = some (.int .i64 a0_1) := (blk_cell BK215.out 1).trans rfl; have hcz9_2 : w8.cell? ⟨gb215, 2, none⟩ = some (.bool a0_2) := (blk_cell BK215.out 2).trans rfl; have hcz9_3 : w8.cell? ⟨gb215, 3, none⟩ = some (.int .i64 a0_3) := (blk_cell BK215.out 3).trans rfl; have hcz9_4 : w8.cell? ⟨gb215, 4, none⟩ = some (.string a0_4) := (blk_cell BK215.out 4).trans rfl; have hcz9_5 : w8.cell? ⟨gb215, 5, none⟩ = some (.int .i64 a0_5) := (blk_cell BK215.out 5).trans rfl; have hcz9_6 : w8.cell? ⟨gb215, 6, none⟩ = some (.int .i64 a0_6) := (blk_cell BK215.out 6).trans rfl; have hcz9_7 : w8.cell? ⟨gb215, 7, none⟩ = some (.int .i64 a0_7) := (blk_cell BK215.out 7).trans rfl; have hfz9_0 := blk_frozen BK215.out 0; have hfz9_1 := blk_frozen BK215.out 1; have hfz9_2 := blk_frozen BK215.out 2; have hfz9_3 := blk_frozen BK215.out 3; have hfz9_4 := blk_frozen BK215.out 4; have hfz9_5 := blk_frozen BK215.out 5; have hfz9_6 := blk_frozen BK215.out 6; have hfz9_7 := blk_frozen BK215.out 7))
    go_meet
    case rel => exact ⟨_, (true), (by first | rfl | (simp; done) | exact congrArg Value.bool (ne_nil_b _) | exact congrArg Value.bool (eq_nil_b _) | (simp [*]; done)), H', ⟨by first | omega | exact Nat.le_refl _⟩, ⟨by (with_reducible repeat (first | refine blk_drewN ?_ _ | refine blk_drew ?_ | refine blk_alloc ?_ _)); exact BK215.out⟩, ⟨bz⟩⟩
   ·
    rw [if_neg c6] at H
    have c6b0 : decide (a0_1 < 0) = false := decide_eq_false c6
    clear c6
    (first | rw [c6b0] | (simp only [i64_w, i32_w]; rw [c6b0]) | skip)
    have H' := Aside0.mk H
    clear H
    have hcz10_0 : w3.cell? ⟨gb215, 0, none⟩ = some (.slice A0_0 l0_0.length c0_0) := (blk_cell BK215.out 0).trans rfl
    have hcz10_1 : w3.cell? ⟨gb215, 1, none⟩ = some (.int .i64 a0_1) := (blk_cell BK215.out 1).trans rfl
    have hcz10_2 : w3.cell? ⟨gb215, 2, none⟩ = some (.bool a0_2) := (blk_cell BK215.out 2).trans rfl
    have hcz10_3 : w3.cell? ⟨gb215, 3, none⟩ = some (.int .i64 a0_3) := (blk_cell BK215.out 3).trans rfl
    have hcz10_4 : w3.cell? ⟨gb215, 4, none⟩ = some (.string a0_4) := (blk_cell BK215.out 4).trans rfl
    have hcz10_5 : w3.cell? ⟨gb215, 5, none⟩ = some (.int .i64 a0_5) := (blk_cell BK215.out 5).trans rfl
    have hcz10_6 : w3.cell? ⟨gb215, 6, none⟩ = some (.int .i64 a0_6) := (blk_cell BK215.out 6).trans rfl
    have hcz10_7 : w3.cell? ⟨gb215, 7, none⟩ = some (.int .i64 a0_7) := (blk_cell BK215.out 7).trans rfl
    have hfz10_0 := blk_frozen BK215.out 0
    have hfz10_1 := blk_frozen BK215.out 1
    have hfz10_2 := blk_frozen BK215.out 2
    have hfz10_3 := blk_frozen BK215.out 3
    have hfz10_4 := blk_frozen BK215.out 4
    have hfz10_5 := blk_frozen BK215.out 5
    have hfz10_6 := blk_frozen BK215.out 6
    have hfz10_7 := blk_frozen BK215.out 7
    go_wp2_with (first | ((with_reducible refine gate_callee (f := 29) rfl ?_); refine goesL_ (some 5) rfl rfl Try.func29 (by kernel_rfl) rfl #[.slice A0_0 l0_0.length c0_0] rfl (by (try simp only [List.map_toArray, List.map_cons, List.map_nil]); first | done | rfl | (simp only [List.length_drop, List.length_take]; rfl)) ?_; (with_reducible refine (impl_CacheValid.calls k _ _ l0_0 true _ ?side1 ?side2 A4.out).mono ?_); (case side1 => repeat (first | exact (Kd.C_below HR0_0.out HB.out) | (with_reducible refine Kd.C_alloc ?_ _) | (with_reducible refine Kd.C_drewN ?_ _) | (with_reducible refine Kd.C_drew ?_))); (case side2 => exact HC0_0.out); rintro e w11 ⟨rfl, hb⟩; refine ⟨_, rfl, ?_⟩; have n0_ := bkb BK215 hb; have n1_ := Aside0.mk (below_step (bz) hb); clear BK215; clear HB; have BK215 := n0_; have HB := n1_; clear n0_ n1_; (try clear hb); (try clear hb2); (try clear hk); (try clear hi); have hcz12_0 : w11.cell? ⟨gb215, 0, none⟩ = some (.slice A0_0 l0_0.length c0_0) := (blk_cell BK215.out 0).trans rfl; have hcz12_1 : w11.cell? ⟨gb215, 1, none⟩ = some (.int .i64 a0_1) := (blk_cell BK215.out 1).trans rfl; have hcz12_2 : w11.cell? ⟨gb215, 2, none⟩ = some (.bool a0_2) := (blk_cell BK215.out 2).trans rfl; have hcz12_3 : w11.cell? ⟨gb215, 3, none⟩ = some (.int .i64 a0_3) := (blk_cell BK215.out 3).trans rfl; have hcz12_4 : w11.cell? ⟨gb215, 4, none⟩ = some (.string a0_4) := (blk_cell BK215.out 4).trans rfl; have hcz12_5 : w11.cell? ⟨gb215, 5, none⟩ = some (.int .i64 a0_5) := (blk_cell BK215.out 5).trans rfl; have hcz12_6 : w11.cell? ⟨gb215, 6, none⟩ = some (.int .i64 a0_6) := (blk_cell BK215.out 6).trans rfl; have hcz12_7 : w11.cell? ⟨gb215, 7, none⟩ = some (.int .i64 a0_7) := (blk_cell BK215.out 7).trans rfl; have hfz12_0 := blk_frozen BK215.out 0; have hfz12_1 := blk_frozen BK215.out 1; have hfz12_2 := blk_frozen BK215.out 2; have hfz12_3 := blk_frozen BK215.out 3; have hfz12_4 := blk_frozen BK215.out 4; have hfz12_5 := blk_frozen BK215.out 5; have hfz12_6 := blk_frozen BK215.out 6; have hfz12_7 := blk_frozen BK215.out 7))
    go_meet
    case rel => exact ⟨_, (decide (a0_1 > 999)), (by first | rfl | (simp; done) | exact congrArg Value.bool (ne_nil_b _) | exact congrArg Value.bool (eq_nil_b _) | (simp [*]; done)), H', ⟨by first | omega | exact Nat.le_refl _⟩, ⟨by (with_reducible repeat (first | refine blk_drewN ?_ _ | refine blk_drew ?_ | refine blk_alloc ?_ _)); exact BK215.out⟩, ⟨bz⟩⟩
  ·
   replace c5 := Bool.eq_false_iff.mpr c5
   subst c5
   rw [if_neg (show ¬ (false = true) by decide)] at H
   have H' := Aside0.mk H
   clear H
   have hcz13_0 : w3.cell? ⟨gb215, 0, none⟩ = some (.slice A0_0 l0_0.length c0_0) := (blk_cell BK215.out 0).trans rfl
   have hcz13_1 : w3.cell? ⟨gb215, 1, none⟩ = some (.int .i64 a0_1) := (blk_cell BK215.out 1).trans rfl
   have hcz13_2 : w3.cell? ⟨gb215, 2, none⟩ = some (.bool a0_2) := (blk_cell BK215.out 2).trans rfl
   have hcz13_3 : w3.cell? ⟨gb215, 3, none⟩ = some (.int .i64 a0_3) := (blk_cell BK215.out 3).trans rfl
   have hcz13_4 : w3.cell? ⟨gb215, 4, none⟩ = some (.string a0_4) := (blk_cell BK215.out 4).trans rfl
   have hcz13_5 : w3.cell? ⟨gb215, 5, none⟩ = some (.int .i64 a0_5) := (blk_cell BK215.out 5).trans rfl
   have hcz13_6 : w3.cell? ⟨gb215, 6, none⟩ = some (.int .i64 a0_6) := (blk_cell BK215.out 6).trans rfl
   have hcz13_7 : w3.cell? ⟨gb215, 7, none⟩ = some (.int .i64 a0_7) := (blk_cell BK215.out 7).trans rfl
   have hfz13_0 := blk_frozen BK215.out 0
   have hfz13_1 := blk_frozen BK215.out 1
   have hfz13_2 := blk_frozen BK215.out 2
   have hfz13_3 := blk_frozen BK215.out 3
   have hfz13_4 := blk_frozen BK215.out 4
   have hfz13_5 := blk_frozen BK215.out 5
   have hfz13_6 := blk_frozen BK215.out 6
   have hfz13_7 := blk_frozen BK215.out 7
   go_wp2_with (first | ((with_reducible refine gate_callee (f := 29) rfl ?_); refine goesL_ (some 5) rfl rfl Try.func29 (by kernel_rfl) rfl #[.slice A0_0 l0_0.length c0_0] rfl (by (try simp only [List.map_toArray, List.map_cons, List.map_nil]); first | done | rfl | (simp only [List.length_drop, List.length_take]; rfl)) ?_; (with_reducible refine (impl_CacheValid.calls k _ _ l0_0 false _ ?side1 ?side2 A4.out).mono ?_); (case side1 => repeat (first | exact (Kd.C_below HR0_0.out HB.out) | (with_reducible refine Kd.C_alloc ?_ _) | (with_reducible refine Kd.C_drewN ?_ _) | (with_reducible refine Kd.C_drew ?_))); (case side2 => exact HC0_0.out); rintro e w14 ⟨rfl, hb⟩; refine ⟨_, rfl, ?_⟩; have n0_ := bkb BK215 hb; have n1_ := Aside0.mk (below_step (bz) hb); clear BK215; clear HB; have BK215 := n0_; have HB := n1_; clear n0_ n1_; (try clear hb); (try clear hb2); (try clear hk); (try clear hi)))
   go_meet
   case rel => exact ⟨_, (true), (by first | rfl | (simp; done) | exact congrArg Value.bool (ne_nil_b _) | exact congrArg Value.bool (eq_nil_b _) | (simp [*]; done)), H', ⟨by first | omega | exact Nat.le_refl _⟩, ⟨by (with_reducible repeat (first | refine blk_drewN ?_ _ | refine blk_drew ?_ | refine blk_alloc ?_ _)); exact BK215.out⟩, ⟨bz⟩⟩
 case rest =>
  clear HC2
  try clear c2
  try clear p2
  try clear c3
  try clear c5
  try clear c6
  try clear c6b0
  try clear hcz10_0
  try clear hcz10_1
  try clear hcz10_2
  try clear hcz10_3
  try clear hcz10_4
  try clear hcz10_5
  try clear hcz10_6
  try clear hcz10_7
  try clear hcz12_0
  try clear hcz12_1
  try clear hcz12_2
  try clear hcz12_3
  try clear hcz12_4
  try clear hcz12_5
  try clear hcz12_6
  try clear hcz12_7
  try clear hcz13_0
  try clear hcz13_1
  try clear hcz13_2
  try clear hcz13_3
  try clear hcz13_4
  try clear hcz13_5
  try clear hcz13_6
  try clear hcz13_7
  try clear hcz7_0
  try clear hcz7_1
  try clear hcz7_2
  try clear hcz7_3
  try clear hcz7_4
  try clear hcz7_5
  try clear hcz7_6
  try clear hcz7_7
  try clear hcz9_0
  try clear hcz9_1
  try clear hcz9_2
  try clear hcz9_3
  try clear hcz9_4
  try clear hcz9_5
  try clear hcz9_6
  try clear hcz9_7
  try clear hfz10_0
  try clear hfz10_1
  try clear hfz10_2
  try clear hfz10_3
  try clear hfz10_4
  try clear hfz10_5
  try clear hfz10_6
  try clear hfz10_7
  try clear hfz12_0
  try clear hfz12_1
  try clear hfz12_2
  try clear hfz12_3
  try clear hfz12_4
  try clear hfz12_5
  try clear hfz12_6
  try clear hfz12_7
  try clear hfz13_0
  try clear hfz13_1
  try clear hfz13_2
  try clear hfz13_3
  try clear hfz13_4
  try clear hfz13_5
  try clear hfz13_6
  try clear hfz13_7
  try clear hfz7_0
  try clear hfz7_1
  try clear hfz7_2
  try clear hfz7_3
  try clear hfz7_4
  try clear hfz7_5
  try clear hfz7_6
  try clear hfz7_7
  try clear hfz9_0
  try clear hfz9_1
  try clear hfz9_2
  try clear hfz9_3
  try clear hfz9_4
  try clear hfz9_5
  try clear hfz9_6
  try clear hfz9_7
  obtain ⟨kq, x16_1, rfl, HA, HJ1, BK215, HB⟩ := hcut
  cases kq with
  | zero => exact absurd HA.out (by simp [impl_CallerValid.j0])
  | succ kj1 =>
   have H := HA.out
   clear HA
   simp only [impl_CallerValid.j0] at H
   by_cases c15 : x16_1 = true
   ·
    subst c15
    rw [if_pos rfl] at H
    obtain rfl := Option.some.inj H
    go_wp2
    go_ret
    exact ⟨by first | rfl | (simp only [u8w, w64m]; rfl) | (simp [errW_none, errW_some] <;> rfl) | (simp [*, errW_none, errW_some] <;> rfl), bz⟩
   ·
    replace c15 := Bool.eq_false_iff.mpr c15
    subst c15
    rw [if_neg (show ¬ (false = true) by decide)] at H
    by_cases c16 : a0_2 = true
    ·
     subst c16
     rw [if_pos rfl] at H
     by_cases c17 : a0_1 ≥ 1
     ·
      rw [if_pos c17] at H
      have c17b0 : decide (1 ≤ a0_1) = true := decide_eq_true c17
      clear c17
      replace H := Option.bind_eq_some_iff.mp H
      obtain ⟨t217, A180, H⟩ := H
      try dsimp only at H
      have A18 := Aside0.mk A180
      clear A180
      by_cases c19 : t217 = true
      ·
       subst c19
       rw [if_pos rfl] at H
       replace H := Option.bind_eq_some_iff.mp H
       obtain ⟨t218, A200, H⟩ := H
       try dsimp only at H
       have A20 := Aside0.mk A200
       clear A200
       obtain rfl := Option.some.inj H
       have hcz21_0 : wc.cell? ⟨gb215, 0, none⟩ = some (.slice A0_0 l0_0.length c0_0) := (blk_cell BK215.out 0).trans rfl
       have hcz21_1 : wc.cell? ⟨gb215, 1, none⟩ = some (.int .i64 a0_1) := (blk_cell BK215.out 1).trans rfl
       have hcz21_2 : wc.cell? ⟨gb215, 2, none⟩ = some (.bool true) := (blk_cell BK215.out 2).trans rfl
       have hcz21_3 : wc.cell? ⟨gb215, 3, none⟩ = some (.int .i64 a0_3) := (blk_cell BK215.out 3).trans rfl
       have hcz21_4 : wc.cell? ⟨gb215, 4, none⟩ = some (.string a0_4) := (blk_cell BK215.out 4).trans rfl
       have hcz21_5 : wc.cell? ⟨gb215, 5, none⟩ = some (.int .i64 a0_5) := (blk_cell BK215.out 5).trans rfl
       have hcz21_6 : wc.cell? ⟨gb215, 6, none⟩ = some (.int .i64 a0_6) := (blk_cell BK215.out 6).trans rfl
       have hcz21_7 : wc.cell? ⟨gb215, 7, none⟩ = some (.int .i64 a0_7) := (blk_cell BK215.out 7).trans rfl
       have hfz21_0 := blk_frozen BK215.out 0
       have hfz21_1 := blk_frozen BK215.out 1
       have hfz21_2 := blk_frozen BK215.out 2
       have hfz21_3 := blk_frozen BK215.out 3
       have hfz21_4 := blk_frozen BK215.out 4
       have hfz21_5 := blk_frozen BK215.out 5
       have hfz21_6 := blk_frozen BK215.out 6
       have hfz21_7 := blk_frozen BK215.out 7
       go_wp2_with (first | (go_at_call 80; (with_reducible refine (impl_wishValid.calls kj1 a0_3 a0_4 a0_5 a0_6 true _ A18.out).mono ?_); rintro e w22 ⟨rfl, hb⟩; have n0_ := bkb BK215 hb; have n1_ := Aside0.mk (below_step (bz) hb); clear BK215; clear HB; have BK215 := n0_; have HB := n1_; clear n0_ n1_; (try clear hb); (try clear hb2); (try clear hk); (try clear hi); have hcz23_0 : w22.cell? ⟨gb215, 0, none⟩ = some (.slice A0_0 l0_0.length c0_0) := (blk_cell BK215.out 0).trans rfl; have hcz23_1 : w22.cell? ⟨gb215, 1, none⟩ = some (.int .i64 a0_1) := (blk_cell BK215.out 1).trans rfl; have hcz23_2 : w22.cell? ⟨gb215, 2, none⟩ = some (.bool true) := (blk_cell BK215.out 2).trans rfl; have hcz23_3 : w22.cell? ⟨gb215, 3, none⟩ = some (.int .i64 a0_3) := (blk_cell BK215.out 3).trans rfl; have hcz23_4 : w22.cell? ⟨gb215, 4, none⟩ = some (.string a0_4) := (blk_cell BK215.out 4).trans rfl; have hcz23_5 : w22.cell? ⟨gb215, 5, none⟩ = some (.int .i64 a0_5) := (blk_cell BK215.out 5).trans rfl; have hcz23_6 : w22.cell? ⟨gb215, 6, none⟩ = some (.int .i64 a0_6) := (blk_cell BK215.out 6).trans rfl; have hcz23_7 : w22.cell? ⟨gb215, 7, none⟩ = some (.int .i64 a0_7) := (blk_cell BK215.out 7).trans rfl; have hfz23_0 := blk_frozen BK215.out 0; have hfz23_1 := blk_frozen BK215.out 1; have hfz23_2 := blk_frozen BK215.out 2; have hfz23_3 := blk_frozen BK215.out 3; have hfz23_4 := blk_frozen BK215.out 4; have hfz23_5 := blk_frozen BK215.out 5; have hfz23_6 := blk_frozen BK215.out 6; have hfz23_7 := blk_frozen BK215.out 7) | (go_at_call 81; (with_reducible refine (impl_timeValid.calls a0_7 t218 _ A20.out).mono ?_); rintro e w' ⟨rfl, ⟨nd, rfl⟩⟩))
       go_ret
       exact ⟨by first | rfl | (simp only [u8w, w64m]; rfl) | (simp [errW_none, errW_some] <;> rfl) | (simp [*, errW_none, errW_some] <;> rfl), bz⟩
      ·
       replace c19 := Bool.eq_false_iff.mpr c19
       subst c19
       rw [if_neg (show ¬ (false = true) by decide)] at H
       obtain rfl := Option.some.inj H
       have hcz24_0 : wc.cell? ⟨gb215, 0, none⟩ = some (.slice A0_0 l0_0.length c0_0) := (blk_cell BK215.out 0).trans rfl
       have hcz24_1 : wc.cell? ⟨gb215, 1, none⟩ = some (.int .i64 a0_1) := (blk_cell BK215.out 1).trans rfl
       have hcz24_2 : wc.cell? ⟨gb215, 2, none⟩ = some (.bool true) := (blk_cell BK215.out 2).trans rfl
       have hcz24_3 : wc.cell? ⟨gb215, 3, none⟩ = some (.int .i64 a0_3) := (blk_cell BK215.out 3).trans rfl
       have hcz24_4 : wc.cell? ⟨gb215, 4, none⟩ = some (.string a0_4) := (blk_cell BK215.out 4).trans rfl
       have hcz24_5 : wc.cell? ⟨gb215, 5, none⟩ = some (.int .i64 a0_5) := (blk_cell BK215.out 5).trans rfl
       have hcz24_6 : wc.cell? ⟨gb215, 6, none⟩ = some (.int .i64 a0_6) := (blk_cell BK215.out 6).trans rfl
       have hcz24_7 : wc.cell? ⟨gb215, 7, none⟩ = some (.int .i64 a0_7) := (blk_cell BK215.out 7).trans rfl
       have hfz24_0 := blk_frozen BK215.out 0
       have hfz24_1 := blk_frozen BK215.out 1
       have hfz24_2 := blk_frozen BK215.out 2
       have hfz24_3 := blk_frozen BK215.out 3
       have hfz24_4 := blk_frozen BK215.out 4
       have hfz24_5 := blk_frozen BK215.out 5
       have hfz24_6 := blk_frozen BK215.out 6
       have hfz24_7 := blk_frozen BK215.out 7
       go_wp2_with (first | (go_at_call 80; (with_reducible refine (impl_wishValid.calls kj1 a0_3 a0_4 a0_5 a0_6 false _ A18.out).mono ?_); rintro e w25 ⟨rfl, hb⟩; have n0_ := bkb BK215 hb; have n1_ := Aside0.mk (below_step (bz) hb); clear BK215; clear HB; have BK215 := n0_; have HB := n1_; clear n0_ n1_; (try clear hb); (try clear hb2); (try clear hk); (try clear hi)))
       go_ret
       exact ⟨by first | rfl | (simp only [u8w, w64m]; rfl) | (simp [errW_none, errW_some] <;> rfl) | (simp [*, errW_none, errW_some] <;> rfl), bz⟩
     ·
      rw [if_neg c17] at H
      have c17b0 : decide (1 ≤ a0_1) = false := decide_eq_false c17
      clear c17
      obtain rfl := Option.some.inj H
      have hcz26_0 : wc.cell? ⟨gb215, 0, none⟩ = some (.slice A0_0 l0_0.length c0_0) := (blk_cell BK215.out 0).trans rfl
      have hcz26_1 : wc.cell? ⟨gb215, 1, none⟩ = some (.int .i64 a0_1) := (blk_cell BK215.out 1).trans rfl
      have hcz26_2 : wc.cell? ⟨gb215, 2, none⟩ = some (.bool true) := (blk_cell BK215.out 2).trans rfl
      have hcz26_3 : wc.cell? ⟨gb215, 3, none⟩ = some (.int .i64 a0_3) := (blk_cell BK215.out 3).trans rfl
      have hcz26_4 : wc.cell? ⟨gb215, 4, none⟩ = some (.string a0_4) := (blk_cell BK215.out 4).trans rfl
      have hcz26_5 : wc.cell? ⟨gb215, 5, none⟩ = some (.int .i64 a0_5) := (blk_cell BK215.out 5).trans rfl
      have hcz26_6 : wc.cell? ⟨gb215, 6, none⟩ = some (.int .i64 a0_6) := (blk_cell BK215.out 6).trans rfl
      have hcz26_7 : wc.cell? ⟨gb215, 7, none⟩ = some (.int .i64 a0_7) := (blk_cell BK215.out 7).trans rfl
      have hfz26_0 := blk_frozen BK215.out 0
      have hfz26_1 := blk_frozen BK215.out 1
      have hfz26_2 := blk_frozen BK215.out 2
      have hfz26_3 := blk_frozen BK215.out 3
      have hfz26_4 := blk_frozen BK215.out 4
      have hfz26_5 := blk_frozen BK215.out 5
      have hfz26_6 := blk_frozen BK215.out 6
      have hfz26_7 := blk_frozen BK215.out 7
      go_wp2
      go_ret
      exact ⟨by first | rfl | (simp only [u8w, w64m]; rfl) | (simp [errW_none, errW_some] <;> rfl) | (simp [*, errW_none, errW_some] <;> rfl), bz⟩
    ·
     replace c16 := Bool.eq_false_iff.mpr c16
     subst c16
     rw [if_neg (show ¬ (false = true) by decide)] at H
     by_cases c27 : (a0_3 == 0 && (a0_4.toList == ([] : List UInt8) && (a0_5 == 0 && (a0_6 == 0)))) = true
     ·
      rw [if_pos c27] at H
      have c27b0 : (a0_3 == 0 && (a0_4.toList == ([] : List UInt8) && (a0_5 == 0 && (a0_6 == 0)))) = true := c27
      (try (have c27b1 : decide (a0_3 = 0 && (a0_4.toList == ([] : List UInt8) && (a0_5 == 0 && (a0_6 == 0)))) = true := by simpa using c27))
      (try (have c27b2 : (a0_3 == 0 && (a0_4.toList == ([] : List UInt8) && (a0_5 == 0 && (a0_6 == 0)))) = true := by simpa using c27))
      (try (have c27b9 := c27b0; simp only [← eq_nil_b] at c27b9))
      clear c27
      obtain rfl := Option.some.inj H
      have hcz28_0 : wc.cell? ⟨gb215, 0, none⟩ = some (.slice A0_0 l0_0.length c0_0) := (blk_cell BK215.out 0).trans rfl
      have hcz28_1 : wc.cell? ⟨gb215, 1, none⟩ = some (.int .i64 a0_1) := (blk_cell BK215.out 1).trans rfl
      have hcz28_2 : wc.cell? ⟨gb215, 2, none⟩ = some (.bool false) := (blk_cell BK215.out 2).trans rfl
      have hcz28_3 : wc.cell? ⟨gb215, 3, none⟩ = some (.int .i64 a0_3) := (blk_cell BK215.out 3).trans rfl
      have hcz28_4 : wc.cell? ⟨gb215, 4, none⟩ = some (.string a0_4) := (blk_cell BK215.out 4).trans rfl
      have hcz28_5 : wc.cell? ⟨gb215, 5, none⟩ = some (.int .i64 a0_5) := (blk_cell BK215.out 5).trans rfl
      have hcz28_6 : wc.cell? ⟨gb215, 6, none⟩ = some (.int .i64 a0_6) := (blk_cell BK215.out 6).trans rfl
      have hcz28_7 : wc.cell? ⟨gb215, 7, none⟩ = some (.int .i64 a0_7) := (blk_cell BK215.out 7).trans rfl
      have hfz28_0 := blk_frozen BK215.out 0
      have hfz28_1 := blk_frozen BK215.out 1
      have hfz28_2 := blk_frozen BK215.out 2
      have hfz28_3 := blk_frozen BK215.out 3
      have hfz28_4 := blk_frozen BK215.out 4
      have hfz28_5 := blk_frozen BK215.out 5
      have hfz28_6 := blk_frozen BK215.out 6
      have hfz28_7 := blk_frozen BK215.out 7
      go_wp2
      go_ret
      exact ⟨by first | rfl | (simp only [u8w, w64m]; rfl) | (simp [errW_none, errW_some] <;> rfl) | (simp [*, errW_none, errW_some] <;> rfl), bz⟩
     ·
      rw [if_neg c27] at H
      have c27b0 : (a0_3 == 0 && (a0_4.toList == ([] : List UInt8) && (a0_5 == 0 && (a0_6 == 0)))) = false := by simpa using c27
      (try (have c27b1 : decide (a0_3 = 0 && (a0_4.toList == ([] : List UInt8) && (a0_5 == 0 && (a0_6 == 0)))) = false := by simpa using c27))
      (try (have c27b2 : (a0_3 == 0 && (a0_4.toList == ([] : List UInt8) && (a0_5 == 0 && (a0_6 == 0)))) = false := by simpa using c27))
      (try (have c27b3 : ¬ (a0_3 = 0 && (a0_4.toList == ([] : List UInt8) && (a0_5 == 0 && (a0_6 == 0)))) := by simpa using c27))
      (try (have c27b9 := c27b0; simp only [← eq_nil_b] at c27b9))
      clear c27
      obtain rfl := Option.some.inj H
      have hcz29_0 : wc.cell? ⟨gb215, 0, none⟩ = some (.slice A0_0 l0_0.length c0_0) := (blk_cell BK215.out 0).trans rfl
      have hcz29_1 : wc.cell? ⟨gb215, 1, none⟩ = some (.int .i64 a0_1) := (blk_cell BK215.out 1).trans rfl
      have hcz29_2 : wc.cell? ⟨gb215, 2, none⟩ = some (.bool false) := (blk_cell BK215.out 2).trans rfl
      have hcz29_3 : wc.cell? ⟨gb215, 3, none⟩ = some (.int .i64 a0_3) := (blk_cell BK215.out 3).trans rfl
      have hcz29_4 : wc.cell? ⟨gb215, 4, none⟩ = some (.string a0_4) := (blk_cell BK215.out 4).trans rfl
      have hcz29_5 : wc.cell? ⟨gb215, 5, none⟩ = some (.int .i64 a0_5) := (blk_cell BK215.out 5).trans rfl
      have hcz29_6 : wc.cell? ⟨gb215, 6, none⟩ = some (.int .i64 a0_6) := (blk_cell BK215.out 6).trans rfl
      have hcz29_7 : wc.cell? ⟨gb215, 7, none⟩ = some (.int .i64 a0_7) := (blk_cell BK215.out 7).trans rfl
      have hfz29_0 := blk_frozen BK215.out 0
      have hfz29_1 := blk_frozen BK215.out 1
      have hfz29_2 := blk_frozen BK215.out 2
      have hfz29_3 := blk_frozen BK215.out 3
      have hfz29_4 := blk_frozen BK215.out 4
      have hfz29_5 := blk_frozen BK215.out 5
      have hfz29_6 := blk_frozen BK215.out 6
      have hfz29_7 := blk_frozen BK215.out 7
      go_wp2
      go_ret
      exact ⟨by first | rfl | (simp only [u8w, w64m]; rfl) | (simp [errW_none, errW_some] <;> rfl) | (simp [*, errW_none, errW_some] <;> rfl), bz⟩

/-! ### impl_RequestOf: function 49 -/
def impl_RequestOf.f (k : Nat) (l0_0 : List (S43)) (a0_1 : Int) (a0_2 : Bool) (a0_3 : Int) (a0_4 : ByteArray) (a0_5 : Int) (a0_6 : Int) (a0_7 : Int) (a1 : Int) : Option (Int × Int × Int × ByteArray × Int × Int × Bool) := (impl_CallerValid.f k l0_0 a0_1 a0_2 a0_3 a0_4 a0_5 a0_6 a0_7).bind fun t221 => (if t221 = true then (if a0_2 = true then (if a1 < 0 then (some (0, 0, 0, (⟨#[]⟩ : ByteArray), 0, 0, false)) else (if a1 ≥ 4 then (some (0, 0, 0, (⟨#[]⟩ : ByteArray), 0, 0, false)) else (some (a1, a0_1, a0_3, a0_4, a0_5, a0_6, true)))) else (some (0, 0, 0, (⟨#[]⟩ : ByteArray), 0, 0, false))) else (some (0, 0, 0, (⟨#[]⟩ : ByteArray), 0, 0, false)))
theorem impl_RequestOf.mono : ∀ a0 a1 a2 a3 a4 a5 a6 a7 a8 k, LeO (impl_RequestOf.f k a0 a1 a2 a3 a4 a5 a6 a7 a8) (impl_RequestOf.f (k + 1) a0 a1 a2 a3 a4 a5 a6 a7 a8) := by
 intro a0 a1 a2 a3 a4 a5 a6 a7 a8 k
 unfold impl_RequestOf.f
 repeat' first
   | (with_reducible exact impl_CallerValid.mono _ _ _ _ _ _ _ _ _)
   | (with_reducible exact LeO.refl _)
   | (with_reducible exact LeO.none _)
   | (with_reducible refine LeO.ite ?_ ?_)
   | (with_reducible refine LeO.bind ?_ (fun _ => ?_))
   | exact impl_CallerValid.mono _ _ _ _ _ _ _ _ _
   | exact LeO.none _
   | refine LeO.ite ?_ ?_
   | refine LeO.bind ?_ (fun _ => ?_)
set_option maxHeartbeats 8000000 in
set_option maxRecDepth 100000 in
theorem impl_RequestOf.calls (k : Nat) (A0_0 : Option Addr) (c0_0 : Nat) (l0_0 : List (S43)) (a0_1 : Int) (a0_2 : Bool) (a0_3 : Int) (a0_4 : ByteArray) (a0_5 : Int) (a0_6 : Int) (a0_7 : Int) (a1 : Int) (r1 : Int) (r2 : Int) (r3 : Int) (r4 : ByteArray) (r5 : Int) (r6 : Int) (r7 : Bool) (w : World) (hr0_0 : Kd.C k43 w A0_0 l0_0.length l0_0) (hc0_0 : l0_0.length ≤ c0_0) (h : impl_RequestOf.f k l0_0 a0_1 a0_2 a0_3 a0_4 a0_5 a0_6 a0_7 a1 = some (r1, r2, r3, r4, r5, r6, r7)) :
  Calls Try.prog 49 #[.agg #[.slice A0_0 l0_0.length c0_0, .int .i64 a0_1, .bool a0_2, .int .i64 a0_3, .string a0_4, .int .i64 a0_5, .int .i64 a0_6, .int .i64 a0_7], .int .i64 a1] w fun e w' => e = .returned (.tuple #[.agg #[.int .i64 r1, .int .i64 r2, .int .i64 r3, .string r4, .int .i64 r5, .int .i64 r6], .bool r7]) ∧ Below w.heap.size w w' := by
 have hu57 := Try.underlying57
 have hu69 := Try.underlying69
 have hu55 := Try.underlying55
 have HR0_0 := Aside0.mk hr0_0
 have HC0_0 := Aside0.mk hc0_0
 clear hr0_0 hc0_0
 have HB := Aside0.mk (Below.refl w.heap.size w)
 have H : ((impl_CallerValid.f k l0_0 a0_1 a0_2 a0_3 a0_4 a0_5 a0_6 a0_7).bind fun t221 => (if t221 = true then (if a0_2 = true then (if a1 < 0 then (some (0, 0, 0, (⟨#[]⟩ : ByteArray), 0, 0, false)) else (if a1 ≥ 4 then (some (0, 0, 0, (⟨#[]⟩ : ByteArray), 0, 0, false)) else (some (a1, a0_1, a0_3, a0_4, a0_5, a0_6, true)))) else (some (0, 0, 0, (⟨#[]⟩ : ByteArray), 0, 0, false))) else (some (0, 0, 0, (⟨#[]⟩ : ByteArray), 0, 0, false)))) = some (r1, r2, r3, r4, r5, r6, r7) := h
 clear h
 replace H := Option.bind_eq_some_iff.mp H
 obtain ⟨t221, A30, H⟩ := H
 try dsimp only at H
 have A3 := Aside0.mk A30
 clear A30
 by_cases c4 : t221 = true
 ·
  subst c4
  rw [if_pos rfl] at H
  by_cases c5 : a0_2 = true
  ·
   subst c5
   rw [if_pos rfl] at H
   by_cases c6 : a1 < 0
   ·
    rw [if_pos c6] at H
    have c6b0 : decide (a1 < 0) = true := decide_eq_true c6
    clear c6
    simp only [Option.some.injEq, Prod.mk.injEq] at H
    obtain ⟨rfl, rfl, rfl, rfl, rfl, rfl, rfl⟩ := H
    go_enter Try.func49, Try.ntmps49
    go_wp2_with (first | ((with_reducible refine gate_dst (N := 2) rfl ?_); refine box_event ?hg (N := 2) ?hd (cs := #[.slice A0_0 l0_0.length c0_0, .int .i64 a0_1, .bool true, .int .i64 a0_3, .string a0_4, .int .i64 a0_5, .int .i64 a0_6, .int .i64 a0_7]) (t := 57) ?hr ?_; (case hd => rfl); (case hg => rfl); (case hr => first | (go_simp; done) | (go_simp; rfl)); intro gb219 hg w7 hbox hb; have n0_ := Aside0.mk (below_step (bz) hb); have n1_ := Aside0.mk (hbox); have n2_ : Aside0 (w.heap.size ≤ gb219) := bsg hg; have n3_ : Aside0 (w.heap.size ≤ gb219) := bsg hg; clear HB; have HB := n0_; have BK219 := n1_; have GW219 := n2_; have GE219 := n3_; clear n0_ n1_ n2_ n3_; clear hb hbox hg) | ((with_reducible refine gate_dst (N := 4) rfl ?_); refine box_event ?hg (N := 4) ?hd (cs := #[.int .i64 0, .int .i64 0, .int .i64 0, .string (⟨#[]⟩ : ByteArray), .int .i64 0, .int .i64 0]) (t := 69) ?hr ?_; (case hd => rfl); (case hg => rfl); (case hr => first | (go_simp; done) | (go_simp; rfl)); intro gb220 hg w8 hbox hb; have n0_ := bkb BK219 hb; have n1_ := Aside0.mk (below_step (bz) hb); have n2_ := Aside0.mk (hbox); have n3_ : Aside0 (w.heap.size ≤ gb220) := bsg hg; have n4_ : Aside0 (w.heap.size ≤ gb220) := bsg hg; have n5_ := nlt hg BK219; have n6_ := ngt hg BK219; clear BK219; clear HB; have BK219 := n0_; have HB := n1_; have BK220 := n2_; have GW220 := n3_; have GE220 := n4_; have NB219_220 := n5_; have NB220_219 := n6_; clear n0_ n1_ n2_ n3_ n4_ n5_ n6_; clear hb hbox hg; have hnb9 := NB219_220.out; have hnc9 := NB220_219.out; have hcz10_0 : w8.cell? ⟨gb219, 0, none⟩ = some (.slice A0_0 l0_0.length c0_0) := (blk_cell BK219.out 0).trans rfl; have hcz10_1 : w8.cell? ⟨gb219, 1, none⟩ = some (.int .i64 a0_1) := (blk_cell BK219.out 1).trans rfl; have hcz10_2 : w8.cell? ⟨gb219, 2, none⟩ = some (.bool true) := (blk_cell BK219.out 2).trans rfl; have hcz10_3 : w8.cell? ⟨gb219, 3, none⟩ = some (.int .i64 a0_3) := (blk_cell BK219.out 3).trans rfl; have hcz10_4 : w8.cell? ⟨gb219, 4, none⟩ = some (.string a0_4) := (blk_cell BK219.out 4).trans rfl; have hcz10_5 : w8.cell? ⟨gb219, 5, none⟩ = some (.int .i64 a0_5) := (blk_cell BK219.out 5).trans rfl; have hcz10_6 : w8.cell? ⟨gb219, 6, none⟩ = some (.int .i64 a0_6) := (blk_cell BK219.out 6).trans rfl; have hcz10_7 : w8.cell? ⟨gb219, 7, none⟩ = some (.int .i64 a0_7) := (blk_cell BK219.out 7).trans rfl; have hfz10_0 := blk_frozen BK219.out 0; have hfz10_1 := blk_frozen BK219.out 1; have hfz10_2 := blk_frozen BK219.out 2; have hfz10_3 := blk_frozen BK219.out 3; have hfz10_4 := blk_frozen BK219.out 4; have hfz10_5 := blk_frozen BK219.out 5; have hfz10_6 := blk_frozen BK219.out 6; have hfz10_7 := blk_frozen BK219.out 7) | ((with_reducible refine gate_callee (f := 39) rfl ?_); refine goesL_ (some 7) rfl rfl Try.func39 (by kernel_rfl) rfl #[.agg #[.slice A0_0 l0_0.length c0_0, .int .i64 a0_1, .bool true, .int .i64 a0_3, .string a0_4, .int .i64 a0_5, .int .i64 a0_6, .int .i64 a0_7]] rfl (by (try simp only [List.map_toArray, List.map_cons, List.map_nil]); first | done | rfl | (simp only [List.length_drop, List.length_take]; rfl)) ?_; (with_reducible refine (impl_CallerValid.calls k _ _ l0_0 a0_1 true a0_3 a0_4 a0_5 a0_6 a0_7 true _ ?side1 ?side2 A3.out).mono ?_); (case side1 => repeat (first | exact (Kd.C_below HR0_0.out HB.out) | (with_reducible refine Kd.C_alloc ?_ _) | (with_reducible refine Kd.C_drewN ?_ _) | (with_reducible refine Kd.C_drew ?_))); (case side2 => exact HC0_0.out); rintro e w11 ⟨rfl, hb⟩; refine ⟨_, rfl, ?_⟩; have n0_ := bkb BK219 hb; have n1_ := bkb BK220 hb; have n2_ := Aside0.mk (below_step (bz) hb); clear BK219; clear BK220; clear HB; have BK219 := n0_; have BK220 := n1_; have HB := n2_; clear n0_ n1_ n2_; (try clear hb); (try clear hb2); (try clear hk); (try clear hi); have hcz12_0 : w11.cell? ⟨gb219, 0, none⟩ = some (.slice A0_0 l0_0.length c0_0) := (blk_cell BK219.out 0).trans rfl; have hcz12_1 : w11.cell? ⟨gb219, 1, none⟩ = some (.int .i64 a0_1) := (blk_cell BK219.out 1).trans rfl; have hcz12_2 : w11.cell? ⟨gb219, 2, none⟩ = some (.bool true) := (blk_cell BK219.out 2).trans rfl; have hcz12_3 : w11.cell? ⟨gb219, 3, none⟩ = some (.int .i64 a0_3) := (blk_cell BK219.out 3).trans rfl; have hcz12_4 : w11.cell? ⟨gb219, 4, none⟩ = some (.string a0_4) := (blk_cell BK219.out 4).trans rfl; have hcz12_5 : w11.cell? ⟨gb219, 5, none⟩ = some (.int .i64 a0_5) := (blk_cell BK219.out 5).trans rfl; have hcz12_6 : w11.cell? ⟨gb219, 6, none⟩ = some (.int .i64 a0_6) := (blk_cell BK219.out 6).trans rfl; have hcz12_7 : w11.cell? ⟨gb219, 7, none⟩ = some (.int .i64 a0_7) := (blk_cell BK219.out 7).trans rfl; have hfz12_0 := blk_frozen BK219.out 0; have hfz12_1 := blk_frozen BK219.out 1; have hfz12_2 := blk_frozen BK219.out 2; have hfz12_3 := blk_frozen BK219.out 3; have hfz12_4 := blk_frozen BK219.out 4; have hfz12_5 := blk_frozen BK219.out 5; have hfz12_6 := blk_frozen BK219.out 6; have hfz12_7 := blk_frozen BK219.out 7; have hcz13_0 : w11.cell? ⟨gb220, 0, none⟩ = some (.int .i64 0) := (blk_cell BK220.out 0).trans rfl; have hcz13_1 : w11.cell? ⟨gb220, 1, none⟩ = some (.int .i64 0) := (blk_cell BK220.out 1).trans rfl; have hcz13_2 : w11.cell? ⟨gb220, 2, none⟩ = some (.int .i64 0) := (blk_cell BK220.out 2).trans rfl; have hcz13_3 : w11.cell? ⟨gb220, 3, none⟩ = some (.string (⟨#[]⟩ : ByteArray)) := (blk_cell BK220.out 3).trans rfl; have hcz13_4 : w11.cell? ⟨gb220, 4, none⟩ = some (.int .i64 0) := (blk_cell BK220.out 4).trans rfl; have hcz13_5 : w11.cell? ⟨gb220, 5, none⟩ = some (.int .i64 0) := (blk_cell BK220.out 5).trans rfl; have hfz13_0 := blk_frozen BK220.out 0; have hfz13_1 := blk_frozen BK220.out 1; have hfz13_2 := blk_frozen BK220.out 2; have hfz13_3 := blk_frozen BK220.out 3; have hfz13_4 := blk_frozen BK220.out 4; have hfz13_5 := blk_frozen BK220.out 5))
    refine bodyPost_ret (results_ct rfl _ _ gb220 69 #[.int .i64 0, .int .i64 0, .int .i64 0, .string (⟨#[]⟩ : ByteArray), .int .i64 0, .int .i64 0] (0, 0) _ rfl (by (with_reducible repeat (first | refine blk_drewN ?_ _ | refine blk_drew ?_ | refine blk_alloc ?_ _)); refine blk_put (cs := #[.int .i64 0, .int .i64 0, .int .i64 0, .string (⟨#[]⟩ : ByteArray), .int .i64 0, .int .i64 0]) ?_ 5 _ rfl; (with_reducible repeat (first | refine blk_drewN ?_ _ | refine blk_drew ?_ | refine blk_alloc ?_ _)); refine blk_put (cs := #[.int .i64 0, .int .i64 0, .int .i64 0, .string (⟨#[]⟩ : ByteArray), .int .i64 0, .int .i64 0]) ?_ 4 _ rfl; (with_reducible repeat (first | refine blk_drewN ?_ _ | refine blk_drew ?_ | refine blk_alloc ?_ _)); refine blk_put (cs := #[.int .i64 0, .int .i64 0, .int .i64 0, .string (⟨#[]⟩ : ByteArray), .int .i64 0, .int .i64 0]) ?_ 3 _ rfl; (with_reducible repeat (first | refine blk_drewN ?_ _ | refine blk_drew ?_ | refine blk_alloc ?_ _)); refine blk_put (cs := #[.int .i64 0, .int .i64 0, .int .i64 0, .string (⟨#[]⟩ : ByteArray), .int .i64 0, .int .i64 0]) ?_ 2 _ rfl; (with_reducible repeat (first | refine blk_drewN ?_ _ | refine blk_drew ?_ | refine blk_alloc ?_ _)); refine blk_put (cs := #[.int .i64 0, .int .i64 0, .int .i64 0, .string (⟨#[]⟩ : ByteArray), .int .i64 0, .int .i64 0]) ?_ 1 _ rfl; (with_reducible repeat (first | refine blk_drewN ?_ _ | refine blk_drew ?_ | refine blk_alloc ?_ _)); refine blk_put (cs := #[.int .i64 0, .int .i64 0, .int .i64 0, .string (⟨#[]⟩ : ByteArray), .int .i64 0, .int .i64 0]) ?_ 0 _ rfl; (with_reducible repeat (first | refine blk_drewN ?_ _ | refine blk_drew ?_ | refine blk_alloc ?_ _)); exact BK220.out) Try.underlying69 rfl (by kernel_rfl)) rfl ?_
    exact ⟨by first | rfl | (simp only [u8w, w64m]; rfl) | (simp [errW_none, errW_some] <;> rfl) | (simp [*, errW_none, errW_some] <;> rfl), bz⟩
   ·
    rw [if_neg c6] at H
    have c6b0 : decide (a1 < 0) = false := decide_eq_false c6
    clear c6
    by_cases c14 : a1 ≥ 4
    ·
     rw [if_pos c14] at H
     have c14b0 : decide (4 ≤ a1) = true := decide_eq_true c14
     clear c14
     simp only [Option.some.injEq, Prod.mk.injEq] at H
     obtain ⟨rfl, rfl, rfl, rfl, rfl, rfl, rfl⟩ := H
     go_enter Try.func49, Try.ntmps49
     go_wp2_with (first | ((with_reducible refine gate_dst (N := 2) rfl ?_); refine box_event ?hg (N := 2) ?hd (cs := #[.slice A0_0 l0_0.length c0_0, .int .i64 a0_1, .bool true, .int .i64 a0_3, .string a0_4, .int .i64 a0_5, .int .i64 a0_6, .int .i64 a0_7]) (t := 57) ?hr ?_; (case hd => rfl); (case hg => rfl); (case hr => first | (go_simp; done) | (go_simp; rfl)); intro gb219 hg w15 hbox hb; have n0_ := Aside0.mk (below_step (bz) hb); have n1_ := Aside0.mk (hbox); have n2_ : Aside0 (w.heap.size ≤ gb219) := bsg hg; have n3_ : Aside0 (w.heap.size ≤ gb219) := bsg hg; clear HB; have HB := n0_; have BK219 := n1_; have GW219 := n2_; have GE219 := n3_; clear n0_ n1_ n2_ n3_; clear hb hbox hg) | ((with_reducible refine gate_dst (N := 4) rfl ?_); refine box_event ?hg (N := 4) ?hd (cs := #[.int .i64 0, .int .i64 0, .int .i64 0, .string (⟨#[]⟩ : ByteArray), .int .i64 0, .int .i64 0]) (t := 69) ?hr ?_; (case hd => rfl); (case hg => rfl); (case hr => first | (go_simp; done) | (go_simp; rfl)); intro gb220 hg w16 hbox hb; have n0_ := bkb BK219 hb; have n1_ := Aside0.mk (below_step (bz) hb); have n2_ := Aside0.mk (hbox); have n3_ : Aside0 (w.heap.size ≤ gb220) := bsg hg; have n4_ : Aside0 (w.heap.size ≤ gb220) := bsg hg; have n5_ := nlt hg BK219; have n6_ := ngt hg BK219; clear BK219; clear HB; have BK219 := n0_; have HB := n1_; have BK220 := n2_; have GW220 := n3_; have GE220 := n4_; have NB219_220 := n5_; have NB220_219 := n6_; clear n0_ n1_ n2_ n3_ n4_ n5_ n6_; clear hb hbox hg; have hnb17 := NB219_220.out; have hnc17 := NB220_219.out; have hcz18_0 : w16.cell? ⟨gb219, 0, none⟩ = some (.slice A0_0 l0_0.length c0_0) := (blk_cell BK219.out 0).trans rfl; have hcz18_1 : w16.cell? ⟨gb219, 1, none⟩ = some (.int .i64 a0_1) := (blk_cell BK219.out 1).trans rfl; have hcz18_2 : w16.cell? ⟨gb219, 2, none⟩ = some (.bool true) := (blk_cell BK219.out 2).trans rfl; have hcz18_3 : w16.cell? ⟨gb219, 3, none⟩ = some (.int .i64 a0_3) := (blk_cell BK219.out 3).trans rfl; have hcz18_4 : w16.cell? ⟨gb219, 4, none⟩ = some (.string a0_4) := (blk_cell BK219.out 4).trans rfl; have hcz18_5 : w16.cell? ⟨gb219, 5, none⟩ = some (.int .i64 a0_5) := (blk_cell BK219.out 5).trans rfl; have hcz18_6 : w16.cell? ⟨gb219, 6, none⟩ = some (.int .i64 a0_6) := (blk_cell BK219.out 6).trans rfl; have hcz18_7 : w16.cell? ⟨gb219, 7, none⟩ = some (.int .i64 a0_7) := (blk_cell BK219.out 7).trans rfl; have hfz18_0 := blk_frozen BK219.out 0; have hfz18_1 := blk_frozen BK219.out 1; have hfz18_2 := blk_frozen BK219.out 2; have hfz18_3 := blk_frozen BK219.out 3; have hfz18_4 := blk_frozen BK219.out 4; have hfz18_5 := blk_frozen BK219.out 5; have hfz18_6 := blk_frozen BK219.out 6; have hfz18_7 := blk_frozen BK219.out 7) | ((with_reducible refine gate_callee (f := 39) rfl ?_); refine goesL_ (some 7) rfl rfl Try.func39 (by kernel_rfl) rfl #[.agg #[.slice A0_0 l0_0.length c0_0, .int .i64 a0_1, .bool true, .int .i64 a0_3, .string a0_4, .int .i64 a0_5, .int .i64 a0_6, .int .i64 a0_7]] rfl (by (try simp only [List.map_toArray, List.map_cons, List.map_nil]); first | done | rfl | (simp only [List.length_drop, List.length_take]; rfl)) ?_; (with_reducible refine (impl_CallerValid.calls k _ _ l0_0 a0_1 true a0_3 a0_4 a0_5 a0_6 a0_7 true _ ?side1 ?side2 A3.out).mono ?_); (case side1 => repeat (first | exact (Kd.C_below HR0_0.out HB.out) | (with_reducible refine Kd.C_alloc ?_ _) | (with_reducible refine Kd.C_drewN ?_ _) | (with_reducible refine Kd.C_drew ?_))); (case side2 => exact HC0_0.out); rintro e w19 ⟨rfl, hb⟩; refine ⟨_, rfl, ?_⟩; have n0_ := bkb BK219 hb; have n1_ := bkb BK220 hb; have n2_ := Aside0.mk (below_step (bz) hb); clear BK219; clear BK220; clear HB; have BK219 := n0_; have BK220 := n1_; have HB := n2_; clear n0_ n1_ n2_; (try clear hb); (try clear hb2); (try clear hk); (try clear hi); have hcz20_0 : w19.cell? ⟨gb219, 0, none⟩ = some (.slice A0_0 l0_0.length c0_0) := (blk_cell BK219.out 0).trans rfl; have hcz20_1 : w19.cell? ⟨gb219, 1, none⟩ = some (.int .i64 a0_1) := (blk_cell BK219.out 1).trans rfl; have hcz20_2 : w19.cell? ⟨gb219, 2, none⟩ = some (.bool true) := (blk_cell BK219.out 2).trans rfl; have hcz20_3 : w19.cell? ⟨gb219, 3, none⟩ = some (.int .i64 a0_3) := (blk_cell BK219.out 3).trans rfl; have hcz20_4 : w19.cell? ⟨gb219, 4, none⟩ = some (.string a0_4) := (blk_cell BK219.out 4).trans rfl; have hcz20_5 : w19.cell? ⟨gb219, 5, none⟩ = some (.int .i64 a0_5) := (blk_cell BK219.out 5).trans rfl; have hcz20_6 : w19.cell? ⟨gb219, 6, none⟩ = some (.int .i64 a0_6) := (blk_cell BK219.out 6).trans rfl; have hcz20_7 : w19.cell? ⟨gb219, 7, none⟩ = some (.int .i64 a0_7) := (blk_cell BK219.out 7).trans rfl; have hfz20_0 := blk_frozen BK219.out 0; have hfz20_1 := blk_frozen BK219.out 1; have hfz20_2 := blk_frozen BK219.out 2; have hfz20_3 := blk_frozen BK219.out 3; have hfz20_4 := blk_frozen BK219.out 4; have hfz20_5 := blk_frozen BK219.out 5; have hfz20_6 := blk_frozen BK219.out 6; have hfz20_7 := blk_frozen BK219.out 7; have hcz21_0 : w19.cell? ⟨gb220, 0, none⟩ = some (.int .i64 0) := (blk_cell BK220.out 0).trans rfl; have hcz21_1 : w19.cell? ⟨gb220, 1, none⟩ = some (.int .i64 0) := (blk_cell BK220.out 1).trans rfl; have hcz21_2 : w19.cell? ⟨gb220, 2, none⟩ = some (.int .i64 0) := (blk_cell BK220.out 2).trans rfl; have hcz21_3 : w19.cell? ⟨gb220, 3, none⟩ = some (.string (⟨#[]⟩ : ByteArray)) := (blk_cell BK220.out 3).trans rfl; have hcz21_4 : w19.cell? ⟨gb220, 4, none⟩ = some (.int .i64 0) := (blk_cell BK220.out 4).trans rfl; have hcz21_5 : w19.cell? ⟨gb220, 5, none⟩ = some (.int .i64 0) := (blk_cell BK220.out 5).trans rfl; have hfz21_0 := blk_frozen BK220.out 0; have hfz21_1 := blk_frozen BK220.out 1; have hfz21_2 := blk_frozen BK220.out 2; have hfz21_3 := blk_frozen BK220.out 3; have hfz21_4 := blk_frozen BK220.out 4; have hfz21_5 := blk_frozen BK220.out 5))
     refine bodyPost_ret (results_ct rfl _ _ gb220 69 #[.int .i64 0, .int .i64 0, .int .i64 0, .string (⟨#[]⟩ : ByteArray), .int .i64 0, .int .i64 0] (0, 0) _ rfl (by (with_reducible repeat (first | refine blk_drewN ?_ _ | refine blk_drew ?_ | refine blk_alloc ?_ _)); refine blk_put (cs := #[.int .i64 0, .int .i64 0, .int .i64 0, .string (⟨#[]⟩ : ByteArray), .int .i64 0, .int .i64 0]) ?_ 5 _ rfl; (with_reducible repeat (first | refine blk_drewN ?_ _ | refine blk_drew ?_ | refine blk_alloc ?_ _)); refine blk_put (cs := #[.int .i64 0, .int .i64 0, .int .i64 0, .string (⟨#[]⟩ : ByteArray), .int .i64 0, .int .i64 0]) ?_ 4 _ rfl; (with_reducible repeat (first | refine blk_drewN ?_ _ | refine blk_drew ?_ | refine blk_alloc ?_ _)); refine blk_put (cs := #[.int .i64 0, .int .i64 0, .int .i64 0, .string (⟨#[]⟩ : ByteArray), .int .i64 0, .int .i64 0]) ?_ 3 _ rfl; (with_reducible repeat (first | refine blk_drewN ?_ _ | refine blk_drew ?_ | refine blk_alloc ?_ _)); refine blk_put (cs := #[.int .i64 0, .int .i64 0, .int .i64 0, .string (⟨#[]⟩ : ByteArray), .int .i64 0, .int .i64 0]) ?_ 2 _ rfl; (with_reducible repeat (first | refine blk_drewN ?_ _ | refine blk_drew ?_ | refine blk_alloc ?_ _)); refine blk_put (cs := #[.int .i64 0, .int .i64 0, .int .i64 0, .string (⟨#[]⟩ : ByteArray), .int .i64 0, .int .i64 0]) ?_ 1 _ rfl; (with_reducible repeat (first | refine blk_drewN ?_ _ | refine blk_drew ?_ | refine blk_alloc ?_ _)); refine blk_put (cs := #[.int .i64 0, .int .i64 0, .int .i64 0, .string (⟨#[]⟩ : ByteArray), .int .i64 0, .int .i64 0]) ?_ 0 _ rfl; (with_reducible repeat (first | refine blk_drewN ?_ _ | refine blk_drew ?_ | refine blk_alloc ?_ _)); exact BK220.out) Try.underlying69 rfl (by kernel_rfl)) rfl ?_
     exact ⟨by first | rfl | (simp only [u8w, w64m]; rfl) | (simp [errW_none, errW_some] <;> rfl) | (simp [*, errW_none, errW_some] <;> rfl), bz⟩
    ·
     rw [if_neg c14] at H
     have c14b0 : decide (4 ≤ a1) = false := decide_eq_false c14
     clear c14
     simp only [Option.some.injEq, Prod.mk.injEq] at H
     obtain ⟨rfl, rfl, rfl, rfl, rfl, rfl, rfl⟩ := H
     go_enter Try.func49, Try.ntmps49
     go_wp2_with (first | ((with_reducible refine gate_dst (N := 2) rfl ?_); refine box_event ?hg (N := 2) ?hd (cs := #[.slice A0_0 l0_0.length c0_0, .int .i64 a0_1, .bool true, .int .i64 a0_3, .string a0_4, .int .i64 a0_5, .int .i64 a0_6, .int .i64 a0_7]) (t := 57) ?hr ?_; (case hd => rfl); (case hg => rfl); (case hr => first | (go_simp; done) | (go_simp; rfl)); intro gb219 hg w22 hbox hb; have n0_ := Aside0.mk (below_step (bz) hb); have n1_ := Aside0.mk (hbox); have n2_ : Aside0 (w.heap.size ≤ gb219) := bsg hg; have n3_ : Aside0 (w.heap.size ≤ gb219) := bsg hg; clear HB; have HB := n0_; have BK219 := n1_; have GW219 := n2_; have GE219 := n3_; clear n0_ n1_ n2_ n3_; clear hb hbox hg) | ((with_reducible refine gate_dst (N := 4) rfl ?_); refine box_event ?hg (N := 4) ?hd (cs := #[.int .i64 0, .int .i64 0, .int .i64 0, .string (⟨#[]⟩ : ByteArray), .int .i64 0, .int .i64 0]) (t := 69) ?hr ?_; (case hd => rfl); (case hg => rfl); (case hr => first | (go_simp; done) | (go_simp; rfl)); intro gb220 hg w23 hbox hb; have n0_ := bkb BK219 hb; have n1_ := Aside0.mk (below_step (bz) hb); have n2_ := Aside0.mk (hbox); have n3_ : Aside0 (w.heap.size ≤ gb220) := bsg hg; have n4_ : Aside0 (w.heap.size ≤ gb220) := bsg hg; have n5_ := nlt hg BK219; have n6_ := ngt hg BK219; clear BK219; clear HB; have BK219 := n0_; have HB := n1_; have BK220 := n2_; have GW220 := n3_; have GE220 := n4_; have NB219_220 := n5_; have NB220_219 := n6_; clear n0_ n1_ n2_ n3_ n4_ n5_ n6_; clear hb hbox hg; have hnb24 := NB219_220.out; have hnc24 := NB220_219.out; have hcz25_0 : w23.cell? ⟨gb219, 0, none⟩ = some (.slice A0_0 l0_0.length c0_0) := (blk_cell BK219.out 0).trans rfl; have hcz25_1 : w23.cell? ⟨gb219, 1, none⟩ = some (.int .i64 a0_1) := (blk_cell BK219.out 1).trans rfl; have hcz25_2 : w23.cell? ⟨gb219, 2, none⟩ = some (.bool true) := (blk_cell BK219.out 2).trans rfl; have hcz25_3 : w23.cell? ⟨gb219, 3, none⟩ = some (.int .i64 a0_3) := (blk_cell BK219.out 3).trans rfl; have hcz25_4 : w23.cell? ⟨gb219, 4, none⟩ = some (.string a0_4) := (blk_cell BK219.out 4).trans rfl; have hcz25_5 : w23.cell? ⟨gb219, 5, none⟩ = some (.int .i64 a0_5) := (blk_cell BK219.out 5).trans rfl; have hcz25_6 : w23.cell? ⟨gb219, 6, none⟩ = some (.int .i64 a0_6) := (blk_cell BK219.out 6).trans rfl; have hcz25_7 : w23.cell? ⟨gb219, 7, none⟩ = some (.int .i64 a0_7) := (blk_cell BK219.out 7).trans rfl; have hfz25_0 := blk_frozen BK219.out 0; have hfz25_1 := blk_frozen BK219.out 1; have hfz25_2 := blk_frozen BK219.out 2; have hfz25_3 := blk_frozen BK219.out 3; have hfz25_4 := blk_frozen BK219.out 4; have hfz25_5 := blk_frozen BK219.out 5; have hfz25_6 := blk_frozen BK219.out 6; have hfz25_7 := blk_frozen BK219.out 7) | ((with_reducible refine gate_callee (f := 39) rfl ?_); refine goesL_ (some 7) rfl rfl Try.func39 (by kernel_rfl) rfl #[.agg #[.slice A0_0 l0_0.length c0_0, .int .i64 a0_1, .bool true, .int .i64 a0_3, .string a0_4, .int .i64 a0_5, .int .i64 a0_6, .int .i64 a0_7]] rfl (by (try simp only [List.map_toArray, List.map_cons, List.map_nil]); first | done | rfl | (simp only [List.length_drop, List.length_take]; rfl)) ?_; (with_reducible refine (impl_CallerValid.calls k _ _ l0_0 a0_1 true a0_3 a0_4 a0_5 a0_6 a0_7 true _ ?side1 ?side2 A3.out).mono ?_); (case side1 => repeat (first | exact (Kd.C_below HR0_0.out HB.out) | (with_reducible refine Kd.C_alloc ?_ _) | (with_reducible refine Kd.C_drewN ?_ _) | (with_reducible refine Kd.C_drew ?_))); (case side2 => exact HC0_0.out); rintro e w26 ⟨rfl, hb⟩; refine ⟨_, rfl, ?_⟩; have n0_ := bkb BK219 hb; have n1_ := bkb BK220 hb; have n2_ := Aside0.mk (below_step (bz) hb); clear BK219; clear BK220; clear HB; have BK219 := n0_; have BK220 := n1_; have HB := n2_; clear n0_ n1_ n2_; (try clear hb); (try clear hb2); (try clear hk); (try clear hi); have hcz27_0 : w26.cell? ⟨gb219, 0, none⟩ = some (.slice A0_0 l0_0.length c0_0) := (blk_cell BK219.out 0).trans rfl; have hcz27_1 : w26.cell? ⟨gb219, 1, none⟩ = some (.int .i64 a0_1) := (blk_cell BK219.out 1).trans rfl; have hcz27_2 : w26.cell? ⟨gb219, 2, none⟩ = some (.bool true) := (blk_cell BK219.out 2).trans rfl; have hcz27_3 : w26.cell? ⟨gb219, 3, none⟩ = some (.int .i64 a0_3) := (blk_cell BK219.out 3).trans rfl; have hcz27_4 : w26.cell? ⟨gb219, 4, none⟩ = some (.string a0_4) := (blk_cell BK219.out 4).trans rfl; have hcz27_5 : w26.cell? ⟨gb219, 5, none⟩ = some (.int .i64 a0_5) := (blk_cell BK219.out 5).trans rfl; have hcz27_6 : w26.cell? ⟨gb219, 6, none⟩ = some (.int .i64 a0_6) := (blk_cell BK219.out 6).trans rfl; have hcz27_7 : w26.cell? ⟨gb219, 7, none⟩ = some (.int .i64 a0_7) := (blk_cell BK219.out 7).trans rfl; have hfz27_0 := blk_frozen BK219.out 0; have hfz27_1 := blk_frozen BK219.out 1; have hfz27_2 := blk_frozen BK219.out 2; have hfz27_3 := blk_frozen BK219.out 3; have hfz27_4 := blk_frozen BK219.out 4; have hfz27_5 := blk_frozen BK219.out 5; have hfz27_6 := blk_frozen BK219.out 6; have hfz27_7 := blk_frozen BK219.out 7; have hcz28_0 : w26.cell? ⟨gb220, 0, none⟩ = some (.int .i64 0) := (blk_cell BK220.out 0).trans rfl; have hcz28_1 : w26.cell? ⟨gb220, 1, none⟩ = some (.int .i64 0) := (blk_cell BK220.out 1).trans rfl; have hcz28_2 : w26.cell? ⟨gb220, 2, none⟩ = some (.int .i64 0) := (blk_cell BK220.out 2).trans rfl; have hcz28_3 : w26.cell? ⟨gb220, 3, none⟩ = some (.string (⟨#[]⟩ : ByteArray)) := (blk_cell BK220.out 3).trans rfl; have hcz28_4 : w26.cell? ⟨gb220, 4, none⟩ = some (.int .i64 0) := (blk_cell BK220.out 4).trans rfl; have hcz28_5 : w26.cell? ⟨gb220, 5, none⟩ = some (.int .i64 0) := (blk_cell BK220.out 5).trans rfl; have hfz28_0 := blk_frozen BK220.out 0; have hfz28_1 := blk_frozen BK220.out 1; have hfz28_2 := blk_frozen BK220.out 2; have hfz28_3 := blk_frozen BK220.out 3; have hfz28_4 := blk_frozen BK220.out 4; have hfz28_5 := blk_frozen BK220.out 5))
     refine bodyPost_ret (results_ct rfl _ _ gb220 69 #[.int .i64 a1, .int .i64 a0_1, .int .i64 a0_3, .string a0_4, .int .i64 a0_5, .int .i64 a0_6] (0, 0) _ rfl (by (with_reducible repeat (first | refine blk_drewN ?_ _ | refine blk_drew ?_ | refine blk_alloc ?_ _)); refine blk_put (cs := #[.int .i64 a1, .int .i64 a0_1, .int .i64 a0_3, .string a0_4, .int .i64 a0_5, .int .i64 0]) ?_ 5 _ rfl; (with_reducible repeat (first | refine blk_drewN ?_ _ | refine blk_drew ?_ | refine blk_alloc ?_ _)); refine blk_put (cs := #[.int .i64 a1, .int .i64 a0_1, .int .i64 a0_3, .string a0_4, .int .i64 0, .int .i64 0]) ?_ 4 _ rfl; (with_reducible repeat (first | refine blk_drewN ?_ _ | refine blk_drew ?_ | refine blk_alloc ?_ _)); refine blk_put (cs := #[.int .i64 a1, .int .i64 a0_1, .int .i64 a0_3, .string (⟨#[]⟩ : ByteArray), .int .i64 0, .int .i64 0]) ?_ 3 _ rfl; (with_reducible repeat (first | refine blk_drewN ?_ _ | refine blk_drew ?_ | refine blk_alloc ?_ _)); refine blk_put (cs := #[.int .i64 a1, .int .i64 a0_1, .int .i64 0, .string (⟨#[]⟩ : ByteArray), .int .i64 0, .int .i64 0]) ?_ 2 _ rfl; (with_reducible repeat (first | refine blk_drewN ?_ _ | refine blk_drew ?_ | refine blk_alloc ?_ _)); refine blk_put (cs := #[.int .i64 a1, .int .i64 0, .int .i64 0, .string (⟨#[]⟩ : ByteArray), .int .i64 0, .int .i64 0]) ?_ 1 _ rfl; (with_reducible repeat (first | refine blk_drewN ?_ _ | refine blk_drew ?_ | refine blk_alloc ?_ _)); refine blk_put (cs := #[.int .i64 0, .int .i64 0, .int .i64 0, .string (⟨#[]⟩ : ByteArray), .int .i64 0, .int .i64 0]) ?_ 0 _ rfl; (with_reducible repeat (first | refine blk_drewN ?_ _ | refine blk_drew ?_ | refine blk_alloc ?_ _)); exact BK220.out) Try.underlying69 rfl (by kernel_rfl)) rfl ?_
     exact ⟨by first | rfl | (simp only [u8w, w64m]; rfl) | (simp [errW_none, errW_some] <;> rfl) | (simp [*, errW_none, errW_some] <;> rfl), bz⟩
  ·
   replace c5 := Bool.eq_false_iff.mpr c5
   subst c5
   rw [if_neg (show ¬ (false = true) by decide)] at H
   simp only [Option.some.injEq, Prod.mk.injEq] at H
   obtain ⟨rfl, rfl, rfl, rfl, rfl, rfl, rfl⟩ := H
   go_enter Try.func49, Try.ntmps49
   go_wp2_with (first | ((with_reducible refine gate_dst (N := 2) rfl ?_); refine box_event ?hg (N := 2) ?hd (cs := #[.slice A0_0 l0_0.length c0_0, .int .i64 a0_1, .bool false, .int .i64 a0_3, .string a0_4, .int .i64 a0_5, .int .i64 a0_6, .int .i64 a0_7]) (t := 57) ?hr ?_; (case hd => rfl); (case hg => rfl); (case hr => first | (go_simp; done) | (go_simp; rfl)); intro gb219 hg w29 hbox hb; have n0_ := Aside0.mk (below_step (bz) hb); have n1_ := Aside0.mk (hbox); have n2_ : Aside0 (w.heap.size ≤ gb219) := bsg hg; have n3_ : Aside0 (w.heap.size ≤ gb219) := bsg hg; clear HB; have HB := n0_; have BK219 := n1_; have GW219 := n2_; have GE219 := n3_; clear n0_ n1_ n2_ n3_; clear hb hbox hg) | ((with_reducible refine gate_dst (N := 4) rfl ?_); refine box_event ?hg (N := 4) ?hd (cs := #[.int .i64 0, .int .i64 0, .int .i64 0, .string (⟨#[]⟩ : ByteArray), .int .i64 0, .int .i64 0]) (t := 69) ?hr ?_; (case hd => rfl); (case hg => rfl); (case hr => first | (go_simp; done) | (go_simp; rfl)); intro gb220 hg w30 hbox hb; have n0_ := bkb BK219 hb; have n1_ := Aside0.mk (below_step (bz) hb); have n2_ := Aside0.mk (hbox); have n3_ : Aside0 (w.heap.size ≤ gb220) := bsg hg; have n4_ : Aside0 (w.heap.size ≤ gb220) := bsg hg; have n5_ := nlt hg BK219; have n6_ := ngt hg BK219; clear BK219; clear HB; have BK219 := n0_; have HB := n1_; have BK220 := n2_; have GW220 := n3_; have GE220 := n4_; have NB219_220 := n5_; have NB220_219 := n6_; clear n0_ n1_ n2_ n3_ n4_ n5_ n6_; clear hb hbox hg; have hnb31 := NB219_220.out; have hnc31 := NB220_219.out; have hcz32_0 : w30.cell? ⟨gb219, 0, none⟩ = some (.slice A0_0 l0_0.length c0_0) := (blk_cell BK219.out 0).trans rfl; have hcz32_1 : w30.cell? ⟨gb219, 1, none⟩ = some (.int .i64 a0_1) := (blk_cell BK219.out 1).trans rfl; have hcz32_2 : w30.cell? ⟨gb219, 2, none⟩ = some (.bool false) := (blk_cell BK219.out 2).trans rfl; have hcz32_3 : w30.cell? ⟨gb219, 3, none⟩ = some (.int .i64 a0_3) := (blk_cell BK219.out 3).trans rfl; have hcz32_4 : w30.cell? ⟨gb219, 4, none⟩ = some (.string a0_4) := (blk_cell BK219.out 4).trans rfl; have hcz32_5 : w30.cell? ⟨gb219, 5, none⟩ = some (.int .i64 a0_5) := (blk_cell BK219.out 5).trans rfl; have hcz32_6 : w30.cell? ⟨gb219, 6, none⟩ = some (.int .i64 a0_6) := (blk_cell BK219.out 6).trans rfl; have hcz32_7 : w30.cell? ⟨gb219, 7, none⟩ = some (.int .i64 a0_7) := (blk_cell BK219.out 7).trans rfl; have hfz32_0 := blk_frozen BK219.out 0; have hfz32_1 := blk_frozen BK219.out 1; have hfz32_2 := blk_frozen BK219.out 2; have hfz32_3 := blk_frozen BK219.out 3; have hfz32_4 := blk_frozen BK219.out 4; have hfz32_5 := blk_frozen BK219.out 5; have hfz32_6 := blk_frozen BK219.out 6; have hfz32_7 := blk_frozen BK219.out 7) | ((with_reducible refine gate_callee (f := 39) rfl ?_); refine goesL_ (some 7) rfl rfl Try.func39 (by kernel_rfl) rfl #[.agg #[.slice A0_0 l0_0.length c0_0, .int .i64 a0_1, .bool false, .int .i64 a0_3, .string a0_4, .int .i64 a0_5, .int .i64 a0_6, .int .i64 a0_7]] rfl (by (try simp only [List.map_toArray, List.map_cons, List.map_nil]); first | done | rfl | (simp only [List.length_drop, List.length_take]; rfl)) ?_; (with_reducible refine (impl_CallerValid.calls k _ _ l0_0 a0_1 false a0_3 a0_4 a0_5 a0_6 a0_7 true _ ?side1 ?side2 A3.out).mono ?_); (case side1 => repeat (first | exact (Kd.C_below HR0_0.out HB.out) | (with_reducible refine Kd.C_alloc ?_ _) | (with_reducible refine Kd.C_drewN ?_ _) | (with_reducible refine Kd.C_drew ?_))); (case side2 => exact HC0_0.out); rintro e w33 ⟨rfl, hb⟩; refine ⟨_, rfl, ?_⟩; have n0_ := bkb BK219 hb; have n1_ := bkb BK220 hb; have n2_ := Aside0.mk (below_step (bz) hb); clear BK219; clear BK220; clear HB; have BK219 := n0_; have BK220 := n1_; have HB := n2_; clear n0_ n1_ n2_; (try clear hb); (try clear hb2); (try clear hk); (try clear hi); have hcz34_0 : w33.cell? ⟨gb219, 0, none⟩ = some (.slice A0_0 l0_0.length c0_0) := (blk_cell BK219.out 0).trans rfl; have hcz34_1 : w33.cell? ⟨gb219, 1, none⟩ = some (.int .i64 a0_1) := (blk_cell BK219.out 1).trans rfl; have hcz34_2 : w33.cell? ⟨gb219, 2, none⟩ = some (.bool false) := (blk_cell BK219.out 2).trans rfl; have hcz34_3 : w33.cell? ⟨gb219, 3, none⟩ = some (.int .i64 a0_3) := (blk_cell BK219.out 3).trans rfl; have hcz34_4 : w33.cell? ⟨gb219, 4, none⟩ = some (.string a0_4) := (blk_cell BK219.out 4).trans rfl; have hcz34_5 : w33.cell? ⟨gb219, 5, none⟩ = some (.int .i64 a0_5) := (blk_cell BK219.out 5).trans rfl; have hcz34_6 : w33.cell? ⟨gb219, 6, none⟩ = some (.int .i64 a0_6) := (blk_cell BK219.out 6).trans rfl; have hcz34_7 : w33.cell? ⟨gb219, 7, none⟩ = some (.int .i64 a0_7) := (blk_cell BK219.out 7).trans rfl; have hfz34_0 := blk_frozen BK219.out 0; have hfz34_1 := blk_frozen BK219.out 1; have hfz34_2 := blk_frozen BK219.out 2; have hfz34_3 := blk_frozen BK219.out 3; have hfz34_4 := blk_frozen BK219.out 4; have hfz34_5 := blk_frozen BK219.out 5; have hfz34_6 := blk_frozen BK219.out 6; have hfz34_7 := blk_frozen BK219.out 7; have hcz35_0 : w33.cell? ⟨gb220, 0, none⟩ = some (.int .i64 0) := (blk_cell BK220.out 0).trans rfl; have hcz35_1 : w33.cell? ⟨gb220, 1, none⟩ = some (.int .i64 0) := (blk_cell BK220.out 1).trans rfl; have hcz35_2 : w33.cell? ⟨gb220, 2, none⟩ = some (.int .i64 0) := (blk_cell BK220.out 2).trans rfl; have hcz35_3 : w33.cell? ⟨gb220, 3, none⟩ = some (.string (⟨#[]⟩ : ByteArray)) := (blk_cell BK220.out 3).trans rfl; have hcz35_4 : w33.cell? ⟨gb220, 4, none⟩ = some (.int .i64 0) := (blk_cell BK220.out 4).trans rfl; have hcz35_5 : w33.cell? ⟨gb220, 5, none⟩ = some (.int .i64 0) := (blk_cell BK220.out 5).trans rfl; have hfz35_0 := blk_frozen BK220.out 0; have hfz35_1 := blk_frozen BK220.out 1; have hfz35_2 := blk_frozen BK220.out 2; have hfz35_3 := blk_frozen BK220.out 3; have hfz35_4 := blk_frozen BK220.out 4; have hfz35_5 := blk_frozen BK220.out 5))
   refine bodyPost_ret (results_ct rfl _ _ gb220 69 #[.int .i64 0, .int .i64 0, .int .i64 0, .string (⟨#[]⟩ : ByteArray), .int .i64 0, .int .i64 0] (0, 0) _ rfl (by (with_reducible repeat (first | refine blk_drewN ?_ _ | refine blk_drew ?_ | refine blk_alloc ?_ _)); refine blk_put (cs := #[.int .i64 0, .int .i64 0, .int .i64 0, .string (⟨#[]⟩ : ByteArray), .int .i64 0, .int .i64 0]) ?_ 5 _ rfl; (with_reducible repeat (first | refine blk_drewN ?_ _ | refine blk_drew ?_ | refine blk_alloc ?_ _)); refine blk_put (cs := #[.int .i64 0, .int .i64 0, .int .i64 0, .string (⟨#[]⟩ : ByteArray), .int .i64 0, .int .i64 0]) ?_ 4 _ rfl; (with_reducible repeat (first | refine blk_drewN ?_ _ | refine blk_drew ?_ | refine blk_alloc ?_ _)); refine blk_put (cs := #[.int .i64 0, .int .i64 0, .int .i64 0, .string (⟨#[]⟩ : ByteArray), .int .i64 0, .int .i64 0]) ?_ 3 _ rfl; (with_reducible repeat (first | refine blk_drewN ?_ _ | refine blk_drew ?_ | refine blk_alloc ?_ _)); refine blk_put (cs := #[.int .i64 0, .int .i64 0, .int .i64 0, .string (⟨#[]⟩ : ByteArray), .int .i64 0, .int .i64 0]) ?_ 2 _ rfl; (with_reducible repeat (first | refine blk_drewN ?_ _ | refine blk_drew ?_ | refine blk_alloc ?_ _)); refine blk_put (cs := #[.int .i64 0, .int .i64 0, .int .i64 0, .string (⟨#[]⟩ : ByteArray), .int .i64 0, .int .i64 0]) ?_ 1 _ rfl; (with_reducible repeat (first | refine blk_drewN ?_ _ | refine blk_drew ?_ | refine blk_alloc ?_ _)); refine blk_put (cs := #[.int .i64 0, .int .i64 0, .int .i64 0, .string (⟨#[]⟩ : ByteArray), .int .i64 0, .int .i64 0]) ?_ 0 _ rfl; (with_reducible repeat (first | refine blk_drewN ?_ _ | refine blk_drew ?_ | refine blk_alloc ?_ _)); exact BK220.out) Try.underlying69 rfl (by kernel_rfl)) rfl ?_
   exact ⟨by first | rfl | (simp only [u8w, w64m]; rfl) | (simp [errW_none, errW_some] <;> rfl) | (simp [*, errW_none, errW_some] <;> rfl), bz⟩
 ·
  replace c4 := Bool.eq_false_iff.mpr c4
  subst c4
  rw [if_neg (show ¬ (false = true) by decide)] at H
  simp only [Option.some.injEq, Prod.mk.injEq] at H
  obtain ⟨rfl, rfl, rfl, rfl, rfl, rfl, rfl⟩ := H
  go_enter Try.func49, Try.ntmps49
  go_wp2_with (first | ((with_reducible refine gate_dst (N := 2) rfl ?_); refine box_event ?hg (N := 2) ?hd (cs := #[.slice A0_0 l0_0.length c0_0, .int .i64 a0_1, .bool a0_2, .int .i64 a0_3, .string a0_4, .int .i64 a0_5, .int .i64 a0_6, .int .i64 a0_7]) (t := 57) ?hr ?_; (case hd => rfl); (case hg => rfl); (case hr => first | (go_simp; done) | (go_simp; rfl)); intro gb219 hg w36 hbox hb; have n0_ := Aside0.mk (below_step (bz) hb); have n1_ := Aside0.mk (hbox); have n2_ : Aside0 (w.heap.size ≤ gb219) := bsg hg; have n3_ : Aside0 (w.heap.size ≤ gb219) := bsg hg; clear HB; have HB := n0_; have BK219 := n1_; have GW219 := n2_; have GE219 := n3_; clear n0_ n1_ n2_ n3_; clear hb hbox hg) | ((with_reducible refine gate_dst (N := 4) rfl ?_); refine box_event ?hg (N := 4) ?hd (cs := #[.int .i64 0, .int .i64 0, .int .i64 0, .string (⟨#[]⟩ : ByteArray), .int .i64 0, .int .i64 0]) (t := 69) ?hr ?_; (case hd => rfl); (case hg => rfl); (case hr => first | (go_simp; done) | (go_simp; rfl)); intro gb220 hg w37 hbox hb; have n0_ := bkb BK219 hb; have n1_ := Aside0.mk (below_step (bz) hb); have n2_ := Aside0.mk (hbox); have n3_ : Aside0 (w.heap.size ≤ gb220) := bsg hg; have n4_ : Aside0 (w.heap.size ≤ gb220) := bsg hg; have n5_ := nlt hg BK219; have n6_ := ngt hg BK219; clear BK219; clear HB; have BK219 := n0_; have HB := n1_; have BK220 := n2_; have GW220 := n3_; have GE220 := n4_; have NB219_220 := n5_; have NB220_219 := n6_; clear n0_ n1_ n2_ n3_ n4_ n5_ n6_; clear hb hbox hg; have hnb38 := NB219_220.out; have hnc38 := NB220_219.out; have hcz39_0 : w37.cell? ⟨gb219, 0, none⟩ = some (.slice A0_0 l0_0.length c0_0) := (blk_cell BK219.out 0).trans rfl; have hcz39_1 : w37.cell? ⟨gb219, 1, none⟩ = some (.int .i64 a0_1) := (blk_cell BK219.out 1).trans rfl; have hcz39_2 : w37.cell? ⟨gb219, 2, none⟩ = some (.bool a0_2) := (blk_cell BK219.out 2).trans rfl; have hcz39_3 : w37.cell? ⟨gb219, 3, none⟩ = some (.int .i64 a0_3) := (blk_cell BK219.out 3).trans rfl; have hcz39_4 : w37.cell? ⟨gb219, 4, none⟩ = some (.string a0_4) := (blk_cell BK219.out 4).trans rfl; have hcz39_5 : w37.cell? ⟨gb219, 5, none⟩ = some (.int .i64 a0_5) := (blk_cell BK219.out 5).trans rfl; have hcz39_6 : w37.cell? ⟨gb219, 6, none⟩ = some (.int .i64 a0_6) := (blk_cell BK219.out 6).trans rfl; have hcz39_7 : w37.cell? ⟨gb219, 7, none⟩ = some (.int .i64 a0_7) := (blk_cell BK219.out 7).trans rfl; have hfz39_0 := blk_frozen BK219.out 0; have hfz39_1 := blk_frozen BK219.out 1; have hfz39_2 := blk_frozen BK219.out 2; have hfz39_3 := blk_frozen BK219.out 3; have hfz39_4 := blk_frozen BK219.out 4; have hfz39_5 := blk_frozen BK219.out 5; have hfz39_6 := blk_frozen BK219.out 6; have hfz39_7 := blk_frozen BK219.out 7) | ((with_reducible refine gate_callee (f := 39) rfl ?_); refine goesL_ (some 7) rfl rfl Try.func39 (by kernel_rfl) rfl #[.agg #[.slice A0_0 l0_0.length c0_0, .int .i64 a0_1, .bool a0_2, .int .i64 a0_3, .string a0_4, .int .i64 a0_5, .int .i64 a0_6, .int .i64 a0_7]] rfl (by (try simp only [List.map_toArray, List.map_cons, List.map_nil]); first | done | rfl | (simp only [List.length_drop, List.length_take]; rfl)) ?_; (with_reducible refine (impl_CallerValid.calls k _ _ l0_0 a0_1 a0_2 a0_3 a0_4 a0_5 a0_6 a0_7 false _ ?side1 ?side2 A3.out).mono ?_); (case side1 => repeat (first | exact (Kd.C_below HR0_0.out HB.out) | (with_reducible refine Kd.C_alloc ?_ _) | (with_reducible refine Kd.C_drewN ?_ _) | (with_reducible refine Kd.C_drew ?_))); (case side2 => exact HC0_0.out); rintro e w40 ⟨rfl, hb⟩; refine ⟨_, rfl, ?_⟩; have n0_ := bkb BK219 hb; have n1_ := bkb BK220 hb; have n2_ := Aside0.mk (below_step (bz) hb); clear BK219; clear BK220; clear HB; have BK219 := n0_; have BK220 := n1_; have HB := n2_; clear n0_ n1_ n2_; (try clear hb); (try clear hb2); (try clear hk); (try clear hi); have hcz41_0 : w40.cell? ⟨gb220, 0, none⟩ = some (.int .i64 0) := (blk_cell BK220.out 0).trans rfl; have hcz41_1 : w40.cell? ⟨gb220, 1, none⟩ = some (.int .i64 0) := (blk_cell BK220.out 1).trans rfl; have hcz41_2 : w40.cell? ⟨gb220, 2, none⟩ = some (.int .i64 0) := (blk_cell BK220.out 2).trans rfl; have hcz41_3 : w40.cell? ⟨gb220, 3, none⟩ = some (.string (⟨#[]⟩ : ByteArray)) := (blk_cell BK220.out 3).trans rfl; have hcz41_4 : w40.cell? ⟨gb220, 4, none⟩ = some (.int .i64 0) := (blk_cell BK220.out 4).trans rfl; have hcz41_5 : w40.cell? ⟨gb220, 5, none⟩ = some (.int .i64 0) := (blk_cell BK220.out 5).trans rfl; have hfz41_0 := blk_frozen BK220.out 0; have hfz41_1 := blk_frozen BK220.out 1; have hfz41_2 := blk_frozen BK220.out 2; have hfz41_3 := blk_frozen BK220.out 3; have hfz41_4 := blk_frozen BK220.out 4; have hfz41_5 := blk_frozen BK220.out 5))
  refine bodyPost_ret (results_ct rfl _ _ gb220 69 #[.int .i64 0, .int .i64 0, .int .i64 0, .string (⟨#[]⟩ : ByteArray), .int .i64 0, .int .i64 0] (0, 0) _ rfl (by (with_reducible repeat (first | refine blk_drewN ?_ _ | refine blk_drew ?_ | refine blk_alloc ?_ _)); refine blk_put (cs := #[.int .i64 0, .int .i64 0, .int .i64 0, .string (⟨#[]⟩ : ByteArray), .int .i64 0, .int .i64 0]) ?_ 5 _ rfl; (with_reducible repeat (first | refine blk_drewN ?_ _ | refine blk_drew ?_ | refine blk_alloc ?_ _)); refine blk_put (cs := #[.int .i64 0, .int .i64 0, .int .i64 0, .string (⟨#[]⟩ : ByteArray), .int .i64 0, .int .i64 0]) ?_ 4 _ rfl; (with_reducible repeat (first | refine blk_drewN ?_ _ | refine blk_drew ?_ | refine blk_alloc ?_ _)); refine blk_put (cs := #[.int .i64 0, .int .i64 0, .int .i64 0, .string (⟨#[]⟩ : ByteArray), .int .i64 0, .int .i64 0]) ?_ 3 _ rfl; (with_reducible repeat (first | refine blk_drewN ?_ _ | refine blk_drew ?_ | refine blk_alloc ?_ _)); refine blk_put (cs := #[.int .i64 0, .int .i64 0, .int .i64 0, .string (⟨#[]⟩ : ByteArray), .int .i64 0, .int .i64 0]) ?_ 2 _ rfl; (with_reducible repeat (first | refine blk_drewN ?_ _ | refine blk_drew ?_ | refine blk_alloc ?_ _)); refine blk_put (cs := #[.int .i64 0, .int .i64 0, .int .i64 0, .string (⟨#[]⟩ : ByteArray), .int .i64 0, .int .i64 0]) ?_ 1 _ rfl; (with_reducible repeat (first | refine blk_drewN ?_ _ | refine blk_drew ?_ | refine blk_alloc ?_ _)); refine blk_put (cs := #[.int .i64 0, .int .i64 0, .int .i64 0, .string (⟨#[]⟩ : ByteArray), .int .i64 0, .int .i64 0]) ?_ 0 _ rfl; (with_reducible repeat (first | refine blk_drewN ?_ _ | refine blk_drew ?_ | refine blk_alloc ?_ _)); exact BK220.out) Try.underlying69 rfl (by kernel_rfl)) rfl ?_
  exact ⟨by first | rfl | (simp only [u8w, w64m]; rfl) | (simp [errW_none, errW_some] <;> rfl) | (simp [*, errW_none, errW_some] <;> rfl), bz⟩

/-! ### laws_eqEntry: function 50 -/
def laws_eqEntry.f (a0_0 : Int) (a0_1 : Int) (a0_2 : Int) (a0_3 : ByteArray) (a0_4 : Int) (a0_5 : Int) (a1_0 : Int) (a1_1 : Int) (a1_2 : Int) (a1_3 : ByteArray) (a1_4 : Int) (a1_5 : Int) : Option (Bool) := if a0_0 = a1_0 then (if a0_1 = a1_1 then ((laws_eqCommand.f a0_2 a0_3 a0_4 a0_5 a1_2 a1_3 a1_4 a1_5).bind fun t224 => (if t224 = true then (some true) else (some false))) else (some false)) else (some false)
set_option maxHeartbeats 8000000 in
set_option maxRecDepth 100000 in
theorem laws_eqEntry.calls (a0_0 : Int) (a0_1 : Int) (a0_2 : Int) (a0_3 : ByteArray) (a0_4 : Int) (a0_5 : Int) (a1_0 : Int) (a1_1 : Int) (a1_2 : Int) (a1_3 : ByteArray) (a1_4 : Int) (a1_5 : Int) (r : Bool) (w : World) (h : laws_eqEntry.f a0_0 a0_1 a0_2 a0_3 a0_4 a0_5 a1_0 a1_1 a1_2 a1_3 a1_4 a1_5 = some r) :
  Calls Try.prog 50 #[.agg #[.int .i64 a0_0, .int .i64 a0_1, .int .i64 a0_2, .string a0_3, .int .i64 a0_4, .int .i64 a0_5], .agg #[.int .i64 a1_0, .int .i64 a1_1, .int .i64 a1_2, .string a1_3, .int .i64 a1_4, .int .i64 a1_5]] w fun e w' => e = .returned (.bool r) ∧ Below w.heap.size w w' := by
 have hu69 := Try.underlying69
 have hu55 := Try.underlying55
 have HB := Aside0.mk (Below.refl w.heap.size w)
 have H : (if a0_0 = a1_0 then (if a0_1 = a1_1 then ((laws_eqCommand.f a0_2 a0_3 a0_4 a0_5 a1_2 a1_3 a1_4 a1_5).bind fun t224 => (if t224 = true then (some true) else (some false))) else (some false)) else (some false)) = some r := h
 clear h
 by_cases c3 : a0_0 = a1_0
 ·
  rw [if_pos c3] at H
  have c3b0 : (a0_0 == a1_0) = true := beq_iff_eq.mpr c3
  have c3b1 : (a0_0 != a1_0) = false := bne_eq_false_iff_eq.mpr c3
  clear c3
  by_cases c4 : a0_1 = a1_1
  ·
   rw [if_pos c4] at H
   have c4b0 : (a0_1 == a1_1) = true := beq_iff_eq.mpr c4
   have c4b1 : (a0_1 != a1_1) = false := bne_eq_false_iff_eq.mpr c4
   clear c4
   replace H := Option.bind_eq_some_iff.mp H
   obtain ⟨t224, A50, H⟩ := H
   try dsimp only at H
   have A5 := Aside0.mk A50
   clear A50
   by_cases c6 : t224 = true
   ·
    subst c6
    rw [if_pos rfl] at H
    obtain rfl := Option.some.inj H
    go_enter Try.func50, Try.ntmps50
    go_wp2_with (first | ((with_reducible refine gate_dst (N := 2) rfl ?_); refine box_event ?hg (N := 2) ?hd (cs := #[.int .i64 a0_0, .int .i64 a0_1, .int .i64 a0_2, .string a0_3, .int .i64 a0_4, .int .i64 a0_5]) (t := 69) ?hr ?_; (case hd => rfl); (case hg => rfl); (case hr => first | (go_simp; done) | (go_simp; rfl)); intro gb222 hg w7 hbox hb; have n0_ := Aside0.mk (below_step (bz) hb); have n1_ := Aside0.mk (hbox); have n2_ : Aside0 (w.heap.size ≤ gb222) := bsg hg; have n3_ : Aside0 (w.heap.size ≤ gb222) := bsg hg; clear HB; have HB := n0_; have BK222 := n1_; have GW222 := n2_; have GE222 := n3_; clear n0_ n1_ n2_ n3_; clear hb hbox hg) | ((with_reducible refine gate_dst (N := 3) rfl ?_); refine box_event ?hg (N := 3) ?hd (cs := #[.int .i64 a1_0, .int .i64 a1_1, .int .i64 a1_2, .string a1_3, .int .i64 a1_4, .int .i64 a1_5]) (t := 69) ?hr ?_; (case hd => rfl); (case hg => rfl); (case hr => first | (go_simp; done) | (go_simp; rfl)); intro gb223 hg w8 hbox hb; have n0_ := bkb BK222 hb; have n1_ := Aside0.mk (below_step (bz) hb); have n2_ := Aside0.mk (hbox); have n3_ : Aside0 (w.heap.size ≤ gb223) := bsg hg; have n4_ : Aside0 (w.heap.size ≤ gb223) := bsg hg; have n5_ := nlt hg BK222; have n6_ := ngt hg BK222; clear BK222; clear HB; have BK222 := n0_; have HB := n1_; have BK223 := n2_; have GW223 := n3_; have GE223 := n4_; have NB222_223 := n5_; have NB223_222 := n6_; clear n0_ n1_ n2_ n3_ n4_ n5_ n6_; clear hb hbox hg; have hnb9 := NB222_223.out; have hnc9 := NB223_222.out; have hcz10_0 : w8.cell? ⟨gb222, 0, none⟩ = some (.int .i64 a0_0) := (blk_cell BK222.out 0).trans rfl; have hcz10_1 : w8.cell? ⟨gb222, 1, none⟩ = some (.int .i64 a0_1) := (blk_cell BK222.out 1).trans rfl; have hcz10_2 : w8.cell? ⟨gb222, 2, none⟩ = some (.int .i64 a0_2) := (blk_cell BK222.out 2).trans rfl; have hcz10_3 : w8.cell? ⟨gb222, 3, none⟩ = some (.string a0_3) := (blk_cell BK222.out 3).trans rfl; have hcz10_4 : w8.cell? ⟨gb222, 4, none⟩ = some (.int .i64 a0_4) := (blk_cell BK222.out 4).trans rfl; have hcz10_5 : w8.cell? ⟨gb222, 5, none⟩ = some (.int .i64 a0_5) := (blk_cell BK222.out 5).trans rfl; have hfz10_0 := blk_frozen BK222.out 0; have hfz10_1 := blk_frozen BK222.out 1; have hfz10_2 := blk_frozen BK222.out 2; have hfz10_3 := blk_frozen BK222.out 3; have hfz10_4 := blk_frozen BK222.out 4; have hfz10_5 := blk_frozen BK222.out 5; have hcz11_0 : w8.cell? ⟨gb223, 0, none⟩ = some (.int .i64 a1_0) := (blk_cell BK223.out 0).trans rfl; have hcz11_1 : w8.cell? ⟨gb223, 1, none⟩ = some (.int .i64 a1_1) := (blk_cell BK223.out 1).trans rfl; have hcz11_2 : w8.cell? ⟨gb223, 2, none⟩ = some (.int .i64 a1_2) := (blk_cell BK223.out 2).trans rfl; have hcz11_3 : w8.cell? ⟨gb223, 3, none⟩ = some (.string a1_3) := (blk_cell BK223.out 3).trans rfl; have hcz11_4 : w8.cell? ⟨gb223, 4, none⟩ = some (.int .i64 a1_4) := (blk_cell BK223.out 4).trans rfl; have hcz11_5 : w8.cell? ⟨gb223, 5, none⟩ = some (.int .i64 a1_5) := (blk_cell BK223.out 5).trans rfl; have hfz11_0 := blk_frozen BK223.out 0; have hfz11_1 := blk_frozen BK223.out 1; have hfz11_2 := blk_frozen BK223.out 2; have hfz11_3 := blk_frozen BK223.out 3; have hfz11_4 := blk_frozen BK223.out 4; have hfz11_5 := blk_frozen BK223.out 5) | ((with_reducible refine gate_callee (f := 82) rfl ?_); refine goesL_ (some 19) rfl rfl Try.func82 (by kernel_rfl) rfl #[.agg #[.int .i64 a0_2, .string a0_3, .int .i64 a0_4, .int .i64 a0_5], .agg #[.int .i64 a1_2, .string a1_3, .int .i64 a1_4, .int .i64 a1_5]] rfl (by (try simp only [List.map_toArray, List.map_cons, List.map_nil]); first | done | rfl | (simp only [List.length_drop, List.length_take]; rfl)) ?_; (with_reducible refine (laws_eqCommand.calls a0_2 a0_3 a0_4 a0_5 a1_2 a1_3 a1_4 a1_5 true _ A5.out).mono ?_); rintro e w12 ⟨rfl, hb⟩; refine ⟨_, rfl, ?_⟩; have n0_ := bkb BK222 hb; have n1_ := bkb BK223 hb; have n2_ := Aside0.mk (below_step (bz) hb); clear BK222; clear BK223; clear HB; have BK222 := n0_; have BK223 := n1_; have HB := n2_; clear n0_ n1_ n2_; (try clear hb); (try clear hb2); (try clear hk); (try clear hi)))
    go_ret
    exact ⟨by first | rfl | (simp only [u8w, w64m]; rfl) | (simp [errW_none, errW_some] <;> rfl) | (simp [*, errW_none, errW_some] <;> rfl), bz⟩
   ·
    replace c6 := Bool.eq_false_iff.mpr c6
    subst c6
    rw [if_neg (show ¬ (false = true) by decide)] at H
    obtain rfl := Option.some.inj H
    go_enter Try.func50, Try.ntmps50
    go_wp2_with (first | ((with_reducible refine gate_dst (N := 2) rfl ?_); refine box_event ?hg (N := 2) ?hd (cs := #[.int .i64 a0_0, .int .i64 a0_1, .int .i64 a0_2, .string a0_3, .int .i64 a0_4, .int .i64 a0_5]) (t := 69) ?hr ?_; (case hd => rfl); (case hg => rfl); (case hr => first | (go_simp; done) | (go_simp; rfl)); intro gb222 hg w13 hbox hb; have n0_ := Aside0.mk (below_step (bz) hb); have n1_ := Aside0.mk (hbox); have n2_ : Aside0 (w.heap.size ≤ gb222) := bsg hg; have n3_ : Aside0 (w.heap.size ≤ gb222) := bsg hg; clear HB; have HB := n0_; have BK222 := n1_; have GW222 := n2_; have GE222 := n3_; clear n0_ n1_ n2_ n3_; clear hb hbox hg) | ((with_reducible refine gate_dst (N := 3) rfl ?_); refine box_event ?hg (N := 3) ?hd (cs := #[.int .i64 a1_0, .int .i64 a1_1, .int .i64 a1_2, .string a1_3, .int .i64 a1_4, .int .i64 a1_5]) (t := 69) ?hr ?_; (case hd => rfl); (case hg => rfl); (case hr => first | (go_simp; done) | (go_simp; rfl)); intro gb223 hg w14 hbox hb; have n0_ := bkb BK222 hb; have n1_ := Aside0.mk (below_step (bz) hb); have n2_ := Aside0.mk (hbox); have n3_ : Aside0 (w.heap.size ≤ gb223) := bsg hg; have n4_ : Aside0 (w.heap.size ≤ gb223) := bsg hg; have n5_ := nlt hg BK222; have n6_ := ngt hg BK222; clear BK222; clear HB; have BK222 := n0_; have HB := n1_; have BK223 := n2_; have GW223 := n3_; have GE223 := n4_; have NB222_223 := n5_; have NB223_222 := n6_; clear n0_ n1_ n2_ n3_ n4_ n5_ n6_; clear hb hbox hg; have hnb15 := NB222_223.out; have hnc15 := NB223_222.out; have hcz16_0 : w14.cell? ⟨gb222, 0, none⟩ = some (.int .i64 a0_0) := (blk_cell BK222.out 0).trans rfl; have hcz16_1 : w14.cell? ⟨gb222, 1, none⟩ = some (.int .i64 a0_1) := (blk_cell BK222.out 1).trans rfl; have hcz16_2 : w14.cell? ⟨gb222, 2, none⟩ = some (.int .i64 a0_2) := (blk_cell BK222.out 2).trans rfl; have hcz16_3 : w14.cell? ⟨gb222, 3, none⟩ = some (.string a0_3) := (blk_cell BK222.out 3).trans rfl; have hcz16_4 : w14.cell? ⟨gb222, 4, none⟩ = some (.int .i64 a0_4) := (blk_cell BK222.out 4).trans rfl; have hcz16_5 : w14.cell? ⟨gb222, 5, none⟩ = some (.int .i64 a0_5) := (blk_cell BK222.out 5).trans rfl; have hfz16_0 := blk_frozen BK222.out 0; have hfz16_1 := blk_frozen BK222.out 1; have hfz16_2 := blk_frozen BK222.out 2; have hfz16_3 := blk_frozen BK222.out 3; have hfz16_4 := blk_frozen BK222.out 4; have hfz16_5 := blk_frozen BK222.out 5; have hcz17_0 : w14.cell? ⟨gb223, 0, none⟩ = some (.int .i64 a1_0) := (blk_cell BK223.out 0).trans rfl; have hcz17_1 : w14.cell? ⟨gb223, 1, none⟩ = some (.int .i64 a1_1) := (blk_cell BK223.out 1).trans rfl; have hcz17_2 : w14.cell? ⟨gb223, 2, none⟩ = some (.int .i64 a1_2) := (blk_cell BK223.out 2).trans rfl; have hcz17_3 : w14.cell? ⟨gb223, 3, none⟩ = some (.string a1_3) := (blk_cell BK223.out 3).trans rfl; have hcz17_4 : w14.cell? ⟨gb223, 4, none⟩ = some (.int .i64 a1_4) := (blk_cell BK223.out 4).trans rfl; have hcz17_5 : w14.cell? ⟨gb223, 5, none⟩ = some (.int .i64 a1_5) := (blk_cell BK223.out 5).trans rfl; have hfz17_0 := blk_frozen BK223.out 0; have hfz17_1 := blk_frozen BK223.out 1; have hfz17_2 := blk_frozen BK223.out 2; have hfz17_3 := blk_frozen BK223.out 3; have hfz17_4 := blk_frozen BK223.out 4; have hfz17_5 := blk_frozen BK223.out 5) | ((with_reducible refine gate_callee (f := 82) rfl ?_); refine goesL_ (some 19) rfl rfl Try.func82 (by kernel_rfl) rfl #[.agg #[.int .i64 a0_2, .string a0_3, .int .i64 a0_4, .int .i64 a0_5], .agg #[.int .i64 a1_2, .string a1_3, .int .i64 a1_4, .int .i64 a1_5]] rfl (by (try simp only [List.map_toArray, List.map_cons, List.map_nil]); first | done | rfl | (simp only [List.length_drop, List.length_take]; rfl)) ?_; (with_reducible refine (laws_eqCommand.calls a0_2 a0_3 a0_4 a0_5 a1_2 a1_3 a1_4 a1_5 false _ A5.out).mono ?_); rintro e w18 ⟨rfl, hb⟩; refine ⟨_, rfl, ?_⟩; have n0_ := bkb BK222 hb; have n1_ := bkb BK223 hb; have n2_ := Aside0.mk (below_step (bz) hb); clear BK222; clear BK223; clear HB; have BK222 := n0_; have BK223 := n1_; have HB := n2_; clear n0_ n1_ n2_; (try clear hb); (try clear hb2); (try clear hk); (try clear hi)))
    go_ret
    exact ⟨by first | rfl | (simp only [u8w, w64m]; rfl) | (simp [errW_none, errW_some] <;> rfl) | (simp [*, errW_none, errW_some] <;> rfl), bz⟩
  ·
   rw [if_neg c4] at H
   have c4b0 : (a0_1 == a1_1) = false := beq_eq_false_iff_ne.mpr c4
   have c4b1 : (a0_1 != a1_1) = true := bne_iff_ne.mpr c4
   obtain rfl := Option.some.inj H
   go_enter Try.func50, Try.ntmps50
   go_wp2_with (first | ((with_reducible refine gate_dst (N := 2) rfl ?_); refine box_event ?hg (N := 2) ?hd (cs := #[.int .i64 a0_0, .int .i64 a0_1, .int .i64 a0_2, .string a0_3, .int .i64 a0_4, .int .i64 a0_5]) (t := 69) ?hr ?_; (case hd => rfl); (case hg => rfl); (case hr => first | (go_simp; done) | (go_simp; rfl)); intro gb222 hg w19 hbox hb; have n0_ := Aside0.mk (below_step (bz) hb); have n1_ := Aside0.mk (hbox); have n2_ : Aside0 (w.heap.size ≤ gb222) := bsg hg; have n3_ : Aside0 (w.heap.size ≤ gb222) := bsg hg; clear HB; have HB := n0_; have BK222 := n1_; have GW222 := n2_; have GE222 := n3_; clear n0_ n1_ n2_ n3_; clear hb hbox hg) | ((with_reducible refine gate_dst (N := 3) rfl ?_); refine box_event ?hg (N := 3) ?hd (cs := #[.int .i64 a1_0, .int .i64 a1_1, .int .i64 a1_2, .string a1_3, .int .i64 a1_4, .int .i64 a1_5]) (t := 69) ?hr ?_; (case hd => rfl); (case hg => rfl); (case hr => first | (go_simp; done) | (go_simp; rfl)); intro gb223 hg w20 hbox hb; have n0_ := bkb BK222 hb; have n1_ := Aside0.mk (below_step (bz) hb); have n2_ := Aside0.mk (hbox); have n3_ : Aside0 (w.heap.size ≤ gb223) := bsg hg; have n4_ : Aside0 (w.heap.size ≤ gb223) := bsg hg; have n5_ := nlt hg BK222; have n6_ := ngt hg BK222; clear BK222; clear HB; have BK222 := n0_; have HB := n1_; have BK223 := n2_; have GW223 := n3_; have GE223 := n4_; have NB222_223 := n5_; have NB223_222 := n6_; clear n0_ n1_ n2_ n3_ n4_ n5_ n6_; clear hb hbox hg; have hnb21 := NB222_223.out; have hnc21 := NB223_222.out; have hcz22_0 : w20.cell? ⟨gb222, 0, none⟩ = some (.int .i64 a0_0) := (blk_cell BK222.out 0).trans rfl; have hcz22_1 : w20.cell? ⟨gb222, 1, none⟩ = some (.int .i64 a0_1) := (blk_cell BK222.out 1).trans rfl; have hcz22_2 : w20.cell? ⟨gb222, 2, none⟩ = some (.int .i64 a0_2) := (blk_cell BK222.out 2).trans rfl; have hcz22_3 : w20.cell? ⟨gb222, 3, none⟩ = some (.string a0_3) := (blk_cell BK222.out 3).trans rfl; have hcz22_4 : w20.cell? ⟨gb222, 4, none⟩ = some (.int .i64 a0_4) := (blk_cell BK222.out 4).trans rfl; have hcz22_5 : w20.cell? ⟨gb222, 5, none⟩ = some (.int .i64 a0_5) := (blk_cell BK222.out 5).trans rfl; have hfz22_0 := blk_frozen BK222.out 0; have hfz22_1 := blk_frozen BK222.out 1; have hfz22_2 := blk_frozen BK222.out 2; have hfz22_3 := blk_frozen BK222.out 3; have hfz22_4 := blk_frozen BK222.out 4; have hfz22_5 := blk_frozen BK222.out 5; have hcz23_0 : w20.cell? ⟨gb223, 0, none⟩ = some (.int .i64 a1_0) := (blk_cell BK223.out 0).trans rfl; have hcz23_1 : w20.cell? ⟨gb223, 1, none⟩ = some (.int .i64 a1_1) := (blk_cell BK223.out 1).trans rfl; have hcz23_2 : w20.cell? ⟨gb223, 2, none⟩ = some (.int .i64 a1_2) := (blk_cell BK223.out 2).trans rfl; have hcz23_3 : w20.cell? ⟨gb223, 3, none⟩ = some (.string a1_3) := (blk_cell BK223.out 3).trans rfl; have hcz23_4 : w20.cell? ⟨gb223, 4, none⟩ = some (.int .i64 a1_4) := (blk_cell BK223.out 4).trans rfl; have hcz23_5 : w20.cell? ⟨gb223, 5, none⟩ = some (.int .i64 a1_5) := (blk_cell BK223.out 5).trans rfl; have hfz23_0 := blk_frozen BK223.out 0; have hfz23_1 := blk_frozen BK223.out 1; have hfz23_2 := blk_frozen BK223.out 2; have hfz23_3 := blk_frozen BK223.out 3; have hfz23_4 := blk_frozen BK223.out 4; have hfz23_5 := blk_frozen BK223.out 5))
   go_ret
   exact ⟨by first | rfl | (simp only [u8w, w64m]; rfl) | (simp [errW_none, errW_some] <;> rfl) | (simp [*, errW_none, errW_some] <;> rfl), bz⟩
 ·
  rw [if_neg c3] at H
  have c3b0 : (a0_0 == a1_0) = false := beq_eq_false_iff_ne.mpr c3
  have c3b1 : (a0_0 != a1_0) = true := bne_iff_ne.mpr c3
  obtain rfl := Option.some.inj H
  go_enter Try.func50, Try.ntmps50
  go_wp2_with (first | ((with_reducible refine gate_dst (N := 2) rfl ?_); refine box_event ?hg (N := 2) ?hd (cs := #[.int .i64 a0_0, .int .i64 a0_1, .int .i64 a0_2, .string a0_3, .int .i64 a0_4, .int .i64 a0_5]) (t := 69) ?hr ?_; (case hd => rfl); (case hg => rfl); (case hr => first | (go_simp; done) | (go_simp; rfl)); intro gb222 hg w24 hbox hb; have n0_ := Aside0.mk (below_step (bz) hb); have n1_ := Aside0.mk (hbox); have n2_ : Aside0 (w.heap.size ≤ gb222) := bsg hg; have n3_ : Aside0 (w.heap.size ≤ gb222) := bsg hg; clear HB; have HB := n0_; have BK222 := n1_; have GW222 := n2_; have GE222 := n3_; clear n0_ n1_ n2_ n3_; clear hb hbox hg) | ((with_reducible refine gate_dst (N := 3) rfl ?_); refine box_event ?hg (N := 3) ?hd (cs := #[.int .i64 a1_0, .int .i64 a1_1, .int .i64 a1_2, .string a1_3, .int .i64 a1_4, .int .i64 a1_5]) (t := 69) ?hr ?_; (case hd => rfl); (case hg => rfl); (case hr => first | (go_simp; done) | (go_simp; rfl)); intro gb223 hg w25 hbox hb; have n0_ := bkb BK222 hb; have n1_ := Aside0.mk (below_step (bz) hb); have n2_ := Aside0.mk (hbox); have n3_ : Aside0 (w.heap.size ≤ gb223) := bsg hg; have n4_ : Aside0 (w.heap.size ≤ gb223) := bsg hg; have n5_ := nlt hg BK222; have n6_ := ngt hg BK222; clear BK222; clear HB; have BK222 := n0_; have HB := n1_; have BK223 := n2_; have GW223 := n3_; have GE223 := n4_; have NB222_223 := n5_; have NB223_222 := n6_; clear n0_ n1_ n2_ n3_ n4_ n5_ n6_; clear hb hbox hg; have hnb26 := NB222_223.out; have hnc26 := NB223_222.out; have hcz27_0 : w25.cell? ⟨gb222, 0, none⟩ = some (.int .i64 a0_0) := (blk_cell BK222.out 0).trans rfl; have hcz27_1 : w25.cell? ⟨gb222, 1, none⟩ = some (.int .i64 a0_1) := (blk_cell BK222.out 1).trans rfl; have hcz27_2 : w25.cell? ⟨gb222, 2, none⟩ = some (.int .i64 a0_2) := (blk_cell BK222.out 2).trans rfl; have hcz27_3 : w25.cell? ⟨gb222, 3, none⟩ = some (.string a0_3) := (blk_cell BK222.out 3).trans rfl; have hcz27_4 : w25.cell? ⟨gb222, 4, none⟩ = some (.int .i64 a0_4) := (blk_cell BK222.out 4).trans rfl; have hcz27_5 : w25.cell? ⟨gb222, 5, none⟩ = some (.int .i64 a0_5) := (blk_cell BK222.out 5).trans rfl; have hfz27_0 := blk_frozen BK222.out 0; have hfz27_1 := blk_frozen BK222.out 1; have hfz27_2 := blk_frozen BK222.out 2; have hfz27_3 := blk_frozen BK222.out 3; have hfz27_4 := blk_frozen BK222.out 4; have hfz27_5 := blk_frozen BK222.out 5; have hcz28_0 : w25.cell? ⟨gb223, 0, none⟩ = some (.int .i64 a1_0) := (blk_cell BK223.out 0).trans rfl; have hcz28_1 : w25.cell? ⟨gb223, 1, none⟩ = some (.int .i64 a1_1) := (blk_cell BK223.out 1).trans rfl; have hcz28_2 : w25.cell? ⟨gb223, 2, none⟩ = some (.int .i64 a1_2) := (blk_cell BK223.out 2).trans rfl; have hcz28_3 : w25.cell? ⟨gb223, 3, none⟩ = some (.string a1_3) := (blk_cell BK223.out 3).trans rfl; have hcz28_4 : w25.cell? ⟨gb223, 4, none⟩ = some (.int .i64 a1_4) := (blk_cell BK223.out 4).trans rfl; have hcz28_5 : w25.cell? ⟨gb223, 5, none⟩ = some (.int .i64 a1_5) := (blk_cell BK223.out 5).trans rfl; have hfz28_0 := blk_frozen BK223.out 0; have hfz28_1 := blk_frozen BK223.out 1; have hfz28_2 := blk_frozen BK223.out 2; have hfz28_3 := blk_frozen BK223.out 3; have hfz28_4 := blk_frozen BK223.out 4; have hfz28_5 := blk_frozen BK223.out 5))
  go_ret
  exact ⟨by first | rfl | (simp only [u8w, w64m]; rfl) | (simp [errW_none, errW_some] <;> rfl) | (simp [*, errW_none, errW_some] <;> rfl), bz⟩

end Go.Proofs.Ytinnjgogaidhlaa.PFnExactRequestOf
