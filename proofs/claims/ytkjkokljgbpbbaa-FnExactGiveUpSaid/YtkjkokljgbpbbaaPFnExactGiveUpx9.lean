/- Go functions as plain Lean functions, and for each a proof that its call comes to what the function says; under the conditions that each theorem names. Written by a program of this session. -/
import Derived.Test.YtkjkokljgbpbbaaPFnExactGiveUpx0
import Derived.Test.YtkjkokljgbpbbaaPFnExactGiveUpx1
import Derived.Test.YtkjkokljgbpbbaaPFnExactGiveUpx8
namespace Go.Proofs.Ytkjkokljgbpbbaa.PFnExactGiveUp
open Go.RowKit Go.Proofs.YtkjkokljgbpbbaaW.PrintWords Go.Proofs.YtkjkokljgbpbbaaW.PrintLast Go.Proofs.YtkjkokljgbpbbaaW.PrintMore
attribute [local go_sem high] str_gtr str_leq str_geq
attribute [local go_sem] max2_int min2_int max_two min_two max_three min_three max_four min_four   -- for this text's walks alone
set_option linter.unusedVariables false
set_option linter.unusedSimpArgs false

attribute [local go_sem high] eqA39
/-! ### impl_CallerValid: function 24 -/
def impl_CallerValid.j0 : Nat → Bool → List (S35) → Int → Bool → Int → ByteArray → Int → Int → Int → Option (Bool)
 | 0, _, _, _, _, _, _, _, _, _ => none
 | k + 1, x16, x207000, x207001, x207002, x207003, x207004, x207005, x207006, x207007 => if x16 = true then (some false) else (if x207002 = true then (if x207001 ≥ 1 then ((impl_wishValid.f k x207003 x207004 x207005 x207006).bind fun t208 => (if t208 = true then ((impl_timeValid.f x207007).bind fun t209 => (some t209)) else (some false))) else (some false)) else (if (x207003 == 0 && (x207004.toList == ([] : List UInt8) && (x207005 == 0 && (x207006 == 0)))) = true then (some (x207007 == 0)) else (some false)))
def impl_CallerValid.f (k : Nat) (l0_0 : List (S35)) (a0_1 : Int) (a0_2 : Bool) (a0_3 : Int) (a0_4 : ByteArray) (a0_5 : Int) (a0_6 : Int) (a0_7 : Int) : Option (Bool) := (impl_CacheValid.f k l0_0).bind fun t207 => (if t207 = true then (if a0_1 < 0 then (impl_CallerValid.j0 k true l0_0 a0_1 a0_2 a0_3 a0_4 a0_5 a0_6 a0_7) else (impl_CallerValid.j0 k (decide (a0_1 > 999)) l0_0 a0_1 a0_2 a0_3 a0_4 a0_5 a0_6 a0_7)) else (impl_CallerValid.j0 k true l0_0 a0_1 a0_2 a0_3 a0_4 a0_5 a0_6 a0_7))
theorem impl_CallerValid.mono_l : ∀ k, (∀ y0 y1 y2 y3 y4 y5 y6 y7 y8, LeO (impl_CallerValid.j0 k y0 y1 y2 y3 y4 y5 y6 y7 y8) (impl_CallerValid.j0 (k + 1) y0 y1 y2 y3 y4 y5 y6 y7 y8))
 | 0 => fun _ _ _ _ _ _ _ _ _ r h => by simp [impl_CallerValid.j0] at h
 | k + 1 => by
  have ih0 := impl_CallerValid.mono_l k
  ·
   intro y0 y1 y2 y3 y4 y5 y6 y7 y8
   unfold impl_CallerValid.j0
   repeat' first
   | (with_reducible exact ih0 _ _ _ _ _ _ _ _ _)
   | (with_reducible exact impl_CacheValid.mono _ _)
   | (with_reducible exact impl_wishValid.mono _ _ _ _ _)
   | (with_reducible exact LeO.refl _)
   | (with_reducible exact LeO.none _)
   | (with_reducible refine LeO.ite ?_ ?_)
   | (with_reducible refine LeO.bind ?_ (fun _ => ?_))
   | exact ih0 _ _ _ _ _ _ _ _ _
   | exact impl_CacheValid.mono _ _
   | exact impl_wishValid.mono _ _ _ _ _
   | exact LeO.none _
   | refine LeO.ite ?_ ?_
   | refine LeO.bind ?_ (fun _ => ?_)
theorem impl_CallerValid.mono : ∀ a0 a1 a2 a3 a4 a5 a6 a7 k, LeO (impl_CallerValid.f k a0 a1 a2 a3 a4 a5 a6 a7) (impl_CallerValid.f (k + 1) a0 a1 a2 a3 a4 a5 a6 a7) := by
 intro a0 a1 a2 a3 a4 a5 a6 a7 k
 have ih0 := impl_CallerValid.mono_l k
 unfold impl_CallerValid.f
 repeat' first
   | (with_reducible exact ih0 _ _ _ _ _ _ _ _ _)
   | (with_reducible exact impl_CacheValid.mono _ _)
   | (with_reducible exact impl_wishValid.mono _ _ _ _ _)
   | (with_reducible exact LeO.refl _)
   | (with_reducible exact LeO.none _)
   | (with_reducible refine LeO.ite ?_ ?_)
   | (with_reducible refine LeO.bind ?_ (fun _ => ?_))
   | exact ih0 _ _ _ _ _ _ _ _ _
   | exact impl_CacheValid.mono _ _
   | exact impl_wishValid.mono _ _ _ _ _
   | exact LeO.none _
   | refine LeO.ite ?_ ?_
   | refine LeO.bind ?_ (fun _ => ?_)
set_option maxHeartbeats 8000000 in
set_option maxRecDepth 100000 in
theorem impl_CallerValid.calls (k : Nat) (A0_0 : Option Addr) (c0_0 : Nat) (l0_0 : List (S35)) (a0_1 : Int) (a0_2 : Bool) (a0_3 : Int) (a0_4 : ByteArray) (a0_5 : Int) (a0_6 : Int) (a0_7 : Int) (r : Bool) (w : World) (hr0_0 : Kd.C k35 w A0_0 l0_0.length l0_0) (hc0_0 : l0_0.length ≤ c0_0) (h : impl_CallerValid.f k l0_0 a0_1 a0_2 a0_3 a0_4 a0_5 a0_6 a0_7 = some r) :
  Calls Try.prog 24 #[.agg #[.slice A0_0 l0_0.length c0_0, .int .i64 a0_1, .bool a0_2, .int .i64 a0_3, .string a0_4, .int .i64 a0_5, .int .i64 a0_6, .int .i64 a0_7]] w fun e w' => e = .returned (.bool r) ∧ Below w.heap.size w w' := by
 have hu41 := Try.underlying41
 have hu39 := Try.underlying39
 have HR0_0 := Aside0.mk hr0_0
 have HC0_0 := Aside0.mk hc0_0
 clear hr0_0 hc0_0
 have HB := Aside0.mk (Below.refl w.heap.size w)
 have H : ((impl_CacheValid.f k l0_0).bind fun t207 => (if t207 = true then (if a0_1 < 0 then (impl_CallerValid.j0 k true l0_0 a0_1 a0_2 a0_3 a0_4 a0_5 a0_6 a0_7) else (impl_CallerValid.j0 k (decide (a0_1 > 999)) l0_0 a0_1 a0_2 a0_3 a0_4 a0_5 a0_6 a0_7)) else (impl_CallerValid.j0 k true l0_0 a0_1 a0_2 a0_3 a0_4 a0_5 a0_6 a0_7))) = some r := h
 clear h
 have HC2 := Aside0.mk H
 clear H
 go_enter Try.func24, Try.ntmps24
 go_upto_region 1 with (first | ((with_reducible refine gate_dst (N := 1) rfl ?_); refine box_event ?hg (N := 1) ?hd (cs := #[.slice A0_0 l0_0.length c0_0, .int .i64 a0_1, .bool a0_2, .int .i64 a0_3, .string a0_4, .int .i64 a0_5, .int .i64 a0_6, .int .i64 a0_7]) (t := 41) ?hr ?_; (case hd => rfl); (case hg => rfl); (case hr => first | (go_simp; done) | (go_simp; rfl)); intro gb206 hg w3 hbox hb; have n0_ := Aside0.mk (below_step (bz) hb); have n1_ := Aside0.mk (hbox); have n2_ : Aside0 (w.heap.size ≤ gb206) := bsg hg; have n3_ : Aside0 (w.heap.size ≤ gb206) := bsg hg; clear HB; have HB := n0_; have BK206 := n1_; have GW206 := n2_; have GE206 := n3_; clear n0_ n1_ n2_ n3_; clear hb hbox hg))
 (try simp only [Act.put, List.setIfInBounds_toArray, List.set_cons_zero, List.set_cons_succ])
 go_cut [16] (fun v16 wc => ∃ (kq : Nat) (x16_1 : Bool), v16 = .bool x16_1 ∧ Aside0 (impl_CallerValid.j0 kq x16_1 l0_0 a0_1 a0_2 a0_3 a0_4 a0_5 a0_6 a0_7 = some r) ∧ Aside0 (kq ≤ k) ∧ Aside0 (wc.heap[gb206]? = some (.cells #[(.slice A0_0 l0_0.length c0_0), .int .i64 a0_1, .bool a0_2, .int .i64 a0_3, .string a0_4, .int .i64 a0_5, .int .i64 a0_6, .int .i64 a0_7] 41 (0, 0))) ∧ Aside0 (Below w.heap.size w wc))
 case first =>
  have H := HC2.out
  clear HC2
  replace H := Option.bind_eq_some_iff.mp H
  obtain ⟨t207, A40, H⟩ := H
  try dsimp only at H
  have A4 := Aside0.mk A40
  clear A40
  by_cases c5 : t207 = true
  ·
   subst c5
   rw [if_pos rfl] at H
   by_cases c6 : a0_1 < 0
   ·
    rw [if_pos c6] at H
    have c6b0 : decide (a0_1 < 0) = true := decide_eq_true c6
    clear c6
    (first | rw [c6b0] | (simp only [i64_w, i32_w]; rw [c6b0]) | skip)
    have H' := Aside0.mk H
    clear H
    have hcz7_0 : w3.cell? ⟨gb206, 0, none⟩ = some (.slice A0_0 l0_0.length c0_0) := (blk_cell BK206.out 0).trans rfl
    have hcz7_1 : w3.cell? ⟨gb206, 1, none⟩ = some (.int .i64 a0_1) := (blk_cell BK206.out 1).trans rfl
    have hcz7_2 : w3.cell? ⟨gb206, 2, none⟩ = some (.bool a0_2) := (blk_cell BK206.out 2).trans rfl
    have hcz7_3 : w3.cell? ⟨gb206, 3, none⟩ = some (.int .i64 a0_3) := (blk_cell BK206.out 3).trans rfl
    have hcz7_4 : w3.cell? ⟨gb206, 4, none⟩ = some (.string a0_4) := (blk_cell BK206.out 4).trans rfl
    have hcz7_5 : w3.cell? ⟨gb206, 5, none⟩ = some (.int .i64 a0_5) := (blk_cell BK206.out 5).trans rfl
    have hcz7_6 : w3.cell? ⟨gb206, 6, none⟩ = some (.int .i64 a0_6) := (blk_cell BK206.out 6).trans rfl
    have hcz7_7 : w3.cell? ⟨gb206, 7, none⟩ = some (.int .i64 a0_7) := (blk_cell BK206.out 7).trans rfl
    have hfz7_0 := blk_frozen BK206.out 0
    have hfz7_1 := blk_frozen BK206.out 1
    have hfz7_2 := blk_frozen BK206.out 2
    have hfz7_3 := blk_frozen BK206.out 3
    have hfz7_4 := blk_frozen BK206.out 4
    have hfz7_5 := blk_frozen BK206.out 5
    have hfz7_6 := blk_frozen BK206.out 6
    have hfz7_7 := blk_frozen BK206.out 7
    go_wp2_with (first | ((with_reducible refine gate_callee (f := 85) rfl ?_); refine goesL_ (some 5) rfl rfl Try.func85 (by kernel_rfl) rfl #[.slice A0_0 l0_0.length c0_0] rfl (by (try simp only [List.map_toArray, List.map_cons, List.map_nil]); first | done | rfl | (simp only [List.length_drop, List.length_take]; rfl)) ?_; (with_reducible refine (impl_CacheValid.calls k _ _ l0_0 true _ ?side1 ?side2 A4.out).mono ?_); (case side1 => repeat (first | exact (Kd.C_below HR0_0.out HB.out) | (with_reducible refine Kd.C_alloc ?_ _) | (with_reducible refine Kd.C_drewN ?_ _) | (with_reducible refine Kd.C_drew ?_))); (case side2 => exact HC0_0.out); rintro e w8 ⟨rfl, hb⟩; refine ⟨_, rfl, ?_⟩; have n0_ := bkb BK206 hb; have n1_ := Aside0.mk (below_step (bz) hb); clear BK206; clear HB; have BK206 := n0_; have HB := n1_; clear n0_ n1_; (try clear hb); (try clear hb2); (try clear hk); (try clear hi); have hcz9_0 : w8.cell? ⟨gb206, 0, none⟩ = some (.slice A0_0 l0_0.length c0_0) := (blk_cell BK206.out 0).trans rfl; have hcz9_1 : w8.cell? ⟨gb206, 1, none⟩ = some (.int .i64 a0_1) := (blk_cell BK206.out 1).trans rfl; have hcz9_2 : w8.cell? ⟨gb206, 2, none⟩ = some (.bool a0_2) := (blk_cell BK206.out 2).trans rfl; have hcz9_3 : w8.cell? ⟨gb206, 3, none⟩ = some (.int .i64 a0_3) := (blk_cell BK206.out 3).trans rfl; have hcz9_4 : w8.cell? ⟨gb206, 4, none⟩ = some (.string a0_4) := (blk_cell BK206.out 4).trans rfl; have hcz9_5 : w8.cell? ⟨gb206, 5, none⟩ = some (.int .i64 a0_5) := (blk_cell BK206.out 5).trans rfl; have hcz9_6 : w8.cell? ⟨gb206, 6, none⟩ = some (.int .i64 a0_6) := (blk_cell BK206.out 6).trans rfl; have hcz9_7 : w8.cell? ⟨gb206, 7, none⟩ = some (.int .i64 a0_7) := (blk_cell BK206.out 7).trans rfl; have hfz9_0 := blk_frozen BK206.out 0; have hfz9_1 := blk_frozen BK206.out 1; have hfz9_2 := blk_frozen BK206.out 2; have hfz9_3 := blk_frozen BK206.out 3; have hfz9_4 := blk_frozen BK206.out 4; have hfz9_5 := blk_frozen BK206.out 5; have hfz9_6 := blk_frozen BK206.out 6; have hfz9_7 := blk_frozen BK206.out 7))
    go_meet
    case rel => exact ⟨_, (true), (by first | rfl | (simp; done) | exact congrArg Value.bool (ne_nil_b _) | exact congrArg Value.bool (eq_nil_b _) | (simp [*]; done)), H', ⟨by first | omega | exact Nat.le_refl _⟩, ⟨by (with_reducible repeat (first | refine blk_drewN ?_ _ | refine blk_drew ?_ | refine blk_alloc ?_ _)); exact BK206.out⟩, ⟨bz⟩⟩
   ·
    rw [if_neg c6] at H
    have c6b0 : decide (a0_1 < 0) = false := decide_eq_false c6
    clear c6
    (first | rw [c6b0] | (simp only [i64_w, i32_w]; rw [c6b0]) | skip)
    have H' := Aside0.mk H
    clear H
    have hcz10_0 : w3.cell? ⟨gb206, 0, none⟩ = some (.slice A0_0 l0_0.length c0_0) := (blk_cell BK206.out 0).trans rfl
    have hcz10_1 : w3.cell? ⟨gb206, 1, none⟩ = some (.int .i64 a0_1) := (blk_cell BK206.out 1).trans rfl
    have hcz10_2 : w3.cell? ⟨gb206, 2, none⟩ = some (.bool a0_2) := (blk_cell BK206.out 2).trans rfl
    have hcz10_3 : w3.cell? ⟨gb206, 3, none⟩ = some (.int .i64 a0_3) := (blk_cell BK206.out 3).trans rfl
    have hcz10_4 : w3.cell? ⟨gb206, 4, none⟩ = some (.string a0_4) := (blk_cell BK206.out 4).trans rfl
    have hcz10_5 : w3.cell? ⟨gb206, 5, none⟩ = some (.int .i64 a0_5) := (blk_cell BK206.out 5).trans rfl
    have hcz10_6 : w3.cell? ⟨gb206, 6, none⟩ = some (.int .i64 a0_6) := (blk_cell BK206.out 6).trans rfl
    have hcz10_7 : w3.cell? ⟨gb206, 7, none⟩ = some (.int .i64 a0_7) := (blk_cell BK206.out 7).trans rfl
    have hfz10_0 := blk_frozen BK206.out 0
    have hfz10_1 := blk_frozen BK206.out 1
    have hfz10_2 := blk_frozen BK206.out 2
    have hfz10_3 := blk_frozen BK206.out 3
    have hfz10_4 := blk_frozen BK206.out 4
    have hfz10_5 := blk_frozen BK206.out 5
    have hfz10_6 := blk_frozen BK206.out 6
    have hfz10_7 := blk_frozen BK206.out 7
    go_wp2_with (first | ((with_reducible refine gate_callee (f := 85) rfl ?_); refine goesL_ (some 5) rfl rfl Try.func85 (by kernel_rfl) rfl #[.slice A0_0 l0_0.length c0_0] rfl (by (try simp only [List.map_toArray, List.map_cons, List.map_nil]); first | done | rfl | (simp only [List.length_drop, List.length_take]; rfl)) ?_; (with_reducible refine (impl_CacheValid.calls k _ _ l0_0 true _ ?side1 ?side2 A4.out).mono ?_); (case side1 => repeat (first | exact (Kd.C_below HR0_0.out HB.out) | (with_reducible refine Kd.C_alloc ?_ _) | (with_reducible refine Kd.C_drewN ?_ _) | (with_reducible refine Kd.C_drew ?_))); (case side2 => exact HC0_0.out); rintro e w11 ⟨rfl, hb⟩; refine ⟨_, rfl, ?_⟩; have n0_ := bkb BK206 hb; have n1_ := Aside0.mk (below_step (bz) hb); clear BK206; clear HB; have BK206 := n0_; have HB := n1_; clear n0_ n1_; (try clear hb); (try clear hb2); (try clear hk); (try clear hi); have hcz12_0 : w11.cell? ⟨gb206, 0, none⟩ = some (.slice A0_0 l0_0.length c0_0) := (blk_cell BK206.out 0).trans rfl; have hcz12_1 : w11.cell? ⟨gb206, 1, none⟩ = some (.int .i64 a0_1) := (blk_cell BK206.out 1).trans rfl; have hcz12_2 : w11.cell? ⟨gb206, 2, none⟩ = some (.bool a0_2) := (blk_cell BK206.out 2).trans rfl; have hcz12_3 : w11.cell? ⟨gb206, 3, none⟩ = some (.int .i64 a0_3) := (blk_cell BK206.out 3).trans rfl; have hcz12_4 : w11.cell? ⟨gb206, 4, none⟩ = some (.string a0_4) := (blk_cell BK206.out 4).trans rfl; have hcz12_5 : w11.cell? ⟨gb206, 5, none⟩ = some (.int .i64 a0_5) := (blk_cell BK206.out 5).trans rfl; have hcz12_6 : w11.cell? ⟨gb206, 6, none⟩ = some (.int .i64 a0_6) := (blk_cell BK206.out 6).trans rfl; have hcz12_7 : w11.cell? ⟨gb206, 7, none⟩ = some (.int .i64 a0_7) := (blk_cell BK206.out 7).trans rfl; have hfz12_0 := blk_frozen BK206.out 0; have hfz12_1 := blk_frozen BK206.out 1; have hfz12_2 := blk_frozen BK206.out 2; have hfz12_3 := blk_frozen BK206.out 3; have hfz12_4 := blk_frozen BK206.out 4; have hfz12_5 := blk_frozen BK206.out 5; have hfz12_6 := blk_frozen BK206.out 6; have hfz12_7 := blk_frozen BK206.out 7))
    go_meet
    case rel => exact ⟨_, (decide (a0_1 > 999)), (by first | rfl | (simp; done) | exact congrArg Value.bool (ne_nil_b _) | exact congrArg Value.bool (eq_nil_b _) | (simp [*]; done)), H', ⟨by first | omega | exact Nat.le_refl _⟩, ⟨by (with_reducible repeat (first | refine blk_drewN ?_ _ | refine blk_drew ?_ | refine blk_alloc ?_ _)); exact BK206.out⟩, ⟨bz⟩⟩
  ·
   replace c5 := Bool.eq_false_iff.mpr c5
   subst c5
   rw [if_neg (show ¬ (false = true) by decide)] at H
   have H' := Aside0.mk H
   clear H
   have hcz13_0 : w3.cell? ⟨gb206, 0, none⟩ = some (.slice A0_0 l0_0.length c0_0) := (blk_cell BK206.out 0).trans rfl
   have hcz13_1 : w3.cell? ⟨gb206, 1, none⟩ = some (.int .i64 a0_1) := (blk_cell BK206.out 1).trans rfl
   have hcz13_2 : w3.cell? ⟨gb206, 2, none⟩ = some (.bool a0_2) := (blk_cell BK206.out 2).trans rfl
   have hcz13_3 : w3.cell? ⟨gb206, 3, none⟩ = some (.int .i64 a0_3) := (blk_cell BK206.out 3).trans rfl
   have hcz13_4 : w3.cell? ⟨gb206, 4, none⟩ = some (.string a0_4) := (blk_cell BK206.out 4).trans rfl
   have hcz13_5 : w3.cell? ⟨gb206, 5, none⟩ = some (.int .i64 a0_5) := (blk_cell BK206.out 5).trans rfl
   have hcz13_6 : w3.cell? ⟨gb206, 6, none⟩ = some (.int .i64 a0_6) := (blk_cell BK206.out 6).trans rfl
   have hcz13_7 : w3.cell? ⟨gb206, 7, none⟩ = some (.int .i64 a0_7) := (blk_cell BK206.out 7).trans rfl
   have hfz13_0 := blk_frozen BK206.out 0
   have hfz13_1 := blk_frozen BK206.out 1
   have hfz13_2 := blk_frozen BK206.out 2
   have hfz13_3 := blk_frozen BK206.out 3
   have hfz13_4 := blk_frozen BK206.out 4
   have hfz13_5 := blk_frozen BK206.out 5
   have hfz13_6 := blk_frozen BK206.out 6
   have hfz13_7 := blk_frozen BK206.out 7
   go_wp2_with (first | ((with_reducible refine gate_callee (f := 85) rfl ?_); refine goesL_ (some 5) rfl rfl Try.func85 (by kernel_rfl) rfl #[.slice A0_0 l0_0.length c0_0] rfl (by (try simp only [List.map_toArray, List.map_cons, List.map_nil]); first | done | rfl | (simp only [List.length_drop, List.length_take]; rfl)) ?_; (with_reducible refine (impl_CacheValid.calls k _ _ l0_0 false _ ?side1 ?side2 A4.out).mono ?_); (case side1 => repeat (first | exact (Kd.C_below HR0_0.out HB.out) | (with_reducible refine Kd.C_alloc ?_ _) | (with_reducible refine Kd.C_drewN ?_ _) | (with_reducible refine Kd.C_drew ?_))); (case side2 => exact HC0_0.out); rintro e w14 ⟨rfl, hb⟩; refine ⟨_, rfl, ?_⟩; have n0_ := bkb BK206 hb; have n1_ := Aside0.mk (below_step (bz) hb); clear BK206; clear HB; have BK206 := n0_; have HB := n1_; clear n0_ n1_; (try clear hb); (try clear hb2); (try clear hk); (try clear hi)))
   go_meet
   case rel => exact ⟨_, (true), (by first | rfl | (simp; done) | exact congrArg Value.bool (ne_nil_b _) | exact congrArg Value.bool (eq_nil_b _) | (simp [*]; done)), H', ⟨by first | omega | exact Nat.le_refl _⟩, ⟨by (with_reducible repeat (first | refine blk_drewN ?_ _ | refine blk_drew ?_ | refine blk_alloc ?_ _)); exact BK206.out⟩, ⟨bz⟩⟩
 case rest =>
  clear HC2
  try clear c2
  try clear p2
  try clear c5
  try clear c6
  try clear c6b0
  try clear c8
  try clear hcz10_0
  try clear hcz10_1
  try clear hcz10_2
  try clear hcz10_3
  try clear hcz10_4
  try clear hcz10_5
  try clear hcz10_6
  try clear hcz10_7
  try clear hcz12_0
  try clear hcz12_1
  try clear hcz12_2
  try clear hcz12_3
  try clear hcz12_4
  try clear hcz12_5
  try clear hcz12_6
  try clear hcz12_7
  try clear hcz13_0
  try clear hcz13_1
  try clear hcz13_2
  try clear hcz13_3
  try clear hcz13_4
  try clear hcz13_5
  try clear hcz13_6
  try clear hcz13_7
  try clear hcz7_0
  try clear hcz7_1
  try clear hcz7_2
  try clear hcz7_3
  try clear hcz7_4
  try clear hcz7_5
  try clear hcz7_6
  try clear hcz7_7
  try clear hcz9_0
  try clear hcz9_1
  try clear hcz9_2
  try clear hcz9_3
  try clear hcz9_4
  try clear hcz9_5
  try clear hcz9_6
  try clear hcz9_7
  try clear hfz10_0
  try clear hfz10_1
  try clear hfz10_2
  try clear hfz10_3
  try clear hfz10_4
  try clear hfz10_5
  try clear hfz10_6
  try clear hfz10_7
  try clear hfz12_0
  try clear hfz12_1
  try clear hfz12_2
  try clear hfz12_3
  try clear hfz12_4
  try clear hfz12_5
  try clear hfz12_6
  try clear hfz12_7
  try clear hfz13_0
  try clear hfz13_1
  try clear hfz13_2
  try clear hfz13_3
  try clear hfz13_4
  try clear hfz13_5
  try clear hfz13_6
  try clear hfz13_7
  try clear hfz7_0
  try clear hfz7_1
  try clear hfz7_2
  try clear hfz7_3
  try clear hfz7_4
  try clear hfz7_5
  try clear hfz7_6
  try clear hfz7_7
  try clear hfz9_0
  try clear hfz9_1
  try clear hfz9_2
  try clear hfz9_3
  try clear hfz9_4
  try clear hfz9_5
  try clear hfz9_6
  try clear hfz9_7
  obtain ⟨kq, x16_1, rfl, HA, HJ1, BK206, HB⟩ := hcut
  cases kq with
  | zero => exact absurd HA.out (by simp [impl_CallerValid.j0])
  | succ kj1 =>
   have H := HA.out
   clear HA
   simp only [impl_CallerValid.j0] at H
   by_cases c15 : x16_1 = true
   ·
    subst c15
    rw [if_pos rfl] at H
    obtain rfl := Option.some.inj H
    go_wp2
    go_ret
    exact ⟨by first | rfl | (simp only [u8w, w64m]; rfl) | (simp [errW_none, errW_some] <;> rfl) | (simp [*, errW_none, errW_some] <;> rfl), bz⟩
   ·
    replace c15 := Bool.eq_false_iff.mpr c15
    subst c15
    rw [if_neg (show ¬ (false = true) by decide)] at H
    by_cases c16 : a0_2 = true
    ·
     subst c16
     rw [if_pos rfl] at H
     by_cases c17 : a0_1 ≥ 1
     ·
      rw [if_pos c17] at H
      have c17b0 : decide (1 ≤ a0_1) = true := decide_eq_true c17
      clear c17
      replace H := Option.bind_eq_some_iff.mp H
      obtain ⟨t208, A180, H⟩ := H
      try dsimp only at H
      have A18 := Aside0.mk A180
      clear A180
      by_cases c19 : t208 = true
      ·
       subst c19
       rw [if_pos rfl] at H
       replace H := Option.bind_eq_some_iff.mp H
       obtain ⟨t209, A200, H⟩ := H
       try dsimp only at H
       have A20 := Aside0.mk A200
       clear A200
       obtain rfl := Option.some.inj H
       have hcz21_0 : wc.cell? ⟨gb206, 0, none⟩ = some (.slice A0_0 l0_0.length c0_0) := (blk_cell BK206.out 0).trans rfl
       have hcz21_1 : wc.cell? ⟨gb206, 1, none⟩ = some (.int .i64 a0_1) := (blk_cell BK206.out 1).trans rfl
       have hcz21_2 : wc.cell? ⟨gb206, 2, none⟩ = some (.bool true) := (blk_cell BK206.out 2).trans rfl
       have hcz21_3 : wc.cell? ⟨gb206, 3, none⟩ = some (.int .i64 a0_3) := (blk_cell BK206.out 3).trans rfl
       have hcz21_4 : wc.cell? ⟨gb206, 4, none⟩ = some (.string a0_4) := (blk_cell BK206.out 4).trans rfl
       have hcz21_5 : wc.cell? ⟨gb206, 5, none⟩ = some (.int .i64 a0_5) := (blk_cell BK206.out 5).trans rfl
       have hcz21_6 : wc.cell? ⟨gb206, 6, none⟩ = some (.int .i64 a0_6) := (blk_cell BK206.out 6).trans rfl
       have hcz21_7 : wc.cell? ⟨gb206, 7, none⟩ = some (.int .i64 a0_7) := (blk_cell BK206.out 7).trans rfl
       have hfz21_0 := blk_frozen BK206.out 0
       have hfz21_1 := blk_frozen BK206.out 1
       have hfz21_2 := blk_frozen BK206.out 2
       have hfz21_3 := blk_frozen BK206.out 3
       have hfz21_4 := blk_frozen BK206.out 4
       have hfz21_5 := blk_frozen BK206.out 5
       have hfz21_6 := blk_frozen BK206.out 6
       have hfz21_7 := blk_frozen BK206.out 7
       go_wp2_with (first | (go_at_call 86; (with_reducible refine (impl_wishValid.calls kj1 a0_3 a0_4 a0_5 a0_6 true _ A18.out).mono ?_); rintro e w22 ⟨rfl, hb⟩; have n0_ := bkb BK206 hb; have n1_ := Aside0.mk (below_step (bz) hb); clear BK206; clear HB; have BK206 := n0_; have HB := n1_; clear n0_ n1_; (try clear hb); (try clear hb2); (try clear hk); (try clear hi); have hcz23_0 : w22.cell? ⟨gb206, 0, none⟩ = some (.slice A0_0 l0_0.length c0_0) := (blk_cell BK206.out 0).trans rfl; have hcz23_1 : w22.cell? ⟨gb206, 1, none⟩ = some (.int .i64 a0_1) := (blk_cell BK206.out 1).trans rfl; have hcz23_2 : w22.cell? ⟨gb206, 2, none⟩ = some (.bool true) := (blk_cell BK206.out 2).trans rfl; have hcz23_3 : w22.cell? ⟨gb206, 3, none⟩ = some (.int .i64 a0_3) := (blk_cell BK206.out 3).trans rfl; have hcz23_4 : w22.cell? ⟨gb206, 4, none⟩ = some (.string a0_4) := (blk_cell BK206.out 4).trans rfl; have hcz23_5 : w22.cell? ⟨gb206, 5, none⟩ = some (.int .i64 a0_5) := (blk_cell BK206.out 5).trans rfl; have hcz23_6 : w22.cell? ⟨gb206, 6, none⟩ = some (.int .i64 a0_6) := (blk_cell BK206.out 6).trans rfl; have hcz23_7 : w22.cell? ⟨gb206, 7, none⟩ = some (.int .i64 a0_7) := (blk_cell BK206.out 7).trans rfl; have hfz23_0 := blk_frozen BK206.out 0; have hfz23_1 := blk_frozen BK206.out 1; have hfz23_2 := blk_frozen BK206.out 2; have hfz23_3 := blk_frozen BK206.out 3; have hfz23_4 := blk_frozen BK206.out 4; have hfz23_5 := blk_frozen BK206.out 5; have hfz23_6 := blk_frozen BK206.out 6; have hfz23_7 := blk_frozen BK206.out 7) | (go_at_call 87; (with_reducible refine (impl_timeValid.calls a0_7 t209 _ A20.out).mono ?_); rintro e w' ⟨rfl, ⟨nd, rfl⟩⟩))
       go_ret
       exact ⟨by first | rfl | (simp only [u8w, w64m]; rfl) | (simp [errW_none, errW_some] <;> rfl) | (simp [*, errW_none, errW_some] <;> rfl), bz⟩
      ·
       replace c19 := Bool.eq_false_iff.mpr c19
       subst c19
       rw [if_neg (show ¬ (false = true) by decide)] at H
       obtain rfl := Option.some.inj H
       have hcz24_0 : wc.cell? ⟨gb206, 0, none⟩ = some (.slice A0_0 l0_0.length c0_0) := (blk_cell BK206.out 0).trans rfl
       have hcz24_1 : wc.cell? ⟨gb206, 1, none⟩ = some (.int .i64 a0_1) := (blk_cell BK206.out 1).trans rfl
       have hcz24_2 : wc.cell? ⟨gb206, 2, none⟩ = some (.bool true) := (blk_cell BK206.out 2).trans rfl
       have hcz24_3 : wc.cell? ⟨gb206, 3, none⟩ = some (.int .i64 a0_3) := (blk_cell BK206.out 3).trans rfl
       have hcz24_4 : wc.cell? ⟨gb206, 4, none⟩ = some (.string a0_4) := (blk_cell BK206.out 4).trans rfl
       have hcz24_5 : wc.cell? ⟨gb206, 5, none⟩ = some (.int .i64 a0_5) := (blk_cell BK206.out 5).trans rfl
       have hcz24_6 : wc.cell? ⟨gb206, 6, none⟩ = some (.int .i64 a0_6) := (blk_cell BK206.out 6).trans rfl
       have hcz24_7 : wc.cell? ⟨gb206, 7, none⟩ = some (.int .i64 a0_7) := (blk_cell BK206.out 7).trans rfl
       have hfz24_0 := blk_frozen BK206.out 0
       have hfz24_1 := blk_frozen BK206.out 1
       have hfz24_2 := blk_frozen BK206.out 2
       have hfz24_3 := blk_frozen BK206.out 3
       have hfz24_4 := blk_frozen BK206.out 4
       have hfz24_5 := blk_frozen BK206.out 5
       have hfz24_6 := blk_frozen BK206.out 6
       have hfz24_7 := blk_frozen BK206.out 7
       go_wp2_with (first | (go_at_call 86; (with_reducible refine (impl_wishValid.calls kj1 a0_3 a0_4 a0_5 a0_6 false _ A18.out).mono ?_); rintro e w25 ⟨rfl, hb⟩; have n0_ := bkb BK206 hb; have n1_ := Aside0.mk (below_step (bz) hb); clear BK206; clear HB; have BK206 := n0_; have HB := n1_; clear n0_ n1_; (try clear hb); (try clear hb2); (try clear hk); (try clear hi)))
       go_ret
       exact ⟨by first | rfl | (simp only [u8w, w64m]; rfl) | (simp [errW_none, errW_some] <;> rfl) | (simp [*, errW_none, errW_some] <;> rfl), bz⟩
     ·
      rw [if_neg c17] at H
      have c17b0 : decide (1 ≤ a0_1) = false := decide_eq_false c17
      clear c17
      obtain rfl := Option.some.inj H
      have hcz26_0 : wc.cell? ⟨gb206, 0, none⟩ = some (.slice A0_0 l0_0.length c0_0) := (blk_cell BK206.out 0).trans rfl
      have hcz26_1 : wc.cell? ⟨gb206, 1, none⟩ = some (.int .i64 a0_1) := (blk_cell BK206.out 1).trans rfl
      have hcz26_2 : wc.cell? ⟨gb206, 2, none⟩ = some (.bool true) := (blk_cell BK206.out 2).trans rfl
      have hcz26_3 : wc.cell? ⟨gb206, 3, none⟩ = some (.int .i64 a0_3) := (blk_cell BK206.out 3).trans rfl
      have hcz26_4 : wc.cell? ⟨gb206, 4, none⟩ = some (.string a0_4) := (blk_cell BK206.out 4).trans rfl
      have hcz26_5 : wc.cell? ⟨gb206, 5, none⟩ = some (.int .i64 a0_5) := (blk_cell BK206.out 5).trans rfl
      have hcz26_6 : wc.cell? ⟨gb206, 6, none⟩ = some (.int .i64 a0_6) := (blk_cell BK206.out 6).trans rfl
      have hcz26_7 : wc.cell? ⟨gb206, 7, none⟩ = some (.int .i64 a0_7) := (blk_cell BK206.out 7).trans rfl
      have hfz26_0 := blk_frozen BK206.out 0
      have hfz26_1 := blk_frozen BK206.out 1
      have hfz26_2 := blk_frozen BK206.out 2
      have hfz26_3 := blk_frozen BK206.out 3
      have hfz26_4 := blk_frozen BK206.out 4
      have hfz26_5 := blk_frozen BK206.out 5
      have hfz26_6 := blk_frozen BK206.out 6
      have hfz26_7 := blk_frozen BK206.out 7
      go_wp2
      go_ret
      exact ⟨by first | rfl | (simp only [u8w, w64m]; rfl) | (simp [errW_none, errW_some] <;> rfl) | (simp [*, errW_none, errW_some] <;> rfl), bz⟩
    ·
     replace c16 := Bool.eq_false_iff.mpr c16
     subst c16
     rw [if_neg (show ¬ (false = true) by decide)] at H
     by_cases c27 : (a0_3 == 0 && (a0_4.toList == ([] : List UInt8) && (a0_5 == 0 && (a0_6 == 0)))) = true
     ·
      rw [if_pos c27] at H
      have c27b0 : (a0_3 == 0 && (a0_4.toList == ([] : List UInt8) && (a0_5 == 0 && (a0_6 == 0)))) = true := c27
      (try (have c27b1 : decide (a0_3 = 0 && (a0_4.toList == ([] : List UInt8) && (a0_5 == 0 && (a0_6 == 0)))) = true := by simpa using c27))
      (try (have c27b2 : (a0_3 == 0 && (a0_4.toList == ([] : List UInt8) && (a0_5 == 0 && (a0_6 == 0)))) = true := by simpa using c27))
      (try (have c27b9 := c27b0; simp only [← eq_nil_b] at c27b9))
      clear c27
      obtain rfl := Option.some.inj H
      have hcz28_0 : wc.cell? ⟨gb206, 0, none⟩ = some (.slice A0_0 l0_0.length c0_0) := (blk_cell BK206.out 0).trans rfl
      have hcz28_1 : wc.cell? ⟨gb206, 1, none⟩ = some (.int .i64 a0_1) := (blk_cell BK206.out 1).trans rfl
      have hcz28_2 : wc.cell? ⟨gb206, 2, none⟩ = some (.bool false) := (blk_cell BK206.out 2).trans rfl
      have hcz28_3 : wc.cell? ⟨gb206, 3, none⟩ = some (.int .i64 a0_3) := (blk_cell BK206.out 3).trans rfl
      have hcz28_4 : wc.cell? ⟨gb206, 4, none⟩ = some (.string a0_4) := (blk_cell BK206.out 4).trans rfl
      have hcz28_5 : wc.cell? ⟨gb206, 5, none⟩ = some (.int .i64 a0_5) := (blk_cell BK206.out 5).trans rfl
      have hcz28_6 : wc.cell? ⟨gb206, 6, none⟩ = some (.int .i64 a0_6) := (blk_cell BK206.out 6).trans rfl
      have hcz28_7 : wc.cell? ⟨gb206, 7, none⟩ = some (.int .i64 a0_7) := (blk_cell BK206.out 7).trans rfl
      have hfz28_0 := blk_frozen BK206.out 0
      have hfz28_1 := blk_frozen BK206.out 1
      have hfz28_2 := blk_frozen BK206.out 2
      have hfz28_3 := blk_frozen BK206.out 3
      have hfz28_4 := blk_frozen BK206.out 4
      have hfz28_5 := blk_frozen BK206.out 5
      have hfz28_6 := blk_frozen BK206.out 6
      have hfz28_7 := blk_frozen BK206.out 7
      go_wp2
      go_ret
      exact ⟨by first | rfl | (simp only [u8w, w64m]; rfl) | (simp [errW_none, errW_some] <;> rfl) | (simp [*, errW_none, errW_some] <;> rfl), bz⟩
     ·
      rw [if_neg c27] at H
      have c27b0 : (a0_3 == 0 && (a0_4.toList == ([] : List UInt8) && (a0_5 == 0 && (a0_6 == 0)))) = false := by simpa using c27
      (try (have c27b1 : decide (a0_3 = 0 && (a0_4.toList == ([] : List UInt8) && (a0_5 == 0 && (a0_6 == 0)))) = false := by simpa using c27))
      (try (have c27b2 : (a0_3 == 0 && (a0_4.toList == ([] : List UInt8) && (a0_5 == 0 && (a0_6 == 0)))) = false := by simpa using c27))
      (try (have c27b3 : ¬ (a0_3 = 0 && (a0_4.toList == ([] : List UInt8) && (a0_5 == 0 && (a0_6 == 0)))) := by simpa using c27))
      (try (have c27b9 := c27b0; simp only [← eq_nil_b] at c27b9))
      clear c27
      obtain rfl := Option.some.inj H
      have hcz29_0 : wc.cell? ⟨gb206, 0, none⟩ = some (.slice A0_0 l0_0.length c0_0) := (blk_cell BK206.out 0).trans rfl
      have hcz29_1 : wc.cell? ⟨gb206, 1, none⟩ = some (.int .i64 a0_1) := (blk_cell BK206.out 1).trans rfl
      have hcz29_2 : wc.cell? ⟨gb206, 2, none⟩ = some (.bool false) := (blk_cell BK206.out 2).trans rfl
      have hcz29_3 : wc.cell? ⟨gb206, 3, none⟩ = some (.int .i64 a0_3) := (blk_cell BK206.out 3).trans rfl
      have hcz29_4 : wc.cell? ⟨gb206, 4, none⟩ = some (.string a0_4) := (blk_cell BK206.out 4).trans rfl
      have hcz29_5 : wc.cell? ⟨gb206, 5, none⟩ = some (.int .i64 a0_5) := (blk_cell BK206.out 5).trans rfl
      have hcz29_6 : wc.cell? ⟨gb206, 6, none⟩ = some (.int .i64 a0_6) := (blk_cell BK206.out 6).trans rfl
      have hcz29_7 : wc.cell? ⟨gb206, 7, none⟩ = some (.int .i64 a0_7) := (blk_cell BK206.out 7).trans rfl
      have hfz29_0 := blk_frozen BK206.out 0
      have hfz29_1 := blk_frozen BK206.out 1
      have hfz29_2 := blk_frozen BK206.out 2
      have hfz29_3 := blk_frozen BK206.out 3
      have hfz29_4 := blk_frozen BK206.out 4
      have hfz29_5 := blk_frozen BK206.out 5
      have hfz29_6 := blk_frozen BK206.out 6
      have hfz29_7 := blk_frozen BK206.out 7
      go_wp2
      go_ret
      exact ⟨by first | rfl | (simp only [u8w, w64m]; rfl) | (simp [errW_none, errW_some] <;> rfl) | (simp [*, errW_none, errW_some] <;> rfl), bz⟩

/-! ### impl_Route: function 94 -/
def impl_Route.f (l0 : List (S35)) : Option ((List (S35))) := if ([] : List (S35)).length + l0.length < 3518437208883 then (some (([] : List (S35)) ++ l0)) else (none)
set_option maxHeartbeats 8000000 in
set_option maxRecDepth 100000 in
theorem impl_Route.calls (A0 : Option Addr) (c0 : Nat) (l0 : List (S35)) (r : List (S35)) (w : World) (hr0 : Kd.C k35 w A0 l0.length l0) (hc0 : l0.length ≤ c0) (h : impl_Route.f l0 = some r) :
  Calls Try.prog 94 #[.slice A0 l0.length c0] w fun e w' => ∃ v0_ : Value, e = .returned (v0_) ∧ Kd.R k35 35 w' w.heap.size (fun _ => True) v0_ r ∧ Below w.heap.size w w' := by
 have HR0 := Aside0.mk hr0
 have HC0 := Aside0.mk hc0
 clear hr0 hc0
 have HB := Aside0.mk (Below.refl w.heap.size w)
 have H : (if ([] : List (S35)).length + l0.length < 3518437208883 then (some (([] : List (S35)) ++ l0)) else (none)) = some r := h
 clear h
 by_cases c2 : ([] : List (S35)).length + l0.length < 3518437208883
 ·
  rw [if_pos c2] at H
  have LMc2 := Aside0.mk c2
  clear c2
  obtain ⟨y210, hy210⟩ : ∃ y_ : List (S35), y_ = (([] : List (S35)) ++ l0) := ⟨_, rfl⟩
  replace H : (some y210) = some r := by first | (rw [hy210]; with_reducible exact H) | (have H2_ := (Option.bind_some _ _).symm.trans H; rw [hy210]; with_reducible exact H2_) | (have H2_ := (Option.bind_some _ _).symm.trans H; with_reducible exact H2_) | with_reducible exact H | (rw [hy210]; exact H) | exact H
  have Ny210 := Aside0.mk hy210
  clear hy210
  obtain rfl := Option.some.inj H
  go_enter Try.func94, Try.ntmps94
  go_wp2_with (first | ((with_reducible refine gate_builtin (b := .append) (xs := #[.const (.slice none 0 0), .tmp 3]) rfl ?_); at_builtin; refine Kd.R_append_rows k35 (w0 := w) w.heap.size rfl (.const (.slice none 0 0)) (.tmp 3) 23 35 (.agg #[(.int .i64 0), (.string ⟨#[]⟩), (.string ⟨#[]⟩)]) 40 rfl Try.underlying23 info35 rfl (by decide) (by omega) (.slice none 0 0) ([] : List (S35)) l0 _ _ _ (fun _ => True) (fun _ => False) rfl rfl ?aO ?aR (fun _ _ h => h) (fun _ h => h.elim) ?aF ?aB ?aS ?aL ?_; (case aR => repeat (first | exact HR0.out | (with_reducible refine Kd.C_alloc ?_ _) | (with_reducible refine Kd.C_drewN ?_ _) | (with_reducible refine Kd.C_drew ?_))); (case aB => exact (bz)); (case aF => exact (fun _ _ => trivial)); (case aO => exact ((Kd.R_nil _ _ _ _ (fun _ => True)))); (case aS => exact (below_size (bz))); (case aL => have := LMc2.out; omega); intro v211 w3 ho hb hg hat; rw [← Ny210.out] at ho; have n0_ := Aside0.mk (hb); have n1_ := Aside0.mk (ho); clear HB; have HB := n0_; have HO212 := n1_; clear n0_ n1_; clear ho hb hg hat))
  go_ret
  exact ⟨_, by first | rfl | (simp only [u8w, w64m]; rfl) | (simp [errW_none, errW_some] <;> rfl) | (simp [*, errW_none, errW_some] <;> rfl), by (with_reducible repeat (first | apply Kd.R_alloc | apply Kd.R_drewN | apply Kd.R_drew)); exact HO212.out, bz⟩
 ·
  rw [if_neg c2] at H
  exact absurd H (by simp)

/-! ### impl_copyCaller: function 100 -/
def impl_copyCaller.f (l0_0 : List (S35)) (a0_1 : Int) (a0_2 : Bool) (a0_3 : Int) (a0_4 : ByteArray) (a0_5 : Int) (a0_6 : Int) (a0_7 : Int) : Option ((List (S35)) × Int × Bool × Int × ByteArray × Int × Int × Int) := (impl_Route.f l0_0).bind fun t215 => (some (t215, a0_1, a0_2, a0_3, a0_4, a0_5, a0_6, a0_7))
set_option maxHeartbeats 8000000 in
set_option maxRecDepth 100000 in
theorem impl_copyCaller.calls (A0_0 : Option Addr) (c0_0 : Nat) (l0_0 : List (S35)) (a0_1 : Int) (a0_2 : Bool) (a0_3 : Int) (a0_4 : ByteArray) (a0_5 : Int) (a0_6 : Int) (a0_7 : Int) (r1 : List (S35)) (r2 : Int) (r3 : Bool) (r4 : Int) (r5 : ByteArray) (r6 : Int) (r7 : Int) (r8 : Int) (w : World) (hr0_0 : Kd.C k35 w A0_0 l0_0.length l0_0) (hc0_0 : l0_0.length ≤ c0_0) (h : impl_copyCaller.f l0_0 a0_1 a0_2 a0_3 a0_4 a0_5 a0_6 a0_7 = some (r1, r2, r3, r4, r5, r6, r7, r8)) :
  Calls Try.prog 100 #[.agg #[.slice A0_0 l0_0.length c0_0, .int .i64 a0_1, .bool a0_2, .int .i64 a0_3, .string a0_4, .int .i64 a0_5, .int .i64 a0_6, .int .i64 a0_7]] w fun e w' => ∃ v0_ : Value, e = .returned (.agg #[v0_, .int .i64 r2, .bool r3, .int .i64 r4, .string r5, .int .i64 r6, .int .i64 r7, .int .i64 r8]) ∧ Kd.R k35 35 w' w.heap.size (fun _ => True) v0_ r1 ∧ Below w.heap.size w w' := by
 have hu41 := Try.underlying41
 have HR0_0 := Aside0.mk hr0_0
 have HC0_0 := Aside0.mk hc0_0
 clear hr0_0 hc0_0
 have HB := Aside0.mk (Below.refl w.heap.size w)
 have H : ((impl_Route.f l0_0).bind fun t215 => (some (t215, a0_1, a0_2, a0_3, a0_4, a0_5, a0_6, a0_7))) = some (r1, r2, r3, r4, r5, r6, r7, r8) := h
 clear h
 replace H := Option.bind_eq_some_iff.mp H
 obtain ⟨t215, A20, H⟩ := H
 try dsimp only at H
 have A2 := Aside0.mk A20
 clear A20
 simp only [Option.some.injEq, Prod.mk.injEq] at H
 obtain ⟨rfl, rfl, rfl, rfl, rfl, rfl, rfl, rfl⟩ := H
 go_enter Try.func100, Try.ntmps100
 go_wp2_with (first | ((with_reducible refine gate_dst (N := 1) rfl ?_); refine box_event ?hg (N := 1) ?hd (cs := #[.slice A0_0 l0_0.length c0_0, .int .i64 a0_1, .bool a0_2, .int .i64 a0_3, .string a0_4, .int .i64 a0_5, .int .i64 a0_6, .int .i64 a0_7]) (t := 41) ?hr ?_; (case hd => rfl); (case hg => rfl); (case hr => first | (go_simp; done) | (go_simp; rfl)); intro gb213 hg w3 hbox hb; have n0_ := Aside0.mk (below_step (bz) hb); have n1_ := Aside0.mk (hbox); have n2_ : Aside0 (w.heap.size ≤ gb213) := bsg hg; have n3_ : Aside0 (w.heap.size ≤ gb213) := bsg hg; clear HB; have HB := n0_; have BK213 := n1_; have GW213 := n2_; have GE213 := n3_; clear n0_ n1_ n2_ n3_; clear hb hbox hg) | ((with_reducible refine gate_dst (N := 2) rfl ?_); refine box_event ?hg (N := 2) ?hd (cs := #[.slice none 0 0, .int .i64 0, .bool false, .int .i64 0, .string (⟨#[]⟩ : ByteArray), .int .i64 0, .int .i64 0, .int .i64 0]) (t := 41) ?hr ?_; (case hd => rfl); (case hg => rfl); (case hr => first | (go_simp; done) | (go_simp; rfl)); intro gb214 hg w4 hbox hb; have n0_ := bkb BK213 hb; have n1_ := Aside0.mk (below_step (bz) hb); have n2_ := Aside0.mk (hbox); have n3_ : Aside0 (w.heap.size ≤ gb214) := bsg hg; have n4_ : Aside0 (w.heap.size ≤ gb214) := bsg hg; have n5_ := nlt hg BK213; have n6_ := ngt hg BK213; clear BK213; clear HB; have BK213 := n0_; have HB := n1_; have BK214 := n2_; have GW214 := n3_; have GE214 := n4_; have NB213_214 := n5_; have NB214_213 := n6_; clear n0_ n1_ n2_ n3_ n4_ n5_ n6_; clear hb hbox hg; have hnb5 := NB213_214.out; have hnc5 := NB214_213.out; have hcz6_0 : w4.cell? ⟨gb213, 0, none⟩ = some (.slice A0_0 l0_0.length c0_0) := (blk_cell BK213.out 0).trans rfl; have hcz6_1 : w4.cell? ⟨gb213, 1, none⟩ = some (.int .i64 a0_1) := (blk_cell BK213.out 1).trans rfl; have hcz6_2 : w4.cell? ⟨gb213, 2, none⟩ = some (.bool a0_2) := (blk_cell BK213.out 2).trans rfl; have hcz6_3 : w4.cell? ⟨gb213, 3, none⟩ = some (.int .i64 a0_3) := (blk_cell BK213.out 3).trans rfl; have hcz6_4 : w4.cell? ⟨gb213, 4, none⟩ = some (.string a0_4) := (blk_cell BK213.out 4).trans rfl; have hcz6_5 : w4.cell? ⟨gb213, 5, none⟩ = some (.int .i64 a0_5) := (blk_cell BK213.out 5).trans rfl; have hcz6_6 : w4.cell? ⟨gb213, 6, none⟩ = some (.int .i64 a0_6) := (blk_cell BK213.out 6).trans rfl; have hcz6_7 : w4.cell? ⟨gb213, 7, none⟩ = some (.int .i64 a0_7) := (blk_cell BK213.out 7).trans rfl; have hfz6_0 := blk_frozen BK213.out 0; have hfz6_1 := blk_frozen BK213.out 1; have hfz6_2 := blk_frozen BK213.out 2; have hfz6_3 := blk_frozen BK213.out 3; have hfz6_4 := blk_frozen BK213.out 4; have hfz6_5 := blk_frozen BK213.out 5; have hfz6_6 := blk_frozen BK213.out 6; have hfz6_7 := blk_frozen BK213.out 7) | ((with_reducible refine gate_callee (f := 94) rfl ?_); refine goesL_ (some 5) rfl rfl Try.func94 (by kernel_rfl) rfl #[.slice A0_0 l0_0.length c0_0] rfl (by (try simp only [List.map_toArray, List.map_cons, List.map_nil]); first | done | rfl | (simp only [List.length_drop, List.length_take]; rfl)) ?_; (with_reducible refine (impl_Route.calls _ _ l0_0 t215 _ ?side1 ?side2 A2.out).mono ?_); (case side1 => repeat (first | exact (Kd.C_below HR0_0.out HB.out) | (with_reducible refine Kd.C_alloc ?_ _) | (with_reducible refine Kd.C_drewN ?_ _) | (with_reducible refine Kd.C_drew ?_))); (case side2 => exact HC0_0.out); rintro e w7 ⟨v216, rfl, ho0, hb⟩; refine ⟨_, rfl, ?_⟩; have n0_ := Aside0.mk (Kd.R_lower ho0 (below_size (bz))); have n1_ := bkb BK213 hb; have n2_ := bkb BK214 hb; have n3_ := Aside0.mk (below_step (bz) hb); clear BK213; clear BK214; clear HB; have HO217 := n0_; have BK213 := n1_; have BK214 := n2_; have HB := n3_; clear n0_ n1_ n2_ n3_; (try clear hb); (try clear hb2); (try clear hk); (try clear hi); (try clear ho0); obtain ⟨Ao8, co8, eo8⟩ := Kd.R_slice HO217.out; subst eo8; have hcz9_0 : w7.cell? ⟨gb213, 0, none⟩ = some (.slice A0_0 l0_0.length c0_0) := (blk_cell BK213.out 0).trans rfl; have hcz9_1 : w7.cell? ⟨gb213, 1, none⟩ = some (.int .i64 a0_1) := (blk_cell BK213.out 1).trans rfl; have hcz9_2 : w7.cell? ⟨gb213, 2, none⟩ = some (.bool a0_2) := (blk_cell BK213.out 2).trans rfl; have hcz9_3 : w7.cell? ⟨gb213, 3, none⟩ = some (.int .i64 a0_3) := (blk_cell BK213.out 3).trans rfl; have hcz9_4 : w7.cell? ⟨gb213, 4, none⟩ = some (.string a0_4) := (blk_cell BK213.out 4).trans rfl; have hcz9_5 : w7.cell? ⟨gb213, 5, none⟩ = some (.int .i64 a0_5) := (blk_cell BK213.out 5).trans rfl; have hcz9_6 : w7.cell? ⟨gb213, 6, none⟩ = some (.int .i64 a0_6) := (blk_cell BK213.out 6).trans rfl; have hcz9_7 : w7.cell? ⟨gb213, 7, none⟩ = some (.int .i64 a0_7) := (blk_cell BK213.out 7).trans rfl; have hfz9_0 := blk_frozen BK213.out 0; have hfz9_1 := blk_frozen BK213.out 1; have hfz9_2 := blk_frozen BK213.out 2; have hfz9_3 := blk_frozen BK213.out 3; have hfz9_4 := blk_frozen BK213.out 4; have hfz9_5 := blk_frozen BK213.out 5; have hfz9_6 := blk_frozen BK213.out 6; have hfz9_7 := blk_frozen BK213.out 7; have hcz10_0 : w7.cell? ⟨gb214, 0, none⟩ = some (.slice none 0 0) := (blk_cell BK214.out 0).trans rfl; have hcz10_1 : w7.cell? ⟨gb214, 1, none⟩ = some (.int .i64 0) := (blk_cell BK214.out 1).trans rfl; have hcz10_2 : w7.cell? ⟨gb214, 2, none⟩ = some (.bool false) := (blk_cell BK214.out 2).trans rfl; have hcz10_3 : w7.cell? ⟨gb214, 3, none⟩ = some (.int .i64 0) := (blk_cell BK214.out 3).trans rfl; have hcz10_4 : w7.cell? ⟨gb214, 4, none⟩ = some (.string (⟨#[]⟩ : ByteArray)) := (blk_cell BK214.out 4).trans rfl; have hcz10_5 : w7.cell? ⟨gb214, 5, none⟩ = some (.int .i64 0) := (blk_cell BK214.out 5).trans rfl; have hcz10_6 : w7.cell? ⟨gb214, 6, none⟩ = some (.int .i64 0) := (blk_cell BK214.out 6).trans rfl; have hcz10_7 : w7.cell? ⟨gb214, 7, none⟩ = some (.int .i64 0) := (blk_cell BK214.out 7).trans rfl; have hfz10_0 := blk_frozen BK214.out 0; have hfz10_1 := blk_frozen BK214.out 1; have hfz10_2 := blk_frozen BK214.out 2; have hfz10_3 := blk_frozen BK214.out 3; have hfz10_4 := blk_frozen BK214.out 4; have hfz10_5 := blk_frozen BK214.out 5; have hfz10_6 := blk_frozen BK214.out 6; have hfz10_7 := blk_frozen BK214.out 7))
 refine bodyPost_ret (results_cell_row rfl _ _ gb214 41 #[.slice Ao8 t215.length co8, .int .i64 a0_1, .bool a0_2, .int .i64 a0_3, .string a0_4, .int .i64 a0_5, .int .i64 a0_6, .int .i64 a0_7] (0, 0) _ rfl (by (with_reducible repeat (first | refine blk_drewN ?_ _ | refine blk_drew ?_ | refine blk_alloc ?_ _)); refine blk_put (cs := #[.slice Ao8 t215.length co8, .int .i64 a0_1, .bool a0_2, .int .i64 a0_3, .string a0_4, .int .i64 a0_5, .int .i64 a0_6, .int .i64 0]) ?_ 7 _ rfl; (with_reducible repeat (first | refine blk_drewN ?_ _ | refine blk_drew ?_ | refine blk_alloc ?_ _)); refine blk_put (cs := #[.slice Ao8 t215.length co8, .int .i64 a0_1, .bool a0_2, .int .i64 a0_3, .string a0_4, .int .i64 a0_5, .int .i64 0, .int .i64 0]) ?_ 6 _ rfl; (with_reducible repeat (first | refine blk_drewN ?_ _ | refine blk_drew ?_ | refine blk_alloc ?_ _)); refine blk_put (cs := #[.slice Ao8 t215.length co8, .int .i64 a0_1, .bool a0_2, .int .i64 a0_3, .string a0_4, .int .i64 0, .int .i64 0, .int .i64 0]) ?_ 5 _ rfl; (with_reducible repeat (first | refine blk_drewN ?_ _ | refine blk_drew ?_ | refine blk_alloc ?_ _)); refine blk_put (cs := #[.slice Ao8 t215.length co8, .int .i64 a0_1, .bool a0_2, .int .i64 a0_3, .string (⟨#[]⟩ : ByteArray), .int .i64 0, .int .i64 0, .int .i64 0]) ?_ 4 _ rfl; (with_reducible repeat (first | refine blk_drewN ?_ _ | refine blk_drew ?_ | refine blk_alloc ?_ _)); refine blk_put (cs := #[.slice Ao8 t215.length co8, .int .i64 a0_1, .bool a0_2, .int .i64 0, .string (⟨#[]⟩ : ByteArray), .int .i64 0, .int .i64 0, .int .i64 0]) ?_ 3 _ rfl; (with_reducible repeat (first | refine blk_drewN ?_ _ | refine blk_drew ?_ | refine blk_alloc ?_ _)); refine blk_put (cs := #[.slice Ao8 t215.length co8, .int .i64 a0_1, .bool false, .int .i64 0, .string (⟨#[]⟩ : ByteArray), .int .i64 0, .int .i64 0, .int .i64 0]) ?_ 2 _ rfl; (with_reducible repeat (first | refine blk_drewN ?_ _ | refine blk_drew ?_ | refine blk_alloc ?_ _)); refine blk_put (cs := #[.slice Ao8 t215.length co8, .int .i64 0, .bool false, .int .i64 0, .string (⟨#[]⟩ : ByteArray), .int .i64 0, .int .i64 0, .int .i64 0]) ?_ 1 _ rfl; (with_reducible repeat (first | refine blk_drewN ?_ _ | refine blk_drew ?_ | refine blk_alloc ?_ _)); refine blk_put (cs := #[.slice none 0 0, .int .i64 0, .bool false, .int .i64 0, .string (⟨#[]⟩ : ByteArray), .int .i64 0, .int .i64 0, .int .i64 0]) ?_ 0 _ rfl; (with_reducible repeat (first | refine blk_drewN ?_ _ | refine blk_drew ?_ | refine blk_alloc ?_ _)); refine blk_far ?_ NB214_213.out _; (with_reducible repeat (first | refine blk_drewN ?_ _ | refine blk_drew ?_ | refine blk_alloc ?_ _)); exact BK214.out) Try.underlying41 rfl (by kernel_rfl)) rfl ?_
 exact ⟨_, by first | rfl | (simp only [u8w, w64m]; rfl) | (simp [errW_none, errW_some] <;> rfl) | (simp [*, errW_none, errW_some] <;> rfl), by (with_reducible repeat (first | apply Kd.R_alloc | apply Kd.R_drewN | apply Kd.R_drew)); exact Kd.R_mono (Kd.R_far (p := ⟨gb214, 7, none⟩) (Kd.R_far (p := ⟨gb214, 6, none⟩) (Kd.R_far (p := ⟨gb214, 5, none⟩) (Kd.R_far (p := ⟨gb214, 4, none⟩) (Kd.R_far (p := ⟨gb214, 3, none⟩) (Kd.R_far (p := ⟨gb214, 2, none⟩) (Kd.R_far (p := ⟨gb214, 1, none⟩) (Kd.R_far (p := ⟨gb214, 0, none⟩) (Kd.R_far (p := ⟨gb213, 0, none⟩) (Kd.R_types (Kd.R_types HO217.out BK213.out (by decide)) BK214.out (by decide)) (fun _ hk => hk.1.2) (.slice Ao8 t215.length co8)) (fun _ hk => hk.2) (.slice Ao8 t215.length co8)) (fun _ hk => hk.2) (.int .i64 a0_1)) (fun _ hk => hk.2) (.bool a0_2)) (fun _ hk => hk.2) (.int .i64 a0_3)) (fun _ hk => hk.2) (.string a0_4)) (fun _ hk => hk.2) (.int .i64 a0_5)) (fun _ hk => hk.2) (.int .i64 a0_6)) (fun _ hk => hk.2) (.int .i64 a0_7)) (fun _ hk => trivial), bz⟩

/-! ### impl_idleCaller: function 101 -/
def impl_idleCaller.f (l0_0 : List (S35)) (a0_1 : Int) (a0_2 : Bool) (a0_3 : Int) (a0_4 : ByteArray) (a0_5 : Int) (a0_6 : Int) (a0_7 : Int) : Option ((List (S35)) × Int × Bool × Int × ByteArray × Int × Int × Int) := (impl_Route.f l0_0).bind fun t220 => (some (t220, a0_1, false, 0, (⟨#[]⟩ : ByteArray), 0, 0, 0))
set_option maxHeartbeats 8000000 in
set_option maxRecDepth 100000 in
theorem impl_idleCaller.calls (A0_0 : Option Addr) (c0_0 : Nat) (l0_0 : List (S35)) (a0_1 : Int) (a0_2 : Bool) (a0_3 : Int) (a0_4 : ByteArray) (a0_5 : Int) (a0_6 : Int) (a0_7 : Int) (r1 : List (S35)) (r2 : Int) (r3 : Bool) (r4 : Int) (r5 : ByteArray) (r6 : Int) (r7 : Int) (r8 : Int) (w : World) (hr0_0 : Kd.C k35 w A0_0 l0_0.length l0_0) (hc0_0 : l0_0.length ≤ c0_0) (h : impl_idleCaller.f l0_0 a0_1 a0_2 a0_3 a0_4 a0_5 a0_6 a0_7 = some (r1, r2, r3, r4, r5, r6, r7, r8)) :
  Calls Try.prog 101 #[.agg #[.slice A0_0 l0_0.length c0_0, .int .i64 a0_1, .bool a0_2, .int .i64 a0_3, .string a0_4, .int .i64 a0_5, .int .i64 a0_6, .int .i64 a0_7]] w fun e w' => ∃ v0_ : Value, e = .returned (.agg #[v0_, .int .i64 r2, .bool r3, .int .i64 r4, .string r5, .int .i64 r6, .int .i64 r7, .int .i64 r8]) ∧ Kd.R k35 35 w' w.heap.size (fun _ => True) v0_ r1 ∧ Below w.heap.size w w' := by
 have hu41 := Try.underlying41
 have HR0_0 := Aside0.mk hr0_0
 have HC0_0 := Aside0.mk hc0_0
 clear hr0_0 hc0_0
 have HB := Aside0.mk (Below.refl w.heap.size w)
 have H : ((impl_Route.f l0_0).bind fun t220 => (some (t220, a0_1, false, 0, (⟨#[]⟩ : ByteArray), 0, 0, 0))) = some (r1, r2, r3, r4, r5, r6, r7, r8) := h
 clear h
 replace H := Option.bind_eq_some_iff.mp H
 obtain ⟨t220, A20, H⟩ := H
 try dsimp only at H
 have A2 := Aside0.mk A20
 clear A20
 simp only [Option.some.injEq, Prod.mk.injEq] at H
 obtain ⟨rfl, rfl, rfl, rfl, rfl, rfl, rfl, rfl⟩ := H
 go_enter Try.func101, Try.ntmps101
 try go_wp2_with (first | ((with_reducible refine gate_dst (N := 1) rfl ?_); refine box_event ?hg (N := 1) ?hd (cs := #[.slice A0_0 l0_0.length c0_0, .int .i64 a0_1, .bool a0_2, .int .i64 a0_3, .string a0_4, .int .i64 a0_5, .int .i64 a0_6, .int .i64 a0_7]) (t := 41) ?hr ?_; (case hd => rfl); (case hg => rfl); (case hr => first | (go_simp; done) | (go_simp; rfl)); intro gb218 hg w3 hbox hb; have n0_ := Aside0.mk (below_step (bz) hb); have n1_ := Aside0.mk (hbox); have n2_ : Aside0 (w.heap.size ≤ gb218) := bsg hg; have n3_ : Aside0 (w.heap.size ≤ gb218) := bsg hg; clear HB; have HB := n0_; have BK218 := n1_; have GW218 := n2_; have GE218 := n3_; clear n0_ n1_ n2_ n3_; clear hb hbox hg) | ((with_reducible refine gate_dst (N := 2) rfl ?_); refine box_event ?hg (N := 2) ?hd (cs := #[.slice none 0 0, .int .i64 0, .bool false, .int .i64 0, .string (⟨#[]⟩ : ByteArray), .int .i64 0, .int .i64 0, .int .i64 0]) (t := 41) ?hr ?_; (case hd => rfl); (case hg => rfl); (case hr => first | (go_simp; done) | (go_simp; rfl)); intro gb219 hg w4 hbox hb; have n0_ := bkb BK218 hb; have n1_ := Aside0.mk (below_step (bz) hb); have n2_ := Aside0.mk (hbox); have n3_ : Aside0 (w.heap.size ≤ gb219) := bsg hg; have n4_ : Aside0 (w.heap.size ≤ gb219) := bsg hg; have n5_ := nlt hg BK218; have n6_ := ngt hg BK218; clear BK218; clear HB; have BK218 := n0_; have HB := n1_; have BK219 := n2_; have GW219 := n3_; have GE219 := n4_; have NB218_219 := n5_; have NB219_218 := n6_; clear n0_ n1_ n2_ n3_ n4_ n5_ n6_; clear hb hbox hg))
 have n0_ := Aside0.mk (blk_drew BK218.out)
 have n1_ := Aside0.mk (blk_drew BK219.out)
 have n2_ := Aside0.mk (below_drew1 HB.out)
 clear BK218
 clear BK219
 clear HB
 have BK218 := n0_
 have BK219 := n1_
 have HB := n2_
 clear n0_ n1_ n2_
 refine start_ (n := 7) (S := fun w' => w'.cell? ⟨gb218, 0, none⟩ = some (.slice A0_0 l0_0.length c0_0) ∧ w'.cell? ⟨gb218, 1, none⟩ = some (.int .i64 a0_1) ∧ w'.cell? ⟨gb218, 2, none⟩ = some (.bool a0_2) ∧ w'.cell? ⟨gb218, 3, none⟩ = some (.int .i64 a0_3) ∧ w'.cell? ⟨gb218, 4, none⟩ = some (.string a0_4) ∧ w'.cell? ⟨gb218, 5, none⟩ = some (.int .i64 a0_5) ∧ w'.cell? ⟨gb218, 6, none⟩ = some (.int .i64 a0_6) ∧ w'.cell? ⟨gb218, 7, none⟩ = some (.int .i64 a0_7)) (ds := []) #[false, false, false, false, false, false, false] (by kernel_rfl) rfl rfl ⟨(blk_cell BK218.out 0).trans rfl, (blk_cell BK218.out 1).trans rfl, (blk_cell BK218.out 2).trans rfl, (blk_cell BK218.out 3).trans rfl, (blk_cell BK218.out 4).trans rfl, (blk_cell BK218.out 5).trans rfl, (blk_cell BK218.out 6).trans rfl, (blk_cell BK218.out 7).trans rfl⟩ (fun hHeld => ?_)
 generalize w4.drew = w5 at BK218 BK219 HB hHeld ⊢
 refine pure_ (i := 0) (N := some 3) (v := ?_) (a' := ?_) #[true, false, false, false, false, false, false] rfl rfl (by kernel_rfl) (fun _ _ _ h => h) (Or.inl ⟨by rfl, ?_⟩) ?_ ?_
 rotate_left
 ·
  intro w'
  go_simp
  with_reducible rfl
 rotate_left
 ·
  simp only [Act.put, List.setIfInBounds_toArray, List.set_cons_zero, List.set_cons_succ, i64_w, i32_w]
  rfl
 refine pure_ (i := 3) (N := some 6) (v := ?_) (a' := ?_) #[true, false, false, true, false, false, false] rfl rfl (by kernel_rfl) (fun _ _ _ h => h) (Or.inl ⟨by rfl, ?_⟩) ?_ ?_
 rotate_left
 ·
  intro w'
  go_simp
  with_reducible rfl
 rotate_left
 ·
  simp only [Act.put, List.setIfInBounds_toArray, List.set_cons_zero, List.set_cons_succ, i64_w, i32_w]
  rfl
 refine take_ (i := 1) (N := some 4) (v := ?_) (a' := ?_) #[true, true, false, true, false, false, false] rfl rfl (by kernel_rfl) (fun _ _ _ h => h) (Or.inl ⟨by rfl, ?_⟩) hHeld ?_ ?_
 rotate_left
 ·
  rintro w' ⟨s0, s1, s2, s3, s4, s5, s6, s7⟩
  go_simp
  with_reducible rfl
 rotate_left
 ·
  simp only [Act.put, List.setIfInBounds_toArray, List.set_cons_zero, List.set_cons_succ, i64_w, i32_w]
  rfl
 refine take_ (i := 4) (N := some 7) (v := ?_) (a' := ?_) #[true, true, false, true, true, false, false] rfl rfl (by kernel_rfl) (fun _ _ _ h => h) (Or.inl ⟨by rfl, ?_⟩) hHeld ?_ ?_
 rotate_left
 ·
  rintro w' ⟨s0, s1, s2, s3, s4, s5, s6, s7⟩
  go_simp
  with_reducible rfl
 rotate_left
 ·
  simp only [Act.put, List.setIfInBounds_toArray, List.set_cons_zero, List.set_cons_succ, i64_w, i32_w]
  rfl
 refine one_ (i := 2) (N := some 5) #[true, true, true, true, true, false, false] rfl rfl (by kernel_rfl) (by decide) (fun K hK => ?_)
 refine goes_ Try.func94 (by kernel_rfl) rfl #[.slice A0_0 l0_0.length c0_0] (by rfl) rfl rfl (by (try simp only [List.map_toArray, List.map_cons, List.map_nil]); first | done | rfl | (simp only [List.length_drop, List.length_take]; rfl)) ?_
 with_reducible refine (impl_Route.calls _ _ l0_0 t220 _ ?side1 ?side2 A2.out).mono ?_
 (case side1 => repeat (first | exact (Kd.C_below HR0_0.out HB.out) | (with_reducible refine Kd.C_alloc ?_ _) | (with_reducible refine Kd.C_drewN ?_ _) | (with_reducible refine Kd.C_drew ?_)))
 (case side2 => exact HC0_0.out)
 rintro e w6 ⟨v221, rfl, ho0, hb⟩
 refine ⟨_, rfl, ?_⟩
 have n0_ := Aside0.mk (Kd.R_lower ho0 (below_size (bz)))
 have n1_ := bkb BK218 hb
 have n2_ := bkb BK219 hb
 have n3_ := Aside0.mk (below_step (bz) hb)
 clear BK218
 clear BK219
 clear HB
 have HO222 := n0_
 have BK218 := n1_
 have BK219 := n2_
 have HB := n3_
 clear n0_ n1_ n2_ n3_
 (try clear hb)
 (try clear hb2)
 (try clear hk)
 (try clear hi)
 (try clear ho0)
 obtain ⟨Ao7, co7, eo7⟩ := Kd.R_slice HO222.out
 (first | subst eo7 | (injection eo7 with f1_ f2_ f3_; have f4_ := f1_.symm; have f5_ := f3_.symm; clear f1_ f2_ f3_; subst f4_; subst f5_))
 refine hK.out _ _ ⟨(blk_cell BK218.out 0).trans rfl, (blk_cell BK218.out 1).trans rfl, (blk_cell BK218.out 2).trans rfl, (blk_cell BK218.out 3).trans rfl, (blk_cell BK218.out 4).trans rfl, (blk_cell BK218.out 5).trans rfl, (blk_cell BK218.out 6).trans rfl, (blk_cell BK218.out 7).trans rfl⟩ (fun hHeld => ?_)
 clear hK K
 refine norm_ (a' := ?_) ?_ ?_
 rotate_left
 ·
  show Act.put _ (some 5) _ = _
  simp only [Act.put, List.setIfInBounds_toArray, List.set_cons_zero, List.set_cons_succ, i64_w, i32_w]
  rfl
 refine pure_ (i := 5) (N := some 8) (v := ?_) (a' := ?_) #[true, true, true, true, true, true, false] rfl rfl (by kernel_rfl) (fun _ _ _ h => h) (Or.inl ⟨by rfl, ?_⟩) ?_ ?_
 rotate_left
 ·
  intro w'
  go_simp
  with_reducible rfl
 rotate_left
 ·
  simp only [Act.put, List.setIfInBounds_toArray, List.set_cons_zero, List.set_cons_succ, i64_w, i32_w]
  rfl
 refine one_ (i := 6) (N := none) #[true, true, true, true, true, true, true] rfl rfl (by kernel_rfl) (by decide) (fun K hK => ?_)
 have hs8 : w6.cell? ⟨gb219, 0, none⟩ = some (.slice none 0 0) := (blk_cell BK219.out 0).trans rfl
 have hfs8 := blk_frozen BK219.out 0
 have hns8_0 := NB218_219.out
 have hms8_0 := NB219_218.out
 have hs9 : w6.cell? ⟨gb219, 1, none⟩ = some (.int .i64 0) := (blk_cell BK219.out 1).trans rfl
 have hfs9 := blk_frozen BK219.out 1
 have hns9_0 := NB218_219.out
 have hms9_0 := NB219_218.out
 have hs10 : w6.cell? ⟨gb219, 2, none⟩ = some (.bool false) := (blk_cell BK219.out 2).trans rfl
 have hfs10 := blk_frozen BK219.out 2
 have hns10_0 := NB218_219.out
 have hms10_0 := NB219_218.out
 have hs11 : w6.cell? ⟨gb219, 3, none⟩ = some (.int .i64 0) := (blk_cell BK219.out 3).trans rfl
 have hfs11 := blk_frozen BK219.out 3
 have hns11_0 := NB218_219.out
 have hms11_0 := NB219_218.out
 have hs12 : w6.cell? ⟨gb219, 4, none⟩ = some (.string (⟨#[]⟩ : ByteArray)) := (blk_cell BK219.out 4).trans rfl
 have hfs12 := blk_frozen BK219.out 4
 have hns12_0 := NB218_219.out
 have hms12_0 := NB219_218.out
 have hs13 : w6.cell? ⟨gb219, 5, none⟩ = some (.int .i64 0) := (blk_cell BK219.out 5).trans rfl
 have hfs13 := blk_frozen BK219.out 5
 have hns13_0 := NB218_219.out
 have hms13_0 := NB219_218.out
 have hs14 : w6.cell? ⟨gb219, 6, none⟩ = some (.int .i64 0) := (blk_cell BK219.out 6).trans rfl
 have hfs14 := blk_frozen BK219.out 6
 have hns14_0 := NB218_219.out
 have hms14_0 := NB219_218.out
 have hs15 : w6.cell? ⟨gb219, 7, none⟩ = some (.int .i64 0) := (blk_cell BK219.out 7).trans rfl
 have hfs15 := blk_frozen BK219.out 7
 have hns15_0 := NB218_219.out
 have hms15_0 := NB219_218.out
 refine skip_ (w1 := ?_) (by rfl) rfl ?_ ?_
 rotate_left
 ·
  go_simp
  rfl
 refine hK.out _ _ ⟨((cell_far (p := ⟨gb219, _, none⟩) NB218_219.out _).trans (((cell_far (p := ⟨gb219, _, none⟩) NB218_219.out _).trans (((cell_far (p := ⟨gb219, _, none⟩) NB218_219.out _).trans (((cell_far (p := ⟨gb219, _, none⟩) NB218_219.out _).trans (((cell_far (p := ⟨gb219, _, none⟩) NB218_219.out _).trans (((cell_far (p := ⟨gb219, _, none⟩) NB218_219.out _).trans (((cell_far (p := ⟨gb219, _, none⟩) NB218_219.out _).trans (((cell_far (p := ⟨gb219, _, none⟩) NB218_219.out _).trans (hHeld.1)))))))))))))))), ((cell_far (p := ⟨gb219, _, none⟩) NB218_219.out _).trans (((cell_far (p := ⟨gb219, _, none⟩) NB218_219.out _).trans (((cell_far (p := ⟨gb219, _, none⟩) NB218_219.out _).trans (((cell_far (p := ⟨gb219, _, none⟩) NB218_219.out _).trans (((cell_far (p := ⟨gb219, _, none⟩) NB218_219.out _).trans (((cell_far (p := ⟨gb219, _, none⟩) NB218_219.out _).trans (((cell_far (p := ⟨gb219, _, none⟩) NB218_219.out _).trans (((cell_far (p := ⟨gb219, _, none⟩) NB218_219.out _).trans (hHeld.2.1)))))))))))))))), ((cell_far (p := ⟨gb219, _, none⟩) NB218_219.out _).trans (((cell_far (p := ⟨gb219, _, none⟩) NB218_219.out _).trans (((cell_far (p := ⟨gb219, _, none⟩) NB218_219.out _).trans (((cell_far (p := ⟨gb219, _, none⟩) NB218_219.out _).trans (((cell_far (p := ⟨gb219, _, none⟩) NB218_219.out _).trans (((cell_far (p := ⟨gb219, _, none⟩) NB218_219.out _).trans (((cell_far (p := ⟨gb219, _, none⟩) NB218_219.out _).trans (((cell_far (p := ⟨gb219, _, none⟩) NB218_219.out _).trans (hHeld.2.2.1)))))))))))))))), ((cell_far (p := ⟨gb219, _, none⟩) NB218_219.out _).trans (((cell_far (p := ⟨gb219, _, none⟩) NB218_219.out _).trans (((cell_far (p := ⟨gb219, _, none⟩) NB218_219.out _).trans (((cell_far (p := ⟨gb219, _, none⟩) NB218_219.out _).trans (((cell_far (p := ⟨gb219, _, none⟩) NB218_219.out _).trans (((cell_far (p := ⟨gb219, _, none⟩) NB218_219.out _).trans (((cell_far (p := ⟨gb219, _, none⟩) NB218_219.out _).trans (((cell_far (p := ⟨gb219, _, none⟩) NB218_219.out _).trans (hHeld.2.2.2.1)))))))))))))))), ((cell_far (p := ⟨gb219, _, none⟩) NB218_219.out _).trans (((cell_far (p := ⟨gb219, _, none⟩) NB218_219.out _).trans (((cell_far (p := ⟨gb219, _, none⟩) NB218_219.out _).trans (((cell_far (p := ⟨gb219, _, none⟩) NB218_219.out _).trans (((cell_far (p := ⟨gb219, _, none⟩) NB218_219.out _).trans (((cell_far (p := ⟨gb219, _, none⟩) NB218_219.out _).trans (((cell_far (p := ⟨gb219, _, none⟩) NB218_219.out _).trans (((cell_far (p := ⟨gb219, _, none⟩) NB218_219.out _).trans (hHeld.2.2.2.2.1)))))))))))))))), ((cell_far (p := ⟨gb219, _, none⟩) NB218_219.out _).trans (((cell_far (p := ⟨gb219, _, none⟩) NB218_219.out _).trans (((cell_far (p := ⟨gb219, _, none⟩) NB218_219.out _).trans (((cell_far (p := ⟨gb219, _, none⟩) NB218_219.out _).trans (((cell_far (p := ⟨gb219, _, none⟩) NB218_219.out _).trans (((cell_far (p := ⟨gb219, _, none⟩) NB218_219.out _).trans (((cell_far (p := ⟨gb219, _, none⟩) NB218_219.out _).trans (((cell_far (p := ⟨gb219, _, none⟩) NB218_219.out _).trans (hHeld.2.2.2.2.2.1)))))))))))))))), ((cell_far (p := ⟨gb219, _, none⟩) NB218_219.out _).trans (((cell_far (p := ⟨gb219, _, none⟩) NB218_219.out _).trans (((cell_far (p := ⟨gb219, _, none⟩) NB218_219.out _).trans (((cell_far (p := ⟨gb219, _, none⟩) NB218_219.out _).trans (((cell_far (p := ⟨gb219, _, none⟩) NB218_219.out _).trans (((cell_far (p := ⟨gb219, _, none⟩) NB218_219.out _).trans (((cell_far (p := ⟨gb219, _, none⟩) NB218_219.out _).trans (((cell_far (p := ⟨gb219, _, none⟩) NB218_219.out _).trans (hHeld.2.2.2.2.2.2.1)))))))))))))))), ((cell_far (p := ⟨gb219, _, none⟩) NB218_219.out _).trans (((cell_far (p := ⟨gb219, _, none⟩) NB218_219.out _).trans (((cell_far (p := ⟨gb219, _, none⟩) NB218_219.out _).trans (((cell_far (p := ⟨gb219, _, none⟩) NB218_219.out _).trans (((cell_far (p := ⟨gb219, _, none⟩) NB218_219.out _).trans (((cell_far (p := ⟨gb219, _, none⟩) NB218_219.out _).trans (((cell_far (p := ⟨gb219, _, none⟩) NB218_219.out _).trans (((cell_far (p := ⟨gb219, _, none⟩) NB218_219.out _).trans (hHeld.2.2.2.2.2.2.2))))))))))))))))⟩ (fun hHeld => ?_)
 clear hK K
 refine done_ (by kernel_rfl) ?_
 try go_wp2
 refine bodyPost_ret (results_cell_row rfl _ _ gb219 41 #[.slice Ao7 t220.length co7, .int .i64 a0_1, .bool false, .int .i64 0, .string (⟨#[]⟩ : ByteArray), .int .i64 0, .int .i64 0, .int .i64 0] (0, 0) _ rfl (by (with_reducible repeat (first | refine blk_drewN ?_ _ | refine blk_drew ?_ | refine blk_alloc ?_ _)); refine blk_put (cs := #[.slice Ao7 t220.length co7, .int .i64 a0_1, .bool false, .int .i64 0, .string (⟨#[]⟩ : ByteArray), .int .i64 0, .int .i64 0, .int .i64 0]) ?_ 7 _ rfl; (with_reducible repeat (first | refine blk_drewN ?_ _ | refine blk_drew ?_ | refine blk_alloc ?_ _)); refine blk_put (cs := #[.slice Ao7 t220.length co7, .int .i64 a0_1, .bool false, .int .i64 0, .string (⟨#[]⟩ : ByteArray), .int .i64 0, .int .i64 0, .int .i64 0]) ?_ 6 _ rfl; (with_reducible repeat (first | refine blk_drewN ?_ _ | refine blk_drew ?_ | refine blk_alloc ?_ _)); refine blk_put (cs := #[.slice Ao7 t220.length co7, .int .i64 a0_1, .bool false, .int .i64 0, .string (⟨#[]⟩ : ByteArray), .int .i64 0, .int .i64 0, .int .i64 0]) ?_ 5 _ rfl; (with_reducible repeat (first | refine blk_drewN ?_ _ | refine blk_drew ?_ | refine blk_alloc ?_ _)); refine blk_put (cs := #[.slice Ao7 t220.length co7, .int .i64 a0_1, .bool false, .int .i64 0, .string (⟨#[]⟩ : ByteArray), .int .i64 0, .int .i64 0, .int .i64 0]) ?_ 4 _ rfl; (with_reducible repeat (first | refine blk_drewN ?_ _ | refine blk_drew ?_ | refine blk_alloc ?_ _)); refine blk_put (cs := #[.slice Ao7 t220.length co7, .int .i64 a0_1, .bool false, .int .i64 0, .string (⟨#[]⟩ : ByteArray), .int .i64 0, .int .i64 0, .int .i64 0]) ?_ 3 _ rfl; (with_reducible repeat (first | refine blk_drewN ?_ _ | refine blk_drew ?_ | refine blk_alloc ?_ _)); refine blk_put (cs := #[.slice Ao7 t220.length co7, .int .i64 a0_1, .bool false, .int .i64 0, .string (⟨#[]⟩ : ByteArray), .int .i64 0, .int .i64 0, .int .i64 0]) ?_ 2 _ rfl; (with_reducible repeat (first | refine blk_drewN ?_ _ | refine blk_drew ?_ | refine blk_alloc ?_ _)); refine blk_put (cs := #[.slice Ao7 t220.length co7, .int .i64 0, .bool false, .int .i64 0, .string (⟨#[]⟩ : ByteArray), .int .i64 0, .int .i64 0, .int .i64 0]) ?_ 1 _ rfl; (with_reducible repeat (first | refine blk_drewN ?_ _ | refine blk_drew ?_ | refine blk_alloc ?_ _)); refine blk_put (cs := #[.slice none 0 0, .int .i64 0, .bool false, .int .i64 0, .string (⟨#[]⟩ : ByteArray), .int .i64 0, .int .i64 0, .int .i64 0]) ?_ 0 _ rfl; (with_reducible repeat (first | refine blk_drewN ?_ _ | refine blk_drew ?_ | refine blk_alloc ?_ _)); exact BK219.out) Try.underlying41 rfl (by kernel_rfl)) rfl ?_
 exact ⟨_, by first | rfl | (simp only [u8w, w64m]; rfl) | (simp [errW_none, errW_some] <;> rfl) | (simp [*, errW_none, errW_some] <;> rfl), by (with_reducible repeat (first | apply Kd.R_alloc | apply Kd.R_drewN | apply Kd.R_drew)); exact Kd.R_mono (Kd.R_far (p := ⟨gb219, 7, none⟩) (Kd.R_far (p := ⟨gb219, 6, none⟩) (Kd.R_far (p := ⟨gb219, 5, none⟩) (Kd.R_far (p := ⟨gb219, 4, none⟩) (Kd.R_far (p := ⟨gb219, 3, none⟩) (Kd.R_far (p := ⟨gb219, 2, none⟩) (Kd.R_far (p := ⟨gb219, 1, none⟩) (Kd.R_far (p := ⟨gb219, 0, none⟩) (Kd.R_types HO222.out BK219.out (by decide)) (fun _ hk => hk.2) (.slice Ao7 t220.length co7)) (fun _ hk => hk.2) (.int .i64 a0_1)) (fun _ hk => hk.2) (.bool false)) (fun _ hk => hk.2) (.int .i64 0)) (fun _ hk => hk.2) (.string (⟨#[]⟩ : ByteArray))) (fun _ hk => hk.2) (.int .i64 0)) (fun _ hk => hk.2) (.int .i64 0)) (fun _ hk => hk.2) (.int .i64 0)) (fun _ hk => trivial), bz⟩

/-! ### impl_GiveUp: function 38 -/
def impl_GiveUp.f (k : Nat) (l0_0 : List (S35)) (a0_1 : Int) (a0_2 : Bool) (a0_3 : Int) (a0_4 : ByteArray) (a0_5 : Int) (a0_6 : Int) (a0_7 : Int) : Option ((List (S35)) × Int × Bool × Int × ByteArray × Int × Int × Int × Bool) := (impl_CallerValid.f k l0_0 a0_1 a0_2 a0_3 a0_4 a0_5 a0_6 a0_7).bind fun t225 => (if t225 = true then (if a0_2 = true then ((impl_idleCaller.f l0_0 a0_1 a0_2 a0_3 a0_4 a0_5 a0_6 a0_7).bind fun bt226 => (some (bt226.1, bt226.2.1, bt226.2.2.1, bt226.2.2.2.1, bt226.2.2.2.2.1, bt226.2.2.2.2.2.1, bt226.2.2.2.2.2.2.1, bt226.2.2.2.2.2.2.2, true))) else ((impl_copyCaller.f l0_0 a0_1 a0_2 a0_3 a0_4 a0_5 a0_6 a0_7).bind fun bt236 => (some (bt236.1, bt236.2.1, bt236.2.2.1, bt236.2.2.2.1, bt236.2.2.2.2.1, bt236.2.2.2.2.2.1, bt236.2.2.2.2.2.2.1, bt236.2.2.2.2.2.2.2, false)))) else (some (([] : List (S35)), 0, false, 0, (⟨#[]⟩ : ByteArray), 0, 0, 0, false)))
theorem impl_GiveUp.mono : ∀ a0 a1 a2 a3 a4 a5 a6 a7 k, LeO (impl_GiveUp.f k a0 a1 a2 a3 a4 a5 a6 a7) (impl_GiveUp.f (k + 1) a0 a1 a2 a3 a4 a5 a6 a7) := by
 intro a0 a1 a2 a3 a4 a5 a6 a7 k
 unfold impl_GiveUp.f
 repeat' first
   | (with_reducible exact impl_CallerValid.mono _ _ _ _ _ _ _ _ _)
   | (with_reducible exact LeO.refl _)
   | (with_reducible exact LeO.none _)
   | (with_reducible refine LeO.ite ?_ ?_)
   | (with_reducible refine LeO.bind ?_ (fun _ => ?_))
   | exact impl_CallerValid.mono _ _ _ _ _ _ _ _ _
   | exact LeO.none _
   | refine LeO.ite ?_ ?_
   | refine LeO.bind ?_ (fun _ => ?_)
set_option maxHeartbeats 8000000 in
set_option maxRecDepth 100000 in
theorem impl_GiveUp.calls (k : Nat) (A0_0 : Option Addr) (c0_0 : Nat) (l0_0 : List (S35)) (a0_1 : Int) (a0_2 : Bool) (a0_3 : Int) (a0_4 : ByteArray) (a0_5 : Int) (a0_6 : Int) (a0_7 : Int) (r1 : List (S35)) (r2 : Int) (r3 : Bool) (r4 : Int) (r5 : ByteArray) (r6 : Int) (r7 : Int) (r8 : Int) (r9 : Bool) (w : World) (hr0_0 : Kd.C k35 w A0_0 l0_0.length l0_0) (hc0_0 : l0_0.length ≤ c0_0) (h : impl_GiveUp.f k l0_0 a0_1 a0_2 a0_3 a0_4 a0_5 a0_6 a0_7 = some (r1, r2, r3, r4, r5, r6, r7, r8, r9)) :
  Calls Try.prog 38 #[.agg #[.slice A0_0 l0_0.length c0_0, .int .i64 a0_1, .bool a0_2, .int .i64 a0_3, .string a0_4, .int .i64 a0_5, .int .i64 a0_6, .int .i64 a0_7]] w fun e w' => ∃ v0_ : Value, e = .returned (.tuple #[.agg #[v0_, .int .i64 r2, .bool r3, .int .i64 r4, .string r5, .int .i64 r6, .int .i64 r7, .int .i64 r8], .bool r9]) ∧ Kd.R k35 35 w' w.heap.size (fun _ => True) v0_ r1 ∧ Below w.heap.size w w' := by
 have hu41 := Try.underlying41
 have HR0_0 := Aside0.mk hr0_0
 have HC0_0 := Aside0.mk hc0_0
 clear hr0_0 hc0_0
 have HB := Aside0.mk (Below.refl w.heap.size w)
 have H : ((impl_CallerValid.f k l0_0 a0_1 a0_2 a0_3 a0_4 a0_5 a0_6 a0_7).bind fun t225 => (if t225 = true then (if a0_2 = true then ((impl_idleCaller.f l0_0 a0_1 a0_2 a0_3 a0_4 a0_5 a0_6 a0_7).bind fun bt226 => (some (bt226.1, bt226.2.1, bt226.2.2.1, bt226.2.2.2.1, bt226.2.2.2.2.1, bt226.2.2.2.2.2.1, bt226.2.2.2.2.2.2.1, bt226.2.2.2.2.2.2.2, true))) else ((impl_copyCaller.f l0_0 a0_1 a0_2 a0_3 a0_4 a0_5 a0_6 a0_7).bind fun bt236 => (some (bt236.1, bt236.2.1, bt236.2.2.1, bt236.2.2.2.1, bt236.2.2.2.2.1, bt236.2.2.2.2.2.1, bt236.2.2.2.2.2.2.1, bt236.2.2.2.2.2.2.2, false)))) else (some (([] : List (S35)), 0, false, 0, (⟨#[]⟩ : ByteArray), 0, 0, 0, false)))) = some (r1, r2, r3, r4, r5, r6, r7, r8, r9) := h
 clear h
 replace H := Option.bind_eq_some_iff.mp H
 obtain ⟨t225, A20, H⟩ := H
 try dsimp only at H
 have A2 := Aside0.mk A20
 clear A20
 by_cases c3 : t225 = true
 ·
  subst c3
  rw [if_pos rfl] at H
  by_cases c4 : a0_2 = true
  ·
   subst c4
   rw [if_pos rfl] at H
   replace H := Option.bind_eq_some_iff.mp H
   obtain ⟨⟨t226, t229, t230, t231, t232, t233, t234, t235⟩, A50, H⟩ := H
   try dsimp only at H
   have A5 := Aside0.mk A50
   clear A50
   simp only [Option.some.injEq, Prod.mk.injEq] at H
   obtain ⟨rfl, rfl, rfl, rfl, rfl, rfl, rfl, rfl, rfl⟩ := H
   go_enter Try.func38, Try.ntmps38
   go_wp2_with (first | ((with_reducible refine gate_dst (N := 1) rfl ?_); refine box_event ?hg (N := 1) ?hd (cs := #[.slice A0_0 l0_0.length c0_0, .int .i64 a0_1, .bool true, .int .i64 a0_3, .string a0_4, .int .i64 a0_5, .int .i64 a0_6, .int .i64 a0_7]) (t := 41) ?hr ?_; (case hd => rfl); (case hg => rfl); (case hr => first | (go_simp; done) | (go_simp; rfl)); intro gb223 hg w6 hbox hb; have n0_ := Aside0.mk (below_step (bz) hb); have n1_ := Aside0.mk (hbox); have n2_ : Aside0 (w.heap.size ≤ gb223) := bsg hg; have n3_ : Aside0 (w.heap.size ≤ gb223) := bsg hg; clear HB; have HB := n0_; have BK223 := n1_; have GW223 := n2_; have GE223 := n3_; clear n0_ n1_ n2_ n3_; clear hb hbox hg) | ((with_reducible refine gate_dst (N := 2) rfl ?_); refine box_event ?hg (N := 2) ?hd (cs := #[.slice none 0 0, .int .i64 0, .bool false, .int .i64 0, .string (⟨#[]⟩ : ByteArray), .int .i64 0, .int .i64 0, .int .i64 0]) (t := 41) ?hr ?_; (case hd => rfl); (case hg => rfl); (case hr => first | (go_simp; done) | (go_simp; rfl)); intro gb224 hg w7 hbox hb; have n0_ := bkb BK223 hb; have n1_ := Aside0.mk (below_step (bz) hb); have n2_ := Aside0.mk (hbox); have n3_ : Aside0 (w.heap.size ≤ gb224) := bsg hg; have n4_ : Aside0 (w.heap.size ≤ gb224) := bsg hg; have n5_ := nlt hg BK223; have n6_ := ngt hg BK223; clear BK223; clear HB; have BK223 := n0_; have HB := n1_; have BK224 := n2_; have GW224 := n3_; have GE224 := n4_; have NB223_224 := n5_; have NB224_223 := n6_; clear n0_ n1_ n2_ n3_ n4_ n5_ n6_; clear hb hbox hg; have hnb8 := NB223_224.out; have hnc8 := NB224_223.out; have hcz9_0 : w7.cell? ⟨gb223, 0, none⟩ = some (.slice A0_0 l0_0.length c0_0) := (blk_cell BK223.out 0).trans rfl; have hcz9_1 : w7.cell? ⟨gb223, 1, none⟩ = some (.int .i64 a0_1) := (blk_cell BK223.out 1).trans rfl; have hcz9_2 : w7.cell? ⟨gb223, 2, none⟩ = some (.bool true) := (blk_cell BK223.out 2).trans rfl; have hcz9_3 : w7.cell? ⟨gb223, 3, none⟩ = some (.int .i64 a0_3) := (blk_cell BK223.out 3).trans rfl; have hcz9_4 : w7.cell? ⟨gb223, 4, none⟩ = some (.string a0_4) := (blk_cell BK223.out 4).trans rfl; have hcz9_5 : w7.cell? ⟨gb223, 5, none⟩ = some (.int .i64 a0_5) := (blk_cell BK223.out 5).trans rfl; have hcz9_6 : w7.cell? ⟨gb223, 6, none⟩ = some (.int .i64 a0_6) := (blk_cell BK223.out 6).trans rfl; have hcz9_7 : w7.cell? ⟨gb223, 7, none⟩ = some (.int .i64 a0_7) := (blk_cell BK223.out 7).trans rfl; have hfz9_0 := blk_frozen BK223.out 0; have hfz9_1 := blk_frozen BK223.out 1; have hfz9_2 := blk_frozen BK223.out 2; have hfz9_3 := blk_frozen BK223.out 3; have hfz9_4 := blk_frozen BK223.out 4; have hfz9_5 := blk_frozen BK223.out 5; have hfz9_6 := blk_frozen BK223.out 6; have hfz9_7 := blk_frozen BK223.out 7) | ((with_reducible refine gate_callee (f := 24) rfl ?_); refine goesL_ (some 5) rfl rfl Try.func24 (by kernel_rfl) rfl #[.agg #[.slice A0_0 l0_0.length c0_0, .int .i64 a0_1, .bool true, .int .i64 a0_3, .string a0_4, .int .i64 a0_5, .int .i64 a0_6, .int .i64 a0_7]] rfl (by (try simp only [List.map_toArray, List.map_cons, List.map_nil]); first | done | rfl | (simp only [List.length_drop, List.length_take]; rfl)) ?_; (with_reducible refine (impl_CallerValid.calls k _ _ l0_0 a0_1 true a0_3 a0_4 a0_5 a0_6 a0_7 true _ ?side1 ?side2 A2.out).mono ?_); (case side1 => repeat (first | exact (Kd.C_below HR0_0.out HB.out) | (with_reducible refine Kd.C_alloc ?_ _) | (with_reducible refine Kd.C_drewN ?_ _) | (with_reducible refine Kd.C_drew ?_))); (case side2 => exact HC0_0.out); rintro e w10 ⟨rfl, hb⟩; refine ⟨_, rfl, ?_⟩; have n0_ := bkb BK223 hb; have n1_ := bkb BK224 hb; have n2_ := Aside0.mk (below_step (bz) hb); clear BK223; clear BK224; clear HB; have BK223 := n0_; have BK224 := n1_; have HB := n2_; clear n0_ n1_ n2_; (try clear hb); (try clear hb2); (try clear hk); (try clear hi); have hcz11_0 : w10.cell? ⟨gb223, 0, none⟩ = some (.slice A0_0 l0_0.length c0_0) := (blk_cell BK223.out 0).trans rfl; have hcz11_1 : w10.cell? ⟨gb223, 1, none⟩ = some (.int .i64 a0_1) := (blk_cell BK223.out 1).trans rfl; have hcz11_2 : w10.cell? ⟨gb223, 2, none⟩ = some (.bool true) := (blk_cell BK223.out 2).trans rfl; have hcz11_3 : w10.cell? ⟨gb223, 3, none⟩ = some (.int .i64 a0_3) := (blk_cell BK223.out 3).trans rfl; have hcz11_4 : w10.cell? ⟨gb223, 4, none⟩ = some (.string a0_4) := (blk_cell BK223.out 4).trans rfl; have hcz11_5 : w10.cell? ⟨gb223, 5, none⟩ = some (.int .i64 a0_5) := (blk_cell BK223.out 5).trans rfl; have hcz11_6 : w10.cell? ⟨gb223, 6, none⟩ = some (.int .i64 a0_6) := (blk_cell BK223.out 6).trans rfl; have hcz11_7 : w10.cell? ⟨gb223, 7, none⟩ = some (.int .i64 a0_7) := (blk_cell BK223.out 7).trans rfl; have hfz11_0 := blk_frozen BK223.out 0; have hfz11_1 := blk_frozen BK223.out 1; have hfz11_2 := blk_frozen BK223.out 2; have hfz11_3 := blk_frozen BK223.out 3; have hfz11_4 := blk_frozen BK223.out 4; have hfz11_5 := blk_frozen BK223.out 5; have hfz11_6 := blk_frozen BK223.out 6; have hfz11_7 := blk_frozen BK223.out 7) | ((with_reducible refine gate_callee (f := 101) rfl ?_); refine goesL_ (some 14) rfl rfl Try.func101 (by kernel_rfl) rfl #[.agg #[.slice A0_0 l0_0.length c0_0, .int .i64 a0_1, .bool true, .int .i64 a0_3, .string a0_4, .int .i64 a0_5, .int .i64 a0_6, .int .i64 a0_7]] rfl (by (try simp only [List.map_toArray, List.map_cons, List.map_nil]); first | done | rfl | (simp only [List.length_drop, List.length_take]; rfl)) ?_; (with_reducible refine (impl_idleCaller.calls _ _ l0_0 a0_1 true a0_3 a0_4 a0_5 a0_6 a0_7 t226 t229 t230 t231 t232 t233 t234 t235 _ ?side1 ?side2 A5.out).mono ?_); (case side1 => repeat (first | exact (Kd.C_below HR0_0.out HB.out) | (with_reducible refine Kd.C_alloc ?_ _) | (with_reducible refine Kd.C_drewN ?_ _) | (with_reducible refine Kd.C_drew ?_))); (case side2 => exact HC0_0.out); rintro e w12 ⟨v227, rfl, ho0, hb⟩; refine ⟨_, rfl, ?_⟩; have n0_ := Aside0.mk (Kd.R_lower ho0 (below_size (bz))); have n1_ := bkb BK223 hb; have n2_ := bkb BK224 hb; have n3_ := Aside0.mk (below_step (bz) hb); clear BK223; clear BK224; clear HB; have HO228 := n0_; have BK223 := n1_; have BK224 := n2_; have HB := n3_; clear n0_ n1_ n2_ n3_; (try clear hb); (try clear hb2); (try clear hk); (try clear hi); (try clear ho0); obtain ⟨Ao13, co13, eo13⟩ := Kd.R_slice HO228.out; subst eo13; have hcz14_0 : w12.cell? ⟨gb224, 0, none⟩ = some (.slice none 0 0) := (blk_cell BK224.out 0).trans rfl; have hcz14_1 : w12.cell? ⟨gb224, 1, none⟩ = some (.int .i64 0) := (blk_cell BK224.out 1).trans rfl; have hcz14_2 : w12.cell? ⟨gb224, 2, none⟩ = some (.bool false) := (blk_cell BK224.out 2).trans rfl; have hcz14_3 : w12.cell? ⟨gb224, 3, none⟩ = some (.int .i64 0) := (blk_cell BK224.out 3).trans rfl; have hcz14_4 : w12.cell? ⟨gb224, 4, none⟩ = some (.string (⟨#[]⟩ : ByteArray)) := (blk_cell BK224.out 4).trans rfl; have hcz14_5 : w12.cell? ⟨gb224, 5, none⟩ = some (.int .i64 0) := (blk_cell BK224.out 5).trans rfl; have hcz14_6 : w12.cell? ⟨gb224, 6, none⟩ = some (.int .i64 0) := (blk_cell BK224.out 6).trans rfl; have hcz14_7 : w12.cell? ⟨gb224, 7, none⟩ = some (.int .i64 0) := (blk_cell BK224.out 7).trans rfl; have hfz14_0 := blk_frozen BK224.out 0; have hfz14_1 := blk_frozen BK224.out 1; have hfz14_2 := blk_frozen BK224.out 2; have hfz14_3 := blk_frozen BK224.out 3; have hfz14_4 := blk_frozen BK224.out 4; have hfz14_5 := blk_frozen BK224.out 5; have hfz14_6 := blk_frozen BK224.out 6; have hfz14_7 := blk_frozen BK224.out 7))
   refine bodyPost_ret (results_ct rfl _ _ gb224 41 #[.slice Ao13 t226.length co13, .int .i64 t229, .bool t230, .int .i64 t231, .string t232, .int .i64 t233, .int .i64 t234, .int .i64 t235] (0, 0) _ rfl (by (with_reducible repeat (first | refine blk_drewN ?_ _ | refine blk_drew ?_ | refine blk_alloc ?_ _)); refine blk_put (cs := #[.slice Ao13 t226.length co13, .int .i64 t229, .bool t230, .int .i64 t231, .string t232, .int .i64 t233, .int .i64 t234, .int .i64 0]) ?_ 7 _ rfl; (with_reducible repeat (first | refine blk_drewN ?_ _ | refine blk_drew ?_ | refine blk_alloc ?_ _)); refine blk_put (cs := #[.slice Ao13 t226.length co13, .int .i64 t229, .bool t230, .int .i64 t231, .string t232, .int .i64 t233, .int .i64 0, .int .i64 0]) ?_ 6 _ rfl; (with_reducible repeat (first | refine blk_drewN ?_ _ | refine blk_drew ?_ | refine blk_alloc ?_ _)); refine blk_put (cs := #[.slice Ao13 t226.length co13, .int .i64 t229, .bool t230, .int .i64 t231, .string t232, .int .i64 0, .int .i64 0, .int .i64 0]) ?_ 5 _ rfl; (with_reducible repeat (first | refine blk_drewN ?_ _ | refine blk_drew ?_ | refine blk_alloc ?_ _)); refine blk_put (cs := #[.slice Ao13 t226.length co13, .int .i64 t229, .bool t230, .int .i64 t231, .string (⟨#[]⟩ : ByteArray), .int .i64 0, .int .i64 0, .int .i64 0]) ?_ 4 _ rfl; (with_reducible repeat (first | refine blk_drewN ?_ _ | refine blk_drew ?_ | refine blk_alloc ?_ _)); refine blk_put (cs := #[.slice Ao13 t226.length co13, .int .i64 t229, .bool t230, .int .i64 0, .string (⟨#[]⟩ : ByteArray), .int .i64 0, .int .i64 0, .int .i64 0]) ?_ 3 _ rfl; (with_reducible repeat (first | refine blk_drewN ?_ _ | refine blk_drew ?_ | refine blk_alloc ?_ _)); refine blk_put (cs := #[.slice Ao13 t226.length co13, .int .i64 t229, .bool false, .int .i64 0, .string (⟨#[]⟩ : ByteArray), .int .i64 0, .int .i64 0, .int .i64 0]) ?_ 2 _ rfl; (with_reducible repeat (first | refine blk_drewN ?_ _ | refine blk_drew ?_ | refine blk_alloc ?_ _)); refine blk_put (cs := #[.slice Ao13 t226.length co13, .int .i64 0, .bool false, .int .i64 0, .string (⟨#[]⟩ : ByteArray), .int .i64 0, .int .i64 0, .int .i64 0]) ?_ 1 _ rfl; (with_reducible repeat (first | refine blk_drewN ?_ _ | refine blk_drew ?_ | refine blk_alloc ?_ _)); refine blk_put (cs := #[.slice none 0 0, .int .i64 0, .bool false, .int .i64 0, .string (⟨#[]⟩ : ByteArray), .int .i64 0, .int .i64 0, .int .i64 0]) ?_ 0 _ rfl; (with_reducible repeat (first | refine blk_drewN ?_ _ | refine blk_drew ?_ | refine blk_alloc ?_ _)); exact BK224.out) Try.underlying41 rfl (by kernel_rfl)) rfl ?_
   exact ⟨_, by first | rfl | (simp only [u8w, w64m]; rfl) | (simp [errW_none, errW_some] <;> rfl) | (simp [*, errW_none, errW_some] <;> rfl), by (with_reducible repeat (first | apply Kd.R_alloc | apply Kd.R_drewN | apply Kd.R_drew)); exact Kd.R_mono (Kd.R_far (p := ⟨gb224, 7, none⟩) (Kd.R_far (p := ⟨gb224, 6, none⟩) (Kd.R_far (p := ⟨gb224, 5, none⟩) (Kd.R_far (p := ⟨gb224, 4, none⟩) (Kd.R_far (p := ⟨gb224, 3, none⟩) (Kd.R_far (p := ⟨gb224, 2, none⟩) (Kd.R_far (p := ⟨gb224, 1, none⟩) (Kd.R_far (p := ⟨gb224, 0, none⟩) (Kd.R_types HO228.out BK224.out (by decide)) (fun _ hk => hk.2) (.slice Ao13 t226.length co13)) (fun _ hk => hk.2) (.int .i64 t229)) (fun _ hk => hk.2) (.bool t230)) (fun _ hk => hk.2) (.int .i64 t231)) (fun _ hk => hk.2) (.string t232)) (fun _ hk => hk.2) (.int .i64 t233)) (fun _ hk => hk.2) (.int .i64 t234)) (fun _ hk => hk.2) (.int .i64 t235)) (fun _ hk => trivial), bz⟩
  ·
   replace c4 := Bool.eq_false_iff.mpr c4
   subst c4
   rw [if_neg (show ¬ (false = true) by decide)] at H
   replace H := Option.bind_eq_some_iff.mp H
   obtain ⟨⟨t236, t239, t240, t241, t242, t243, t244, t245⟩, A150, H⟩ := H
   try dsimp only at H
   have A15 := Aside0.mk A150
   clear A150
   simp only [Option.some.injEq, Prod.mk.injEq] at H
   obtain ⟨rfl, rfl, rfl, rfl, rfl, rfl, rfl, rfl, rfl⟩ := H
   go_enter Try.func38, Try.ntmps38
   go_wp2_with (first | ((with_reducible refine gate_dst (N := 1) rfl ?_); refine box_event ?hg (N := 1) ?hd (cs := #[.slice A0_0 l0_0.length c0_0, .int .i64 a0_1, .bool false, .int .i64 a0_3, .string a0_4, .int .i64 a0_5, .int .i64 a0_6, .int .i64 a0_7]) (t := 41) ?hr ?_; (case hd => rfl); (case hg => rfl); (case hr => first | (go_simp; done) | (go_simp; rfl)); intro gb223 hg w16 hbox hb; have n0_ := Aside0.mk (below_step (bz) hb); have n1_ := Aside0.mk (hbox); have n2_ : Aside0 (w.heap.size ≤ gb223) := bsg hg; have n3_ : Aside0 (w.heap.size ≤ gb223) := bsg hg; clear HB; have HB := n0_; have BK223 := n1_; have GW223 := n2_; have GE223 := n3_; clear n0_ n1_ n2_ n3_; clear hb hbox hg) | ((with_reducible refine gate_dst (N := 2) rfl ?_); refine box_event ?hg (N := 2) ?hd (cs := #[.slice none 0 0, .int .i64 0, .bool false, .int .i64 0, .string (⟨#[]⟩ : ByteArray), .int .i64 0, .int .i64 0, .int .i64 0]) (t := 41) ?hr ?_; (case hd => rfl); (case hg => rfl); (case hr => first | (go_simp; done) | (go_simp; rfl)); intro gb224 hg w17 hbox hb; have n0_ := bkb BK223 hb; have n1_ := Aside0.mk (below_step (bz) hb); have n2_ := Aside0.mk (hbox); have n3_ : Aside0 (w.heap.size ≤ gb224) := bsg hg; have n4_ : Aside0 (w.heap.size ≤ gb224) := bsg hg; have n5_ := nlt hg BK223; have n6_ := ngt hg BK223; clear BK223; clear HB; have BK223 := n0_; have HB := n1_; have BK224 := n2_; have GW224 := n3_; have GE224 := n4_; have NB223_224 := n5_; have NB224_223 := n6_; clear n0_ n1_ n2_ n3_ n4_ n5_ n6_; clear hb hbox hg; have hnb18 := NB223_224.out; have hnc18 := NB224_223.out; have hcz19_0 : w17.cell? ⟨gb223, 0, none⟩ = some (.slice A0_0 l0_0.length c0_0) := (blk_cell BK223.out 0).trans rfl; have hcz19_1 : w17.cell? ⟨gb223, 1, none⟩ = some (.int .i64 a0_1) := (blk_cell BK223.out 1).trans rfl; have hcz19_2 : w17.cell? ⟨gb223, 2, none⟩ = some (.bool false) := (blk_cell BK223.out 2).trans rfl; have hcz19_3 : w17.cell? ⟨gb223, 3, none⟩ = some (.int .i64 a0_3) := (blk_cell BK223.out 3).trans rfl; have hcz19_4 : w17.cell? ⟨gb223, 4, none⟩ = some (.string a0_4) := (blk_cell BK223.out 4).trans rfl; have hcz19_5 : w17.cell? ⟨gb223, 5, none⟩ = some (.int .i64 a0_5) := (blk_cell BK223.out 5).trans rfl; have hcz19_6 : w17.cell? ⟨gb223, 6, none⟩ = some (.int .i64 a0_6) := (blk_cell BK223.out 6).trans rfl; have hcz19_7 : w17.cell? ⟨gb223, 7, none⟩ = some (.int .i64 a0_7) := (blk_cell BK223.out 7).trans rfl; have hfz19_0 := blk_frozen BK223.out 0; have hfz19_1 := blk_frozen BK223.out 1; have hfz19_2 := blk_frozen BK223.out 2; have hfz19_3 := blk_frozen BK223.out 3; have hfz19_4 := blk_frozen BK223.out 4; have hfz19_5 := blk_frozen BK223.out 5; have hfz19_6 := blk_frozen BK223.out 6; have hfz19_7 := blk_frozen BK223.out 7) | ((with_reducible refine gate_callee (f := 24) rfl ?_); refine goesL_ (some 5) rfl rfl Try.func24 (by kernel_rfl) rfl #[.agg #[.slice A0_0 l0_0.length c0_0, .int .i64 a0_1, .bool false, .int .i64 a0_3, .string a0_4, .int .i64 a0_5, .int .i64 a0_6, .int .i64 a0_7]] rfl (by (try simp only [List.map_toArray, List.map_cons, List.map_nil]); first | done | rfl | (simp only [List.length_drop, List.length_take]; rfl)) ?_; (with_reducible refine (impl_CallerValid.calls k _ _ l0_0 a0_1 false a0_3 a0_4 a0_5 a0_6 a0_7 true _ ?side1 ?side2 A2.out).mono ?_); (case side1 => repeat (first | exact (Kd.C_below HR0_0.out HB.out) | (with_reducible refine Kd.C_alloc ?_ _) | (with_reducible refine Kd.C_drewN ?_ _) | (with_reducible refine Kd.C_drew ?_))); (case side2 => exact HC0_0.out); rintro e w20 ⟨rfl, hb⟩; refine ⟨_, rfl, ?_⟩; have n0_ := bkb BK223 hb; have n1_ := bkb BK224 hb; have n2_ := Aside0.mk (below_step (bz) hb); clear BK223; clear BK224; clear HB; have BK223 := n0_; have BK224 := n1_; have HB := n2_; clear n0_ n1_ n2_; (try clear hb); (try clear hb2); (try clear hk); (try clear hi); have hcz21_0 : w20.cell? ⟨gb223, 0, none⟩ = some (.slice A0_0 l0_0.length c0_0) := (blk_cell BK223.out 0).trans rfl; have hcz21_1 : w20.cell? ⟨gb223, 1, none⟩ = some (.int .i64 a0_1) := (blk_cell BK223.out 1).trans rfl; have hcz21_2 : w20.cell? ⟨gb223, 2, none⟩ = some (.bool false) := (blk_cell BK223.out 2).trans rfl; have hcz21_3 : w20.cell? ⟨gb223, 3, none⟩ = some (.int .i64 a0_3) := (blk_cell BK223.out 3).trans rfl; have hcz21_4 : w20.cell? ⟨gb223, 4, none⟩ = some (.string a0_4) := (blk_cell BK223.out 4).trans rfl; have hcz21_5 : w20.cell? ⟨gb223, 5, none⟩ = some (.int .i64 a0_5) := (blk_cell BK223.out 5).trans rfl; have hcz21_6 : w20.cell? ⟨gb223, 6, none⟩ = some (.int .i64 a0_6) := (blk_cell BK223.out 6).trans rfl; have hcz21_7 : w20.cell? ⟨gb223, 7, none⟩ = some (.int .i64 a0_7) := (blk_cell BK223.out 7).trans rfl; have hfz21_0 := blk_frozen BK223.out 0; have hfz21_1 := blk_frozen BK223.out 1; have hfz21_2 := blk_frozen BK223.out 2; have hfz21_3 := blk_frozen BK223.out 3; have hfz21_4 := blk_frozen BK223.out 4; have hfz21_5 := blk_frozen BK223.out 5; have hfz21_6 := blk_frozen BK223.out 6; have hfz21_7 := blk_frozen BK223.out 7) | ((with_reducible refine gate_callee (f := 100) rfl ?_); refine goesL_ (some 12) rfl rfl Try.func100 (by kernel_rfl) rfl #[.agg #[.slice A0_0 l0_0.length c0_0, .int .i64 a0_1, .bool false, .int .i64 a0_3, .string a0_4, .int .i64 a0_5, .int .i64 a0_6, .int .i64 a0_7]] rfl (by (try simp only [List.map_toArray, List.map_cons, List.map_nil]); first | done | rfl | (simp only [List.length_drop, List.length_take]; rfl)) ?_; (with_reducible refine (impl_copyCaller.calls _ _ l0_0 a0_1 false a0_3 a0_4 a0_5 a0_6 a0_7 t236 t239 t240 t241 t242 t243 t244 t245 _ ?side1 ?side2 A15.out).mono ?_); (case side1 => repeat (first | exact (Kd.C_below HR0_0.out HB.out) | (with_reducible refine Kd.C_alloc ?_ _) | (with_reducible refine Kd.C_drewN ?_ _) | (with_reducible refine Kd.C_drew ?_))); (case side2 => exact HC0_0.out); rintro e w22 ⟨v237, rfl, ho0, hb⟩; refine ⟨_, rfl, ?_⟩; have n0_ := Aside0.mk (Kd.R_lower ho0 (below_size (bz))); have n1_ := bkb BK223 hb; have n2_ := bkb BK224 hb; have n3_ := Aside0.mk (below_step (bz) hb); clear BK223; clear BK224; clear HB; have HO238 := n0_; have BK223 := n1_; have BK224 := n2_; have HB := n3_; clear n0_ n1_ n2_ n3_; (try clear hb); (try clear hb2); (try clear hk); (try clear hi); (try clear ho0); obtain ⟨Ao23, co23, eo23⟩ := Kd.R_slice HO238.out; subst eo23; have hcz24_0 : w22.cell? ⟨gb224, 0, none⟩ = some (.slice none 0 0) := (blk_cell BK224.out 0).trans rfl; have hcz24_1 : w22.cell? ⟨gb224, 1, none⟩ = some (.int .i64 0) := (blk_cell BK224.out 1).trans rfl; have hcz24_2 : w22.cell? ⟨gb224, 2, none⟩ = some (.bool false) := (blk_cell BK224.out 2).trans rfl; have hcz24_3 : w22.cell? ⟨gb224, 3, none⟩ = some (.int .i64 0) := (blk_cell BK224.out 3).trans rfl; have hcz24_4 : w22.cell? ⟨gb224, 4, none⟩ = some (.string (⟨#[]⟩ : ByteArray)) := (blk_cell BK224.out 4).trans rfl; have hcz24_5 : w22.cell? ⟨gb224, 5, none⟩ = some (.int .i64 0) := (blk_cell BK224.out 5).trans rfl; have hcz24_6 : w22.cell? ⟨gb224, 6, none⟩ = some (.int .i64 0) := (blk_cell BK224.out 6).trans rfl; have hcz24_7 : w22.cell? ⟨gb224, 7, none⟩ = some (.int .i64 0) := (blk_cell BK224.out 7).trans rfl; have hfz24_0 := blk_frozen BK224.out 0; have hfz24_1 := blk_frozen BK224.out 1; have hfz24_2 := blk_frozen BK224.out 2; have hfz24_3 := blk_frozen BK224.out 3; have hfz24_4 := blk_frozen BK224.out 4; have hfz24_5 := blk_frozen BK224.out 5; have hfz24_6 := blk_frozen BK224.out 6; have hfz24_7 := blk_frozen BK224.out 7))
   refine bodyPost_ret (results_ct rfl _ _ gb224 41 #[.slice Ao23 t236.length co23, .int .i64 t239, .bool t240, .int .i64 t241, .string t242, .int .i64 t243, .int .i64 t244, .int .i64 t245] (0, 0) _ rfl (by (with_reducible repeat (first | refine blk_drewN ?_ _ | refine blk_drew ?_ | refine blk_alloc ?_ _)); refine blk_put (cs := #[.slice Ao23 t236.length co23, .int .i64 t239, .bool t240, .int .i64 t241, .string t242, .int .i64 t243, .int .i64 t244, .int .i64 0]) ?_ 7 _ rfl; (with_reducible repeat (first | refine blk_drewN ?_ _ | refine blk_drew ?_ | refine blk_alloc ?_ _)); refine blk_put (cs := #[.slice Ao23 t236.length co23, .int .i64 t239, .bool t240, .int .i64 t241, .string t242, .int .i64 t243, .int .i64 0, .int .i64 0]) ?_ 6 _ rfl; (with_reducible repeat (first | refine blk_drewN ?_ _ | refine blk_drew ?_ | refine blk_alloc ?_ _)); refine blk_put (cs := #[.slice Ao23 t236.length co23, .int .i64 t239, .bool t240, .int .i64 t241, .string t242, .int .i64 0, .int .i64 0, .int .i64 0]) ?_ 5 _ rfl; (with_reducible repeat (first | refine blk_drewN ?_ _ | refine blk_drew ?_ | refine blk_alloc ?_ _)); refine blk_put (cs := #[.slice Ao23 t236.length co23, .int .i64 t239, .bool t240, .int .i64 t241, .string (⟨#[]⟩ : ByteArray), .int .i64 0, .int .i64 0, .int .i64 0]) ?_ 4 _ rfl; (with_reducible repeat (first | refine blk_drewN ?_ _ | refine blk_drew ?_ | refine blk_alloc ?_ _)); refine blk_put (cs := #[.slice Ao23 t236.length co23, .int .i64 t239, .bool t240, .int .i64 0, .string (⟨#[]⟩ : ByteArray), .int .i64 0, .int .i64 0, .int .i64 0]) ?_ 3 _ rfl; (with_reducible repeat (first | refine blk_drewN ?_ _ | refine blk_drew ?_ | refine blk_alloc ?_ _)); refine blk_put (cs := #[.slice Ao23 t236.length co23, .int .i64 t239, .bool false, .int .i64 0, .string (⟨#[]⟩ : ByteArray), .int .i64 0, .int .i64 0, .int .i64 0]) ?_ 2 _ rfl; (with_reducible repeat (first | refine blk_drewN ?_ _ | refine blk_drew ?_ | refine blk_alloc ?_ _)); refine blk_put (cs := #[.slice Ao23 t236.length co23, .int .i64 0, .bool false, .int .i64 0, .string (⟨#[]⟩ : ByteArray), .int .i64 0, .int .i64 0, .int .i64 0]) ?_ 1 _ rfl; (with_reducible repeat (first | refine blk_drewN ?_ _ | refine blk_drew ?_ | refine blk_alloc ?_ _)); refine blk_put (cs := #[.slice none 0 0, .int .i64 0, .bool false, .int .i64 0, .string (⟨#[]⟩ : ByteArray), .int .i64 0, .int .i64 0, .int .i64 0]) ?_ 0 _ rfl; (with_reducible repeat (first | refine blk_drewN ?_ _ | refine blk_drew ?_ | refine blk_alloc ?_ _)); exact BK224.out) Try.underlying41 rfl (by kernel_rfl)) rfl ?_
   exact ⟨_, by first | rfl | (simp only [u8w, w64m]; rfl) | (simp [errW_none, errW_some] <;> rfl) | (simp [*, errW_none, errW_some] <;> rfl), by (with_reducible repeat (first | apply Kd.R_alloc | apply Kd.R_drewN | apply Kd.R_drew)); exact Kd.R_mono (Kd.R_far (p := ⟨gb224, 7, none⟩) (Kd.R_far (p := ⟨gb224, 6, none⟩) (Kd.R_far (p := ⟨gb224, 5, none⟩) (Kd.R_far (p := ⟨gb224, 4, none⟩) (Kd.R_far (p := ⟨gb224, 3, none⟩) (Kd.R_far (p := ⟨gb224, 2, none⟩) (Kd.R_far (p := ⟨gb224, 1, none⟩) (Kd.R_far (p := ⟨gb224, 0, none⟩) (Kd.R_types HO238.out BK224.out (by decide)) (fun _ hk => hk.2) (.slice Ao23 t236.length co23)) (fun _ hk => hk.2) (.int .i64 t239)) (fun _ hk => hk.2) (.bool t240)) (fun _ hk => hk.2) (.int .i64 t241)) (fun _ hk => hk.2) (.string t242)) (fun _ hk => hk.2) (.int .i64 t243)) (fun _ hk => hk.2) (.int .i64 t244)) (fun _ hk => hk.2) (.int .i64 t245)) (fun _ hk => trivial), bz⟩
 ·
  replace c3 := Bool.eq_false_iff.mpr c3
  subst c3
  rw [if_neg (show ¬ (false = true) by decide)] at H
  simp only [Option.some.injEq, Prod.mk.injEq] at H
  obtain ⟨rfl, rfl, rfl, rfl, rfl, rfl, rfl, rfl, rfl⟩ := H
  go_enter Try.func38, Try.ntmps38
  go_wp2_with (first | ((with_reducible refine gate_dst (N := 1) rfl ?_); refine box_event ?hg (N := 1) ?hd (cs := #[.slice A0_0 l0_0.length c0_0, .int .i64 a0_1, .bool a0_2, .int .i64 a0_3, .string a0_4, .int .i64 a0_5, .int .i64 a0_6, .int .i64 a0_7]) (t := 41) ?hr ?_; (case hd => rfl); (case hg => rfl); (case hr => first | (go_simp; done) | (go_simp; rfl)); intro gb223 hg w25 hbox hb; have n0_ := Aside0.mk (below_step (bz) hb); have n1_ := Aside0.mk (hbox); have n2_ : Aside0 (w.heap.size ≤ gb223) := bsg hg; have n3_ : Aside0 (w.heap.size ≤ gb223) := bsg hg; clear HB; have HB := n0_; have BK223 := n1_; have GW223 := n2_; have GE223 := n3_; clear n0_ n1_ n2_ n3_; clear hb hbox hg) | ((with_reducible refine gate_dst (N := 2) rfl ?_); refine box_event ?hg (N := 2) ?hd (cs := #[.slice none 0 0, .int .i64 0, .bool false, .int .i64 0, .string (⟨#[]⟩ : ByteArray), .int .i64 0, .int .i64 0, .int .i64 0]) (t := 41) ?hr ?_; (case hd => rfl); (case hg => rfl); (case hr => first | (go_simp; done) | (go_simp; rfl)); intro gb224 hg w26 hbox hb; have n0_ := bkb BK223 hb; have n1_ := Aside0.mk (below_step (bz) hb); have n2_ := Aside0.mk (hbox); have n3_ : Aside0 (w.heap.size ≤ gb224) := bsg hg; have n4_ : Aside0 (w.heap.size ≤ gb224) := bsg hg; have n5_ := nlt hg BK223; have n6_ := ngt hg BK223; clear BK223; clear HB; have BK223 := n0_; have HB := n1_; have BK224 := n2_; have GW224 := n3_; have GE224 := n4_; have NB223_224 := n5_; have NB224_223 := n6_; clear n0_ n1_ n2_ n3_ n4_ n5_ n6_; clear hb hbox hg; have hnb27 := NB223_224.out; have hnc27 := NB224_223.out; have hcz28_0 : w26.cell? ⟨gb223, 0, none⟩ = some (.slice A0_0 l0_0.length c0_0) := (blk_cell BK223.out 0).trans rfl; have hcz28_1 : w26.cell? ⟨gb223, 1, none⟩ = some (.int .i64 a0_1) := (blk_cell BK223.out 1).trans rfl; have hcz28_2 : w26.cell? ⟨gb223, 2, none⟩ = some (.bool a0_2) := (blk_cell BK223.out 2).trans rfl; have hcz28_3 : w26.cell? ⟨gb223, 3, none⟩ = some (.int .i64 a0_3) := (blk_cell BK223.out 3).trans rfl; have hcz28_4 : w26.cell? ⟨gb223, 4, none⟩ = some (.string a0_4) := (blk_cell BK223.out 4).trans rfl; have hcz28_5 : w26.cell? ⟨gb223, 5, none⟩ = some (.int .i64 a0_5) := (blk_cell BK223.out 5).trans rfl; have hcz28_6 : w26.cell? ⟨gb223, 6, none⟩ = some (.int .i64 a0_6) := (blk_cell BK223.out 6).trans rfl; have hcz28_7 : w26.cell? ⟨gb223, 7, none⟩ = some (.int .i64 a0_7) := (blk_cell BK223.out 7).trans rfl; have hfz28_0 := blk_frozen BK223.out 0; have hfz28_1 := blk_frozen BK223.out 1; have hfz28_2 := blk_frozen BK223.out 2; have hfz28_3 := blk_frozen BK223.out 3; have hfz28_4 := blk_frozen BK223.out 4; have hfz28_5 := blk_frozen BK223.out 5; have hfz28_6 := blk_frozen BK223.out 6; have hfz28_7 := blk_frozen BK223.out 7) | ((with_reducible refine gate_callee (f := 24) rfl ?_); refine goesL_ (some 5) rfl rfl Try.func24 (by kernel_rfl) rfl #[.agg #[.slice A0_0 l0_0.length c0_0, .int .i64 a0_1, .bool a0_2, .int .i64 a0_3, .string a0_4, .int .i64 a0_5, .int .i64 a0_6, .int .i64 a0_7]] rfl (by (try simp only [List.map_toArray, List.map_cons, List.map_nil]); first | done | rfl | (simp only [List.length_drop, List.length_take]; rfl)) ?_; (with_reducible refine (impl_CallerValid.calls k _ _ l0_0 a0_1 a0_2 a0_3 a0_4 a0_5 a0_6 a0_7 false _ ?side1 ?side2 A2.out).mono ?_); (case side1 => repeat (first | exact (Kd.C_below HR0_0.out HB.out) | (with_reducible refine Kd.C_alloc ?_ _) | (with_reducible refine Kd.C_drewN ?_ _) | (with_reducible refine Kd.C_drew ?_))); (case side2 => exact HC0_0.out); rintro e w29 ⟨rfl, hb⟩; refine ⟨_, rfl, ?_⟩; have n0_ := bkb BK223 hb; have n1_ := bkb BK224 hb; have n2_ := Aside0.mk (below_step (bz) hb); clear BK223; clear BK224; clear HB; have BK223 := n0_; have BK224 := n1_; have HB := n2_; clear n0_ n1_ n2_; (try clear hb); (try clear hb2); (try clear hk); (try clear hi); have hcz30_0 : w29.cell? ⟨gb224, 0, none⟩ = some (.slice none 0 0) := (blk_cell BK224.out 0).trans rfl; have hcz30_1 : w29.cell? ⟨gb224, 1, none⟩ = some (.int .i64 0) := (blk_cell BK224.out 1).trans rfl; have hcz30_2 : w29.cell? ⟨gb224, 2, none⟩ = some (.bool false) := (blk_cell BK224.out 2).trans rfl; have hcz30_3 : w29.cell? ⟨gb224, 3, none⟩ = some (.int .i64 0) := (blk_cell BK224.out 3).trans rfl; have hcz30_4 : w29.cell? ⟨gb224, 4, none⟩ = some (.string (⟨#[]⟩ : ByteArray)) := (blk_cell BK224.out 4).trans rfl; have hcz30_5 : w29.cell? ⟨gb224, 5, none⟩ = some (.int .i64 0) := (blk_cell BK224.out 5).trans rfl; have hcz30_6 : w29.cell? ⟨gb224, 6, none⟩ = some (.int .i64 0) := (blk_cell BK224.out 6).trans rfl; have hcz30_7 : w29.cell? ⟨gb224, 7, none⟩ = some (.int .i64 0) := (blk_cell BK224.out 7).trans rfl; have hfz30_0 := blk_frozen BK224.out 0; have hfz30_1 := blk_frozen BK224.out 1; have hfz30_2 := blk_frozen BK224.out 2; have hfz30_3 := blk_frozen BK224.out 3; have hfz30_4 := blk_frozen BK224.out 4; have hfz30_5 := blk_frozen BK224.out 5; have hfz30_6 := blk_frozen BK224.out 6; have hfz30_7 := blk_frozen BK224.out 7))
  refine bodyPost_ret (results_ct rfl _ _ gb224 41 #[.slice none 0 0, .int .i64 0, .bool false, .int .i64 0, .string (⟨#[]⟩ : ByteArray), .int .i64 0, .int .i64 0, .int .i64 0] (0, 0) _ rfl (by (with_reducible repeat (first | refine blk_drewN ?_ _ | refine blk_drew ?_ | refine blk_alloc ?_ _)); refine blk_put (cs := #[.slice none 0 0, .int .i64 0, .bool false, .int .i64 0, .string (⟨#[]⟩ : ByteArray), .int .i64 0, .int .i64 0, .int .i64 0]) ?_ 7 _ rfl; (with_reducible repeat (first | refine blk_drewN ?_ _ | refine blk_drew ?_ | refine blk_alloc ?_ _)); refine blk_put (cs := #[.slice none 0 0, .int .i64 0, .bool false, .int .i64 0, .string (⟨#[]⟩ : ByteArray), .int .i64 0, .int .i64 0, .int .i64 0]) ?_ 6 _ rfl; (with_reducible repeat (first | refine blk_drewN ?_ _ | refine blk_drew ?_ | refine blk_alloc ?_ _)); refine blk_put (cs := #[.slice none 0 0, .int .i64 0, .bool false, .int .i64 0, .string (⟨#[]⟩ : ByteArray), .int .i64 0, .int .i64 0, .int .i64 0]) ?_ 5 _ rfl; (with_reducible repeat (first | refine blk_drewN ?_ _ | refine blk_drew ?_ | refine blk_alloc ?_ _)); refine blk_put (cs := #[.slice none 0 0, .int .i64 0, .bool false, .int .i64 0, .string (⟨#[]⟩ : ByteArray), .int .i64 0, .int .i64 0, .int .i64 0]) ?_ 4 _ rfl; (with_reducible repeat (first | refine blk_drewN ?_ _ | refine blk_drew ?_ | refine blk_alloc ?_ _)); refine blk_put (cs := #[.slice none 0 0, .int .i64 0, .bool false, .int .i64 0, .string (⟨#[]⟩ : ByteArray), .int .i64 0, .int .i64 0, .int .i64 0]) ?_ 3 _ rfl; (with_reducible repeat (first | refine blk_drewN ?_ _ | refine blk_drew ?_ | refine blk_alloc ?_ _)); refine blk_put (cs := #[.slice none 0 0, .int .i64 0, .bool false, .int .i64 0, .string (⟨#[]⟩ : ByteArray), .int .i64 0, .int .i64 0, .int .i64 0]) ?_ 2 _ rfl; (with_reducible repeat (first | refine blk_drewN ?_ _ | refine blk_drew ?_ | refine blk_alloc ?_ _)); refine blk_put (cs := #[.slice none 0 0, .int .i64 0, .bool false, .int .i64 0, .string (⟨#[]⟩ : ByteArray), .int .i64 0, .int .i64 0, .int .i64 0]) ?_ 1 _ rfl; (with_reducible repeat (first | refine blk_drewN ?_ _ | refine blk_drew ?_ | refine blk_alloc ?_ _)); refine blk_put (cs := #[.slice none 0 0, .int .i64 0, .bool false, .int .i64 0, .string (⟨#[]⟩ : ByteArray), .int .i64 0, .int .i64 0, .int .i64 0]) ?_ 0 _ rfl; (with_reducible repeat (first | refine blk_drewN ?_ _ | refine blk_drew ?_ | refine blk_alloc ?_ _)); exact BK224.out) Try.underlying41 rfl (by kernel_rfl)) rfl ?_
  exact ⟨_, by first | rfl | (simp only [u8w, w64m]; rfl) | (simp [errW_none, errW_some] <;> rfl) | (simp [*, errW_none, errW_some] <;> rfl), by first | exact Kd.R_nil _ _ _ _ _ | exact Kd.N_nil _ _ _ _ _ | exact Kd.V_nil _ _ _ _ _ | exact Kd.Q_nil _ _ _ _ _ | exact Kd.S_nil _ _ _ _ _, bz⟩

/-! ### laws_eqInterval: function 136 -/
def laws_eqInterval.f (a0_0 : ByteArray) (a0_1 : ByteArray) (a1_0 : ByteArray) (a1_1 : ByteArray) : Option (Bool) := if a0_0.toList = a1_0.toList then (if a0_1.toList = a1_1.toList then (some true) else (some false)) else (some false)
set_option maxHeartbeats 8000000 in
set_option maxRecDepth 100000 in
theorem laws_eqInterval.calls (a0_0 : ByteArray) (a0_1 : ByteArray) (a1_0 : ByteArray) (a1_1 : ByteArray) (r : Bool) (w : World) (h : laws_eqInterval.f a0_0 a0_1 a1_0 a1_1 = some r) :
  Calls Try.prog 136 #[.agg #[.string a0_0, .string a0_1], .agg #[.string a1_0, .string a1_1]] w fun e w' => e = .returned (.bool r) ∧ Below w.heap.size w w' := by
 have hu31 := Try.underlying31
 have HB := Aside0.mk (Below.refl w.heap.size w)
 have H : (if a0_0.toList = a1_0.toList then (if a0_1.toList = a1_1.toList then (some true) else (some false)) else (some false)) = some r := h
 clear h
 by_cases c3 : a0_0.toList = a1_0.toList
 ·
  rw [if_pos c3] at H
  have c3b0 : (a0_0.toList == a1_0.toList) = true := beq_iff_eq.mpr c3
  have c3b1 : (a0_0.toList != a1_0.toList) = false := bne_eq_false_iff_eq.mpr c3
  clear c3
  by_cases c4 : a0_1.toList = a1_1.toList
  ·
   rw [if_pos c4] at H
   have c4b0 : (a0_1.toList == a1_1.toList) = true := beq_iff_eq.mpr c4
   have c4b1 : (a0_1.toList != a1_1.toList) = false := bne_eq_false_iff_eq.mpr c4
   clear c4
   obtain rfl := Option.some.inj H
   go_enter Try.func136, Try.ntmps136
   go_wp2_with (first | ((with_reducible refine gate_dst (N := 2) rfl ?_); refine box_event ?hg (N := 2) ?hd (cs := #[.string a0_0, .string a0_1]) (t := 31) ?hr ?_; (case hd => rfl); (case hg => rfl); (case hr => first | (go_simp; done) | (go_simp; rfl)); intro gb246 hg w5 hbox hb; have n0_ := Aside0.mk (below_step (bz) hb); have n1_ := Aside0.mk (hbox); have n2_ : Aside0 (w.heap.size ≤ gb246) := bsg hg; have n3_ : Aside0 (w.heap.size ≤ gb246) := bsg hg; clear HB; have HB := n0_; have BK246 := n1_; have GW246 := n2_; have GE246 := n3_; clear n0_ n1_ n2_ n3_; clear hb hbox hg) | ((with_reducible refine gate_dst (N := 3) rfl ?_); refine box_event ?hg (N := 3) ?hd (cs := #[.string a1_0, .string a1_1]) (t := 31) ?hr ?_; (case hd => rfl); (case hg => rfl); (case hr => first | (go_simp; done) | (go_simp; rfl)); intro gb247 hg w6 hbox hb; have n0_ := bkb BK246 hb; have n1_ := Aside0.mk (below_step (bz) hb); have n2_ := Aside0.mk (hbox); have n3_ : Aside0 (w.heap.size ≤ gb247) := bsg hg; have n4_ : Aside0 (w.heap.size ≤ gb247) := bsg hg; have n5_ := nlt hg BK246; have n6_ := ngt hg BK246; clear BK246; clear HB; have BK246 := n0_; have HB := n1_; have BK247 := n2_; have GW247 := n3_; have GE247 := n4_; have NB246_247 := n5_; have NB247_246 := n6_; clear n0_ n1_ n2_ n3_ n4_ n5_ n6_; clear hb hbox hg; have hnb7 := NB246_247.out; have hnc7 := NB247_246.out; have hcz8_0 : w6.cell? ⟨gb246, 0, none⟩ = some (.string a0_0) := (blk_cell BK246.out 0).trans rfl; have hcz8_1 : w6.cell? ⟨gb246, 1, none⟩ = some (.string a0_1) := (blk_cell BK246.out 1).trans rfl; have hfz8_0 := blk_frozen BK246.out 0; have hfz8_1 := blk_frozen BK246.out 1; have hcz9_0 : w6.cell? ⟨gb247, 0, none⟩ = some (.string a1_0) := (blk_cell BK247.out 0).trans rfl; have hcz9_1 : w6.cell? ⟨gb247, 1, none⟩ = some (.string a1_1) := (blk_cell BK247.out 1).trans rfl; have hfz9_0 := blk_frozen BK247.out 0; have hfz9_1 := blk_frozen BK247.out 1))
   go_ret
   exact ⟨by first | rfl | (simp only [u8w, w64m]; rfl) | (simp [errW_none, errW_some] <;> rfl) | (simp [*, errW_none, errW_some] <;> rfl), bz⟩
  ·
   rw [if_neg c4] at H
   have c4b0 : (a0_1.toList == a1_1.toList) = false := beq_eq_false_iff_ne.mpr c4
   have c4b1 : (a0_1.toList != a1_1.toList) = true := bne_iff_ne.mpr c4
   obtain rfl := Option.some.inj H
   go_enter Try.func136, Try.ntmps136
   go_wp2_with (first | ((with_reducible refine gate_dst (N := 2) rfl ?_); refine box_event ?hg (N := 2) ?hd (cs := #[.string a0_0, .string a0_1]) (t := 31) ?hr ?_; (case hd => rfl); (case hg => rfl); (case hr => first | (go_simp; done) | (go_simp; rfl)); intro gb246 hg w10 hbox hb; have n0_ := Aside0.mk (below_step (bz) hb); have n1_ := Aside0.mk (hbox); have n2_ : Aside0 (w.heap.size ≤ gb246) := bsg hg; have n3_ : Aside0 (w.heap.size ≤ gb246) := bsg hg; clear HB; have HB := n0_; have BK246 := n1_; have GW246 := n2_; have GE246 := n3_; clear n0_ n1_ n2_ n3_; clear hb hbox hg) | ((with_reducible refine gate_dst (N := 3) rfl ?_); refine box_event ?hg (N := 3) ?hd (cs := #[.string a1_0, .string a1_1]) (t := 31) ?hr ?_; (case hd => rfl); (case hg => rfl); (case hr => first | (go_simp; done) | (go_simp; rfl)); intro gb247 hg w11 hbox hb; have n0_ := bkb BK246 hb; have n1_ := Aside0.mk (below_step (bz) hb); have n2_ := Aside0.mk (hbox); have n3_ : Aside0 (w.heap.size ≤ gb247) := bsg hg; have n4_ : Aside0 (w.heap.size ≤ gb247) := bsg hg; have n5_ := nlt hg BK246; have n6_ := ngt hg BK246; clear BK246; clear HB; have BK246 := n0_; have HB := n1_; have BK247 := n2_; have GW247 := n3_; have GE247 := n4_; have NB246_247 := n5_; have NB247_246 := n6_; clear n0_ n1_ n2_ n3_ n4_ n5_ n6_; clear hb hbox hg; have hnb12 := NB246_247.out; have hnc12 := NB247_246.out; have hcz13_0 : w11.cell? ⟨gb246, 0, none⟩ = some (.string a0_0) := (blk_cell BK246.out 0).trans rfl; have hcz13_1 : w11.cell? ⟨gb246, 1, none⟩ = some (.string a0_1) := (blk_cell BK246.out 1).trans rfl; have hfz13_0 := blk_frozen BK246.out 0; have hfz13_1 := blk_frozen BK246.out 1; have hcz14_0 : w11.cell? ⟨gb247, 0, none⟩ = some (.string a1_0) := (blk_cell BK247.out 0).trans rfl; have hcz14_1 : w11.cell? ⟨gb247, 1, none⟩ = some (.string a1_1) := (blk_cell BK247.out 1).trans rfl; have hfz14_0 := blk_frozen BK247.out 0; have hfz14_1 := blk_frozen BK247.out 1))
   go_ret
   exact ⟨by first | rfl | (simp only [u8w, w64m]; rfl) | (simp [errW_none, errW_some] <;> rfl) | (simp [*, errW_none, errW_some] <;> rfl), bz⟩
 ·
  rw [if_neg c3] at H
  have c3b0 : (a0_0.toList == a1_0.toList) = false := beq_eq_false_iff_ne.mpr c3
  have c3b1 : (a0_0.toList != a1_0.toList) = true := bne_iff_ne.mpr c3
  obtain rfl := Option.some.inj H
  go_enter Try.func136, Try.ntmps136
  go_wp2_with (first | ((with_reducible refine gate_dst (N := 2) rfl ?_); refine box_event ?hg (N := 2) ?hd (cs := #[.string a0_0, .string a0_1]) (t := 31) ?hr ?_; (case hd => rfl); (case hg => rfl); (case hr => first | (go_simp; done) | (go_simp; rfl)); intro gb246 hg w15 hbox hb; have n0_ := Aside0.mk (below_step (bz) hb); have n1_ := Aside0.mk (hbox); have n2_ : Aside0 (w.heap.size ≤ gb246) := bsg hg; have n3_ : Aside0 (w.heap.size ≤ gb246) := bsg hg; clear HB; have HB := n0_; have BK246 := n1_; have GW246 := n2_; have GE246 := n3_; clear n0_ n1_ n2_ n3_; clear hb hbox hg) | ((with_reducible refine gate_dst (N := 3) rfl ?_); refine box_event ?hg (N := 3) ?hd (cs := #[.string a1_0, .string a1_1]) (t := 31) ?hr ?_; (case hd => rfl); (case hg => rfl); (case hr => first | (go_simp; done) | (go_simp; rfl)); intro gb247 hg w16 hbox hb; have n0_ := bkb BK246 hb; have n1_ := Aside0.mk (below_step (bz) hb); have n2_ := Aside0.mk (hbox); have n3_ : Aside0 (w.heap.size ≤ gb247) := bsg hg; have n4_ : Aside0 (w.heap.size ≤ gb247) := bsg hg; have n5_ := nlt hg BK246; have n6_ := ngt hg BK246; clear BK246; clear HB; have BK246 := n0_; have HB := n1_; have BK247 := n2_; have GW247 := n3_; have GE247 := n4_; have NB246_247 := n5_; have NB247_246 := n6_; clear n0_ n1_ n2_ n3_ n4_ n5_ n6_; clear hb hbox hg; have hnb17 := NB246_247.out; have hnc17 := NB247_246.out; have hcz18_0 : w16.cell? ⟨gb246, 0, none⟩ = some (.string a0_0) := (blk_cell BK246.out 0).trans rfl; have hcz18_1 : w16.cell? ⟨gb246, 1, none⟩ = some (.string a0_1) := (blk_cell BK246.out 1).trans rfl; have hfz18_0 := blk_frozen BK246.out 0; have hfz18_1 := blk_frozen BK246.out 1; have hcz19_0 : w16.cell? ⟨gb247, 0, none⟩ = some (.string a1_0) := (blk_cell BK247.out 0).trans rfl; have hcz19_1 : w16.cell? ⟨gb247, 1, none⟩ = some (.string a1_1) := (blk_cell BK247.out 1).trans rfl; have hfz19_0 := blk_frozen BK247.out 0; have hfz19_1 := blk_frozen BK247.out 1))
  go_ret
  exact ⟨by first | rfl | (simp only [u8w, w64m]; rfl) | (simp [errW_none, errW_some] <;> rfl) | (simp [*, errW_none, errW_some] <;> rfl), bz⟩

/-! ### laws_eqRoute: function 110 -/
def laws_eqRoute.f (a0_0 : Int) (a0_1 : ByteArray) (a0_2 : ByteArray) (a1_0 : Int) (a1_1 : ByteArray) (a1_2 : ByteArray) : Option (Bool) := if a0_0 = a1_0 then ((laws_eqInterval.f a0_1 a0_2 a1_1 a1_2).bind fun t250 => (if t250 = true then (some true) else (some false))) else (some false)
set_option maxHeartbeats 8000000 in
set_option maxRecDepth 100000 in
theorem laws_eqRoute.calls (a0_0 : Int) (a0_1 : ByteArray) (a0_2 : ByteArray) (a1_0 : Int) (a1_1 : ByteArray) (a1_2 : ByteArray) (r : Bool) (w : World) (h : laws_eqRoute.f a0_0 a0_1 a0_2 a1_0 a1_1 a1_2 = some r) :
  Calls Try.prog 110 #[.agg #[.int .i64 a0_0, .string a0_1, .string a0_2], .agg #[.int .i64 a1_0, .string a1_1, .string a1_2]] w fun e w' => e = .returned (.bool r) ∧ Below w.heap.size w w' := by
 have hu35 := Try.underlying35
 have hu31 := Try.underlying31
 have HB := Aside0.mk (Below.refl w.heap.size w)
 have H : (if a0_0 = a1_0 then ((laws_eqInterval.f a0_1 a0_2 a1_1 a1_2).bind fun t250 => (if t250 = true then (some true) else (some false))) else (some false)) = some r := h
 clear h
 by_cases c3 : a0_0 = a1_0
 ·
  rw [if_pos c3] at H
  have c3b0 : (a0_0 == a1_0) = true := beq_iff_eq.mpr c3
  have c3b1 : (a0_0 != a1_0) = false := bne_eq_false_iff_eq.mpr c3
  clear c3
  replace H := Option.bind_eq_some_iff.mp H
  obtain ⟨t250, A40, H⟩ := H
  try dsimp only at H
  have A4 := Aside0.mk A40
  clear A40
  by_cases c5 : t250 = true
  ·
   subst c5
   rw [if_pos rfl] at H
   obtain rfl := Option.some.inj H
   go_enter Try.func110, Try.ntmps110
   go_wp2_with (first | ((with_reducible refine gate_dst (N := 2) rfl ?_); refine box_event ?hg (N := 2) ?hd (cs := #[.int .i64 a0_0, .string a0_1, .string a0_2]) (t := 35) ?hr ?_; (case hd => rfl); (case hg => rfl); (case hr => first | (go_simp; done) | (go_simp; rfl)); intro gb248 hg w6 hbox hb; have n0_ := Aside0.mk (below_step (bz) hb); have n1_ := Aside0.mk (hbox); have n2_ : Aside0 (w.heap.size ≤ gb248) := bsg hg; have n3_ : Aside0 (w.heap.size ≤ gb248) := bsg hg; clear HB; have HB := n0_; have BK248 := n1_; have GW248 := n2_; have GE248 := n3_; clear n0_ n1_ n2_ n3_; clear hb hbox hg) | ((with_reducible refine gate_dst (N := 3) rfl ?_); refine box_event ?hg (N := 3) ?hd (cs := #[.int .i64 a1_0, .string a1_1, .string a1_2]) (t := 35) ?hr ?_; (case hd => rfl); (case hg => rfl); (case hr => first | (go_simp; done) | (go_simp; rfl)); intro gb249 hg w7 hbox hb; have n0_ := bkb BK248 hb; have n1_ := Aside0.mk (below_step (bz) hb); have n2_ := Aside0.mk (hbox); have n3_ : Aside0 (w.heap.size ≤ gb249) := bsg hg; have n4_ : Aside0 (w.heap.size ≤ gb249) := bsg hg; have n5_ := nlt hg BK248; have n6_ := ngt hg BK248; clear BK248; clear HB; have BK248 := n0_; have HB := n1_; have BK249 := n2_; have GW249 := n3_; have GE249 := n4_; have NB248_249 := n5_; have NB249_248 := n6_; clear n0_ n1_ n2_ n3_ n4_ n5_ n6_; clear hb hbox hg; have hnb8 := NB248_249.out; have hnc8 := NB249_248.out; have hcz9_0 : w7.cell? ⟨gb248, 0, none⟩ = some (.int .i64 a0_0) := (blk_cell BK248.out 0).trans rfl; have hcz9_1 : w7.cell? ⟨gb248, 1, none⟩ = some (.string a0_1) := (blk_cell BK248.out 1).trans rfl; have hcz9_2 : w7.cell? ⟨gb248, 2, none⟩ = some (.string a0_2) := (blk_cell BK248.out 2).trans rfl; have hfz9_0 := blk_frozen BK248.out 0; have hfz9_1 := blk_frozen BK248.out 1; have hfz9_2 := blk_frozen BK248.out 2; have hcz10_0 : w7.cell? ⟨gb249, 0, none⟩ = some (.int .i64 a1_0) := (blk_cell BK249.out 0).trans rfl; have hcz10_1 : w7.cell? ⟨gb249, 1, none⟩ = some (.string a1_1) := (blk_cell BK249.out 1).trans rfl; have hcz10_2 : w7.cell? ⟨gb249, 2, none⟩ = some (.string a1_2) := (blk_cell BK249.out 2).trans rfl; have hfz10_0 := blk_frozen BK249.out 0; have hfz10_1 := blk_frozen BK249.out 1; have hfz10_2 := blk_frozen BK249.out 2) | ((with_reducible refine gate_callee (f := 136) rfl ?_); refine goesL_ (some 14) rfl rfl Try.func136 (by kernel_rfl) rfl #[.agg #[.string a0_1, .string a0_2], .agg #[.string a1_1, .string a1_2]] rfl (by (try simp only [List.map_toArray, List.map_cons, List.map_nil]); first | done | rfl | (simp only [List.length_drop, List.length_take]; rfl)) ?_; (with_reducible refine (laws_eqInterval.calls a0_1 a0_2 a1_1 a1_2 true _ A4.out).mono ?_); rintro e w11 ⟨rfl, hb⟩; refine ⟨_, rfl, ?_⟩; have n0_ := bkb BK248 hb; have n1_ := bkb BK249 hb; have n2_ := Aside0.mk (below_step (bz) hb); clear BK248; clear BK249; clear HB; have BK248 := n0_; have BK249 := n1_; have HB := n2_; clear n0_ n1_ n2_; (try clear hb); (try clear hb2); (try clear hk); (try clear hi)))
   go_ret
   exact ⟨by first | rfl | (simp only [u8w, w64m]; rfl) | (simp [errW_none, errW_some] <;> rfl) | (simp [*, errW_none, errW_some] <;> rfl), bz⟩
  ·
   replace c5 := Bool.eq_false_iff.mpr c5
   subst c5
   rw [if_neg (show ¬ (false = true) by decide)] at H
   obtain rfl := Option.some.inj H
   go_enter Try.func110, Try.ntmps110
   go_wp2_with (first | ((with_reducible refine gate_dst (N := 2) rfl ?_); refine box_event ?hg (N := 2) ?hd (cs := #[.int .i64 a0_0, .string a0_1, .string a0_2]) (t := 35) ?hr ?_; (case hd => rfl); (case hg => rfl); (case hr => first | (go_simp; done) | (go_simp; rfl)); intro gb248 hg w12 hbox hb; have n0_ := Aside0.mk (below_step (bz) hb); have n1_ := Aside0.mk (hbox); have n2_ : Aside0 (w.heap.size ≤ gb248) := bsg hg; have n3_ : Aside0 (w.heap.size ≤ gb248) := bsg hg; clear HB; have HB := n0_; have BK248 := n1_; have GW248 := n2_; have GE248 := n3_; clear n0_ n1_ n2_ n3_; clear hb hbox hg) | ((with_reducible refine gate_dst (N := 3) rfl ?_); refine box_event ?hg (N := 3) ?hd (cs := #[.int .i64 a1_0, .string a1_1, .string a1_2]) (t := 35) ?hr ?_; (case hd => rfl); (case hg => rfl); (case hr => first | (go_simp; done) | (go_simp; rfl)); intro gb249 hg w13 hbox hb; have n0_ := bkb BK248 hb; have n1_ := Aside0.mk (below_step (bz) hb); have n2_ := Aside0.mk (hbox); have n3_ : Aside0 (w.heap.size ≤ gb249) := bsg hg; have n4_ : Aside0 (w.heap.size ≤ gb249) := bsg hg; have n5_ := nlt hg BK248; have n6_ := ngt hg BK248; clear BK248; clear HB; have BK248 := n0_; have HB := n1_; have BK249 := n2_; have GW249 := n3_; have GE249 := n4_; have NB248_249 := n5_; have NB249_248 := n6_; clear n0_ n1_ n2_ n3_ n4_ n5_ n6_; clear hb hbox hg; have hnb14 := NB248_249.out; have hnc14 := NB249_248.out; have hcz15_0 : w13.cell? ⟨gb248, 0, none⟩ = some (.int .i64 a0_0) := (blk_cell BK248.out 0).trans rfl; have hcz15_1 : w13.cell? ⟨gb248, 1, none⟩ = some (.string a0_1) := (blk_cell BK248.out 1).trans rfl; have hcz15_2 : w13.cell? ⟨gb248, 2, none⟩ = some (.string a0_2) := (blk_cell BK248.out 2).trans rfl; have hfz15_0 := blk_frozen BK248.out 0; have hfz15_1 := blk_frozen BK248.out 1; have hfz15_2 := blk_frozen BK248.out 2; have hcz16_0 : w13.cell? ⟨gb249, 0, none⟩ = some (.int .i64 a1_0) := (blk_cell BK249.out 0).trans rfl; have hcz16_1 : w13.cell? ⟨gb249, 1, none⟩ = some (.string a1_1) := (blk_cell BK249.out 1).trans rfl; have hcz16_2 : w13.cell? ⟨gb249, 2, none⟩ = some (.string a1_2) := (blk_cell BK249.out 2).trans rfl; have hfz16_0 := blk_frozen BK249.out 0; have hfz16_1 := blk_frozen BK249.out 1; have hfz16_2 := blk_frozen BK249.out 2) | ((with_reducible refine gate_callee (f := 136) rfl ?_); refine goesL_ (some 14) rfl rfl Try.func136 (by kernel_rfl) rfl #[.agg #[.string a0_1, .string a0_2], .agg #[.string a1_1, .string a1_2]] rfl (by (try simp only [List.map_toArray, List.map_cons, List.map_nil]); first | done | rfl | (simp only [List.length_drop, List.length_take]; rfl)) ?_; (with_reducible refine (laws_eqInterval.calls a0_1 a0_2 a1_1 a1_2 false _ A4.out).mono ?_); rintro e w17 ⟨rfl, hb⟩; refine ⟨_, rfl, ?_⟩; have n0_ := bkb BK248 hb; have n1_ := bkb BK249 hb; have n2_ := Aside0.mk (below_step (bz) hb); clear BK248; clear BK249; clear HB; have BK248 := n0_; have BK249 := n1_; have HB := n2_; clear n0_ n1_ n2_; (try clear hb); (try clear hb2); (try clear hk); (try clear hi)))
   go_ret
   exact ⟨by first | rfl | (simp only [u8w, w64m]; rfl) | (simp [errW_none, errW_some] <;> rfl) | (simp [*, errW_none, errW_some] <;> rfl), bz⟩
 ·
  rw [if_neg c3] at H
  have c3b0 : (a0_0 == a1_0) = false := beq_eq_false_iff_ne.mpr c3
  have c3b1 : (a0_0 != a1_0) = true := bne_iff_ne.mpr c3
  obtain rfl := Option.some.inj H
  go_enter Try.func110, Try.ntmps110
  go_wp2_with (first | ((with_reducible refine gate_dst (N := 2) rfl ?_); refine box_event ?hg (N := 2) ?hd (cs := #[.int .i64 a0_0, .string a0_1, .string a0_2]) (t := 35) ?hr ?_; (case hd => rfl); (case hg => rfl); (case hr => first | (go_simp; done) | (go_simp; rfl)); intro gb248 hg w18 hbox hb; have n0_ := Aside0.mk (below_step (bz) hb); have n1_ := Aside0.mk (hbox); have n2_ : Aside0 (w.heap.size ≤ gb248) := bsg hg; have n3_ : Aside0 (w.heap.size ≤ gb248) := bsg hg; clear HB; have HB := n0_; have BK248 := n1_; have GW248 := n2_; have GE248 := n3_; clear n0_ n1_ n2_ n3_; clear hb hbox hg) | ((with_reducible refine gate_dst (N := 3) rfl ?_); refine box_event ?hg (N := 3) ?hd (cs := #[.int .i64 a1_0, .string a1_1, .string a1_2]) (t := 35) ?hr ?_; (case hd => rfl); (case hg => rfl); (case hr => first | (go_simp; done) | (go_simp; rfl)); intro gb249 hg w19 hbox hb; have n0_ := bkb BK248 hb; have n1_ := Aside0.mk (below_step (bz) hb); have n2_ := Aside0.mk (hbox); have n3_ : Aside0 (w.heap.size ≤ gb249) := bsg hg; have n4_ : Aside0 (w.heap.size ≤ gb249) := bsg hg; have n5_ := nlt hg BK248; have n6_ := ngt hg BK248; clear BK248; clear HB; have BK248 := n0_; have HB := n1_; have BK249 := n2_; have GW249 := n3_; have GE249 := n4_; have NB248_249 := n5_; have NB249_248 := n6_; clear n0_ n1_ n2_ n3_ n4_ n5_ n6_; clear hb hbox hg; have hnb20 := NB248_249.out; have hnc20 := NB249_248.out; have hcz21_0 : w19.cell? ⟨gb248, 0, none⟩ = some (.int .i64 a0_0) := (blk_cell BK248.out 0).trans rfl; have hcz21_1 : w19.cell? ⟨gb248, 1, none⟩ = some (.string a0_1) := (blk_cell BK248.out 1).trans rfl; have hcz21_2 : w19.cell? ⟨gb248, 2, none⟩ = some (.string a0_2) := (blk_cell BK248.out 2).trans rfl; have hfz21_0 := blk_frozen BK248.out 0; have hfz21_1 := blk_frozen BK248.out 1; have hfz21_2 := blk_frozen BK248.out 2; have hcz22_0 : w19.cell? ⟨gb249, 0, none⟩ = some (.int .i64 a1_0) := (blk_cell BK249.out 0).trans rfl; have hcz22_1 : w19.cell? ⟨gb249, 1, none⟩ = some (.string a1_1) := (blk_cell BK249.out 1).trans rfl; have hcz22_2 : w19.cell? ⟨gb249, 2, none⟩ = some (.string a1_2) := (blk_cell BK249.out 2).trans rfl; have hfz22_0 := blk_frozen BK249.out 0; have hfz22_1 := blk_frozen BK249.out 1; have hfz22_2 := blk_frozen BK249.out 2))
  go_ret
  exact ⟨by first | rfl | (simp only [u8w, w64m]; rfl) | (simp [errW_none, errW_some] <;> rfl) | (simp [*, errW_none, errW_some] <;> rfl), bz⟩

end Go.Proofs.Ytkjkokljgbpbbaa.PFnExactGiveUp
