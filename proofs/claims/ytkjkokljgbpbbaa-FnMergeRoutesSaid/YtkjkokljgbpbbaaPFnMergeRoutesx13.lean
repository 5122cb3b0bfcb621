/- Go functions as plain Lean functions, and for each a proof that its call comes to what the function says; under the conditions that each theorem names. Written by a program of this session. -/
import Derived.Test.YtkjkokljgbpbbaaPFnMergeRoutesx0
import Derived.Test.YtkjkokljgbpbbaaPFnMergeRoutesx7
import Derived.Test.YtkjkokljgbpbbaaPFnMergeRoutesx12
namespace Go.Proofs.Ytkjkokljgbpbbaa.PFnMergeRoutes
open Go.RowKit Go.Proofs.YtkjkokljgbpbbaaW.PrintWords Go.Proofs.YtkjkokljgbpbbaaW.PrintLast Go.Proofs.YtkjkokljgbpbbaaW.PrintMore
attribute [local go_sem high] str_gtr str_leq str_geq
attribute [local go_sem] max2_int min2_int max_two min_two max_three min_three max_four min_four   -- for this text's walks alone
set_option linter.unusedVariables false
set_option linter.unusedSimpArgs false

/-! ### spec_MergeRoutes: function 32 -/
def spec_MergeRoutes.j0 : Nat → List (S35) → Int → List (S35) → Int → Bool → Option ((List (S35)) × Bool)
 | 0, _, _, _, _, _ => none
 | k + 1, x0, x2, x8, x9, x28 => if x28 = true then (if x8.length + x0.length < 3518437208883 then (some ((x8 ++ x0), false)) else (none)) else (if 0 ≤ x9 then (if x9 < (x0.length : Int) then (if 0 ≤ (wrap64 (x9 + 1)) then (if (wrap64 (x9 + 1)) < (x0.length : Int) then ((spec_IntervalJoin.f k ((rd_T35 x0 x9).f1.f0) ((rd_T35 x0 x9).f1.f1) ((rd_T35 x0 (wrap64 (x9 + 1))).f1.f0) ((rd_T35 x0 (wrap64 (x9 + 1))).f1.f1)).bind fun bt384 => (if x9 ≤ (x0.length : Int) then ((some (x0.take (x9 : Int).toNat : List (S35))).bind fun y388 => (if x8.length + y388.length < 3518437208883 then ((some (x8 ++ y388 : List (S35))).bind fun y392 => (if y392.length < 3518437208883 then ((some (y392 ++ [(⟨x2, (⟨bt384.1, bt384.2.1⟩ : S31)⟩ : S35)] : List (S35))).bind fun y395 => (if 0 ≤ (wrap64 (x9 + 2)) then (if (wrap64 (x9 + 2)) ≤ (x0.length : Int) then ((some (x0.drop ((wrap64 (x9 + 2)) : Int).toNat : List (S35))).bind fun y398 => (if y395.length + y398.length < 3518437208883 then ((some (y395 ++ y398 : List (S35))).bind fun y402 => ((spec_RoutesValid.f k y402).bind fun t405 => (if t405 = true then (some (y402, true)) else ((some (([] : List (S35)) : List (S35))).bind fun y406 => (if y406.length + x0.length < 3518437208883 then (some ((y406 ++ x0), false)) else (none)))))) else (none))) else (none)) else (none))) else (none))) else (none))) else (none))) else (none)) else (none)) else (none)) else (none))
def spec_MergeRoutes.f (k : Nat) (l0 : List (S35)) (a1 : Int) (a2 : Int) : Option ((List (S35)) × Bool) := (some (([] : List (S35)) : List (S35))).bind fun y374 => ((spec_RoutesValid.f k l0).bind fun t377 => (if t377 = true then ((spec_l23Index.f k l0 a1).bind fun t378 => (if t378 < 0 then (spec_MergeRoutes.j0 k l0 a2 y374 t378 true) else (spec_MergeRoutes.j0 k l0 a2 y374 t378 (t378 == (wrap64 ((l0.length : Int) - 1)))))) else (some (y374, false))))
theorem spec_MergeRoutes.mono_l : ∀ k, (∀ y0 y1 y2 y3 y4, LeO (spec_MergeRoutes.j0 k y0 y1 y2 y3 y4) (spec_MergeRoutes.j0 (k + 1) y0 y1 y2 y3 y4))
 | 0 => fun _ _ _ _ _ r h => by simp [spec_MergeRoutes.j0] at h
 | k + 1 => by
  have ih0 := spec_MergeRoutes.mono_l k
  ·
   intro y0 y1 y2 y3 y4
   unfold spec_MergeRoutes.j0
   repeat' first
   | (with_reducible exact ih0 _ _ _ _ _)
   | (with_reducible exact spec_IntervalJoin.mono _ _ _ _ _)
   | (with_reducible exact spec_RoutesValid.mono _ _)
   | (with_reducible exact spec_l23Index.mono _ _ _)
   | (with_reducible exact LeO.refl _)
   | (with_reducible exact LeO.none _)
   | (with_reducible refine LeO.ite ?_ ?_)
   | (with_reducible refine LeO.bind ?_ (fun _ => ?_))
   | exact ih0 _ _ _ _ _
   | exact spec_IntervalJoin.mono _ _ _ _ _
   | exact spec_RoutesValid.mono _ _
   | exact spec_l23Index.mono _ _ _
   | exact LeO.none _
   | refine LeO.ite ?_ ?_
   | refine LeO.bind ?_ (fun _ => ?_)
theorem spec_MergeRoutes.mono : ∀ a0 a1 a2 k, LeO (spec_MergeRoutes.f k a0 a1 a2) (spec_MergeRoutes.f (k + 1) a0 a1 a2) := by
 intro a0 a1 a2 k
 have ih0 := spec_MergeRoutes.mono_l k
 unfold spec_MergeRoutes.f
 repeat' first
   | (with_reducible exact ih0 _ _ _ _ _)
   | (with_reducible exact spec_IntervalJoin.mono _ _ _ _ _)
   | (with_reducible exact spec_RoutesValid.mono _ _)
   | (with_reducible exact spec_l23Index.mono _ _ _)
   | (with_reducible exact LeO.refl _)
   | (with_reducible exact LeO.none _)
   | (with_reducible refine LeO.ite ?_ ?_)
   | (with_reducible refine LeO.bind ?_ (fun _ => ?_))
   | exact ih0 _ _ _ _ _
   | exact spec_IntervalJoin.mono _ _ _ _ _
   | exact spec_RoutesValid.mono _ _
   | exact spec_l23Index.mono _ _ _
   | exact LeO.none _
   | refine LeO.ite ?_ ?_
   | refine LeO.bind ?_ (fun _ => ?_)
def spec_MergeRoutes.T7 : Bool × List (List Nat × List Nat) := (true, [([], []), ([], []), ([0, 1], [0, 1]), ([2], [2]), ([3], [3]), ([], []), ([], []), ([6], [6]), ([5, 7], [5, 7]), ([8], [8]), ([9], [9]), ([4, 10], [4, 10]), ([11], [11]), ([12], [12]), ([12], [12]), ([], []), ([15, 13, 11, 0, 1, 2, 3, 4, 5, 6, 7, 8, 9, 10, 11, 12, 13, 15], [13, 15]), ([14, 16, 0, 1, 2, 3, 4, 5, 6, 7, 8, 9, 10, 11, 12, 13, 14, 15, 16], [14])])
def spec_MergeRoutes.B7 : List Nat := [0, 0, 3, 7, 15, 0, 0, 64, 224, 480, 992, 2047, 4095, 8191, 8191, 0, 49151, 131071]
theorem spec_MergeRoutes.tab7 : rtab .any (opsOf Try.f32 7) = spec_MergeRoutes.T7 := by kernel_rfl
theorem spec_MergeRoutes.bits7 : waitsOk spec_MergeRoutes.T7.2 spec_MergeRoutes.B7 = true := by kernel_rfl
set_option maxHeartbeats 8000000 in
set_option maxRecDepth 100000 in
theorem spec_MergeRoutes.calls (k : Nat) (A0 : Option Addr) (c0 : Nat) (l0 : List (S35)) (a1 : Int) (a2 : Int) (r1 : List (S35)) (r2 : Bool) (w : World) (hr0 : Kd.C k35 w A0 l0.length l0) (hc0 : l0.length ≤ c0) (h : spec_MergeRoutes.f k l0 a1 a2 = some (r1, r2)) :
  Calls Try.prog 32 #[.slice A0 l0.length c0, .int .i64 a1, .int .i64 a2] w fun e w' => ∃ v0_ : Value, e = .returned (.tuple #[v0_, .bool r2]) ∧ Kd.R k35 35 w' w.heap.size (fun _ => True) v0_ r1 ∧ Below w.heap.size w w' := by
 have hu31 := Try.underlying31
 have hu35 := Try.underlying35
 have HR0 := Aside0.mk hr0
 have HC0 := Aside0.mk hc0
 clear hr0 hc0
 have HB := Aside0.mk (Below.refl w.heap.size w)
 have H : ((some (([] : List (S35)) : List (S35))).bind fun y374 => ((spec_RoutesValid.f k l0).bind fun t377 => (if t377 = true then ((spec_l23Index.f k l0 a1).bind fun t378 => (if t378 < 0 then (spec_MergeRoutes.j0 k l0 a2 y374 t378 true) else (spec_MergeRoutes.j0 k l0 a2 y374 t378 (t378 == (wrap64 ((l0.length : Int) - 1)))))) else (some (y374, false))))) = some (r1, r2) := h
 clear h
 obtain ⟨y374, hy374⟩ : ∃ y_ : List (S35), y_ = (([] : List (S35))) := ⟨_, rfl⟩
 replace H : ((spec_RoutesValid.f k l0).bind fun t377 => (if t377 = true then ((spec_l23Index.f k l0 a1).bind fun t378 => (if t378 < 0 then (spec_MergeRoutes.j0 k l0 a2 y374 t378 true) else (spec_MergeRoutes.j0 k l0 a2 y374 t378 (t378 == (wrap64 ((l0.length : Int) - 1)))))) else (some (y374, false)))) = some (r1, r2) := by first | (rw [hy374]; with_reducible exact H) | (have H2_ := (Option.bind_some _ _).symm.trans H; rw [hy374]; with_reducible exact H2_) | (have H2_ := (Option.bind_some _ _).symm.trans H; with_reducible exact H2_) | with_reducible exact H | (rw [hy374]; exact H) | exact H
 have Ny374 := Aside0.mk hy374
 clear hy374
 replace H := Option.bind_eq_some_iff.mp H
 obtain ⟨t377, A40, H⟩ := H
 try dsimp only at H
 have A4 := Aside0.mk A40
 clear A40
 by_cases c5 : t377 = true
 ·
  subst c5
  rw [if_pos rfl] at H
  replace H := Option.bind_eq_some_iff.mp H
  obtain ⟨t378, A60, H⟩ := H
  try dsimp only at H
  have A6 := Aside0.mk A60
  clear A60
  have HC7 := Aside0.mk H
  clear H
  go_enter Try.func32, Try.ntmps32
  go_upto_region 5 with (first | ((with_reducible refine gate_dst (N := 12) rfl ?_); (try (refine gate_guard (by rfl) ?_; dsimp only)); refine Kd.R_lit k35 _ 35 ?hg (N := 12) ?hd (xs := ([] : List (S35))) (inner := []) (ok := fun _ => True) (okp := fun _ => True) ?hr ?hp (fun _ hk => hk) trivial (Below.refl _ _) (Nat.le_refl _) (by simp) ?_; (case hd => rfl); (case hg => rfl); (case hr => first | (go_simp; done) | (go_simp; rfl)); (case hp => exact (Reps.none _ _)); intro v375 w8 ho9 hb hg_ hnew_; clear hg_ hnew_; (first | rw [← Ny374.out] at ho9 | (simp only [Int.reduceToNat] at ho9; rw [← Ny374.out] at ho9)); have n0_ := Aside0.mk (Kd.R_lower ho9 (below_size (bz))); have n1_ := Aside0.mk (below_step (bz) hb); clear HB; have HO376 := n0_; have HB := n1_; clear n0_ n1_; clear hb ho9) | ((with_reducible refine gate_callee (f := 75) rfl ?_); refine goesL_ (some 14) rfl rfl Try.func75 (by kernel_rfl) rfl #[.slice A0 l0.length c0] rfl (by (try simp only [List.map_toArray, List.map_cons, List.map_nil]); first | done | rfl | (simp only [List.length_drop, List.length_take]; rfl)) ?_; (with_reducible refine (spec_RoutesValid.calls k _ _ l0 true _ ?side1 ?side2 A4.out).mono ?_); (case side1 => repeat (first | exact (Kd.C_below HR0.out HB.out) | (with_reducible refine Kd.C_alloc ?_ _) | (with_reducible refine Kd.C_drewN ?_ _) | (with_reducible refine Kd.C_drew ?_))); (case side2 => exact HC0.out); rintro e w10 ⟨rfl, hb⟩; refine ⟨_, rfl, ?_⟩; have n0_ := Aside0.mk (Kd.R_below (by (with_reducible repeat (first | apply Kd.R_alloc | apply Kd.R_drewN | apply Kd.R_drew)); exact HO376.out) hb); have n1_ := Aside0.mk (below_step (bz) hb); clear HO376; clear HB; have HO376 := n0_; have HB := n1_; clear n0_ n1_; (try clear hb); (try clear hb2); (try clear hk); (try clear hi)) | ((with_reducible refine gate_callee (f := 97) rfl ?_); refine goesL_ (some 19) rfl rfl Try.func97 (by kernel_rfl) rfl #[.slice A0 l0.length c0, .int .i64 a1] rfl (by (try simp only [List.map_toArray, List.map_cons, List.map_nil]); first | done | rfl | (simp only [List.length_drop, List.length_take]; rfl)) ?_; (with_reducible refine (spec_l23Index.calls k _ _ l0 a1 t378 _ ?side1 ?side2 A6.out).mono ?_); (case side1 => repeat (first | exact (Kd.C_below HR0.out HB.out) | (with_reducible refine Kd.C_alloc ?_ _) | (with_reducible refine Kd.C_drewN ?_ _) | (with_reducible refine Kd.C_drew ?_))); (case side2 => exact HC0.out); rintro e w' ⟨rfl, ⟨nd, rfl⟩⟩; refine ⟨_, rfl, ?_⟩))
  (try simp only [Act.put, List.setIfInBounds_toArray, List.set_cons_zero, List.set_cons_succ])
  go_cut [28] (fun v28 wc => ∃ (kq : Nat) (x28_6 : Bool), v28 = .bool x28_6 ∧ Aside0 (spec_MergeRoutes.j0 kq l0 a2 y374 t378 x28_6 = some (r1, r2)) ∧ Aside0 (kq ≤ k) ∧ Aside0 (Kd.R k35 35 wc w.heap.size (fun _ => True) v375 y374) ∧ Aside0 (Below w.heap.size w wc))
  case first =>
   have H := HC7.out
   clear HC7
   by_cases c11 : t378 < 0
   ·
    rw [if_pos c11] at H
    have c11b0 : decide (t378 < 0) = true := decide_eq_true c11
    clear c11
    (first | rw [c11b0] | (simp only [i64_w, i32_w]; rw [c11b0]) | skip)
    have H' := Aside0.mk H
    clear H
    go_wp2
    go_meet
    case rel => exact ⟨_, (true), (by first | rfl | (simp; done) | exact congrArg Value.bool (ne_nil_b _) | exact congrArg Value.bool (eq_nil_b _) | (simp [*]; done)), H', ⟨by first | omega | exact Nat.le_refl _⟩, ⟨by (with_reducible repeat (first | apply Kd.R_alloc | apply Kd.R_drewN | apply Kd.R_drew)); exact HO376.out⟩, ⟨bz⟩⟩
   ·
    rw [if_neg c11] at H
    have c11b0 : decide (t378 < 0) = false := decide_eq_false c11
    clear c11
    (first | rw [c11b0] | (simp only [i64_w, i32_w]; rw [c11b0]) | skip)
    have H' := Aside0.mk H
    clear H
    go_wp2
    go_meet
    case rel => exact ⟨_, ((t378 == (wrap64 ((l0.length : Int) - 1)))), (by first | rfl | (simp; done) | exact congrArg Value.bool (ne_nil_b _) | exact congrArg Value.bool (eq_nil_b _) | (simp [*]; done)), H', ⟨by first | omega | exact Nat.le_refl _⟩, ⟨by (with_reducible repeat (first | apply Kd.R_alloc | apply Kd.R_drewN | apply Kd.R_drew)); exact HO376.out⟩, ⟨bz⟩⟩
  case rest =>
   clear HC7
   try clear c1
   try clear p2
   try clear c3
   try clear c5
   try clear p6
   try clear c7
   try clear c9
   try clear c11
   try clear c11b0
   obtain ⟨kq, x28_6, rfl, HA, HJ6, HO_8, HB⟩ := hcut
   cases kq with
   | zero => exact absurd HA.out (by simp [spec_MergeRoutes.j0])
   | succ kj6 =>
    have H := HA.out
    clear HA
    simp only [spec_MergeRoutes.j0] at H
    by_cases c12 : x28_6 = true
    ·
     subst c12
     rw [if_pos rfl] at H
     by_cases c13 : y374.length + l0.length < 3518437208883
     ·
      rw [if_pos c13] at H
      have LMc13 := Aside0.mk c13
      clear c13
      obtain ⟨y379, hy379⟩ : ∃ y_ : List (S35), y_ = (y374 ++ l0) := ⟨_, rfl⟩
      replace H : (some (y379, false)) = some (r1, r2) := by first | (rw [hy379]; with_reducible exact H) | (have H2_ := (Option.bind_some _ _).symm.trans H; rw [hy379]; with_reducible exact H2_) | (have H2_ := (Option.bind_some _ _).symm.trans H; with_reducible exact H2_) | with_reducible exact H | (rw [hy379]; exact H) | exact H
      have Ny379 := Aside0.mk hy379
      clear hy379
      simp only [Option.some.injEq, Prod.mk.injEq] at H
      obtain ⟨rfl, rfl⟩ := H
      go_wp2_with (first | ((with_reducible refine gate_builtin (b := .append) (xs := #[.tmp 29, .tmp 30]) rfl ?_); (try (refine gate_guard (by rfl) ?_; dsimp only)); at_builtin; refine Kd.R_append_rows k35 (w0 := w) w.heap.size rfl (.tmp 29) (.tmp 30) 23 35 (.agg #[(.int .i64 0), (.string ⟨#[]⟩), (.string ⟨#[]⟩)]) 40 rfl Try.underlying23 info35 rfl (by decide) (by omega) v375 y374 l0 _ _ _ (fun _ => True) (fun _ => False) rfl rfl ?aO ?aR (fun _ _ h => h) (fun _ h => h.elim) ?aF ?aB ?aS ?aL ?_; (case aR => repeat (first | exact (Kd.C_below HR0.out HB.out) | (with_reducible refine Kd.C_alloc ?_ _) | (with_reducible refine Kd.C_drewN ?_ _) | (with_reducible refine Kd.C_drew ?_))); (case aB => exact (bz)); (case aF => exact (fun _ _ => trivial)); (case aO => exact (by (with_reducible repeat (first | apply Kd.R_alloc | apply Kd.R_drewN | apply Kd.R_drew)); exact HO_8.out)); (case aS => exact (below_size (bz))); (case aL => have := LMc13.out; omega); intro v380 w14 ho hb hg hat; rw [← Ny379.out] at ho; have n0_ := Aside0.mk (hb); have n1_ := Aside0.mk (ho); clear HB; clear HO_8; have HB := n0_; have HO381 := n1_; clear n0_ n1_; clear ho hb hg hat))
      go_ret2
      exact ⟨_, by first | rfl | (simp only [u8w, w64m]; rfl) | (simp [errW_none, errW_some] <;> rfl) | (simp [*, errW_none, errW_some] <;> rfl), by (with_reducible repeat (first | apply Kd.R_alloc | apply Kd.R_drewN | apply Kd.R_drew)); exact HO381.out, bz⟩
     ·
      rw [if_neg c13] at H
      exact absurd H (by simp)
    ·
     replace c12 := Bool.eq_false_iff.mpr c12
     subst c12
     rw [if_neg (show ¬ (false = true) by decide)] at H
     by_cases c15 : 0 ≤ t378
     ·
      rw [if_pos c15] at H
      have c15b0 : decide (0 ≤ t378) = true := decide_eq_true c15
      clear c15
      by_cases c16 : t378 < (l0.length : Int)
      ·
       rw [if_pos c16] at H
       have c16b0 : decide (t378 < (l0.length : Int)) = true := decide_eq_true c16
       clear c16
       obtain ⟨ji17, hji17⟩ : ∃ j_ : Int, (wrap64 (t378 + 1)) = j_ := ⟨_, rfl⟩
       replace H : (if 0 ≤ (ji17) then (if (ji17) < (l0.length : Int) then ((spec_IntervalJoin.f kj6 ((rd_T35 l0 t378).f1.f0) ((rd_T35 l0 t378).f1.f1) ((rd_T35 l0 (ji17)).f1.f0) ((rd_T35 l0 (ji17)).f1.f1)).bind fun bt384 => (if t378 ≤ (l0.length : Int) then ((some (l0.take (t378 : Int).toNat : List (S35))).bind fun y388 => (if y374.length + y388.length < 3518437208883 then ((some (y374 ++ y388 : List (S35))).bind fun y392 => (if y392.length < 3518437208883 then ((some (y392 ++ [(⟨a2, (⟨bt384.1, bt384.2.1⟩ : S31)⟩ : S35)] : List (S35))).bind fun y395 => (if 0 ≤ (wrap64 (t378 + 2)) then (if (wrap64 (t378 + 2)) ≤ (l0.length : Int) then ((some (l0.drop ((wrap64 (t378 + 2)) : Int).toNat : List (S35))).bind fun y398 => (if y395.length + y398.length < 3518437208883 then ((some (y395 ++ y398 : List (S35))).bind fun y402 => ((spec_RoutesValid.f kj6 y402).bind fun t405 => (if t405 = true then (some (y402, true)) else ((some (([] : List (S35)) : List (S35))).bind fun y406 => (if y406.length + l0.length < 3518437208883 then (some ((y406 ++ l0), false)) else (none)))))) else (none))) else (none)) else (none))) else (none))) else (none))) else (none))) else (none)) else (none)) = some (r1, r2) := by first | (rw [hji17] at H; exact H) | (simp only [hji17] at H ⊢; exact H)
       have hji17w : (IntKind.i64.wrap (t378 + 1)) = ji17 := (i64_w _).trans hji17
       by_cases c18 : 0 ≤ (ji17)
       ·
        rw [if_pos c18] at H
        have c18b0 : decide (0 ≤ (ji17)) = true := decide_eq_true c18
        clear c18
        by_cases c19 : (ji17) < (l0.length : Int)
        ·
         rw [if_pos c19] at H
         have c19b0 : decide ((ji17) < (l0.length : Int)) = true := decide_eq_true c19
         clear c19
         replace H := Option.bind_eq_some_iff.mp H
         obtain ⟨⟨t384, t385, t386⟩, A200, H⟩ := H
         try dsimp only at H
         have A20 := Aside0.mk A200
         clear A200
         have c21b0 := eq_true (of_decide_eq_true (by first | (with_reducible assumption) | assumption) : 0 ≤ t378)
         by_cases c22 : t378 ≤ (l0.length : Int)
         ·
          rw [if_pos c22] at H
          have c22b0 := eq_true c22
          have c22b1 : decide (t378 ≤ (l0.length : Int)) = true := decide_eq_true c22
          clear c22
          obtain ⟨y388, hy388⟩ : ∃ y_ : List (S35), y_ = (l0.take (t378 : Int).toNat) := ⟨_, rfl⟩
          replace H : (if y374.length + y388.length < 3518437208883 then ((some (y374 ++ y388 : List (S35))).bind fun y392 => (if y392.length < 3518437208883 then ((some (y392 ++ [(⟨a2, (⟨t384, t385⟩ : S31)⟩ : S35)] : List (S35))).bind fun y395 => (if 0 ≤ (wrap64 (t378 + 2)) then (if (wrap64 (t378 + 2)) ≤ (l0.length : Int) then ((some (l0.drop ((wrap64 (t378 + 2)) : Int).toNat : List (S35))).bind fun y398 => (if y395.length + y398.length < 3518437208883 then ((some (y395 ++ y398 : List (S35))).bind fun y402 => ((spec_RoutesValid.f kj6 y402).bind fun t405 => (if t405 = true then (some (y402, true)) else ((some (([] : List (S35)) : List (S35))).bind fun y406 => (if y406.length + l0.length < 3518437208883 then (some ((y406 ++ l0), false)) else (none)))))) else (none))) else (none)) else (none))) else (none))) else (none)) = some (r1, r2) := by first | (rw [hy388]; with_reducible exact H) | (have H2_ := (Option.bind_some _ _).symm.trans H; rw [hy388]; with_reducible exact H2_) | (have H2_ := (Option.bind_some _ _).symm.trans H; with_reducible exact H2_) | with_reducible exact H | (rw [hy388]; exact H) | exact H
          have Ny388 := Aside0.mk hy388
          clear hy388
          by_cases c23 : y374.length + y388.length < 3518437208883
          ·
           rw [if_pos c23] at H
           have LMc23 := Aside0.mk c23
           clear c23
           obtain ⟨y392, hy392⟩ : ∃ y_ : List (S35), y_ = (y374 ++ y388) := ⟨_, rfl⟩
           replace H : (if y392.length < 3518437208883 then ((some (y392 ++ [(⟨a2, (⟨t384, t385⟩ : S31)⟩ : S35)] : List (S35))).bind fun y395 => (if 0 ≤ (wrap64 (t378 + 2)) then (if (wrap64 (t378 + 2)) ≤ (l0.length : Int) then ((some (l0.drop ((wrap64 (t378 + 2)) : Int).toNat : List (S35))).bind fun y398 => (if y395.length + y398.length < 3518437208883 then ((some (y395 ++ y398 : List (S35))).bind fun y402 => ((spec_RoutesValid.f kj6 y402).bind fun t405 => (if t405 = true then (some (y402, true)) else ((some (([] : List (S35)) : List (S35))).bind fun y406 => (if y406.length + l0.length < 3518437208883 then (some ((y406 ++ l0), false)) else (none)))))) else (none))) else (none)) else (none))) else (none)) = some (r1, r2) := by first | (rw [hy392]; with_reducible exact H) | (have H2_ := (Option.bind_some _ _).symm.trans H; rw [hy392]; with_reducible exact H2_) | (have H2_ := (Option.bind_some _ _).symm.trans H; with_reducible exact H2_) | with_reducible exact H | (rw [hy392]; exact H) | exact H
           have Ny392 := Aside0.mk hy392
           clear hy392
           by_cases c24 : y392.length < 3518437208883
           ·
            rw [if_pos c24] at H
            have LMc24 := Aside0.mk c24
            clear c24
            obtain ⟨y395, hy395⟩ : ∃ y_ : List (S35), y_ = (y392 ++ [(⟨a2, (⟨t384, t385⟩ : S31)⟩ : S35)]) := ⟨_, rfl⟩
            replace H : (if 0 ≤ (wrap64 (t378 + 2)) then (if (wrap64 (t378 + 2)) ≤ (l0.length : Int) then ((some (l0.drop ((wrap64 (t378 + 2)) : Int).toNat : List (S35))).bind fun y398 => (if y395.length + y398.length < 3518437208883 then ((some (y395 ++ y398 : List (S35))).bind fun y402 => ((spec_RoutesValid.f kj6 y402).bind fun t405 => (if t405 = true then (some (y402, true)) else ((some (([] : List (S35)) : List (S35))).bind fun y406 => (if y406.length + l0.length < 3518437208883 then (some ((y406 ++ l0), false)) else (none)))))) else (none))) else (none)) else (none)) = some (r1, r2) := by first | (rw [hy395]; with_reducible exact H) | (have H2_ := (Option.bind_some _ _).symm.trans H; rw [hy395]; with_reducible exact H2_) | (have H2_ := (Option.bind_some _ _).symm.trans H; with_reducible exact H2_) | with_reducible exact H | (rw [hy395]; exact H) | exact H
            have Ny395 := Aside0.mk hy395
            clear hy395
            obtain ⟨ji25, hji25⟩ : ∃ j_ : Int, (wrap64 (t378 + 2)) = j_ := ⟨_, rfl⟩
            replace H : (if 0 ≤ (ji25) then (if (ji25) ≤ (l0.length : Int) then ((some (l0.drop ((ji25) : Int).toNat : List (S35))).bind fun y398 => (if y395.length + y398.length < 3518437208883 then ((some (y395 ++ y398 : List (S35))).bind fun y402 => ((spec_RoutesValid.f kj6 y402).bind fun t405 => (if t405 = true then (some (y402, true)) else ((some (([] : List (S35)) : List (S35))).bind fun y406 => (if y406.length + l0.length < 3518437208883 then (some ((y406 ++ l0), false)) else (none)))))) else (none))) else (none)) else (none)) = some (r1, r2) := by first | (rw [hji25] at H; exact H) | (simp only [hji25] at H ⊢; exact H)
            (try rw [hji25] at A20)
            have hji25w : (IntKind.i64.wrap (t378 + 2)) = ji25 := (i64_w _).trans hji25
            by_cases c26 : 0 ≤ (ji25)
            ·
             rw [if_pos c26] at H
             have c26b0 := eq_true c26
             have c26b1 : decide (0 ≤ (ji25)) = true := decide_eq_true c26
             clear c26
             by_cases c27 : (ji25) ≤ (l0.length : Int)
             ·
              rw [if_pos c27] at H
              have c27b0 := eq_true c27
              have c27b1 : decide ((ji25) ≤ (l0.length : Int)) = true := decide_eq_true c27
              clear c27
              obtain ⟨y398, hy398⟩ : ∃ y_ : List (S35), y_ = (l0.drop ((ji25) : Int).toNat) := ⟨_, rfl⟩
              replace H : (if y395.length + y398.length < 3518437208883 then ((some (y395 ++ y398 : List (S35))).bind fun y402 => ((spec_RoutesValid.f kj6 y402).bind fun t405 => (if t405 = true then (some (y402, true)) else ((some (([] : List (S35)) : List (S35))).bind fun y406 => (if y406.length + l0.length < 3518437208883 then (some ((y406 ++ l0), false)) else (none)))))) else (none)) = some (r1, r2) := by first | (rw [hy398]; with_reducible exact H) | (have H2_ := (Option.bind_some _ _).symm.trans H; rw [hy398]; with_reducible exact H2_) | (have H2_ := (Option.bind_some _ _).symm.trans H; with_reducible exact H2_) | with_reducible exact H | (rw [hy398]; exact H) | exact H
              have Ny398 := Aside0.mk hy398
              clear hy398
              by_cases c28 : y395.length + y398.length < 3518437208883
              ·
               rw [if_pos c28] at H
               have LMc28 := Aside0.mk c28
               clear c28
               obtain ⟨y402, hy402⟩ : ∃ y_ : List (S35), y_ = (y395 ++ y398) := ⟨_, rfl⟩
               replace H : ((spec_RoutesValid.f kj6 y402).bind fun t405 => (if t405 = true then (some (y402, true)) else ((some (([] : List (S35)) : List (S35))).bind fun y406 => (if y406.length + l0.length < 3518437208883 then (some ((y406 ++ l0), false)) else (none))))) = some (r1, r2) := by first | (rw [hy402]; with_reducible exact H) | (have H2_ := (Option.bind_some _ _).symm.trans H; rw [hy402]; with_reducible exact H2_) | (have H2_ := (Option.bind_some _ _).symm.trans H; with_reducible exact H2_) | with_reducible exact H | (rw [hy402]; exact H) | exact H
               have Ny402 := Aside0.mk hy402
               clear hy402
               replace H := Option.bind_eq_some_iff.mp H
               obtain ⟨t405, A290, H⟩ := H
               try dsimp only at H
               have A29 := Aside0.mk A290
               clear A290
               by_cases c30 : t405 = true
               ·
                subst c30
                rw [if_pos rfl] at H
                simp only [Option.some.injEq, Prod.mk.injEq] at H
                obtain ⟨rfl, rfl⟩ := H
                try go_wp2
                have n0_ := Aside0.mk (Kd.R_drew HO_8.out)
                have n1_ := Aside0.mk (below_drew1 HB.out)
                clear HO_8
                clear HB
                have HO_8 := n0_
                have HB := n1_
                clear n0_ n1_
                have p382 : 0 ≤ (t378 : Int) := of_decide_eq_true (by first | (with_reducible assumption) | assumption)
                have q382 : t378 < (l0.length : Int) := of_decide_eq_true (by first | (with_reducible assumption) | assumption)
                obtain ⟨ad382, e382, hx382_0, hx382_1, hx382_2⟩ := at_T35 HR0.out t378 p382 q382
                have hw382_2 := hx382_2
                have hw382_1 := hx382_1
                have hw382_0 := hx382_0
                cases e382
                replace hx382_0 := (HB.out.cell (World.block_lt_of_cell? w _ hx382_0)).trans hx382_0
                replace hx382_1 := (HB.out.cell (World.block_lt_of_cell? w _ hx382_1)).trans hx382_1
                replace hx382_2 := (HB.out.cell (World.block_lt_of_cell? w _ hx382_2)).trans hx382_2
                replace p382 := eq_true p382
                replace q382 := eq_true q382
                have p383 : 0 ≤ ((ji17) : Int) := of_decide_eq_true (by first | (with_reducible assumption) | assumption)
                have q383 : (ji17) < (l0.length : Int) := of_decide_eq_true (by first | (with_reducible assumption) | assumption)
                obtain ⟨ad383, e383, hx383_0, hx383_1, hx383_2⟩ := at_T35 HR0.out (ji17) p383 q383
                have hw383_2 := hx383_2
                have hw383_1 := hx383_1
                have hw383_0 := hx383_0
                obtain rfl : ad382 = ad383 := (by injection e383)
                replace hx383_0 := (HB.out.cell (World.block_lt_of_cell? w _ hx383_0)).trans hx383_0
                replace hx383_1 := (HB.out.cell (World.block_lt_of_cell? w _ hx383_1)).trans hx383_1
                replace hx383_2 := (HB.out.cell (World.block_lt_of_cell? w _ hx383_2)).trans hx383_2
                replace p383 := eq_true p383
                replace q383 := eq_true q383
                refine start_ (n := 18) (S := fun w' => w'.cell? (ad382.add ((t378).toNat * 3)) = some (.int .i64 ((rd_T35 l0 t378).f0)) ∧ w'.cell? ⟨(ad382.add ((t378).toNat * 3)).block, (ad382.add ((t378).toNat * 3)).off + 1, none⟩ = some (.string ((rd_T35 l0 t378).f1.f0)) ∧ w'.cell? ⟨(ad382.add ((t378).toNat * 3)).block, (ad382.add ((t378).toNat * 3)).off + 2, none⟩ = some (.string ((rd_T35 l0 t378).f1.f1)) ∧ w'.cell? (ad382.add (((ji17)).toNat * 3)) = some (.int .i64 ((rd_T35 l0 (ji17)).f0)) ∧ w'.cell? ⟨(ad382.add (((ji17)).toNat * 3)).block, (ad382.add (((ji17)).toNat * 3)).off + 1, none⟩ = some (.string ((rd_T35 l0 (ji17)).f1.f0)) ∧ w'.cell? ⟨(ad382.add (((ji17)).toNat * 3)).block, (ad382.add (((ji17)).toNat * 3)).off + 2, none⟩ = some (.string ((rd_T35 l0 (ji17)).f1.f1))) (ds := []) #[false, false, false, false, false, false, false, false, false, false, false, false, false, false, false, false, false, false] (by kernel_rfl) rfl rfl ⟨((HB.out.cell (World.block_lt_of_cell? w _ hw382_0)).trans hw382_0), ((HB.out.cell (World.block_lt_of_cell? w _ hw382_1)).trans hw382_1), ((HB.out.cell (World.block_lt_of_cell? w _ hw382_2)).trans hw382_2), ((HB.out.cell (World.block_lt_of_cell? w _ hw383_0)).trans hw383_0), ((HB.out.cell (World.block_lt_of_cell? w _ hw383_1)).trans hw383_1), ((HB.out.cell (World.block_lt_of_cell? w _ hw383_2)).trans hw383_2)⟩ (fun hHeld => ?_); refine with_tabW spec_MergeRoutes.tab7 spec_MergeRoutes.bits7 (fun HT_ HW_ => ?_)
                generalize wc.drew = w31 at HO_8 HB hx382_0 hx382_1 hx382_2 hx383_0 hx383_1 hx383_2 hHeld ⊢
                refine pure_ (i := 0) (N := some 33) (v := ?_) (a' := ?_) #[true, false, false, false, false, false, false, false, false, false, false, false, false, false, false, false, false, false] rfl rfl (any_of HT_.out (by kernel_rfl)) (fun _ _ _ h => h) (Or.inl ⟨by rfl, ?_⟩) ?_ ?_
                rotate_left
                ·
                 intro w'
                 go_simp
                 with_reducible rfl
                rotate_left
                ·
                 simp only [sx]
                 rfl
                refine pure_ (i := 1) (N := some 34) (v := ?_) (a' := ?_) #[true, true, false, false, false, false, false, false, false, false, false, false, false, false, false, false, false, false] rfl rfl (any_of HT_.out (by kernel_rfl)) (fun _ _ _ h => h) (Or.inl ⟨by rfl, ?_⟩) ?_ ?_
                rotate_left
                ·
                 intro w'
                 go_simp
                 with_reducible rfl
                rotate_left
                ·
                 simp only [sx]
                 rfl
                refine pure_ (i := 2) (N := some 35) (v := ?_) (a' := ?_) #[true, true, true, false, false, false, false, false, false, false, false, false, false, false, false, false, false, false] rfl rfl (any_of HT_.out (by kernel_rfl)) (fun _ _ _ h => h) (Or.inl ⟨by rfl, ?_⟩) ?_ ?_
                rotate_left
                ·
                 intro w'
                 go_simp
                 with_reducible rfl
                rotate_left
                ·
                 simp only [sx]
                 rfl
                refine pure_ (i := 3) (N := some 36) (v := ?_) (a' := ?_) #[true, true, true, true, false, false, false, false, false, false, false, false, false, false, false, false, false, false] rfl rfl (any_of HT_.out (by kernel_rfl)) (fun _ _ _ h => h) (Or.inl ⟨by rfl, ?_⟩) ?_ ?_
                rotate_left
                ·
                 intro w'
                 go_simp
                 with_reducible rfl
                rotate_left
                ·
                 simp only [sx]
                 rfl
                refine pure_ (i := 5) (N := some 38) (v := ?_) (a' := ?_) #[true, true, true, true, false, true, false, false, false, false, false, false, false, false, false, false, false, false] rfl rfl (any_of HT_.out (by kernel_rfl)) (fun _ _ _ h => h) (Or.inl ⟨by rfl, ?_⟩) ?_ ?_
                rotate_left
                ·
                 intro w'
                 go_simp
                 with_reducible rfl
                rotate_left
                ·
                 simp only [sx]
                 rfl
                refine pure_ (i := 6) (N := some 39) (v := ?_) (a' := ?_) #[true, true, true, true, false, true, true, false, false, false, false, false, false, false, false, false, false, false] rfl rfl (any_of HT_.out (by kernel_rfl)) (fun _ _ _ h => h) (Or.inl ⟨by rfl, ?_⟩) ?_ ?_
                rotate_left
                ·
                 intro w'
                 go_simp
                 with_reducible rfl
                rotate_left
                ·
                 simp only [sx]
                 rfl
                refine pure_ (i := 7) (N := some 40) (v := ?_) (a' := ?_) #[true, true, true, true, false, true, true, true, false, false, false, false, false, false, false, false, false, false] rfl rfl (any_of HT_.out (by kernel_rfl)) (fun _ _ _ h => h) (Or.inl ⟨by rfl, ?_⟩) ?_ ?_
                rotate_left
                ·
                 intro w'
                 go_simp
                 with_reducible rfl
                rotate_left
                ·
                 simp only [sx]
                 rfl
                refine pure_ (i := 8) (N := some 41) (v := ?_) (a' := ?_) #[true, true, true, true, false, true, true, true, true, false, false, false, false, false, false, false, false, false] rfl rfl (any_of HT_.out (by kernel_rfl)) (fun _ _ _ h => h) (Or.inl ⟨by rfl, ?_⟩) ?_ ?_
                rotate_left
                ·
                 intro w'
                 go_simp
                 with_reducible rfl
                rotate_left
                ·
                 simp only [sx]
                 rfl
                refine pure_ (i := 9) (N := some 42) (v := ?_) (a' := ?_) #[true, true, true, true, false, true, true, true, true, true, false, false, false, false, false, false, false, false] rfl rfl (any_of HT_.out (by kernel_rfl)) (fun _ _ _ h => h) (Or.inl ⟨by rfl, ?_⟩) ?_ ?_
                rotate_left
                ·
                 intro w'
                 go_simp
                 with_reducible rfl
                rotate_left
                ·
                 simp only [sx]
                 rfl
                refine take_ (i := 4) (N := some 37) (v := ?_) (a' := ?_) #[true, true, true, true, true, true, true, true, true, true, false, false, false, false, false, false, false, false] rfl rfl (take_ofW HT_.out HW_.out (by kernel_rfl)) (fun _ _ _ h => h) (Or.inl ⟨by rfl, ?_⟩) hHeld ?_ ?_
                rotate_left
                ·
                 rintro w' ⟨s0, s1, s2, s3, s4, s5⟩
                 go_simp
                 with_reducible rfl
                rotate_left
                ·
                 simp only [sx]
                 rfl
                refine take_ (i := 10) (N := some 43) (v := ?_) (a' := ?_) #[true, true, true, true, true, true, true, true, true, true, true, false, false, false, false, false, false, false] rfl rfl (take_ofW HT_.out HW_.out (by kernel_rfl)) (fun _ _ _ h => h) (Or.inl ⟨by rfl, ?_⟩) hHeld ?_ ?_
                rotate_left
                ·
                 rintro w' ⟨s0, s1, s2, s3, s4, s5⟩
                 go_simp
                 with_reducible rfl
                rotate_left
                ·
                 simp only [sx]
                 rfl
                refine join_ (σ := Nat) 2 #[true, true, true, true, true, true, true, true, true, true, true, true, true, true, true, true, false, false] (fun s_ => [(44, .tuple #[.agg #[.string t384, .string t385], .bool t386]), (10, .pointer (some ⟨s_, 0, none⟩)), (32, .tuple #[.agg #[.string t384, .string t385], .bool t386]), (45, .agg #[.string t384, .string t385]), (46, .bool t386)]) (fun s_ w' => (w'.cell? (ad382.add ((t378).toNat * 3)) = some (.int .i64 ((rd_T35 l0 t378).f0)) ∧ w'.cell? ⟨(ad382.add ((t378).toNat * 3)).block, (ad382.add ((t378).toNat * 3)).off + 1, none⟩ = some (.string ((rd_T35 l0 t378).f1.f0)) ∧ w'.cell? ⟨(ad382.add ((t378).toNat * 3)).block, (ad382.add ((t378).toNat * 3)).off + 2, none⟩ = some (.string ((rd_T35 l0 t378).f1.f1)) ∧ w'.cell? (ad382.add (((ji17)).toNat * 3)) = some (.int .i64 ((rd_T35 l0 (ji17)).f0)) ∧ w'.cell? ⟨(ad382.add (((ji17)).toNat * 3)).block, (ad382.add (((ji17)).toNat * 3)).off + 1, none⟩ = some (.string ((rd_T35 l0 (ji17)).f1.f0)) ∧ w'.cell? ⟨(ad382.add (((ji17)).toNat * 3)).block, (ad382.add (((ji17)).toNat * 3)).off + 2, none⟩ = some (.string ((rd_T35 l0 (ji17)).f1.f1))) ∧ (Kd.R k35 35 w' w.heap.size (fun _ => True) v375 y374) ∧ (w'.heap[s_]? = some (.cells #[.string (⟨#[]⟩ : ByteArray), .string (⟨#[]⟩ : ByteArray)] 31 (0, 0))) ∧ (w.heap.size ≤ s_) ∧ (w.heap.size ≤ s_) ∧ (Below w.heap.size w w')) ?_ ?_
                rotate_left
                ·
                 intro hCont
                 refine two_ (i := 11) (j := 15) (Ni := some 44) (Nj := some 10) #[true, true, true, true, true, true, true, true, true, true, true, true, false, false, false, false, false, false] #[true, true, true, true, true, true, true, true, true, true, true, false, false, false, false, true, false, false] rfl rfl rfl rfl (two_of HT_.out (by kernel_rfl)) (by decide) (by decide) (fun K hK => ?_) (fun K hK => ?_)
                 ·
                  skip
                  refine goes_ Try.func98 (by kernel_rfl) rfl #[.agg #[.string ((rd_T35 l0 t378).f1.f0), .string ((rd_T35 l0 t378).f1.f1)], .agg #[.string ((rd_T35 l0 (ji17)).f1.f0), .string ((rd_T35 l0 (ji17)).f1.f1)]] (by rfl) rfl rfl (by (try simp only [List.map_toArray, List.map_cons, List.map_nil]); first | done | (simp only [hji17]; rfl) | rfl | (simp only [List.length_drop, List.length_take]; rfl)) ?_
                  with_reducible refine (spec_IntervalJoin.calls kj6 ((rd_T35 l0 t378).f1.f0) ((rd_T35 l0 t378).f1.f1) ((rd_T35 l0 (ji17)).f1.f0) ((rd_T35 l0 (ji17)).f1.f1) t384 t385 t386 _ A20.out).mono ?_
                  rintro e w32 ⟨rfl, hb⟩
                  refine ⟨_, rfl, ?_⟩
                  have n0_ := Aside0.mk (Kd.R_below (by (with_reducible repeat (first | apply Kd.R_alloc | apply Kd.R_drewN | apply Kd.R_drew)); exact HO_8.out) hb)
                  have n1_ := Aside0.mk (below_step (bz) hb)
                  clear HO_8
                  clear HB
                  have HO_8 := n0_
                  have HB := n1_
                  clear n0_ n1_
                  (try clear hb)
                  (try clear hb2)
                  (try clear hk)
                  (try clear hi)
                  refine hK.out _ _ ⟨((HB.out.cell (World.block_lt_of_cell? w _ hw382_0)).trans hw382_0), ((HB.out.cell (World.block_lt_of_cell? w _ hw382_1)).trans hw382_1), ((HB.out.cell (World.block_lt_of_cell? w _ hw382_2)).trans hw382_2), ((HB.out.cell (World.block_lt_of_cell? w _ hw383_0)).trans hw383_0), ((HB.out.cell (World.block_lt_of_cell? w _ hw383_1)).trans hw383_1), ((HB.out.cell (World.block_lt_of_cell? w _ hw383_2)).trans hw383_2)⟩ (fun hHeld => ?_)
                  clear hK K
                  refine norm_ (a' := ?_) ?_ ?_
                  rotate_left
                  ·
                   show Act.put _ (some 44) _ = _
                   simp only [sx]
                   rfl
                  refine pure_ (i := 12) (N := some 32) (v := ?_) (a' := ?_) #[true, true, true, true, true, true, true, true, true, true, true, true, true, false, false, false, false, false] rfl rfl (any_of HT_.out (by kernel_rfl)) (fun _ _ _ h => h) (Or.inl ⟨by rfl, ?_⟩) ?_ ?_
                  rotate_left
                  ·
                   intro w'
                   go_simp
                   with_reducible rfl
                  rotate_left
                  ·
                   simp only [sx]
                   rfl
                  refine pure_ (i := 13) (N := some 45) (v := ?_) (a' := ?_) #[true, true, true, true, true, true, true, true, true, true, true, true, true, true, false, false, false, false] rfl rfl (any_of HT_.out (by kernel_rfl)) (fun _ _ _ h => h) (Or.inl ⟨by rfl, ?_⟩) ?_ ?_
                  rotate_left
                  ·
                   intro w'
                   go_simp
                   with_reducible rfl
                  rotate_left
                  ·
                   simp only [sx]
                   rfl
                  refine pure_ (i := 14) (N := some 46) (v := ?_) (a' := ?_) #[true, true, true, true, true, true, true, true, true, true, true, true, true, true, true, false, false, false] rfl rfl (any_of HT_.out (by kernel_rfl)) (fun _ _ _ h => h) (Or.inl ⟨by rfl, ?_⟩) ?_ ?_
                  rotate_left
                  ·
                   intro w'
                   go_simp
                   with_reducible rfl
                  rotate_left
                  ·
                   simp only [sx]
                   rfl
                  refine one_ (i := 15) (N := some 10) #[true, true, true, true, true, true, true, true, true, true, true, true, true, true, true, true, false, false] rfl rfl (one_of HT_.out (by kernel_rfl)) (by decide) (fun K hK => ?_)
                  refine box_step ?hg (N := 10) ?hd (cs := #[.string (⟨#[]⟩ : ByteArray), .string (⟨#[]⟩ : ByteArray)]) (t := 31) ?hr ?_; (case hd => rfl); (case hg => rfl); (case hr => first | (go_simp; done) | (go_simp; rfl))
                  intro gb387 hg w33 hbox hb
                  have n0_ := Aside0.mk (Kd.R_below (by (with_reducible repeat (first | apply Kd.R_alloc | apply Kd.R_drewN | apply Kd.R_drew)); exact HO_8.out) hb)
                  have n1_ := Aside0.mk (below_step (bz) hb)
                  have n2_ := Aside0.mk (hbox)
                  have n3_ : Aside0 (w.heap.size ≤ gb387) := bsg hg
                  have n4_ : Aside0 (w.heap.size ≤ gb387) := bsg hg
                  clear HO_8
                  clear HB
                  have HO_8 := n0_
                  have HB := n1_
                  have BK387 := n2_
                  have GW387 := n3_
                  have GE387 := n4_
                  clear n0_ n1_ n2_ n3_ n4_
                  clear hb hbox hg
                  refine hK.out _ _ ⟨((HB.out.cell (World.block_lt_of_cell? w _ hw382_0)).trans hw382_0), ((HB.out.cell (World.block_lt_of_cell? w _ hw382_1)).trans hw382_1), ((HB.out.cell (World.block_lt_of_cell? w _ hw382_2)).trans hw382_2), ((HB.out.cell (World.block_lt_of_cell? w _ hw383_0)).trans hw383_0), ((HB.out.cell (World.block_lt_of_cell? w _ hw383_1)).trans hw383_1), ((HB.out.cell (World.block_lt_of_cell? w _ hw383_2)).trans hw383_2)⟩ (fun hHeld => ?_)
                  clear hK K
                  refine norm_ (a' := ?_) ?_ ?_
                  rotate_left
                  ·
                   show Act.put _ (some 10) _ = _
                   simp only [sx]
                   rfl
                  exact norm_ (by simp only [putAll, Act.put, List.setIfInBounds_toArray, List.set_cons_zero, List.set_cons_succ]) (hCont (gb387) _ ⟨hHeld, (by (with_reducible repeat (first | apply Kd.R_alloc | apply Kd.R_drewN | apply Kd.R_drew)); exact HO_8.out), (bq BK387), GW387.out, GE387.out, (bz)⟩)
                 ·
                  skip
                  refine box_step ?hg (N := 10) ?hd (cs := #[.string (⟨#[]⟩ : ByteArray), .string (⟨#[]⟩ : ByteArray)]) (t := 31) ?hr ?_; (case hd => rfl); (case hg => rfl); (case hr => first | (go_simp; done) | (go_simp; rfl))
                  intro gb387 hg w32 hbox hb
                  have n0_ := Aside0.mk (Kd.R_below (by (with_reducible repeat (first | apply Kd.R_alloc | apply Kd.R_drewN | apply Kd.R_drew)); exact HO_8.out) hb)
                  have n1_ := Aside0.mk (below_step (bz) hb)
                  have n2_ := Aside0.mk (hbox)
                  have n3_ : Aside0 (w.heap.size ≤ gb387) := bsg hg
                  have n4_ : Aside0 (w.heap.size ≤ gb387) := bsg hg
                  clear HO_8
                  clear HB
                  have HO_8 := n0_
                  have HB := n1_
                  have BK387 := n2_
                  have GW387 := n3_
                  have GE387 := n4_
                  clear n0_ n1_ n2_ n3_ n4_
                  clear hb hbox hg
                  refine hK.out _ _ ⟨((HB.out.cell (World.block_lt_of_cell? w _ hw382_0)).trans hw382_0), ((HB.out.cell (World.block_lt_of_cell? w _ hw382_1)).trans hw382_1), ((HB.out.cell (World.block_lt_of_cell? w _ hw382_2)).trans hw382_2), ((HB.out.cell (World.block_lt_of_cell? w _ hw383_0)).trans hw383_0), ((HB.out.cell (World.block_lt_of_cell? w _ hw383_1)).trans hw383_1), ((HB.out.cell (World.block_lt_of_cell? w _ hw383_2)).trans hw383_2)⟩ (fun hHeld => ?_)
                  clear hK K
                  refine norm_ (a' := ?_) ?_ ?_
                  rotate_left
                  ·
                   show Act.put _ (some 10) _ = _
                   simp only [sx]
                   rfl
                  refine one_ (i := 11) (N := some 44) #[true, true, true, true, true, true, true, true, true, true, true, true, false, false, false, true, false, false] rfl rfl (one_of HT_.out (by kernel_rfl)) (by decide) (fun K hK => ?_)
                  refine goes_ Try.func98 (by kernel_rfl) rfl #[.agg #[.string ((rd_T35 l0 t378).f1.f0), .string ((rd_T35 l0 t378).f1.f1)], .agg #[.string ((rd_T35 l0 (ji17)).f1.f0), .string ((rd_T35 l0 (ji17)).f1.f1)]] (by rfl) rfl rfl (by (try simp only [List.map_toArray, List.map_cons, List.map_nil]); first | done | (simp only [hji17]; rfl) | rfl | (simp only [List.length_drop, List.length_take]; rfl)) ?_
                  with_reducible refine (spec_IntervalJoin.calls kj6 ((rd_T35 l0 t378).f1.f0) ((rd_T35 l0 t378).f1.f1) ((rd_T35 l0 (ji17)).f1.f0) ((rd_T35 l0 (ji17)).f1.f1) t384 t385 t386 _ A20.out).mono ?_
                  rintro e w33 ⟨rfl, hb⟩
                  refine ⟨_, rfl, ?_⟩
                  have n0_ := Aside0.mk (Kd.R_below (by (with_reducible repeat (first | apply Kd.R_alloc | apply Kd.R_drewN | apply Kd.R_drew)); exact HO_8.out) hb)
                  have n1_ := bkb BK387 hb
                  have n2_ := Aside0.mk (below_step (bz) hb)
                  clear HO_8
                  clear BK387
                  clear HB
                  have HO_8 := n0_
                  have BK387 := n1_
                  have HB := n2_
                  clear n0_ n1_ n2_
                  (try clear hb)
                  (try clear hb2)
                  (try clear hk)
                  (try clear hi)
                  refine hK.out _ _ ⟨((HB.out.cell (World.block_lt_of_cell? w _ hw382_0)).trans hw382_0), ((HB.out.cell (World.block_lt_of_cell? w _ hw382_1)).trans hw382_1), ((HB.out.cell (World.block_lt_of_cell? w _ hw382_2)).trans hw382_2), ((HB.out.cell (World.block_lt_of_cell? w _ hw383_0)).trans hw383_0), ((HB.out.cell (World.block_lt_of_cell? w _ hw383_1)).trans hw383_1), ((HB.out.cell (World.block_lt_of_cell? w _ hw383_2)).trans hw383_2)⟩ (fun hHeld => ?_)
                  clear hK K
                  refine norm_ (a' := ?_) ?_ ?_
                  rotate_left
                  ·
                   show Act.put _ (some 44) _ = _
                   simp only [sx]
                   rfl
                  refine pure_ (i := 12) (N := some 32) (v := ?_) (a' := ?_) #[true, true, true, true, true, true, true, true, true, true, true, true, true, false, false, true, false, false] rfl rfl (any_of HT_.out (by kernel_rfl)) (fun _ _ _ h => h) (Or.inl ⟨by rfl, ?_⟩) ?_ ?_
                  rotate_left
                  ·
                   intro w'
                   go_simp
                   with_reducible rfl
                  rotate_left
                  ·
                   simp only [sx]
                   rfl
                  refine pure_ (i := 13) (N := some 45) (v := ?_) (a' := ?_) #[true, true, true, true, true, true, true, true, true, true, true, true, true, true, false, true, false, false] rfl rfl (any_of HT_.out (by kernel_rfl)) (fun _ _ _ h => h) (Or.inl ⟨by rfl, ?_⟩) ?_ ?_
                  rotate_left
                  ·
                   intro w'
                   go_simp
                   with_reducible rfl
                  rotate_left
                  ·
                   simp only [sx]
                   rfl
                  refine pure_ (i := 14) (N := some 46) (v := ?_) (a' := ?_) #[true, true, true, true, true, true, true, true, true, true, true, true, true, true, true, true, false, false] rfl rfl (any_of HT_.out (by kernel_rfl)) (fun _ _ _ h => h) (Or.inl ⟨by rfl, ?_⟩) ?_ ?_
                  rotate_left
                  ·
                   intro w'
                   go_simp
                   with_reducible rfl
                  rotate_left
                  ·
                   simp only [sx]
                   rfl
                  exact norm_ (by simp only [putAll, Act.put, List.setIfInBounds_toArray, List.set_cons_zero, List.set_cons_succ]) (hCont (gb387) _ ⟨hHeld, (by (with_reducible repeat (first | apply Kd.R_alloc | apply Kd.R_drewN | apply Kd.R_drew)); exact HO_8.out), (bq BK387), GW387.out, GE387.out, (bz)⟩)
                rintro gb387 w34 ⟨hS_, h0_, h1_, h2_, h3_, h4_⟩
                have n0_ : Aside0 (Kd.R k35 35 w34 w.heap.size (fun _ => True) v375 y374) := ⟨h0_⟩
                have n1_ : Aside0 (w34.heap[gb387]? = some (.cells #[.string (⟨#[]⟩ : ByteArray), .string (⟨#[]⟩ : ByteArray)] 31 (0, 0))) := ⟨h1_⟩
                have n2_ : Aside0 (w.heap.size ≤ gb387) := ⟨h2_⟩
                have n3_ : Aside0 (w.heap.size ≤ gb387) := ⟨h3_⟩
                have n4_ : Aside0 (Below w.heap.size w w34) := ⟨h4_⟩
                clear HO_8
                clear HB
                clear h0_ h1_ h2_ h3_ h4_
                have HO_8 := n0_
                have BK387 := n1_
                have GW387 := n2_
                have GE387 := n3_
                have HB := n4_
                clear n0_ n1_ n2_ n3_ n4_
                have hHeld : w34.cell? (ad382.add ((t378).toNat * 3)) = some (.int .i64 ((rd_T35 l0 t378).f0)) ∧ w34.cell? ⟨(ad382.add ((t378).toNat * 3)).block, (ad382.add ((t378).toNat * 3)).off + 1, none⟩ = some (.string ((rd_T35 l0 t378).f1.f0)) ∧ w34.cell? ⟨(ad382.add ((t378).toNat * 3)).block, (ad382.add ((t378).toNat * 3)).off + 2, none⟩ = some (.string ((rd_T35 l0 t378).f1.f1)) ∧ w34.cell? (ad382.add (((ji17)).toNat * 3)) = some (.int .i64 ((rd_T35 l0 (ji17)).f0)) ∧ w34.cell? ⟨(ad382.add (((ji17)).toNat * 3)).block, (ad382.add (((ji17)).toNat * 3)).off + 1, none⟩ = some (.string ((rd_T35 l0 (ji17)).f1.f0)) ∧ w34.cell? ⟨(ad382.add (((ji17)).toNat * 3)).block, (ad382.add (((ji17)).toNat * 3)).off + 2, none⟩ = some (.string ((rd_T35 l0 (ji17)).f1.f1)) := hS_
                refine norm_ (a' := ?_) ?_ ?_
                rotate_left
                ·
                 simp only [putAll, Act.put, List.setIfInBounds_toArray, List.set_cons_zero, List.set_cons_succ]
                 rfl
                refine one_ (i := 16) (N := none) #[true, true, true, true, true, true, true, true, true, true, true, true, true, true, true, true, true, false] rfl rfl (one_of HT_.out (by kernel_rfl)) (by decide) (fun K hK => ?_)
                have hs35 : w34.cell? ⟨gb387, 0, none⟩ = some (.string (⟨#[]⟩ : ByteArray)) := (blk_cell BK387.out 0).trans rfl
                have hfs35 := blk_frozen BK387.out 0
                have hs36 : w34.cell? ⟨gb387, 1, none⟩ = some (.string (⟨#[]⟩ : ByteArray)) := (blk_cell BK387.out 1).trans rfl
                have hfs36 := blk_frozen BK387.out 1
                refine skip_ (w1 := ?_) (by rfl) rfl ?_ ?_
                rotate_left
                ·
                 go_simp
                 rfl
                refine hK.out _ _ ⟨((cell_far (p := ⟨gb387, _, none⟩) (by first | exact Nat.ne_of_lt (Nat.lt_of_lt_of_le (by have := World.block_lt_of_cell? _ _ hw382_0; first | rwa [add_block] at this | exact this) GW387.out) | (rw [add_block]; exact Nat.ne_of_lt (Nat.lt_of_lt_of_le (by have := World.block_lt_of_cell? _ _ hw382_0; first | rwa [add_block] at this | exact this) GW387.out)) | (show (Addr.add _ _).block ≠ _; rw [add_block]; exact Nat.ne_of_lt (Nat.lt_of_lt_of_le (by have := World.block_lt_of_cell? _ _ hw382_0; first | rwa [add_block] at this | exact this) GW387.out)) | (dsimp only; exact Nat.ne_of_lt (Nat.lt_of_lt_of_le (by have := World.block_lt_of_cell? _ _ hw382_0; first | rwa [add_block] at this | exact this) GW387.out))) _).trans (((cell_far (p := ⟨gb387, _, none⟩) (by first | exact Nat.ne_of_lt (Nat.lt_of_lt_of_le (by have := World.block_lt_of_cell? _ _ hw382_0; first | rwa [add_block] at this | exact this) GW387.out) | (rw [add_block]; exact Nat.ne_of_lt (Nat.lt_of_lt_of_le (by have := World.block_lt_of_cell? _ _ hw382_0; first | rwa [add_block] at this | exact this) GW387.out)) | (show (Addr.add _ _).block ≠ _; rw [add_block]; exact Nat.ne_of_lt (Nat.lt_of_lt_of_le (by have := World.block_lt_of_cell? _ _ hw382_0; first | rwa [add_block] at this | exact this) GW387.out)) | (dsimp only; exact Nat.ne_of_lt (Nat.lt_of_lt_of_le (by have := World.block_lt_of_cell? _ _ hw382_0; first | rwa [add_block] at this | exact this) GW387.out))) _).trans (hHeld.1)))), ((cell_far (p := ⟨gb387, _, none⟩) (by first | exact Nat.ne_of_lt (Nat.lt_of_lt_of_le (by have := World.block_lt_of_cell? _ _ hw382_1; first | rwa [add_block] at this | exact this) GW387.out) | (rw [add_block]; exact Nat.ne_of_lt (Nat.lt_of_lt_of_le (by have := World.block_lt_of_cell? _ _ hw382_1; first | rwa [add_block] at this | exact this) GW387.out)) | (show (Addr.add _ _).block ≠ _; rw [add_block]; exact Nat.ne_of_lt (Nat.lt_of_lt_of_le (by have := World.block_lt_of_cell? _ _ hw382_1; first | rwa [add_block] at this | exact this) GW387.out)) | (dsimp only; exact Nat.ne_of_lt (Nat.lt_of_lt_of_le (by have := World.block_lt_of_cell? _ _ hw382_1; first | rwa [add_block] at this | exact this) GW387.out))) _).trans (((cell_far (p := ⟨gb387, _, none⟩) (by first | exact Nat.ne_of_lt (Nat.lt_of_lt_of_le (by have := World.block_lt_of_cell? _ _ hw382_1; first | rwa [add_block] at this | exact this) GW387.out) | (rw [add_block]; exact Nat.ne_of_lt (Nat.lt_of_lt_of_le (by have := World.block_lt_of_cell? _ _ hw382_1; first | rwa [add_block] at this | exact this) GW387.out)) | (show (Addr.add _ _).block ≠ _; rw [add_block]; exact Nat.ne_of_lt (Nat.lt_of_lt_of_le (by have := World.block_lt_of_cell? _ _ hw382_1; first | rwa [add_block] at this | exact this) GW387.out)) | (dsimp only; exact Nat.ne_of_lt (Nat.lt_of_lt_of_le (by have := World.block_lt_of_cell? _ _ hw382_1; first | rwa [add_block] at this | exact this) GW387.out))) _).trans (hHeld.2.1)))), ((cell_far (p := ⟨gb387, _, none⟩) (by first | exact Nat.ne_of_lt (Nat.lt_of_lt_of_le (by have := World.block_lt_of_cell? _ _ hw382_2; first | rwa [add_block] at this | exact this) GW387.out) | (rw [add_block]; exact Nat.ne_of_lt (Nat.lt_of_lt_of_le (by have := World.block_lt_of_cell? _ _ hw382_2; first | rwa [add_block] at this | exact this) GW387.out)) | (show (Addr.add _ _).block ≠ _; rw [add_block]; exact Nat.ne_of_lt (Nat.lt_of_lt_of_le (by have := World.block_lt_of_cell? _ _ hw382_2; first | rwa [add_block] at this | exact this) GW387.out)) | (dsimp only; exact Nat.ne_of_lt (Nat.lt_of_lt_of_le (by have := World.block_lt_of_cell? _ _ hw382_2; first | rwa [add_block] at this | exact this) GW387.out))) _).trans (((cell_far (p := ⟨gb387, _, none⟩) (by first | exact Nat.ne_of_lt (Nat.lt_of_lt_of_le (by have := World.block_lt_of_cell? _ _ hw382_2; first | rwa [add_block] at this | exact this) GW387.out) | (rw [add_block]; exact Nat.ne_of_lt (Nat.lt_of_lt_of_le (by have := World.block_lt_of_cell? _ _ hw382_2; first | rwa [add_block] at this | exact this) GW387.out)) | (show (Addr.add _ _).block ≠ _; rw [add_block]; exact Nat.ne_of_lt (Nat.lt_of_lt_of_le (by have := World.block_lt_of_cell? _ _ hw382_2; first | rwa [add_block] at this | exact this) GW387.out)) | (dsimp only; exact Nat.ne_of_lt (Nat.lt_of_lt_of_le (by have := World.block_lt_of_cell? _ _ hw382_2; first | rwa [add_block] at this | exact this) GW387.out))) _).trans (hHeld.2.2.1)))), ((cell_far (p := ⟨gb387, _, none⟩) (by first | exact Nat.ne_of_lt (Nat.lt_of_lt_of_le (by have := World.block_lt_of_cell? _ _ hw383_0; first | rwa [add_block] at this | exact this) GW387.out) | (rw [add_block]; exact Nat.ne_of_lt (Nat.lt_of_lt_of_le (by have := World.block_lt_of_cell? _ _ hw383_0; first | rwa [add_block] at this | exact this) GW387.out)) | (show (Addr.add _ _).block ≠ _; rw [add_block]; exact Nat.ne_of_lt (Nat.lt_of_lt_of_le (by have := World.block_lt_of_cell? _ _ hw383_0; first | rwa [add_block] at this | exact this) GW387.out)) | (dsimp only; exact Nat.ne_of_lt (Nat.lt_of_lt_of_le (by have := World.block_lt_of_cell? _ _ hw383_0; first | rwa [add_block] at this | exact this) GW387.out))) _).trans (((cell_far (p := ⟨gb387, _, none⟩) (by first | exact Nat.ne_of_lt (Nat.lt_of_lt_of_le (by have := World.block_lt_of_cell? _ _ hw383_0; first | rwa [add_block] at this | exact this) GW387.out) | (rw [add_block]; exact Nat.ne_of_lt (Nat.lt_of_lt_of_le (by have := World.block_lt_of_cell? _ _ hw383_0; first | rwa [add_block] at this | exact this) GW387.out)) | (show (Addr.add _ _).block ≠ _; rw [add_block]; exact Nat.ne_of_lt (Nat.lt_of_lt_of_le (by have := World.block_lt_of_cell? _ _ hw383_0; first | rwa [add_block] at this | exact this) GW387.out)) | (dsimp only; exact Nat.ne_of_lt (Nat.lt_of_lt_of_le (by have := World.block_lt_of_cell? _ _ hw383_0; first | rwa [add_block] at this | exact this) GW387.out))) _).trans (hHeld.2.2.2.1)))), ((cell_far (p := ⟨gb387, _, none⟩) (by first | exact Nat.ne_of_lt (Nat.lt_of_lt_of_le (by have := World.block_lt_of_cell? _ _ hw383_1; first | rwa [add_block] at this | exact this) GW387.out) | (rw [add_block]; exact Nat.ne_of_lt (Nat.lt_of_lt_of_le (by have := World.block_lt_of_cell? _ _ hw383_1; first | rwa [add_block] at this | exact this) GW387.out)) | (show (Addr.add _ _).block ≠ _; rw [add_block]; exact Nat.ne_of_lt (Nat.lt_of_lt_of_le (by have := World.block_lt_of_cell? _ _ hw383_1; first | rwa [add_block] at this | exact this) GW387.out)) | (dsimp only; exact Nat.ne_of_lt (Nat.lt_of_lt_of_le (by have := World.block_lt_of_cell? _ _ hw383_1; first | rwa [add_block] at this | exact this) GW387.out))) _).trans (((cell_far (p := ⟨gb387, _, none⟩) (by first | exact Nat.ne_of_lt (Nat.lt_of_lt_of_le (by have := World.block_lt_of_cell? _ _ hw383_1; first | rwa [add_block] at this | exact this) GW387.out) | (rw [add_block]; exact Nat.ne_of_lt (Nat.lt_of_lt_of_le (by have := World.block_lt_of_cell? _ _ hw383_1; first | rwa [add_block] at this | exact this) GW387.out)) | (show (Addr.add _ _).block ≠ _; rw [add_block]; exact Nat.ne_of_lt (Nat.lt_of_lt_of_le (by have := World.block_lt_of_cell? _ _ hw383_1; first | rwa [add_block] at this | exact this) GW387.out)) | (dsimp only; exact Nat.ne_of_lt (Nat.lt_of_lt_of_le (by have := World.block_lt_of_cell? _ _ hw383_1; first | rwa [add_block] at this | exact this) GW387.out))) _).trans (hHeld.2.2.2.2.1)))), ((cell_far (p := ⟨gb387, _, none⟩) (by first | exact Nat.ne_of_lt (Nat.lt_of_lt_of_le (by have := World.block_lt_of_cell? _ _ hw383_2; first | rwa [add_block] at this | exact this) GW387.out) | (rw [add_block]; exact Nat.ne_of_lt (Nat.lt_of_lt_of_le (by have := World.block_lt_of_cell? _ _ hw383_2; first | rwa [add_block] at this | exact this) GW387.out)) | (show (Addr.add _ _).block ≠ _; rw [add_block]; exact Nat.ne_of_lt (Nat.lt_of_lt_of_le (by have := World.block_lt_of_cell? _ _ hw383_2; first | rwa [add_block] at this | exact this) GW387.out)) | (dsimp only; exact Nat.ne_of_lt (Nat.lt_of_lt_of_le (by have := World.block_lt_of_cell? _ _ hw383_2; first | rwa [add_block] at this | exact this) GW387.out))) _).trans (((cell_far (p := ⟨gb387, _, none⟩) (by first | exact Nat.ne_of_lt (Nat.lt_of_lt_of_le (by have := World.block_lt_of_cell? _ _ hw383_2; first | rwa [add_block] at this | exact this) GW387.out) | (rw [add_block]; exact Nat.ne_of_lt (Nat.lt_of_lt_of_le (by have := World.block_lt_of_cell? _ _ hw383_2; first | rwa [add_block] at this | exact this) GW387.out)) | (show (Addr.add _ _).block ≠ _; rw [add_block]; exact Nat.ne_of_lt (Nat.lt_of_lt_of_le (by have := World.block_lt_of_cell? _ _ hw383_2; first | rwa [add_block] at this | exact this) GW387.out)) | (dsimp only; exact Nat.ne_of_lt (Nat.lt_of_lt_of_le (by have := World.block_lt_of_cell? _ _ hw383_2; first | rwa [add_block] at this | exact this) GW387.out))) _).trans (hHeld.2.2.2.2.2))))⟩ (fun hHeld => ?_)
                clear hK K
                refine pure_ (i := 17) (N := some 11) (v := ?_) (a' := ?_) #[true, true, true, true, true, true, true, true, true, true, true, true, true, true, true, true, true, true] rfl rfl (any_of HT_.out (by kernel_rfl)) (fun _ _ _ h => h) (Or.inl ⟨by rfl, ?_⟩) ?_ ?_
                rotate_left
                ·
                 intro w'
                 go_simp
                 with_reducible rfl
                rotate_left
                ·
                 simp only [sx]
                 rfl
                refine done_ (done_of HT_.out (by kernel_rfl)) ?_
                have n0_ : Aside0 (Kd.R k35 35 ((w34.setCell ⟨gb387, 0, none⟩ (.string t384)).setCell ⟨gb387, 1, none⟩ (.string t385)) w.heap.size (fun _ => True) v375 y374) := ⟨by (with_reducible repeat (first | apply Kd.R_alloc | apply Kd.R_drewN | apply Kd.R_drew)); exact Kd.R_mono (Kd.R_far (p := ⟨gb387, 1, none⟩) (Kd.R_far (p := ⟨gb387, 0, none⟩) (Kd.R_types HO_8.out BK387.out (by decide)) (fun _ hk => hk.2) (.string t384)) (fun _ hk => hk.2) (.string t385)) (fun _ hk => trivial)⟩
                have n1_ : Aside0 (((w34.setCell ⟨gb387, 0, none⟩ (.string t384)).setCell ⟨gb387, 1, none⟩ (.string t385)).heap[gb387]? = some (.cells #[.string t384, .string t385] 31 (0, 0))) := ⟨by (with_reducible repeat (first | refine blk_drewN ?_ _ | refine blk_drew ?_ | refine blk_alloc ?_ _)); refine blk_put (cs := #[.string t384, .string (⟨#[]⟩ : ByteArray)]) ?_ 1 _ rfl; (with_reducible repeat (first | refine blk_drewN ?_ _ | refine blk_drew ?_ | refine blk_alloc ?_ _)); refine blk_put (cs := #[.string (⟨#[]⟩ : ByteArray), .string (⟨#[]⟩ : ByteArray)]) ?_ 0 _ rfl; (with_reducible repeat (first | refine blk_drewN ?_ _ | refine blk_drew ?_ | refine blk_alloc ?_ _)); exact BK387.out⟩
                have n2_ : Aside0 (Below w.heap.size w ((w34.setCell ⟨gb387, 0, none⟩ (.string t384)).setCell ⟨gb387, 1, none⟩ (.string t385))) := ⟨bz⟩
                (try clear HO_8)
                (try clear BK387)
                (try clear HB)
                generalize ((w34.setCell ⟨gb387, 0, none⟩ (.string t384)).setCell ⟨gb387, 1, none⟩ (.string t385)) = w37 at n0_ n1_ n2_ ⊢
                have HO_8 := n0_
                have BK387 := n1_
                have HB := n2_
                clear n0_ n1_ n2_
                have q38 : (t378 : Int) ≤ ((l0.length : Int) : Int) := of_decide_eq_true (by first | (with_reducible assumption) | assumption)
                obtain ⟨i038, hi038, _, hsz38, _⟩ := info_parts info35
                have hroom38 : l0.length ≤ c0 := HC0.out
                have hC38 : Kd.C k35 _ (some ad382) l0.length l0 := HR0.out
                have hcut38 := cut_to (P := Try.prog) 23 35 .i64 Try.underlying23 hi038 (some ad382) l0.length c0 t378 (of_decide_eq_true (by first | (with_reducible assumption) | assumption)) q38 hroom38
                have hr38 := Kd.C_take (m := (t378 : Int).toNat) hC38 (by omega)
                have hy38 : y388.length = (t378 : Int).toNat := (by rw [Ny388.out, List.length_take]; omega)
                rw [← Ny388.out] at hr38
                rw [← hy38] at hcut38
                have HR391 := Aside0.mk hr38
                have HC391 := Aside0.mk (show y388.length ≤ c0 from by omega)
                clear hr38 hC38 hroom38 hi038 hsz38
                have KY38 := Aside0.mk hy38
                clear hy38
                replace q38 := eq_true q38
                try go_wp2_with (first | ((with_reducible refine gate_builtin (b := .append) (xs := #[.tmp 47, .tmp 50]) rfl ?_); (try (refine gate_guard (by rfl) ?_; dsimp only)); at_builtin; refine Kd.R_append_rows k35 (w0 := w) w.heap.size rfl (.tmp 47) (.tmp 50) 23 35 (.agg #[(.int .i64 0), (.string ⟨#[]⟩), (.string ⟨#[]⟩)]) 40 rfl Try.underlying23 info35 rfl (by decide) (by omega) v375 y374 y388 _ _ _ (fun _ => True) (fun _ => False) rfl rfl ?aO ?aR (fun _ _ h => h) (fun _ h => h.elim) ?aF ?aB ?aS ?aL ?_; (case aR => repeat (first | exact (Kd.C_below HR391.out HB.out) | (with_reducible refine Kd.C_alloc ?_ _) | (with_reducible refine Kd.C_drewN ?_ _) | (with_reducible refine Kd.C_drew ?_))); (case aB => exact (bz)); (case aF => exact (fun _ _ => trivial)); (case aO => exact (by (with_reducible repeat (first | apply Kd.R_alloc | apply Kd.R_drewN | apply Kd.R_drew)); exact HO_8.out)); (case aS => exact (below_size (bz))); (case aL => have := LMc23.out; omega); intro v393 w39 ho hb hg hat; rw [← Ny392.out] at ho; have n0_ := Aside0.mk (blk_grown (g := gb387) (o := .cells #[.string t384, .string t385] 31 (0, 0)) (bq BK387) hg (Kd.R_ne HO_8.out BK387.out (by decide))); have n1_ := Aside0.mk (hb); have n2_ := Aside0.mk (ho); clear BK387; clear HB; clear HO_8; have BK387 := n0_; have HB := n1_; have HO394 := n2_; clear n0_ n1_ n2_; clear ho hb hg hat; obtain ⟨hcz40_0, hcz40_1⟩ := cl2 BK387; obtain ⟨hfz40_0, hfz40_1⟩ := fz2 BK387) | ((with_reducible refine gate_builtin (b := .append) (xs := #[.tmp 52, .tmp 56]) rfl ?_); (try (refine gate_guard (by rfl) ?_; dsimp only)); at_builtin; refine Kd.R_append k35 (w0 := w) w.heap.size rfl (.tmp 52) (.tmp 56) 23 35 (.agg #[(.int .i64 0), (.string ⟨#[]⟩), (.string ⟨#[]⟩)]) 40 rfl Try.underlying23 info35 rfl (by decide) (by omega) v393 y392 (⟨a2, (⟨t384, t385⟩ : S31)⟩ : S35) [.int .i64 a2, .string t384, .string t385] (fun _ => True) (fun _ => False) rfl rfl ?aP (fun _ hk => hk.elim) ?aF ?aO ?aB ?aS ?aL ?_; (case aP => exact k35_mkM _ _ _ (⟨a2, (⟨t384, t385⟩ : S31)⟩ : S35)); (case aB => exact (bz)); (case aF => exact (fun _ _ => trivial)); (case aO => exact (by (with_reducible repeat (first | apply Kd.R_alloc | apply Kd.R_drewN | apply Kd.R_drew)); exact HO394.out)); (case aS => exact (below_size (bz))); (case aL => have := LMc24.out; omega); intro v396 w41 ho hb hg hat; rw [← Ny395.out] at ho; have n0_ := Aside0.mk (blk_grown (g := gb387) (o := .cells #[.string t384, .string t385] 31 (0, 0)) (bq BK387) hg (Kd.R_ne HO394.out BK387.out (by decide))); have n1_ := Aside0.mk (hb); have n2_ := Aside0.mk (ho); clear BK387; clear HB; clear HO394; have BK387 := n0_; have HB := n1_; have HO397 := n2_; clear n0_ n1_ n2_; clear ho hb hg hat; have q42 : ((ji25) : Int) ≤ ((l0.length : Int) : Int) := of_decide_eq_true (by first | (with_reducible assumption) | assumption); obtain ⟨i042, hi042, _, hsz42, _⟩ := info_parts info35; have hroom42 : l0.length ≤ c0 := HC0.out; have hC42 : Kd.C k35 _ (some ad382) l0.length l0 := HR0.out; have q042 : (0 : Int) ≤ ((ji25) : Int) := of_decide_eq_true (by first | (with_reducible assumption) | assumption); have hcut42 := cut_from (P := Try.prog) 23 35 .i64 Try.underlying23 hi042 3 hsz42 (some ad382) l0.length c0 (ji25) q042 q42; have hr42 := Kd.C_drop (m := ((ji25) : Int).toNat) (c := c0) hC42 (by omega) hroom42; obtain ⟨A42, hA42⟩ : ∃ A1, A1 = (if c0 = ((ji25) : Int).toNat then (some ad382) else ((some ad382) : Option Addr).map (·.add (((ji25) : Int).toNat * 3))) := ⟨_, rfl⟩; obtain ⟨c42, hc42⟩ : ∃ c1, c1 = c0 - ((ji25) : Int).toNat := ⟨_, rfl⟩; have hy42 : y398.length = l0.length - ((ji25) : Int).toNat := (by rw [Ny398.out, List.length_drop] <;> omega); rw [show (l0).drop ((ji25) : Int).toNat = y398 from Ny398.out.symm] at hr42; replace hr42 : Kd.C k35 _ A42 y398.length y398 := (by rw [hA42]; exact hr42); rw [← hy42, ← hA42, ← hc42] at hcut42; have HR401 := Aside0.mk hr42; have HC401 := Aside0.mk (show y398.length ≤ c42 from by rw [hy42, hc42]; exact Nat.sub_le_sub_right hroom42 _); clear hr42 hC42 hroom42 hi042 hsz42 hc42; have KY42 := Aside0.mk hy42; have KA42 := Aside0.mk hA42; clear hy42 hA42; replace q42 := eq_true q42) | ((with_reducible refine gate_builtin (b := .append) (xs := #[.tmp 58, .tmp 62]) rfl ?_); (try (refine gate_guard (by rfl) ?_; dsimp only)); at_builtin; refine Kd.R_append_rows k35 (w0 := w) w.heap.size rfl (.tmp 58) (.tmp 62) 23 35 (.agg #[(.int .i64 0), (.string ⟨#[]⟩), (.string ⟨#[]⟩)]) 40 rfl Try.underlying23 info35 rfl (by decide) (by omega) v396 y395 y398 _ _ _ (fun _ => True) (fun _ => False) rfl rfl ?aO ?aR (fun _ _ h => h) (fun _ h => h.elim) ?aF ?aB ?aS ?aL ?_; (case aR => repeat (first | exact (Kd.C_below HR401.out HB.out) | (with_reducible refine Kd.C_alloc ?_ _) | (with_reducible refine Kd.C_drewN ?_ _) | (with_reducible refine Kd.C_drew ?_))); (case aB => exact (bz)); (case aF => exact (fun _ _ => trivial)); (case aO => exact (by (with_reducible repeat (first | apply Kd.R_alloc | apply Kd.R_drewN | apply Kd.R_drew)); exact HO397.out)); (case aS => exact (below_size (bz))); (case aL => have := LMc28.out; omega); intro v403 w43 ho hb hg hat; rw [← Ny402.out] at ho; have n0_ := Aside0.mk (blk_grown (g := gb387) (o := .cells #[.string t384, .string t385] 31 (0, 0)) (bq BK387) hg (Kd.R_ne HO397.out BK387.out (by decide))); have n1_ := Aside0.mk (hb); have n2_ := Aside0.mk (ho); clear BK387; clear HB; clear HO397; have BK387 := n0_; have HB := n1_; have HO404 := n2_; clear n0_ n1_ n2_; clear ho hb hg hat; obtain ⟨Ao44, co44, eo44⟩ := Kd.R_slice HO404.out; subst eo44) | ((with_reducible refine gate_callee (f := 75) rfl ?_); refine goesL_ (some 65) rfl rfl Try.func75 (by kernel_rfl) rfl #[.slice Ao44 y402.length co44] rfl (by (try simp only [List.map_toArray, List.map_cons, List.map_nil]); first | done | rfl | (simp only [List.length_drop, List.length_take]; rfl)) ?_; (with_reducible refine (spec_RoutesValid.calls kj6 _ _ y402 true _ ?side1 ?side2 A29.out).mono ?_); (case side1 => repeat (first | exact (Kd.R_reads' HO404.out).2.2 | (with_reducible refine Kd.C_alloc ?_ _) | (with_reducible refine Kd.C_drewN ?_ _) | (with_reducible refine Kd.C_drew ?_))); (case side2 => exact (Kd.R_reads' HO404.out).2.1); rintro e w45 ⟨rfl, hb⟩; refine ⟨_, rfl, ?_⟩; have n0_ := Aside0.mk (Kd.R_below (by (with_reducible repeat (first | apply Kd.R_alloc | apply Kd.R_drewN | apply Kd.R_drew)); exact HO404.out) hb); have n1_ := bkb BK387 hb; have n2_ := Aside0.mk (below_step (bz) hb); clear HO404; clear BK387; clear HB; have HO404 := n0_; have BK387 := n1_; have HB := n2_; clear n0_ n1_ n2_; (try clear hb); (try clear hb2); (try clear hk); (try clear hi)))
                go_ret2
                exact ⟨_, by first | rfl | (simp only [u8w, w64m]; rfl) | (simp [errW_none, errW_some] <;> rfl) | (simp only [← hji17, ← hji25]; first | rfl | (simp [errW_none, errW_some] <;> rfl)) | (simp [*, errW_none, errW_some] <;> rfl), by (with_reducible repeat (first | apply Kd.R_alloc | apply Kd.R_drewN | apply Kd.R_drew)); exact HO404.out, bz⟩
               ·
                replace c30 := Bool.eq_false_iff.mpr c30
                subst c30
                rw [if_neg (show ¬ (false = true) by decide)] at H
                obtain ⟨y406, hy406⟩ : ∃ y_ : List (S35), y_ = (([] : List (S35))) := ⟨_, rfl⟩
                replace H : (if y406.length + l0.length < 3518437208883 then (some ((y406 ++ l0), false)) else (none)) = some (r1, r2) := by first | (rw [hy406]; with_reducible exact H) | (have H2_ := (Option.bind_some _ _).symm.trans H; rw [hy406]; with_reducible exact H2_) | (have H2_ := (Option.bind_some _ _).symm.trans H; with_reducible exact H2_) | with_reducible exact H | (rw [hy406]; exact H) | exact H
                have Ny406 := Aside0.mk hy406
                clear hy406
                by_cases c46 : y406.length + l0.length < 3518437208883
                ·
                 rw [if_pos c46] at H
                 have LMc46 := Aside0.mk c46
                 clear c46
                 obtain ⟨y409, hy409⟩ : ∃ y_ : List (S35), y_ = (y406 ++ l0) := ⟨_, rfl⟩
                 replace H : (some (y409, false)) = some (r1, r2) := by first | (rw [hy409]; with_reducible exact H) | (have H2_ := (Option.bind_some _ _).symm.trans H; rw [hy409]; with_reducible exact H2_) | (have H2_ := (Option.bind_some _ _).symm.trans H; with_reducible exact H2_) | with_reducible exact H | (rw [hy409]; exact H) | exact H
                 have Ny409 := Aside0.mk hy409
                 clear hy409
                 simp only [Option.some.injEq, Prod.mk.injEq] at H
                 obtain ⟨rfl, rfl⟩ := H
                 try go_wp2
                 have n0_ := Aside0.mk (Kd.R_drew HO_8.out)
                 have n1_ := Aside0.mk (below_drew1 HB.out)
                 clear HO_8
                 clear HB
                 have HO_8 := n0_
                 have HB := n1_
                 clear n0_ n1_
                 have p382 : 0 ≤ (t378 : Int) := of_decide_eq_true (by first | (with_reducible assumption) | assumption)
                 have q382 : t378 < (l0.length : Int) := of_decide_eq_true (by first | (with_reducible assumption) | assumption)
                 obtain ⟨ad382, e382, hx382_0, hx382_1, hx382_2⟩ := at_T35 HR0.out t378 p382 q382
                 have hw382_2 := hx382_2
                 have hw382_1 := hx382_1
                 have hw382_0 := hx382_0
                 cases e382
                 replace hx382_0 := (HB.out.cell (World.block_lt_of_cell? w _ hx382_0)).trans hx382_0
                 replace hx382_1 := (HB.out.cell (World.block_lt_of_cell? w _ hx382_1)).trans hx382_1
                 replace hx382_2 := (HB.out.cell (World.block_lt_of_cell? w _ hx382_2)).trans hx382_2
                 replace p382 := eq_true p382
                 replace q382 := eq_true q382
                 have p383 : 0 ≤ ((ji17) : Int) := of_decide_eq_true (by first | (with_reducible assumption) | assumption)
                 have q383 : (ji17) < (l0.length : Int) := of_decide_eq_true (by first | (with_reducible assumption) | assumption)
                 obtain ⟨ad383, e383, hx383_0, hx383_1, hx383_2⟩ := at_T35 HR0.out (ji17) p383 q383
                 have hw383_2 := hx383_2
                 have hw383_1 := hx383_1
                 have hw383_0 := hx383_0
                 obtain rfl : ad382 = ad383 := (by injection e383)
                 replace hx383_0 := (HB.out.cell (World.block_lt_of_cell? w _ hx383_0)).trans hx383_0
                 replace hx383_1 := (HB.out.cell (World.block_lt_of_cell? w _ hx383_1)).trans hx383_1
                 replace hx383_2 := (HB.out.cell (World.block_lt_of_cell? w _ hx383_2)).trans hx383_2
                 replace p383 := eq_true p383
                 replace q383 := eq_true q383
                 refine start_ (n := 18) (S := fun w' => w'.cell? (ad382.add ((t378).toNat * 3)) = some (.int .i64 ((rd_T35 l0 t378).f0)) ∧ w'.cell? ⟨(ad382.add ((t378).toNat * 3)).block, (ad382.add ((t378).toNat * 3)).off + 1, none⟩ = some (.string ((rd_T35 l0 t378).f1.f0)) ∧ w'.cell? ⟨(ad382.add ((t378).toNat * 3)).block, (ad382.add ((t378).toNat * 3)).off + 2, none⟩ = some (.string ((rd_T35 l0 t378).f1.f1)) ∧ w'.cell? (ad382.add (((ji17)).toNat * 3)) = some (.int .i64 ((rd_T35 l0 (ji17)).f0)) ∧ w'.cell? ⟨(ad382.add (((ji17)).toNat * 3)).block, (ad382.add (((ji17)).toNat * 3)).off + 1, none⟩ = some (.string ((rd_T35 l0 (ji17)).f1.f0)) ∧ w'.cell? ⟨(ad382.add (((ji17)).toNat * 3)).block, (ad382.add (((ji17)).toNat * 3)).off + 2, none⟩ = some (.string ((rd_T35 l0 (ji17)).f1.f1))) (ds := []) #[false, false, false, false, false, false, false, false, false, false, false, false, false, false, false, false, false, false] (by kernel_rfl) rfl rfl ⟨((HB.out.cell (World.block_lt_of_cell? w _ hw382_0)).trans hw382_0), ((HB.out.cell (World.block_lt_of_cell? w _ hw382_1)).trans hw382_1), ((HB.out.cell (World.block_lt_of_cell? w _ hw382_2)).trans hw382_2), ((HB.out.cell (World.block_lt_of_cell? w _ hw383_0)).trans hw383_0), ((HB.out.cell (World.block_lt_of_cell? w _ hw383_1)).trans hw383_1), ((HB.out.cell (World.block_lt_of_cell? w _ hw383_2)).trans hw383_2)⟩ (fun hHeld => ?_); refine with_tabW spec_MergeRoutes.tab7 spec_MergeRoutes.bits7 (fun HT_ HW_ => ?_)
                 generalize wc.drew = w47 at HO_8 HB hx382_0 hx382_1 hx382_2 hx383_0 hx383_1 hx383_2 hHeld ⊢
                 refine pure_ (i := 0) (N := some 33) (v := ?_) (a' := ?_) #[true, false, false, false, false, false, false, false, false, false, false, false, false, false, false, false, false, false] rfl rfl (any_of HT_.out (by kernel_rfl)) (fun _ _ _ h => h) (Or.inl ⟨by rfl, ?_⟩) ?_ ?_
                 rotate_left
                 ·
                  intro w'
                  go_simp
                  with_reducible rfl
                 rotate_left
                 ·
                  simp only [sx]
                  rfl
                 refine pure_ (i := 1) (N := some 34) (v := ?_) (a' := ?_) #[true, true, false, false, false, false, false, false, false, false, false, false, false, false, false, false, false, false] rfl rfl (any_of HT_.out (by kernel_rfl)) (fun _ _ _ h => h) (Or.inl ⟨by rfl, ?_⟩) ?_ ?_
                 rotate_left
                 ·
                  intro w'
                  go_simp
                  with_reducible rfl
                 rotate_left
                 ·
                  simp only [sx]
                  rfl
                 refine pure_ (i := 2) (N := some 35) (v := ?_) (a' := ?_) #[true, true, true, false, false, false, false, false, false, false, false, false, false, false, false, false, false, false] rfl rfl (any_of HT_.out (by kernel_rfl)) (fun _ _ _ h => h) (Or.inl ⟨by rfl, ?_⟩) ?_ ?_
                 rotate_left
                 ·
                  intro w'
                  go_simp
                  with_reducible rfl
                 rotate_left
                 ·
                  simp only [sx]
                  rfl
                 refine pure_ (i := 3) (N := some 36) (v := ?_) (a' := ?_) #[true, true, true, true, false, false, false, false, false, false, false, false, false, false, false, false, false, false] rfl rfl (any_of HT_.out (by kernel_rfl)) (fun _ _ _ h => h) (Or.inl ⟨by rfl, ?_⟩) ?_ ?_
                 rotate_left
                 ·
                  intro w'
                  go_simp
                  with_reducible rfl
                 rotate_left
                 ·
                  simp only [sx]
                  rfl
                 refine pure_ (i := 5) (N := some 38) (v := ?_) (a' := ?_) #[true, true, true, true, false, true, false, false, false, false, false, false, false, false, false, false, false, false] rfl rfl (any_of HT_.out (by kernel_rfl)) (fun _ _ _ h => h) (Or.inl ⟨by rfl, ?_⟩) ?_ ?_
                 rotate_left
                 ·
                  intro w'
                  go_simp
                  with_reducible rfl
                 rotate_left
                 ·
                  simp only [sx]
                  rfl
                 refine pure_ (i := 6) (N := some 39) (v := ?_) (a' := ?_) #[true, true, true, true, false, true, true, false, false, false, false, false, false, false, false, false, false, false] rfl rfl (any_of HT_.out (by kernel_rfl)) (fun _ _ _ h => h) (Or.inl ⟨by rfl, ?_⟩) ?_ ?_
                 rotate_left
                 ·
                  intro w'
                  go_simp
                  with_reducible rfl
                 rotate_left
                 ·
                  simp only [sx]
                  rfl
                 refine pure_ (i := 7) (N := some 40) (v := ?_) (a' := ?_) #[true, true, true, true, false, true, true, true, false, false, false, false, false, false, false, false, false, false] rfl rfl (any_of HT_.out (by kernel_rfl)) (fun _ _ _ h => h) (Or.inl ⟨by rfl, ?_⟩) ?_ ?_
                 rotate_left
                 ·
                  intro w'
                  go_simp
                  with_reducible rfl
                 rotate_left
                 ·
                  simp only [sx]
                  rfl
                 refine pure_ (i := 8) (N := some 41) (v := ?_) (a' := ?_) #[true, true, true, true, false, true, true, true, true, false, false, false, false, false, false, false, false, false] rfl rfl (any_of HT_.out (by kernel_rfl)) (fun _ _ _ h => h) (Or.inl ⟨by rfl, ?_⟩) ?_ ?_
                 rotate_left
                 ·
                  intro w'
                  go_simp
                  with_reducible rfl
                 rotate_left
                 ·
                  simp only [sx]
                  rfl
                 refine pure_ (i := 9) (N := some 42) (v := ?_) (a' := ?_) #[true, true, true, true, false, true, true, true, true, true, false, false, false, false, false, false, false, false] rfl rfl (any_of HT_.out (by kernel_rfl)) (fun _ _ _ h => h) (Or.inl ⟨by rfl, ?_⟩) ?_ ?_
                 rotate_left
                 ·
                  intro w'
                  go_simp
                  with_reducible rfl
                 rotate_left
                 ·
                  simp only [sx]
                  rfl
                 refine take_ (i := 4) (N := some 37) (v := ?_) (a' := ?_) #[true, true, true, true, true, true, true, true, true, true, false, false, false, false, false, false, false, false] rfl rfl (take_ofW HT_.out HW_.out (by kernel_rfl)) (fun _ _ _ h => h) (Or.inl ⟨by rfl, ?_⟩) hHeld ?_ ?_
                 rotate_left
                 ·
                  rintro w' ⟨s0, s1, s2, s3, s4, s5⟩
                  go_simp
                  with_reducible rfl
                 rotate_left
                 ·
                  simp only [sx]
                  rfl
                 refine take_ (i := 10) (N := some 43) (v := ?_) (a' := ?_) #[true, true, true, true, true, true, true, true, true, true, true, false, false, false, false, false, false, false] rfl rfl (take_ofW HT_.out HW_.out (by kernel_rfl)) (fun _ _ _ h => h) (Or.inl ⟨by rfl, ?_⟩) hHeld ?_ ?_
                 rotate_left
                 ·
                  rintro w' ⟨s0, s1, s2, s3, s4, s5⟩
                  go_simp
                  with_reducible rfl
                 rotate_left
                 ·
                  simp only [sx]
                  rfl
                 refine join_ (σ := Nat) 2 #[true, true, true, true, true, true, true, true, true, true, true, true, true, true, true, true, false, false] (fun s_ => [(44, .tuple #[.agg #[.string t384, .string t385], .bool t386]), (10, .pointer (some ⟨s_, 0, none⟩)), (32, .tuple #[.agg #[.string t384, .string t385], .bool t386]), (45, .agg #[.string t384, .string t385]), (46, .bool t386)]) (fun s_ w' => (w'.cell? (ad382.add ((t378).toNat * 3)) = some (.int .i64 ((rd_T35 l0 t378).f0)) ∧ w'.cell? ⟨(ad382.add ((t378).toNat * 3)).block, (ad382.add ((t378).toNat * 3)).off + 1, none⟩ = some (.string ((rd_T35 l0 t378).f1.f0)) ∧ w'.cell? ⟨(ad382.add ((t378).toNat * 3)).block, (ad382.add ((t378).toNat * 3)).off + 2, none⟩ = some (.string ((rd_T35 l0 t378).f1.f1)) ∧ w'.cell? (ad382.add (((ji17)).toNat * 3)) = some (.int .i64 ((rd_T35 l0 (ji17)).f0)) ∧ w'.cell? ⟨(ad382.add (((ji17)).toNat * 3)).block, (ad382.add (((ji17)).toNat * 3)).off + 1, none⟩ = some (.string ((rd_T35 l0 (ji17)).f1.f0)) ∧ w'.cell? ⟨(ad382.add (((ji17)).toNat * 3)).block, (ad382.add (((ji17)).toNat * 3)).off + 2, none⟩ = some (.string ((rd_T35 l0 (ji17)).f1.f1))) ∧ (Kd.R k35 35 w' w.heap.size (fun _ => True) v375 y374) ∧ (w'.heap[s_]? = some (.cells #[.string (⟨#[]⟩ : ByteArray), .string (⟨#[]⟩ : ByteArray)] 31 (0, 0))) ∧ (w.heap.size ≤ s_) ∧ (w.heap.size ≤ s_) ∧ (Below w.heap.size w w')) ?_ ?_
                 rotate_left
                 ·
                  intro hCont
                  refine two_ (i := 11) (j := 15) (Ni := some 44) (Nj := some 10) #[true, true, true, true, true, true, true, true, true, true, true, true, false, false, false, false, false, false] #[true, true, true, true, true, true, true, true, true, true, true, false, false, false, false, true, false, false] rfl rfl rfl rfl (two_of HT_.out (by kernel_rfl)) (by decide) (by decide) (fun K hK => ?_) (fun K hK => ?_)
                  ·
                   skip
                   refine goes_ Try.func98 (by kernel_rfl) rfl #[.agg #[.string ((rd_T35 l0 t378).f1.f0), .string ((rd_T35 l0 t378).f1.f1)], .agg #[.string ((rd_T35 l0 (ji17)).f1.f0), .string ((rd_T35 l0 (ji17)).f1.f1)]] (by rfl) rfl rfl (by (try simp only [List.map_toArray, List.map_cons, List.map_nil]); first | done | (simp only [hji17]; rfl) | rfl | (simp only [List.length_drop, List.length_take]; rfl)) ?_
                   with_reducible refine (spec_IntervalJoin.calls kj6 ((rd_T35 l0 t378).f1.f0) ((rd_T35 l0 t378).f1.f1) ((rd_T35 l0 (ji17)).f1.f0) ((rd_T35 l0 (ji17)).f1.f1) t384 t385 t386 _ A20.out).mono ?_
                   rintro e w48 ⟨rfl, hb⟩
                   refine ⟨_, rfl, ?_⟩
                   have n0_ := Aside0.mk (Kd.R_below (by (with_reducible repeat (first | apply Kd.R_alloc | apply Kd.R_drewN | apply Kd.R_drew)); exact HO_8.out) hb)
                   have n1_ := Aside0.mk (below_step (bz) hb)
                   clear HO_8
                   clear HB
                   have HO_8 := n0_
                   have HB := n1_
                   clear n0_ n1_
                   (try clear hb)
                   (try clear hb2)
                   (try clear hk)
                   (try clear hi)
                   refine hK.out _ _ ⟨((HB.out.cell (World.block_lt_of_cell? w _ hw382_0)).trans hw382_0), ((HB.out.cell (World.block_lt_of_cell? w _ hw382_1)).trans hw382_1), ((HB.out.cell (World.block_lt_of_cell? w _ hw382_2)).trans hw382_2), ((HB.out.cell (World.block_lt_of_cell? w _ hw383_0)).trans hw383_0), ((HB.out.cell (World.block_lt_of_cell? w _ hw383_1)).trans hw383_1), ((HB.out.cell (World.block_lt_of_cell? w _ hw383_2)).trans hw383_2)⟩ (fun hHeld => ?_)
                   clear hK K
                   refine norm_ (a' := ?_) ?_ ?_
                   rotate_left
                   ·
                    show Act.put _ (some 44) _ = _
                    simp only [sx]
                    rfl
                   refine pure_ (i := 12) (N := some 32) (v := ?_) (a' := ?_) #[true, true, true, true, true, true, true, true, true, true, true, true, true, false, false, false, false, false] rfl rfl (any_of HT_.out (by kernel_rfl)) (fun _ _ _ h => h) (Or.inl ⟨by rfl, ?_⟩) ?_ ?_
                   rotate_left
                   ·
                    intro w'
                    go_simp
                    with_reducible rfl
                   rotate_left
                   ·
                    simp only [sx]
                    rfl
                   refine pure_ (i := 13) (N := some 45) (v := ?_) (a' := ?_) #[true, true, true, true, true, true, true, true, true, true, true, true, true, true, false, false, false, false] rfl rfl (any_of HT_.out (by kernel_rfl)) (fun _ _ _ h => h) (Or.inl ⟨by rfl, ?_⟩) ?_ ?_
                   rotate_left
                   ·
                    intro w'
                    go_simp
                    with_reducible rfl
                   rotate_left
                   ·
                    simp only [sx]
                    rfl
                   refine pure_ (i := 14) (N := some 46) (v := ?_) (a' := ?_) #[true, true, true, true, true, true, true, true, true, true, true, true, true, true, true, false, false, false] rfl rfl (any_of HT_.out (by kernel_rfl)) (fun _ _ _ h => h) (Or.inl ⟨by rfl, ?_⟩) ?_ ?_
                   rotate_left
                   ·
                    intro w'
                    go_simp
                    with_reducible rfl
                   rotate_left
                   ·
                    simp only [sx]
                    rfl
                   refine one_ (i := 15) (N := some 10) #[true, true, true, true, true, true, true, true, true, true, true, true, true, true, true, true, false, false] rfl rfl (one_of HT_.out (by kernel_rfl)) (by decide) (fun K hK => ?_)
                   refine box_step ?hg (N := 10) ?hd (cs := #[.string (⟨#[]⟩ : ByteArray), .string (⟨#[]⟩ : ByteArray)]) (t := 31) ?hr ?_; (case hd => rfl); (case hg => rfl); (case hr => first | (go_simp; done) | (go_simp; rfl))
                   intro gb387 hg w49 hbox hb
                   have n0_ := Aside0.mk (Kd.R_below (by (with_reducible repeat (first | apply Kd.R_alloc | apply Kd.R_drewN | apply Kd.R_drew)); exact HO_8.out) hb)
                   have n1_ := Aside0.mk (below_step (bz) hb)
                   have n2_ := Aside0.mk (hbox)
                   have n3_ : Aside0 (w.heap.size ≤ gb387) := bsg hg
                   have n4_ : Aside0 (w.heap.size ≤ gb387) := bsg hg
                   clear HO_8
                   clear HB
                   have HO_8 := n0_
                   have HB := n1_
                   have BK387 := n2_
                   have GW387 := n3_
                   have GE387 := n4_
                   clear n0_ n1_ n2_ n3_ n4_
                   clear hb hbox hg
                   refine hK.out _ _ ⟨((HB.out.cell (World.block_lt_of_cell? w _ hw382_0)).trans hw382_0), ((HB.out.cell (World.block_lt_of_cell? w _ hw382_1)).trans hw382_1), ((HB.out.cell (World.block_lt_of_cell? w _ hw382_2)).trans hw382_2), ((HB.out.cell (World.block_lt_of_cell? w _ hw383_0)).trans hw383_0), ((HB.out.cell (World.block_lt_of_cell? w _ hw383_1)).trans hw383_1), ((HB.out.cell (World.block_lt_of_cell? w _ hw383_2)).trans hw383_2)⟩ (fun hHeld => ?_)
                   clear hK K
                   refine norm_ (a' := ?_) ?_ ?_
                   rotate_left
                   ·
                    show Act.put _ (some 10) _ = _
                    simp only [sx]
                    rfl
                   exact norm_ (by simp only [putAll, Act.put, List.setIfInBounds_toArray, List.set_cons_zero, List.set_cons_succ]) (hCont (gb387) _ ⟨hHeld, (by (with_reducible repeat (first | apply Kd.R_alloc | apply Kd.R_drewN | apply Kd.R_drew)); exact HO_8.out), (bq BK387), GW387.out, GE387.out, (bz)⟩)
                  ·
                   skip
                   refine box_step ?hg (N := 10) ?hd (cs := #[.string (⟨#[]⟩ : ByteArray), .string (⟨#[]⟩ : ByteArray)]) (t := 31) ?hr ?_; (case hd => rfl); (case hg => rfl); (case hr => first | (go_simp; done) | (go_simp; rfl))
                   intro gb387 hg w48 hbox hb
                   have n0_ := Aside0.mk (Kd.R_below (by (with_reducible repeat (first | apply Kd.R_alloc | apply Kd.R_drewN | apply Kd.R_drew)); exact HO_8.out) hb)
                   have n1_ := Aside0.mk (below_step (bz) hb)
                   have n2_ := Aside0.mk (hbox)
                   have n3_ : Aside0 (w.heap.size ≤ gb387) := bsg hg
                   have n4_ : Aside0 (w.heap.size ≤ gb387) := bsg hg
                   clear HO_8
                   clear HB
                   have HO_8 := n0_
                   have HB := n1_
                   have BK387 := n2_
                   have GW387 := n3_
                   have GE387 := n4_
                   clear n0_ n1_ n2_ n3_ n4_
                   clear hb hbox hg
                   refine hK.out _ _ ⟨((HB.out.cell (World.block_lt_of_cell? w _ hw382_0)).trans hw382_0), ((HB.out.cell (World.block_lt_of_cell? w _ hw382_1)).trans hw382_1), ((HB.out.cell (World.block_lt_of_cell? w _ hw382_2)).trans hw382_2), ((HB.out.cell (World.block_lt_of_cell? w _ hw383_0)).trans hw383_0), ((HB.out.cell (World.block_lt_of_cell? w _ hw383_1)).trans hw383_1), ((HB.out.cell (World.block_lt_of_cell? w _ hw383_2)).trans hw383_2)⟩ (fun hHeld => ?_)
                   clear hK K
                   refine norm_ (a' := ?_) ?_ ?_
                   rotate_left
                   ·
                    show Act.put _ (some 10) _ = _
                    simp only [sx]
                    rfl
                   refine one_ (i := 11) (N := some 44) #[true, true, true, true, true, true, true, true, true, true, true, true, false, false, false, true, false, false] rfl rfl (one_of HT_.out (by kernel_rfl)) (by decide) (fun K hK => ?_)
                   refine goes_ Try.func98 (by kernel_rfl) rfl #[.agg #[.string ((rd_T35 l0 t378).f1.f0), .string ((rd_T35 l0 t378).f1.f1)], .agg #[.string ((rd_T35 l0 (ji17)).f1.f0), .string ((rd_T35 l0 (ji17)).f1.f1)]] (by rfl) rfl rfl (by (try simp only [List.map_toArray, List.map_cons, List.map_nil]); first | done | (simp only [hji17]; rfl) | rfl | (simp only [List.length_drop, List.length_take]; rfl)) ?_
                   with_reducible refine (spec_IntervalJoin.calls kj6 ((rd_T35 l0 t378).f1.f0) ((rd_T35 l0 t378).f1.f1) ((rd_T35 l0 (ji17)).f1.f0) ((rd_T35 l0 (ji17)).f1.f1) t384 t385 t386 _ A20.out).mono ?_
                   rintro e w49 ⟨rfl, hb⟩
                   refine ⟨_, rfl, ?_⟩
                   have n0_ := Aside0.mk (Kd.R_below (by (with_reducible repeat (first | apply Kd.R_alloc | apply Kd.R_drewN | apply Kd.R_drew)); exact HO_8.out) hb)
                   have n1_ := bkb BK387 hb
                   have n2_ := Aside0.mk (below_step (bz) hb)
                   clear HO_8
                   clear BK387
                   clear HB
                   have HO_8 := n0_
                   have BK387 := n1_
                   have HB := n2_
                   clear n0_ n1_ n2_
                   (try clear hb)
                   (try clear hb2)
                   (try clear hk)
                   (try clear hi)
                   refine hK.out _ _ ⟨((HB.out.cell (World.block_lt_of_cell? w _ hw382_0)).trans hw382_0), ((HB.out.cell (World.block_lt_of_cell? w _ hw382_1)).trans hw382_1), ((HB.out.cell (World.block_lt_of_cell? w _ hw382_2)).trans hw382_2), ((HB.out.cell (World.block_lt_of_cell? w _ hw383_0)).trans hw383_0), ((HB.out.cell (World.block_lt_of_cell? w _ hw383_1)).trans hw383_1), ((HB.out.cell (World.block_lt_of_cell? w _ hw383_2)).trans hw383_2)⟩ (fun hHeld => ?_)
                   clear hK K
                   refine norm_ (a' := ?_) ?_ ?_
                   rotate_left
                   ·
                    show Act.put _ (some 44) _ = _
                    simp only [sx]
                    rfl
                   refine pure_ (i := 12) (N := some 32) (v := ?_) (a' := ?_) #[true, true, true, true, true, true, true, true, true, true, true, true, true, false, false, true, false, false] rfl rfl (any_of HT_.out (by kernel_rfl)) (fun _ _ _ h => h) (Or.inl ⟨by rfl, ?_⟩) ?_ ?_
                   rotate_left
                   ·
                    intro w'
                    go_simp
                    with_reducible rfl
                   rotate_left
                   ·
                    simp only [sx]
                    rfl
                   refine pure_ (i := 13) (N := some 45) (v := ?_) (a' := ?_) #[true, true, true, true, true, true, true, true, true, true, true, true, true, true, false, true, false, false] rfl rfl (any_of HT_.out (by kernel_rfl)) (fun _ _ _ h => h) (Or.inl ⟨by rfl, ?_⟩) ?_ ?_
                   rotate_left
                   ·
                    intro w'
                    go_simp
                    with_reducible rfl
                   rotate_left
                   ·
                    simp only [sx]
                    rfl
                   refine pure_ (i := 14) (N := some 46) (v := ?_) (a' := ?_) #[true, true, true, true, true, true, true, true, true, true, true, true, true, true, true, true, false, false] rfl rfl (any_of HT_.out (by kernel_rfl)) (fun _ _ _ h => h) (Or.inl ⟨by rfl, ?_⟩) ?_ ?_
                   rotate_left
                   ·
                    intro w'
                    go_simp
                    with_reducible rfl
                   rotate_left
                   ·
                    simp only [sx]
                    rfl
                   exact norm_ (by simp only [putAll, Act.put, List.setIfInBounds_toArray, List.set_cons_zero, List.set_cons_succ]) (hCont (gb387) _ ⟨hHeld, (by (with_reducible repeat (first | apply Kd.R_alloc | apply Kd.R_drewN | apply Kd.R_drew)); exact HO_8.out), (bq BK387), GW387.out, GE387.out, (bz)⟩)
                 rintro gb387 w50 ⟨hS_, h0_, h1_, h2_, h3_, h4_⟩
                 have n0_ : Aside0 (Kd.R k35 35 w50 w.heap.size (fun _ => True) v375 y374) := ⟨h0_⟩
                 have n1_ : Aside0 (w50.heap[gb387]? = some (.cells #[.string (⟨#[]⟩ : ByteArray), .string (⟨#[]⟩ : ByteArray)] 31 (0, 0))) := ⟨h1_⟩
                 have n2_ : Aside0 (w.heap.size ≤ gb387) := ⟨h2_⟩
                 have n3_ : Aside0 (w.heap.size ≤ gb387) := ⟨h3_⟩
                 have n4_ : Aside0 (Below w.heap.size w w50) := ⟨h4_⟩
                 clear HO_8
                 clear HB
                 clear h0_ h1_ h2_ h3_ h4_
                 have HO_8 := n0_
                 have BK387 := n1_
                 have GW387 := n2_
                 have GE387 := n3_
                 have HB := n4_
                 clear n0_ n1_ n2_ n3_ n4_
                 have hHeld : w50.cell? (ad382.add ((t378).toNat * 3)) = some (.int .i64 ((rd_T35 l0 t378).f0)) ∧ w50.cell? ⟨(ad382.add ((t378).toNat * 3)).block, (ad382.add ((t378).toNat * 3)).off + 1, none⟩ = some (.string ((rd_T35 l0 t378).f1.f0)) ∧ w50.cell? ⟨(ad382.add ((t378).toNat * 3)).block, (ad382.add ((t378).toNat * 3)).off + 2, none⟩ = some (.string ((rd_T35 l0 t378).f1.f1)) ∧ w50.cell? (ad382.add (((ji17)).toNat * 3)) = some (.int .i64 ((rd_T35 l0 (ji17)).f0)) ∧ w50.cell? ⟨(ad382.add (((ji17)).toNat * 3)).block, (ad382.add (((ji17)).toNat * 3)).off + 1, none⟩ = some (.string ((rd_T35 l0 (ji17)).f1.f0)) ∧ w50.cell? ⟨(ad382.add (((ji17)).toNat * 3)).block, (ad382.add (((ji17)).toNat * 3)).off + 2, none⟩ = some (.string ((rd_T35 l0 (ji17)).f1.f1)) := hS_
                 refine norm_ (a' := ?_) ?_ ?_
                 rotate_left
                 ·
                  simp only [putAll, Act.put, List.setIfInBounds_toArray, List.set_cons_zero, List.set_cons_succ]
                  rfl
                 refine one_ (i := 16) (N := none) #[true, true, true, true, true, true, true, true, true, true, true, true, true, true, true, true, true, false] rfl rfl (one_of HT_.out (by kernel_rfl)) (by decide) (fun K hK => ?_)
                 have hs51 : w50.cell? ⟨gb387, 0, none⟩ = some (.string (⟨#[]⟩ : ByteArray)) := (blk_cell BK387.out 0).trans rfl
                 have hfs51 := blk_frozen BK387.out 0
                 have hs52 : w50.cell? ⟨gb387, 1, none⟩ = some (.string (⟨#[]⟩ : ByteArray)) := (blk_cell BK387.out 1).trans rfl
                 have hfs52 := blk_frozen BK387.out 1
                 refine skip_ (w1 := ?_) (by rfl) rfl ?_ ?_
                 rotate_left
                 ·
                  go_simp
                  rfl
                 refine hK.out _ _ ⟨((cell_far (p := ⟨gb387, _, none⟩) (by first | exact Nat.ne_of_lt (Nat.lt_of_lt_of_le (by have := World.block_lt_of_cell? _ _ hw382_0; first | rwa [add_block] at this | exact this) GW387.out) | (rw [add_block]; exact Nat.ne_of_lt (Nat.lt_of_lt_of_le (by have := World.block_lt_of_cell? _ _ hw382_0; first | rwa [add_block] at this | exact this) GW387.out)) | (show (Addr.add _ _).block ≠ _; rw [add_block]; exact Nat.ne_of_lt (Nat.lt_of_lt_of_le (by have := World.block_lt_of_cell? _ _ hw382_0; first | rwa [add_block] at this | exact this) GW387.out)) | (dsimp only; exact Nat.ne_of_lt (Nat.lt_of_lt_of_le (by have := World.block_lt_of_cell? _ _ hw382_0; first | rwa [add_block] at this | exact this) GW387.out))) _).trans (((cell_far (p := ⟨gb387, _, none⟩) (by first | exact Nat.ne_of_lt (Nat.lt_of_lt_of_le (by have := World.block_lt_of_cell? _ _ hw382_0; first | rwa [add_block] at this | exact this) GW387.out) | (rw [add_block]; exact Nat.ne_of_lt (Nat.lt_of_lt_of_le (by have := World.block_lt_of_cell? _ _ hw382_0; first | rwa [add_block] at this | exact this) GW387.out)) | (show (Addr.add _ _).block ≠ _; rw [add_block]; exact Nat.ne_of_lt (Nat.lt_of_lt_of_le (by have := World.block_lt_of_cell? _ _ hw382_0; first | rwa [add_block] at this | exact this) GW387.out)) | (dsimp only; exact Nat.ne_of_lt (Nat.lt_of_lt_of_le (by have := World.block_lt_of_cell? _ _ hw382_0; first | rwa [add_block] at this | exact this) GW387.out))) _).trans (hHeld.1)))), ((cell_far (p := ⟨gb387, _, none⟩) (by first | exact Nat.ne_of_lt (Nat.lt_of_lt_of_le (by have := World.block_lt_of_cell? _ _ hw382_1; first | rwa [add_block] at this | exact this) GW387.out) | (rw [add_block]; exact Nat.ne_of_lt (Nat.lt_of_lt_of_le (by have := World.block_lt_of_cell? _ _ hw382_1; first | rwa [add_block] at this | exact this) GW387.out)) | (show (Addr.add _ _).block ≠ _; rw [add_block]; exact Nat.ne_of_lt (Nat.lt_of_lt_of_le (by have := World.block_lt_of_cell? _ _ hw382_1; first | rwa [add_block] at this | exact this) GW387.out)) | (dsimp only; exact Nat.ne_of_lt (Nat.lt_of_lt_of_le (by have := World.block_lt_of_cell? _ _ hw382_1; first | rwa [add_block] at this | exact this) GW387.out))) _).trans (((cell_far (p := ⟨gb387, _, none⟩) (by first | exact Nat.ne_of_lt (Nat.lt_of_lt_of_le (by have := World.block_lt_of_cell? _ _ hw382_1; first | rwa [add_block] at this | exact this) GW387.out) | (rw [add_block]; exact Nat.ne_of_lt (Nat.lt_of_lt_of_le (by have := World.block_lt_of_cell? _ _ hw382_1; first | rwa [add_block] at this | exact this) GW387.out)) | (show (Addr.add _ _).block ≠ _; rw [add_block]; exact Nat.ne_of_lt (Nat.lt_of_lt_of_le (by have := World.block_lt_of_cell? _ _ hw382_1; first | rwa [add_block] at this | exact this) GW387.out)) | (dsimp only; exact Nat.ne_of_lt (Nat.lt_of_lt_of_le (by have := World.block_lt_of_cell? _ _ hw382_1; first | rwa [add_block] at this | exact this) GW387.out))) _).trans (hHeld.2.1)))), ((cell_far (p := ⟨gb387, _, none⟩) (by first | exact Nat.ne_of_lt (Nat.lt_of_lt_of_le (by have := World.block_lt_of_cell? _ _ hw382_2; first | rwa [add_block] at this | exact this) GW387.out) | (rw [add_block]; exact Nat.ne_of_lt (Nat.lt_of_lt_of_le (by have := World.block_lt_of_cell? _ _ hw382_2; first | rwa [add_block] at this | exact this) GW387.out)) | (show (Addr.add _ _).block ≠ _; rw [add_block]; exact Nat.ne_of_lt (Nat.lt_of_lt_of_le (by have := World.block_lt_of_cell? _ _ hw382_2; first | rwa [add_block] at this | exact this) GW387.out)) | (dsimp only; exact Nat.ne_of_lt (Nat.lt_of_lt_of_le (by have := World.block_lt_of_cell? _ _ hw382_2; first | rwa [add_block] at this | exact this) GW387.out))) _).trans (((cell_far (p := ⟨gb387, _, none⟩) (by first | exact Nat.ne_of_lt (Nat.lt_of_lt_of_le (by have := World.block_lt_of_cell? _ _ hw382_2; first | rwa [add_block] at this | exact this) GW387.out) | (rw [add_block]; exact Nat.ne_of_lt (Nat.lt_of_lt_of_le (by have := World.block_lt_of_cell? _ _ hw382_2; first | rwa [add_block] at this | exact this) GW387.out)) | (show (Addr.add _ _).block ≠ _; rw [add_block]; exact Nat.ne_of_lt (Nat.lt_of_lt_of_le (by have := World.block_lt_of_cell? _ _ hw382_2; first | rwa [add_block] at this | exact this) GW387.out)) | (dsimp only; exact Nat.ne_of_lt (Nat.lt_of_lt_of_le (by have := World.block_lt_of_cell? _ _ hw382_2; first | rwa [add_block] at this | exact this) GW387.out))) _).trans (hHeld.2.2.1)))), ((cell_far (p := ⟨gb387, _, none⟩) (by first | exact Nat.ne_of_lt (Nat.lt_of_lt_of_le (by have := World.block_lt_of_cell? _ _ hw383_0; first | rwa [add_block] at this | exact this) GW387.out) | (rw [add_block]; exact Nat.ne_of_lt (Nat.lt_of_lt_of_le (by have := World.block_lt_of_cell? _ _ hw383_0; first | rwa [add_block] at this | exact this) GW387.out)) | (show (Addr.add _ _).block ≠ _; rw [add_block]; exact Nat.ne_of_lt (Nat.lt_of_lt_of_le (by have := World.block_lt_of_cell? _ _ hw383_0; first | rwa [add_block] at this | exact this) GW387.out)) | (dsimp only; exact Nat.ne_of_lt (Nat.lt_of_lt_of_le (by have := World.block_lt_of_cell? _ _ hw383_0; first | rwa [add_block] at this | exact this) GW387.out))) _).trans (((cell_far (p := ⟨gb387, _, none⟩) (by first | exact Nat.ne_of_lt (Nat.lt_of_lt_of_le (by have := World.block_lt_of_cell? _ _ hw383_0; first | rwa [add_block] at this | exact this) GW387.out) | (rw [add_block]; exact Nat.ne_of_lt (Nat.lt_of_lt_of_le (by have := World.block_lt_of_cell? _ _ hw383_0; first | rwa [add_block] at this | exact this) GW387.out)) | (show (Addr.add _ _).block ≠ _; rw [add_block]; exact Nat.ne_of_lt (Nat.lt_of_lt_of_le (by have := World.block_lt_of_cell? _ _ hw383_0; first | rwa [add_block] at this | exact this) GW387.out)) | (dsimp only; exact Nat.ne_of_lt (Nat.lt_of_lt_of_le (by have := World.block_lt_of_cell? _ _ hw383_0; first | rwa [add_block] at this | exact this) GW387.out))) _).trans (hHeld.2.2.2.1)))), ((cell_far (p := ⟨gb387, _, none⟩) (by first | exact Nat.ne_of_lt (Nat.lt_of_lt_of_le (by have := World.block_lt_of_cell? _ _ hw383_1; first | rwa [add_block] at this | exact this) GW387.out) | (rw [add_block]; exact Nat.ne_of_lt (Nat.lt_of_lt_of_le (by have := World.block_lt_of_cell? _ _ hw383_1; first | rwa [add_block] at this | exact this) GW387.out)) | (show (Addr.add _ _).block ≠ _; rw [add_block]; exact Nat.ne_of_lt (Nat.lt_of_lt_of_le (by have := World.block_lt_of_cell? _ _ hw383_1; first | rwa [add_block] at this | exact this) GW387.out)) | (dsimp only; exact Nat.ne_of_lt (Nat.lt_of_lt_of_le (by have := World.block_lt_of_cell? _ _ hw383_1; first | rwa [add_block] at this | exact this) GW387.out))) _).trans (((cell_far (p := ⟨gb387, _, none⟩) (by first | exact Nat.ne_of_lt (Nat.lt_of_lt_of_le (by have := World.block_lt_of_cell? _ _ hw383_1; first | rwa [add_block] at this | exact this) GW387.out) | (rw [add_block]; exact Nat.ne_of_lt (Nat.lt_of_lt_of_le (by have := World.block_lt_of_cell? _ _ hw383_1; first | rwa [add_block] at this | exact this) GW387.out)) | (show (Addr.add _ _).block ≠ _; rw [add_block]; exact Nat.ne_of_lt (Nat.lt_of_lt_of_le (by have := World.block_lt_of_cell? _ _ hw383_1; first | rwa [add_block] at this | exact this) GW387.out)) | (dsimp only; exact Nat.ne_of_lt (Nat.lt_of_lt_of_le (by have := World.block_lt_of_cell? _ _ hw383_1; first | rwa [add_block] at this | exact this) GW387.out))) _).trans (hHeld.2.2.2.2.1)))), ((cell_far (p := ⟨gb387, _, none⟩) (by first | exact Nat.ne_of_lt (Nat.lt_of_lt_of_le (by have := World.block_lt_of_cell? _ _ hw383_2; first | rwa [add_block] at this | exact this) GW387.out) | (rw [add_block]; exact Nat.ne_of_lt (Nat.lt_of_lt_of_le (by have := World.block_lt_of_cell? _ _ hw383_2; first | rwa [add_block] at this | exact this) GW387.out)) | (show (Addr.add _ _).block ≠ _; rw [add_block]; exact Nat.ne_of_lt (Nat.lt_of_lt_of_le (by have := World.block_lt_of_cell? _ _ hw383_2; first | rwa [add_block] at this | exact this) GW387.out)) | (dsimp only; exact Nat.ne_of_lt (Nat.lt_of_lt_of_le (by have := World.block_lt_of_cell? _ _ hw383_2; first | rwa [add_block] at this | exact this) GW387.out))) _).trans (((cell_far (p := ⟨gb387, _, none⟩) (by first | exact Nat.ne_of_lt (Nat.lt_of_lt_of_le (by have := World.block_lt_of_cell? _ _ hw383_2; first | rwa [add_block] at this | exact this) GW387.out) | (rw [add_block]; exact Nat.ne_of_lt (Nat.lt_of_lt_of_le (by have := World.block_lt_of_cell? _ _ hw383_2; first | rwa [add_block] at this | exact this) GW387.out)) | (show (Addr.add _ _).block ≠ _; rw [add_block]; exact Nat.ne_of_lt (Nat.lt_of_lt_of_le (by have := World.block_lt_of_cell? _ _ hw383_2; first | rwa [add_block] at this | exact this) GW387.out)) | (dsimp only; exact Nat.ne_of_lt (Nat.lt_of_lt_of_le (by have := World.block_lt_of_cell? _ _ hw383_2; first | rwa [add_block] at this | exact this) GW387.out))) _).trans (hHeld.2.2.2.2.2))))⟩ (fun hHeld => ?_)
                 clear hK K
                 refine pure_ (i := 17) (N := some 11) (v := ?_) (a' := ?_) #[true, true, true, true, true, true, true, true, true, true, true, true, true, true, true, true, true, true] rfl rfl (any_of HT_.out (by kernel_rfl)) (fun _ _ _ h => h) (Or.inl ⟨by rfl, ?_⟩) ?_ ?_
                 rotate_left
                 ·
                  intro w'
                  go_simp
                  with_reducible rfl
                 rotate_left
                 ·
                  simp only [sx]
                  rfl
                 refine done_ (done_of HT_.out (by kernel_rfl)) ?_
                 have n0_ : Aside0 (Kd.R k35 35 ((w50.setCell ⟨gb387, 0, none⟩ (.string t384)).setCell ⟨gb387, 1, none⟩ (.string t385)) w.heap.size (fun _ => True) v375 y374) := ⟨by (with_reducible repeat (first | apply Kd.R_alloc | apply Kd.R_drewN | apply Kd.R_drew)); exact Kd.R_mono (Kd.R_far (p := ⟨gb387, 1, none⟩) (Kd.R_far (p := ⟨gb387, 0, none⟩) (Kd.R_types HO_8.out BK387.out (by decide)) (fun _ hk => hk.2) (.string t384)) (fun _ hk => hk.2) (.string t385)) (fun _ hk => trivial)⟩
                 have n1_ : Aside0 (((w50.setCell ⟨gb387, 0, none⟩ (.string t384)).setCell ⟨gb387, 1, none⟩ (.string t385)).heap[gb387]? = some (.cells #[.string t384, .string t385] 31 (0, 0))) := ⟨by (with_reducible repeat (first | refine blk_drewN ?_ _ | refine blk_drew ?_ | refine blk_alloc ?_ _)); refine blk_put (cs := #[.string t384, .string (⟨#[]⟩ : ByteArray)]) ?_ 1 _ rfl; (with_reducible repeat (first | refine blk_drewN ?_ _ | refine blk_drew ?_ | refine blk_alloc ?_ _)); refine blk_put (cs := #[.string (⟨#[]⟩ : ByteArray), .string (⟨#[]⟩ : ByteArray)]) ?_ 0 _ rfl; (with_reducible repeat (first | refine blk_drewN ?_ _ | refine blk_drew ?_ | refine blk_alloc ?_ _)); exact BK387.out⟩
                 have n2_ : Aside0 (Below w.heap.size w ((w50.setCell ⟨gb387, 0, none⟩ (.string t384)).setCell ⟨gb387, 1, none⟩ (.string t385))) := ⟨bz⟩
                 (try clear HO_8)
                 (try clear BK387)
                 (try clear HB)
                 generalize ((w50.setCell ⟨gb387, 0, none⟩ (.string t384)).setCell ⟨gb387, 1, none⟩ (.string t385)) = w53 at n0_ n1_ n2_ ⊢
                 have HO_8 := n0_
                 have BK387 := n1_
                 have HB := n2_
                 clear n0_ n1_ n2_
                 have q54 : (t378 : Int) ≤ ((l0.length : Int) : Int) := of_decide_eq_true (by first | (with_reducible assumption) | assumption)
                 obtain ⟨i054, hi054, _, hsz54, _⟩ := info_parts info35
                 have hroom54 : l0.length ≤ c0 := HC0.out
                 have hC54 : Kd.C k35 _ (some ad382) l0.length l0 := HR0.out
                 have hcut54 := cut_to (P := Try.prog) 23 35 .i64 Try.underlying23 hi054 (some ad382) l0.length c0 t378 (of_decide_eq_true (by first | (with_reducible assumption) | assumption)) q54 hroom54
                 have hr54 := Kd.C_take (m := (t378 : Int).toNat) hC54 (by omega)
                 have hy54 : y388.length = (t378 : Int).toNat := (by rw [Ny388.out, List.length_take]; omega)
                 rw [← Ny388.out] at hr54
                 rw [← hy54] at hcut54
                 have HR391 := Aside0.mk hr54
                 have HC391 := Aside0.mk (show y388.length ≤ c0 from by omega)
                 clear hr54 hC54 hroom54 hi054 hsz54
                 have KY54 := Aside0.mk hy54
                 clear hy54
                 replace q54 := eq_true q54
                 try go_wp2_with (first | ((with_reducible refine gate_builtin (b := .append) (xs := #[.tmp 47, .tmp 50]) rfl ?_); (try (refine gate_guard (by rfl) ?_; dsimp only)); at_builtin; refine Kd.R_append_rows k35 (w0 := w) w.heap.size rfl (.tmp 47) (.tmp 50) 23 35 (.agg #[(.int .i64 0), (.string ⟨#[]⟩), (.string ⟨#[]⟩)]) 40 rfl Try.underlying23 info35 rfl (by decide) (by omega) v375 y374 y388 _ _ _ (fun _ => True) (fun _ => False) rfl rfl ?aO ?aR (fun _ _ h => h) (fun _ h => h.elim) ?aF ?aB ?aS ?aL ?_; (case aR => repeat (first | exact (Kd.C_below HR391.out HB.out) | (with_reducible refine Kd.C_alloc ?_ _) | (with_reducible refine Kd.C_drewN ?_ _) | (with_reducible refine Kd.C_drew ?_))); (case aB => exact (bz)); (case aF => exact (fun _ _ => trivial)); (case aO => exact (by (with_reducible repeat (first | apply Kd.R_alloc | apply Kd.R_drewN | apply Kd.R_drew)); exact HO_8.out)); (case aS => exact (below_size (bz))); (case aL => have := LMc23.out; omega); intro v393 w55 ho hb hg hat; rw [← Ny392.out] at ho; have n0_ := Aside0.mk (blk_grown (g := gb387) (o := .cells #[.string t384, .string t385] 31 (0, 0)) (bq BK387) hg (Kd.R_ne HO_8.out BK387.out (by decide))); have n1_ := Aside0.mk (hb); have n2_ := Aside0.mk (ho); clear BK387; clear HB; clear HO_8; have BK387 := n0_; have HB := n1_; have HO394 := n2_; clear n0_ n1_ n2_; clear ho hb hg hat; obtain ⟨hcz56_0, hcz56_1⟩ := cl2 BK387; obtain ⟨hfz56_0, hfz56_1⟩ := fz2 BK387) | ((with_reducible refine gate_builtin (b := .append) (xs := #[.tmp 52, .tmp 56]) rfl ?_); (try (refine gate_guard (by rfl) ?_; dsimp only)); at_builtin; refine Kd.R_append k35 (w0 := w) w.heap.size rfl (.tmp 52) (.tmp 56) 23 35 (.agg #[(.int .i64 0), (.string ⟨#[]⟩), (.string ⟨#[]⟩)]) 40 rfl Try.underlying23 info35 rfl (by decide) (by omega) v393 y392 (⟨a2, (⟨t384, t385⟩ : S31)⟩ : S35) [.int .i64 a2, .string t384, .string t385] (fun _ => True) (fun _ => False) rfl rfl ?aP (fun _ hk => hk.elim) ?aF ?aO ?aB ?aS ?aL ?_; (case aP => exact k35_mkM _ _ _ (⟨a2, (⟨t384, t385⟩ : S31)⟩ : S35)); (case aB => exact (bz)); (case aF => exact (fun _ _ => trivial)); (case aO => exact (by (with_reducible repeat (first | apply Kd.R_alloc | apply Kd.R_drewN | apply Kd.R_drew)); exact HO394.out)); (case aS => exact (below_size (bz))); (case aL => have := LMc24.out; omega); intro v396 w57 ho hb hg hat; rw [← Ny395.out] at ho; have n0_ := Aside0.mk (blk_grown (g := gb387) (o := .cells #[.string t384, .string t385] 31 (0, 0)) (bq BK387) hg (Kd.R_ne HO394.out BK387.out (by decide))); have n1_ := Aside0.mk (hb); have n2_ := Aside0.mk (ho); clear BK387; clear HB; clear HO394; have BK387 := n0_; have HB := n1_; have HO397 := n2_; clear n0_ n1_ n2_; clear ho hb hg hat; have q58 : ((ji25) : Int) ≤ ((l0.length : Int) : Int) := of_decide_eq_true (by first | (with_reducible assumption) | assumption); obtain ⟨i058, hi058, _, hsz58, _⟩ := info_parts info35; have hroom58 : l0.length ≤ c0 := HC0.out; have hC58 : Kd.C k35 _ (some ad382) l0.length l0 := HR0.out; have q058 : (0 : Int) ≤ ((ji25) : Int) := of_decide_eq_true (by first | (with_reducible assumption) | assumption); have hcut58 := cut_from (P := Try.prog) 23 35 .i64 Try.underlying23 hi058 3 hsz58 (some ad382) l0.length c0 (ji25) q058 q58; have hr58 := Kd.C_drop (m := ((ji25) : Int).toNat) (c := c0) hC58 (by omega) hroom58; obtain ⟨A58, hA58⟩ : ∃ A1, A1 = (if c0 = ((ji25) : Int).toNat then (some ad382) else ((some ad382) : Option Addr).map (·.add (((ji25) : Int).toNat * 3))) := ⟨_, rfl⟩; obtain ⟨c58, hc58⟩ : ∃ c1, c1 = c0 - ((ji25) : Int).toNat := ⟨_, rfl⟩; have hy58 : y398.length = l0.length - ((ji25) : Int).toNat := (by rw [Ny398.out, List.length_drop] <;> omega); rw [show (l0).drop ((ji25) : Int).toNat = y398 from Ny398.out.symm] at hr58; replace hr58 : Kd.C k35 _ A58 y398.length y398 := (by rw [hA58]; exact hr58); rw [← hy58, ← hA58, ← hc58] at hcut58; have HR401 := Aside0.mk hr58; have HC401 := Aside0.mk (show y398.length ≤ c58 from by rw [hy58, hc58]; exact Nat.sub_le_sub_right hroom58 _); clear hr58 hC58 hroom58 hi058 hsz58 hc58; have KY58 := Aside0.mk hy58; have KA58 := Aside0.mk hA58; clear hy58 hA58; replace q58 := eq_true q58) | ((with_reducible refine gate_builtin (b := .append) (xs := #[.tmp 58, .tmp 62]) rfl ?_); (try (refine gate_guard (by rfl) ?_; dsimp only)); at_builtin; refine Kd.R_append_rows k35 (w0 := w) w.heap.size rfl (.tmp 58) (.tmp 62) 23 35 (.agg #[(.int .i64 0), (.string ⟨#[]⟩), (.string ⟨#[]⟩)]) 40 rfl Try.underlying23 info35 rfl (by decide) (by omega) v396 y395 y398 _ _ _ (fun _ => True) (fun _ => False) rfl rfl ?aO ?aR (fun _ _ h => h) (fun _ h => h.elim) ?aF ?aB ?aS ?aL ?_; (case aR => repeat (first | exact (Kd.C_below HR401.out HB.out) | (with_reducible refine Kd.C_alloc ?_ _) | (with_reducible refine Kd.C_drewN ?_ _) | (with_reducible refine Kd.C_drew ?_))); (case aB => exact (bz)); (case aF => exact (fun _ _ => trivial)); (case aO => exact (by (with_reducible repeat (first | apply Kd.R_alloc | apply Kd.R_drewN | apply Kd.R_drew)); exact HO397.out)); (case aS => exact (below_size (bz))); (case aL => have := LMc28.out; omega); intro v403 w59 ho hb hg hat; rw [← Ny402.out] at ho; have n0_ := Aside0.mk (blk_grown (g := gb387) (o := .cells #[.string t384, .string t385] 31 (0, 0)) (bq BK387) hg (Kd.R_ne HO397.out BK387.out (by decide))); have n1_ := Aside0.mk (hb); have n2_ := Aside0.mk (ho); clear BK387; clear HB; clear HO397; have BK387 := n0_; have HB := n1_; have HO404 := n2_; clear n0_ n1_ n2_; clear ho hb hg hat; obtain ⟨Ao60, co60, eo60⟩ := Kd.R_slice HO404.out; subst eo60) | ((with_reducible refine gate_callee (f := 75) rfl ?_); refine goesL_ (some 65) rfl rfl Try.func75 (by kernel_rfl) rfl #[.slice Ao60 y402.length co60] rfl (by (try simp only [List.map_toArray, List.map_cons, List.map_nil]); first | done | rfl | (simp only [List.length_drop, List.length_take]; rfl)) ?_; (with_reducible refine (spec_RoutesValid.calls kj6 _ _ y402 false _ ?side1 ?side2 A29.out).mono ?_); (case side1 => repeat (first | exact (Kd.R_reads' HO404.out).2.2 | (with_reducible refine Kd.C_alloc ?_ _) | (with_reducible refine Kd.C_drewN ?_ _) | (with_reducible refine Kd.C_drew ?_))); (case side2 => exact (Kd.R_reads' HO404.out).2.1); rintro e w61 ⟨rfl, hb⟩; refine ⟨_, rfl, ?_⟩; have n0_ := Aside0.mk (Kd.R_below (by (with_reducible repeat (first | apply Kd.R_alloc | apply Kd.R_drewN | apply Kd.R_drew)); exact HO404.out) hb); have n1_ := bkb BK387 hb; have n2_ := Aside0.mk (below_step (bz) hb); clear HO404; clear BK387; clear HB; have HO404 := n0_; have BK387 := n1_; have HB := n2_; clear n0_ n1_ n2_; (try clear hb); (try clear hb2); (try clear hk); (try clear hi)) | ((with_reducible refine gate_dst (N := 67) rfl ?_); (try (refine gate_guard (by rfl) ?_; dsimp only)); refine Kd.R_lit k35 _ 35 ?hg (N := 67) ?hd (xs := ([] : List (S35))) (inner := []) (ok := fun _ => True) (okp := fun _ => True) ?hr ?hp (fun _ hk => hk) trivial (Below.refl _ _) (Nat.le_refl _) (by simp) ?_; (case hd => rfl); (case hg => rfl); (case hr => first | (go_simp; done) | (go_simp; rfl)); (case hp => exact (Reps.none _ _)); intro v407 w62 ho63 hb hg_ hnew_; clear hg_ hnew_; (first | rw [← Ny406.out] at ho63 | (simp only [Int.reduceToNat] at ho63; rw [← Ny406.out] at ho63)); have n0_ := Aside0.mk (Kd.R_elder' (by (with_reducible repeat (first | apply Kd.R_alloc | apply Kd.R_drewN | apply Kd.R_drew)); exact HO404.out) (Kd.R_base ho63) hb); have n1_ := Aside0.mk (Kd.R_lower (Kd.R_new' ho63 (Kd.R_lt (by (with_reducible repeat (first | apply Kd.R_alloc | apply Kd.R_drewN | apply Kd.R_drew)); exact HO404.out))) (below_size (bz))); have n2_ := bkb BK387 hb; have n3_ := Aside0.mk (below_step (bz) hb); clear HO404; clear BK387; clear HB; have HO404 := n0_; have HO408 := n1_; have BK387 := n2_; have HB := n3_; clear n0_ n1_ n2_ n3_; clear hb ho63) | ((with_reducible refine gate_builtin (b := .append) (xs := #[.tmp 67, .tmp 68]) rfl ?_); (try (refine gate_guard (by rfl) ?_; dsimp only)); at_builtin; refine Kd.R_append_rows k35 (w0 := w) w.heap.size rfl (.tmp 67) (.tmp 68) 23 35 (.agg #[(.int .i64 0), (.string ⟨#[]⟩), (.string ⟨#[]⟩)]) 40 rfl Try.underlying23 info35 rfl (by decide) (by omega) v407 y406 l0 _ _ _ (fun k_ => some k_ ≠ (.slice Ao60 y402.length co60 : Value).ownBlock) (fun _ => False) rfl rfl ?aO ?aR (fun _ _ h => h) (fun _ h => h.elim) ?aF ?aB ?aS ?aL ?_; (case aR => repeat (first | exact (Kd.C_below HR0.out HB.out) | (with_reducible refine Kd.C_alloc ?_ _) | (with_reducible refine Kd.C_drewN ?_ _) | (with_reducible refine Kd.C_drew ?_))); (case aB => exact (bz)); (case aF => exact (fun k_ hk => Kd.fresh' (Kd.R_lt (by (with_reducible repeat (first | apply Kd.R_alloc | apply Kd.R_drewN | apply Kd.R_drew)); exact HO404.out)) k_ hk)); (case aO => exact (by (with_reducible repeat (first | apply Kd.R_alloc | apply Kd.R_drewN | apply Kd.R_drew)); exact Kd.R_mono HO408.out (fun _ hk => hk.2))); (case aS => exact (below_size (bz))); (case aL => have := LMc46.out; omega); intro v410 w64 ho hb hg hat; rw [← Ny409.out] at ho; have n0_ := Aside0.mk (blk_grown (g := gb387) (o := .cells #[.string t384, .string t385] 31 (0, 0)) (bq BK387) hg (Kd.R_ne HO408.out BK387.out (by decide))); have n1_ := Aside0.mk (Kd.R_after (ok := (fun _ => True)) (by (with_reducible repeat (first | apply Kd.R_alloc | apply Kd.R_drewN | apply Kd.R_drew)); exact HO404.out) hg hat); have n2_ := Aside0.mk (hb); have n3_ := Aside0.mk (ho); clear BK387; clear HO404; clear HB; clear HO408; have BK387 := n0_; have HO404 := n1_; have HB := n2_; have HO411 := n3_; clear n0_ n1_ n2_ n3_; clear ho hb hg hat))
                 go_ret2
                 exact ⟨_, by first | rfl | (simp only [u8w, w64m]; rfl) | (simp [errW_none, errW_some] <;> rfl) | (simp only [← hji17, ← hji25]; first | rfl | (simp [errW_none, errW_some] <;> rfl)) | (simp [*, errW_none, errW_some] <;> rfl), by (with_reducible repeat (first | apply Kd.R_alloc | apply Kd.R_drewN | apply Kd.R_drew)); exact Kd.R_mono HO411.out (fun _ hk => trivial), bz⟩
                ·
                 rw [if_neg c46] at H
                 exact absurd H (by simp)
              ·
               rw [if_neg c28] at H
               exact absurd H (by simp)
             ·
              rw [if_neg c27] at H
              exact absurd H (by simp)
            ·
             rw [if_neg c26] at H
             exact absurd H (by simp)
           ·
            rw [if_neg c24] at H
            exact absurd H (by simp)
          ·
           rw [if_neg c23] at H
           exact absurd H (by simp)
         ·
          rw [if_neg c22] at H
          exact absurd H (by simp)
        ·
         rw [if_neg c19] at H
         exact absurd H (by simp)
       ·
        rw [if_neg c18] at H
        exact absurd H (by simp)
      ·
       rw [if_neg c16] at H
       exact absurd H (by simp)
     ·
      rw [if_neg c15] at H
      exact absurd H (by simp)
 ·
  replace c5 := Bool.eq_false_iff.mpr c5
  subst c5
  rw [if_neg (show ¬ (false = true) by decide)] at H
  simp only [Option.some.injEq, Prod.mk.injEq] at H
  obtain ⟨rfl, rfl⟩ := H
  go_enter Try.func32, Try.ntmps32
  go_wp2_with (first | ((with_reducible refine gate_dst (N := 12) rfl ?_); (try (refine gate_guard (by rfl) ?_; dsimp only)); refine Kd.R_lit k35 _ 35 ?hg (N := 12) ?hd (xs := ([] : List (S35))) (inner := []) (ok := fun _ => True) (okp := fun _ => True) ?hr ?hp (fun _ hk => hk) trivial (Below.refl _ _) (Nat.le_refl _) (by simp) ?_; (case hd => rfl); (case hg => rfl); (case hr => first | (go_simp; done) | (go_simp; rfl)); (case hp => exact (Reps.none _ _)); intro v375 w65 ho66 hb hg_ hnew_; clear hg_ hnew_; (first | rw [← Ny374.out] at ho66 | (simp only [Int.reduceToNat] at ho66; rw [← Ny374.out] at ho66)); have n0_ := Aside0.mk (Kd.R_lower ho66 (below_size (bz))); have n1_ := Aside0.mk (below_step (bz) hb); clear HB; have HO376 := n0_; have HB := n1_; clear n0_ n1_; clear hb ho66) | ((with_reducible refine gate_callee (f := 75) rfl ?_); refine goesL_ (some 14) rfl rfl Try.func75 (by kernel_rfl) rfl #[.slice A0 l0.length c0] rfl (by (try simp only [List.map_toArray, List.map_cons, List.map_nil]); first | done | rfl | (simp only [List.length_drop, List.length_take]; rfl)) ?_; (with_reducible refine (spec_RoutesValid.calls k _ _ l0 false _ ?side1 ?side2 A4.out).mono ?_); (case side1 => repeat (first | exact (Kd.C_below HR0.out HB.out) | (with_reducible refine Kd.C_alloc ?_ _) | (with_reducible refine Kd.C_drewN ?_ _) | (with_reducible refine Kd.C_drew ?_))); (case side2 => exact HC0.out); rintro e w67 ⟨rfl, hb⟩; refine ⟨_, rfl, ?_⟩; have n0_ := Aside0.mk (Kd.R_below (by (with_reducible repeat (first | apply Kd.R_alloc | apply Kd.R_drewN | apply Kd.R_drew)); exact HO376.out) hb); have n1_ := Aside0.mk (below_step (bz) hb); clear HO376; clear HB; have HO376 := n0_; have HB := n1_; clear n0_ n1_; (try clear hb); (try clear hb2); (try clear hk); (try clear hi)))
  go_ret2
  exact ⟨_, by first | rfl | (simp only [u8w, w64m]; rfl) | (simp [errW_none, errW_some] <;> rfl) | (simp [*, errW_none, errW_some] <;> rfl), by (with_reducible repeat (first | apply Kd.R_alloc | apply Kd.R_drewN | apply Kd.R_drew)); exact HO376.out, bz⟩

end Go.Proofs.Ytkjkokljgbpbbaa.PFnMergeRoutes
