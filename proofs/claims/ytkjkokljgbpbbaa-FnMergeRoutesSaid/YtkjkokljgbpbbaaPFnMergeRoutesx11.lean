/- Go functions as plain Lean functions, and for each a proof that its call comes to what the function says; under the conditions that each theorem names. Written by a program of this session. -/
import Derived.Test.YtkjkokljgbpbbaaPFnMergeRoutesx0
import Derived.Test.YtkjkokljgbpbbaaPFnMergeRoutesx3
import Derived.Test.YtkjkokljgbpbbaaPFnMergeRoutesx5
import Derived.Test.YtkjkokljgbpbbaaPFnMergeRoutesx10
namespace Go.Proofs.Ytkjkokljgbpbbaa.PFnMergeRoutes
open Go.RowKit Go.Proofs.YtkjkokljgbpbbaaW.PrintWords Go.Proofs.YtkjkokljgbpbbaaW.PrintLast Go.Proofs.YtkjkokljgbpbbaaW.PrintMore
attribute [local go_sem high] str_gtr str_leq str_geq
attribute [local go_sem] max2_int min2_int max_two min_two max_three min_three max_four min_four   -- for this text's walks alone
set_option linter.unusedVariables false
set_option linter.unusedSimpArgs false

/-! ### impl_MergeRoutes: function 31 -/
def impl_MergeRoutes.j0 : Nat → List (S35) → Int → Int → Bool → Option ((List (S35)) × Bool)
 | 0, _, _, _, _ => none
 | k + 1, x0, x2, x8, x26 => if x26 = true then ((impl_Route_94.f x0).bind fun t339 => (some (t339, false))) else (if 0 ≤ x8 then (if x8 < (x0.length : Int) then (if 0 ≤ (wrap64 (x8 + 1)) then (if (wrap64 (x8 + 1)) < (x0.length : Int) then ((impl_IntervalJoin.f k ((rd_T35 x0 x8).f1.f0) ((rd_T35 x0 x8).f1.f1) ((rd_T35 x0 (wrap64 (x8 + 1))).f1.f0) ((rd_T35 x0 (wrap64 (x8 + 1))).f1.f1)).bind fun bt344 => (if bt344.2.2 = true then ((impl_Route_96.f x0 x8 2 (([(⟨x2, (⟨bt344.1, bt344.2.1⟩ : S31)⟩ : S35)] : List (S35)))).bind fun t354 => ((impl_RoutesValid.f k t354).bind fun t357 => (if t357 = true then (some (t354, true)) else ((impl_Route_94.f x0).bind fun t358 => (some (t358, false)))))) else ((impl_Route_94.f x0).bind fun t348 => (some (t348, false))))) else (none)) else (none)) else (none)) else (none))
def impl_MergeRoutes.f (k : Nat) (l0 : List (S35)) (a1 : Int) (a2 : Int) : Option ((List (S35)) × Bool) := (impl_RoutesValid.f k l0).bind fun t337 => (if t337 = true then ((impl_routePlace.f k l0 a1).bind fun t338 => (if t338 < 0 then (impl_MergeRoutes.j0 k l0 a2 t338 true) else (impl_MergeRoutes.j0 k l0 a2 t338 (t338 == (wrap64 ((l0.length : Int) - 1)))))) else (some (([] : List (S35)), false)))
theorem impl_MergeRoutes.mono_l : ∀ k, (∀ y0 y1 y2 y3, LeO (impl_MergeRoutes.j0 k y0 y1 y2 y3) (impl_MergeRoutes.j0 (k + 1) y0 y1 y2 y3))
 | 0 => fun _ _ _ _ r h => by simp [impl_MergeRoutes.j0] at h
 | k + 1 => by
  have ih0 := impl_MergeRoutes.mono_l k
  ·
   intro y0 y1 y2 y3
   unfold impl_MergeRoutes.j0
   repeat' first
   | (with_reducible exact ih0 _ _ _ _)
   | (with_reducible exact impl_IntervalJoin.mono _ _ _ _ _)
   | (with_reducible exact impl_RoutesValid.mono _ _)
   | (with_reducible exact impl_routePlace.mono _ _ _)
   | (with_reducible exact LeO.refl _)
   | (with_reducible exact LeO.none _)
   | (with_reducible refine LeO.ite ?_ ?_)
   | (with_reducible refine LeO.bind ?_ (fun _ => ?_))
   | exact ih0 _ _ _ _
   | exact impl_IntervalJoin.mono _ _ _ _ _
   | exact impl_RoutesValid.mono _ _
   | exact impl_routePlace.mono _ _ _
   | exact LeO.none _
   | refine LeO.ite ?_ ?_
   | refine LeO.bind ?_ (fun _ => ?_)
theorem impl_MergeRoutes.mono : ∀ a0 a1 a2 k, LeO (impl_MergeRoutes.f k a0 a1 a2) (impl_MergeRoutes.f (k + 1) a0 a1 a2) := by
 intro a0 a1 a2 k
 have ih0 := impl_MergeRoutes.mono_l k
 unfold impl_MergeRoutes.f
 repeat' first
   | (with_reducible exact ih0 _ _ _ _)
   | (with_reducible exact impl_IntervalJoin.mono _ _ _ _ _)
   | (with_reducible exact impl_RoutesValid.mono _ _)
   | (with_reducible exact impl_routePlace.mono _ _ _)
   | (with_reducible exact LeO.refl _)
   | (with_reducible exact LeO.none _)
   | (with_reducible refine LeO.ite ?_ ?_)
   | (with_reducible refine LeO.bind ?_ (fun _ => ?_))
   | exact ih0 _ _ _ _
   | exact impl_IntervalJoin.mono _ _ _ _ _
   | exact impl_RoutesValid.mono _ _
   | exact impl_routePlace.mono _ _ _
   | exact LeO.none _
   | refine LeO.ite ?_ ?_
   | refine LeO.bind ?_ (fun _ => ?_)
def impl_MergeRoutes.T6 : Bool × List (List Nat × List Nat) := (true, [([], []), ([], []), ([0, 1], [0, 1]), ([2], [2]), ([3], [3]), ([], []), ([], []), ([6], [6]), ([5, 7], [5, 7]), ([8], [8]), ([9], [9]), ([4, 10], [4, 10]), ([11], [11]), ([12], [12]), ([12], [12]), ([], []), ([15, 13, 11, 0, 1, 2, 3, 4, 5, 6, 7, 8, 9, 10, 11, 12, 13, 15], [13, 15]), ([14, 16, 0, 1, 2, 3, 4, 5, 6, 7, 8, 9, 10, 11, 12, 13, 14, 15, 16], [14])])
def impl_MergeRoutes.B6 : List Nat := [0, 0, 3, 7, 15, 0, 0, 64, 224, 480, 992, 2047, 4095, 8191, 8191, 0, 49151, 131071]
theorem impl_MergeRoutes.tab6 : rtab .any (opsOf Try.f31 6) = impl_MergeRoutes.T6 := by kernel_rfl
theorem impl_MergeRoutes.bits6 : waitsOk impl_MergeRoutes.T6.2 impl_MergeRoutes.B6 = true := by kernel_rfl
set_option maxHeartbeats 8000000 in
set_option maxRecDepth 100000 in
theorem impl_MergeRoutes.calls (k : Nat) (A0 : Option Addr) (c0 : Nat) (l0 : List (S35)) (a1 : Int) (a2 : Int) (r1 : List (S35)) (r2 : Bool) (w : World) (hr0 : Kd.C k35 w A0 l0.length l0) (hc0 : l0.length ≤ c0) (h : impl_MergeRoutes.f k l0 a1 a2 = some (r1, r2)) :
  Calls Try.prog 31 #[.slice A0 l0.length c0, .int .i64 a1, .int .i64 a2] w fun e w' => ∃ v0_ : Value, e = .returned (.tuple #[v0_, .bool r2]) ∧ Kd.R k35 35 w' w.heap.size (fun _ => True) v0_ r1 ∧ Below w.heap.size w w' := by
 have hu31 := Try.underlying31
 have hu35 := Try.underlying35
 have HR0 := Aside0.mk hr0
 have HC0 := Aside0.mk hc0
 clear hr0 hc0
 have HB := Aside0.mk (Below.refl w.heap.size w)
 have H : ((impl_RoutesValid.f k l0).bind fun t337 => (if t337 = true then ((impl_routePlace.f k l0 a1).bind fun t338 => (if t338 < 0 then (impl_MergeRoutes.j0 k l0 a2 t338 true) else (impl_MergeRoutes.j0 k l0 a2 t338 (t338 == (wrap64 ((l0.length : Int) - 1)))))) else (some (([] : List (S35)), false)))) = some (r1, r2) := h
 clear h
 replace H := Option.bind_eq_some_iff.mp H
 obtain ⟨t337, A40, H⟩ := H
 try dsimp only at H
 have A4 := Aside0.mk A40
 clear A40
 by_cases c5 : t337 = true
 ·
  subst c5
  rw [if_pos rfl] at H
  replace H := Option.bind_eq_some_iff.mp H
  obtain ⟨t338, A60, H⟩ := H
  try dsimp only at H
  have A6 := Aside0.mk A60
  clear A60
  have HC7 := Aside0.mk H
  clear H
  go_enter Try.func31, Try.ntmps31
  go_upto_region 4 with (first | ((with_reducible refine gate_callee (f := 18) rfl ?_); refine goesL_ (some 13) rfl rfl Try.func18 (by kernel_rfl) rfl #[.slice A0 l0.length c0] rfl (by (try simp only [List.map_toArray, List.map_cons, List.map_nil]); first | done | rfl | (simp only [List.length_drop, List.length_take]; rfl)) ?_; (with_reducible refine (impl_RoutesValid.calls k _ _ l0 true _ ?side1 ?side2 A4.out).mono ?_); (case side1 => repeat (first | exact HR0.out | (with_reducible refine Kd.C_alloc ?_ _) | (with_reducible refine Kd.C_drewN ?_ _) | (with_reducible refine Kd.C_drew ?_))); (case side2 => exact HC0.out); rintro e w8 ⟨rfl, hb⟩; refine ⟨_, rfl, ?_⟩; have n0_ := Aside0.mk (below_step (bz) hb); clear HB; have HB := n0_; clear n0_; (try clear hb); (try clear hb2); (try clear hk); (try clear hi)) | ((with_reducible refine gate_callee (f := 81) rfl ?_); refine goesL_ (some 17) rfl rfl Try.func81 (by kernel_rfl) rfl #[.slice A0 l0.length c0, .int .i64 a1] rfl (by (try simp only [List.map_toArray, List.map_cons, List.map_nil]); first | done | rfl | (simp only [List.length_drop, List.length_take]; rfl)) ?_; (with_reducible refine (impl_routePlace.calls k _ _ l0 a1 t338 _ ?side1 ?side2 A6.out).mono ?_); (case side1 => repeat (first | exact (Kd.C_below HR0.out HB.out) | (with_reducible refine Kd.C_alloc ?_ _) | (with_reducible refine Kd.C_drewN ?_ _) | (with_reducible refine Kd.C_drew ?_))); (case side2 => exact HC0.out); rintro e w9 ⟨rfl, hb⟩; refine ⟨_, rfl, ?_⟩; have n0_ := Aside0.mk (below_step (bz) hb); clear HB; have HB := n0_; clear n0_; (try clear hb); (try clear hb2); (try clear hk); (try clear hi)))
  (try simp only [Act.put, List.setIfInBounds_toArray, List.set_cons_zero, List.set_cons_succ])
  go_cut [26] (fun v26 wc => ∃ (kq : Nat) (x26_6 : Bool), v26 = .bool x26_6 ∧ Aside0 (impl_MergeRoutes.j0 kq l0 a2 t338 x26_6 = some (r1, r2)) ∧ Aside0 (kq ≤ k) ∧ Aside0 (Below w.heap.size w wc))
  case first =>
   have H := HC7.out
   clear HC7
   by_cases c10 : t338 < 0
   ·
    rw [if_pos c10] at H
    have c10b0 : decide (t338 < 0) = true := decide_eq_true c10
    clear c10
    (first | rw [c10b0] | (simp only [i64_w, i32_w]; rw [c10b0]) | skip)
    have H' := Aside0.mk H
    clear H
    go_wp2
    go_meet
    case rel => exact ⟨_, (true), (by first | rfl | (simp; done) | exact congrArg Value.bool (ne_nil_b _) | exact congrArg Value.bool (eq_nil_b _) | (simp [*]; done)), H', ⟨by first | omega | exact Nat.le_refl _⟩, ⟨bz⟩⟩
   ·
    rw [if_neg c10] at H
    have c10b0 : decide (t338 < 0) = false := decide_eq_false c10
    clear c10
    (first | rw [c10b0] | (simp only [i64_w, i32_w]; rw [c10b0]) | skip)
    have H' := Aside0.mk H
    clear H
    go_wp2
    go_meet
    case rel => exact ⟨_, ((t338 == (wrap64 ((l0.length : Int) - 1)))), (by first | rfl | (simp; done) | exact congrArg Value.bool (ne_nil_b _) | exact congrArg Value.bool (eq_nil_b _) | (simp [*]; done)), H', ⟨by first | omega | exact Nat.le_refl _⟩, ⟨bz⟩⟩
  case rest =>
   clear HC7
   try clear c1
   try clear p2
   try clear c3
   try clear c5
   try clear p6
   try clear c8
   try clear c10
   try clear c10b0
   obtain ⟨kq, x26_6, rfl, HA, HJ6, HB⟩ := hcut
   cases kq with
   | zero => exact absurd HA.out (by simp [impl_MergeRoutes.j0])
   | succ kj6 =>
    have H := HA.out
    clear HA
    simp only [impl_MergeRoutes.j0] at H
    by_cases c11 : x26_6 = true
    ·
     subst c11
     rw [if_pos rfl] at H
     replace H := Option.bind_eq_some_iff.mp H
     obtain ⟨t339, A120, H⟩ := H
     try dsimp only at H
     have A12 := Aside0.mk A120
     clear A120
     simp only [Option.some.injEq, Prod.mk.injEq] at H
     obtain ⟨rfl, rfl⟩ := H
     go_wp2_with (first | ((with_reducible refine gate_callee (f := 94) rfl ?_); refine goesL_ (some 28) rfl rfl Try.func94 (by kernel_rfl) rfl #[.slice A0 l0.length c0] rfl (by (try simp only [List.map_toArray, List.map_cons, List.map_nil]); first | done | rfl | (simp only [List.length_drop, List.length_take]; rfl)) ?_; (with_reducible refine (impl_Route_94.calls _ _ l0 t339 _ ?side1 ?side2 A12.out).mono ?_); (case side1 => repeat (first | exact (Kd.C_below HR0.out HB.out) | (with_reducible refine Kd.C_alloc ?_ _) | (with_reducible refine Kd.C_drewN ?_ _) | (with_reducible refine Kd.C_drew ?_))); (case side2 => exact HC0.out); rintro e w13 ⟨v340, rfl, ho0, hb⟩; refine ⟨_, rfl, ?_⟩; have n0_ := Aside0.mk (Kd.R_lower ho0 (below_size (bz))); have n1_ := Aside0.mk (below_step (bz) hb); clear HB; have HO341 := n0_; have HB := n1_; clear n0_ n1_; (try clear hb); (try clear hb2); (try clear hk); (try clear hi); (try clear ho0)))
     go_ret2
     exact ⟨_, by first | rfl | (simp only [u8w, w64m]; rfl) | (simp [errW_none, errW_some] <;> rfl) | (simp [*, errW_none, errW_some] <;> rfl), by (with_reducible repeat (first | apply Kd.R_alloc | apply Kd.R_drewN | apply Kd.R_drew)); exact HO341.out, bz⟩
    ·
     replace c11 := Bool.eq_false_iff.mpr c11
     subst c11
     rw [if_neg (show ¬ (false = true) by decide)] at H
     by_cases c14 : 0 ≤ t338
     ·
      rw [if_pos c14] at H
      have c14b0 : decide (0 ≤ t338) = true := decide_eq_true c14
      clear c14
      by_cases c15 : t338 < (l0.length : Int)
      ·
       rw [if_pos c15] at H
       have c15b0 : decide (t338 < (l0.length : Int)) = true := decide_eq_true c15
       clear c15
       obtain ⟨ji16, hji16⟩ : ∃ j_ : Int, (wrap64 (t338 + 1)) = j_ := ⟨_, rfl⟩
       replace H : (if 0 ≤ (ji16) then (if (ji16) < (l0.length : Int) then ((impl_IntervalJoin.f kj6 ((rd_T35 l0 t338).f1.f0) ((rd_T35 l0 t338).f1.f1) ((rd_T35 l0 (ji16)).f1.f0) ((rd_T35 l0 (ji16)).f1.f1)).bind fun bt344 => (if bt344.2.2 = true then ((impl_Route_96.f l0 t338 2 (([(⟨a2, (⟨bt344.1, bt344.2.1⟩ : S31)⟩ : S35)] : List (S35)))).bind fun t354 => ((impl_RoutesValid.f kj6 t354).bind fun t357 => (if t357 = true then (some (t354, true)) else ((impl_Route_94.f l0).bind fun t358 => (some (t358, false)))))) else ((impl_Route_94.f l0).bind fun t348 => (some (t348, false))))) else (none)) else (none)) = some (r1, r2) := by first | (rw [hji16] at H; exact H) | (simp only [hji16] at H ⊢; exact H)
       have hji16w : (IntKind.i64.wrap (t338 + 1)) = ji16 := (i64_w _).trans hji16
       by_cases c17 : 0 ≤ (ji16)
       ·
        rw [if_pos c17] at H
        have c17b0 : decide (0 ≤ (ji16)) = true := decide_eq_true c17
        clear c17
        by_cases c18 : (ji16) < (l0.length : Int)
        ·
         rw [if_pos c18] at H
         have c18b0 : decide ((ji16) < (l0.length : Int)) = true := decide_eq_true c18
         clear c18
         replace H := Option.bind_eq_some_iff.mp H
         obtain ⟨⟨t344, t345, t346⟩, A190, H⟩ := H
         try dsimp only at H
         have A19 := Aside0.mk A190
         clear A190
         by_cases c20 : t346 = true
         ·
          subst c20
          rw [if_pos rfl] at H
          obtain ⟨y351, hy351⟩ : ∃ y_ : List (S35), y_ = (([(⟨a2, (⟨t344, t345⟩ : S31)⟩ : S35)] : List (S35))) := ⟨_, rfl⟩
          replace H : ((impl_Route_96.f l0 t338 2 y351).bind fun t354 => ((impl_RoutesValid.f kj6 t354).bind fun t357 => (if t357 = true then (some (t354, true)) else ((impl_Route_94.f l0).bind fun t358 => (some (t358, false)))))) = some (r1, r2) := by first | (rw [hy351]; with_reducible exact H) | (have H2_ := (Option.bind_some _ _).symm.trans H; rw [hy351]; with_reducible exact H2_) | (have H2_ := (Option.bind_some _ _).symm.trans H; with_reducible exact H2_) | with_reducible exact H | (rw [hy351]; exact H) | exact H
          have Ny351 := Aside0.mk hy351
          clear hy351
          replace H := Option.bind_eq_some_iff.mp H
          obtain ⟨t354, A210, H⟩ := H
          try dsimp only at H
          have A21 := Aside0.mk A210
          clear A210
          replace H := Option.bind_eq_some_iff.mp H
          obtain ⟨t357, A220, H⟩ := H
          try dsimp only at H
          have A22 := Aside0.mk A220
          clear A220
          by_cases c23 : t357 = true
          ·
           subst c23
           rw [if_pos rfl] at H
           simp only [Option.some.injEq, Prod.mk.injEq] at H
           obtain ⟨rfl, rfl⟩ := H
           try go_wp2
           have n0_ := Aside0.mk (below_drew1 HB.out)
           clear HB
           have HB := n0_
           clear n0_
           have p342 : 0 ≤ (t338 : Int) := of_decide_eq_true (by first | (with_reducible assumption) | assumption)
           have q342 : t338 < (l0.length : Int) := of_decide_eq_true (by first | (with_reducible assumption) | assumption)
           obtain ⟨ad342, e342, hx342_0, hx342_1, hx342_2⟩ := at_T35 HR0.out t338 p342 q342
           have hw342_2 := hx342_2
           have hw342_1 := hx342_1
           have hw342_0 := hx342_0
           cases e342
           replace hx342_0 := (HB.out.cell (World.block_lt_of_cell? w _ hx342_0)).trans hx342_0
           replace hx342_1 := (HB.out.cell (World.block_lt_of_cell? w _ hx342_1)).trans hx342_1
           replace hx342_2 := (HB.out.cell (World.block_lt_of_cell? w _ hx342_2)).trans hx342_2
           replace p342 := eq_true p342
           replace q342 := eq_true q342
           have p343 : 0 ≤ ((ji16) : Int) := of_decide_eq_true (by first | (with_reducible assumption) | assumption)
           have q343 : (ji16) < (l0.length : Int) := of_decide_eq_true (by first | (with_reducible assumption) | assumption)
           obtain ⟨ad343, e343, hx343_0, hx343_1, hx343_2⟩ := at_T35 HR0.out (ji16) p343 q343
           have hw343_2 := hx343_2
           have hw343_1 := hx343_1
           have hw343_0 := hx343_0
           obtain rfl : ad342 = ad343 := (by injection e343)
           replace hx343_0 := (HB.out.cell (World.block_lt_of_cell? w _ hx343_0)).trans hx343_0
           replace hx343_1 := (HB.out.cell (World.block_lt_of_cell? w _ hx343_1)).trans hx343_1
           replace hx343_2 := (HB.out.cell (World.block_lt_of_cell? w _ hx343_2)).trans hx343_2
           replace p343 := eq_true p343
           replace q343 := eq_true q343
           refine start_ (n := 18) (S := fun w' => w'.cell? (ad342.add ((t338).toNat * 3)) = some (.int .i64 ((rd_T35 l0 t338).f0)) ∧ w'.cell? ⟨(ad342.add ((t338).toNat * 3)).block, (ad342.add ((t338).toNat * 3)).off + 1, none⟩ = some (.string ((rd_T35 l0 t338).f1.f0)) ∧ w'.cell? ⟨(ad342.add ((t338).toNat * 3)).block, (ad342.add ((t338).toNat * 3)).off + 2, none⟩ = some (.string ((rd_T35 l0 t338).f1.f1)) ∧ w'.cell? (ad342.add (((ji16)).toNat * 3)) = some (.int .i64 ((rd_T35 l0 (ji16)).f0)) ∧ w'.cell? ⟨(ad342.add (((ji16)).toNat * 3)).block, (ad342.add (((ji16)).toNat * 3)).off + 1, none⟩ = some (.string ((rd_T35 l0 (ji16)).f1.f0)) ∧ w'.cell? ⟨(ad342.add (((ji16)).toNat * 3)).block, (ad342.add (((ji16)).toNat * 3)).off + 2, none⟩ = some (.string ((rd_T35 l0 (ji16)).f1.f1))) (ds := []) #[false, false, false, false, false, false, false, false, false, false, false, false, false, false, false, false, false, false] (by kernel_rfl) rfl rfl ⟨((HB.out.cell (World.block_lt_of_cell? w _ hw342_0)).trans hw342_0), ((HB.out.cell (World.block_lt_of_cell? w _ hw342_1)).trans hw342_1), ((HB.out.cell (World.block_lt_of_cell? w _ hw342_2)).trans hw342_2), ((HB.out.cell (World.block_lt_of_cell? w _ hw343_0)).trans hw343_0), ((HB.out.cell (World.block_lt_of_cell? w _ hw343_1)).trans hw343_1), ((HB.out.cell (World.block_lt_of_cell? w _ hw343_2)).trans hw343_2)⟩ (fun hHeld => ?_); refine with_tabW impl_MergeRoutes.tab6 impl_MergeRoutes.bits6 (fun HT_ HW_ => ?_)
           generalize wc.drew = w24 at HB hx342_0 hx342_1 hx342_2 hx343_0 hx343_1 hx343_2 hHeld ⊢
           refine pure_ (i := 0) (N := some 30) (v := ?_) (a' := ?_) #[true, false, false, false, false, false, false, false, false, false, false, false, false, false, false, false, false, false] rfl rfl (any_of HT_.out (by kernel_rfl)) (fun _ _ _ h => h) (Or.inl ⟨by rfl, ?_⟩) ?_ ?_
           rotate_left
           ·
            intro w'
            go_simp
            with_reducible rfl
           rotate_left
           ·
            simp only [sx]
            rfl
           refine pure_ (i := 1) (N := some 31) (v := ?_) (a' := ?_) #[true, true, false, false, false, false, false, false, false, false, false, false, false, false, false, false, false, false] rfl rfl (any_of HT_.out (by kernel_rfl)) (fun _ _ _ h => h) (Or.inl ⟨by rfl, ?_⟩) ?_ ?_
           rotate_left
           ·
            intro w'
            go_simp
            with_reducible rfl
           rotate_left
           ·
            simp only [sx]
            rfl
           refine pure_ (i := 2) (N := some 32) (v := ?_) (a' := ?_) #[true, true, true, false, false, false, false, false, false, false, false, false, false, false, false, false, false, false] rfl rfl (any_of HT_.out (by kernel_rfl)) (fun _ _ _ h => h) (Or.inl ⟨by rfl, ?_⟩) ?_ ?_
           rotate_left
           ·
            intro w'
            go_simp
            with_reducible rfl
           rotate_left
           ·
            simp only [sx]
            rfl
           refine pure_ (i := 3) (N := some 33) (v := ?_) (a' := ?_) #[true, true, true, true, false, false, false, false, false, false, false, false, false, false, false, false, false, false] rfl rfl (any_of HT_.out (by kernel_rfl)) (fun _ _ _ h => h) (Or.inl ⟨by rfl, ?_⟩) ?_ ?_
           rotate_left
           ·
            intro w'
            go_simp
            with_reducible rfl
           rotate_left
           ·
            simp only [sx]
            rfl
           refine pure_ (i := 5) (N := some 35) (v := ?_) (a' := ?_) #[true, true, true, true, false, true, false, false, false, false, false, false, false, false, false, false, false, false] rfl rfl (any_of HT_.out (by kernel_rfl)) (fun _ _ _ h => h) (Or.inl ⟨by rfl, ?_⟩) ?_ ?_
           rotate_left
           ·
            intro w'
            go_simp
            with_reducible rfl
           rotate_left
           ·
            simp only [sx]
            rfl
           refine pure_ (i := 6) (N := some 36) (v := ?_) (a' := ?_) #[true, true, true, true, false, true, true, false, false, false, false, false, false, false, false, false, false, false] rfl rfl (any_of HT_.out (by kernel_rfl)) (fun _ _ _ h => h) (Or.inl ⟨by rfl, ?_⟩) ?_ ?_
           rotate_left
           ·
            intro w'
            go_simp
            with_reducible rfl
           rotate_left
           ·
            simp only [sx]
            rfl
           refine pure_ (i := 7) (N := some 37) (v := ?_) (a' := ?_) #[true, true, true, true, false, true, true, true, false, false, false, false, false, false, false, false, false, false] rfl rfl (any_of HT_.out (by kernel_rfl)) (fun _ _ _ h => h) (Or.inl ⟨by rfl, ?_⟩) ?_ ?_
           rotate_left
           ·
            intro w'
            go_simp
            with_reducible rfl
           rotate_left
           ·
            simp only [sx]
            rfl
           refine pure_ (i := 8) (N := some 38) (v := ?_) (a' := ?_) #[true, true, true, true, false, true, true, true, true, false, false, false, false, false, false, false, false, false] rfl rfl (any_of HT_.out (by kernel_rfl)) (fun _ _ _ h => h) (Or.inl ⟨by rfl, ?_⟩) ?_ ?_
           rotate_left
           ·
            intro w'
            go_simp
            with_reducible rfl
           rotate_left
           ·
            simp only [sx]
            rfl
           refine pure_ (i := 9) (N := some 39) (v := ?_) (a' := ?_) #[true, true, true, true, false, true, true, true, true, true, false, false, false, false, false, false, false, false] rfl rfl (any_of HT_.out (by kernel_rfl)) (fun _ _ _ h => h) (Or.inl ⟨by rfl, ?_⟩) ?_ ?_
           rotate_left
           ·
            intro w'
            go_simp
            with_reducible rfl
           rotate_left
           ·
            simp only [sx]
            rfl
           refine take_ (i := 4) (N := some 34) (v := ?_) (a' := ?_) #[true, true, true, true, true, true, true, true, true, true, false, false, false, false, false, false, false, false] rfl rfl (take_ofW HT_.out HW_.out (by kernel_rfl)) (fun _ _ _ h => h) (Or.inl ⟨by rfl, ?_⟩) hHeld ?_ ?_
           rotate_left
           ·
            rintro w' ⟨s0, s1, s2, s3, s4, s5⟩
            go_simp
            with_reducible rfl
           rotate_left
           ·
            simp only [sx]
            rfl
           refine take_ (i := 10) (N := some 40) (v := ?_) (a' := ?_) #[true, true, true, true, true, true, true, true, true, true, true, false, false, false, false, false, false, false] rfl rfl (take_ofW HT_.out HW_.out (by kernel_rfl)) (fun _ _ _ h => h) (Or.inl ⟨by rfl, ?_⟩) hHeld ?_ ?_
           rotate_left
           ·
            rintro w' ⟨s0, s1, s2, s3, s4, s5⟩
            go_simp
            with_reducible rfl
           rotate_left
           ·
            simp only [sx]
            rfl
           refine join_ (σ := Nat) 2 #[true, true, true, true, true, true, true, true, true, true, true, true, true, true, true, true, false, false] (fun s_ => [(41, .tuple #[.agg #[.string t344, .string t345], .bool true]), (9, .pointer (some ⟨s_, 0, none⟩)), (29, .tuple #[.agg #[.string t344, .string t345], .bool true]), (42, .agg #[.string t344, .string t345]), (43, .bool true)]) (fun s_ w' => (w'.cell? (ad342.add ((t338).toNat * 3)) = some (.int .i64 ((rd_T35 l0 t338).f0)) ∧ w'.cell? ⟨(ad342.add ((t338).toNat * 3)).block, (ad342.add ((t338).toNat * 3)).off + 1, none⟩ = some (.string ((rd_T35 l0 t338).f1.f0)) ∧ w'.cell? ⟨(ad342.add ((t338).toNat * 3)).block, (ad342.add ((t338).toNat * 3)).off + 2, none⟩ = some (.string ((rd_T35 l0 t338).f1.f1)) ∧ w'.cell? (ad342.add (((ji16)).toNat * 3)) = some (.int .i64 ((rd_T35 l0 (ji16)).f0)) ∧ w'.cell? ⟨(ad342.add (((ji16)).toNat * 3)).block, (ad342.add (((ji16)).toNat * 3)).off + 1, none⟩ = some (.string ((rd_T35 l0 (ji16)).f1.f0)) ∧ w'.cell? ⟨(ad342.add (((ji16)).toNat * 3)).block, (ad342.add (((ji16)).toNat * 3)).off + 2, none⟩ = some (.string ((rd_T35 l0 (ji16)).f1.f1))) ∧ (w'.heap[s_]? = some (.cells #[.string (⟨#[]⟩ : ByteArray), .string (⟨#[]⟩ : ByteArray)] 31 (0, 0))) ∧ (w.heap.size ≤ s_) ∧ (w.heap.size ≤ s_) ∧ (Below w.heap.size w w')) ?_ ?_
           rotate_left
           ·
            intro hCont
            refine two_ (i := 11) (j := 15) (Ni := some 41) (Nj := some 9) #[true, true, true, true, true, true, true, true, true, true, true, true, false, false, false, false, false, false] #[true, true, true, true, true, true, true, true, true, true, true, false, false, false, false, true, false, false] rfl rfl rfl rfl (two_of HT_.out (by kernel_rfl)) (by decide) (by decide) (fun K hK => ?_) (fun K hK => ?_)
            ·
             skip
             refine goes_ Try.func95 (by kernel_rfl) rfl #[.agg #[.string ((rd_T35 l0 t338).f1.f0), .string ((rd_T35 l0 t338).f1.f1)], .agg #[.string ((rd_T35 l0 (ji16)).f1.f0), .string ((rd_T35 l0 (ji16)).f1.f1)]] (by rfl) rfl rfl (by (try simp only [List.map_toArray, List.map_cons, List.map_nil]); first | done | (simp only [hji16]; rfl) | rfl | (simp only [List.length_drop, List.length_take]; rfl)) ?_
             with_reducible refine (impl_IntervalJoin.calls kj6 ((rd_T35 l0 t338).f1.f0) ((rd_T35 l0 t338).f1.f1) ((rd_T35 l0 (ji16)).f1.f0) ((rd_T35 l0 (ji16)).f1.f1) t344 t345 true _ A19.out).mono ?_
             rintro e w25 ⟨rfl, hb⟩
             refine ⟨_, rfl, ?_⟩
             have n0_ := Aside0.mk (below_step (bz) hb)
             clear HB
             have HB := n0_
             clear n0_
             (try clear hb)
             (try clear hb2)
             (try clear hk)
             (try clear hi)
             refine hK.out _ _ ⟨((HB.out.cell (World.block_lt_of_cell? w _ hw342_0)).trans hw342_0), ((HB.out.cell (World.block_lt_of_cell? w _ hw342_1)).trans hw342_1), ((HB.out.cell (World.block_lt_of_cell? w _ hw342_2)).trans hw342_2), ((HB.out.cell (World.block_lt_of_cell? w _ hw343_0)).trans hw343_0), ((HB.out.cell (World.block_lt_of_cell? w _ hw343_1)).trans hw343_1), ((HB.out.cell (World.block_lt_of_cell? w _ hw343_2)).trans hw343_2)⟩ (fun hHeld => ?_)
             clear hK K
             refine norm_ (a' := ?_) ?_ ?_
             rotate_left
             ·
              show Act.put _ (some 41) _ = _
              simp only [sx]
              rfl
             refine pure_ (i := 12) (N := some 29) (v := ?_) (a' := ?_) #[true, true, true, true, true, true, true, true, true, true, true, true, true, false, false, false, false, false] rfl rfl (any_of HT_.out (by kernel_rfl)) (fun _ _ _ h => h) (Or.inl ⟨by rfl, ?_⟩) ?_ ?_
             rotate_left
             ·
              intro w'
              go_simp
              with_reducible rfl
             rotate_left
             ·
              simp only [sx]
              rfl
             refine pure_ (i := 13) (N := some 42) (v := ?_) (a' := ?_) #[true, true, true, true, true, true, true, true, true, true, true, true, true, true, false, false, false, false] rfl rfl (any_of HT_.out (by kernel_rfl)) (fun _ _ _ h => h) (Or.inl ⟨by rfl, ?_⟩) ?_ ?_
             rotate_left
             ·
              intro w'
              go_simp
              with_reducible rfl
             rotate_left
             ·
              simp only [sx]
              rfl
             refine pure_ (i := 14) (N := some 43) (v := ?_) (a' := ?_) #[true, true, true, true, true, true, true, true, true, true, true, true, true, true, true, false, false, false] rfl rfl (any_of HT_.out (by kernel_rfl)) (fun _ _ _ h => h) (Or.inl ⟨by rfl, ?_⟩) ?_ ?_
             rotate_left
             ·
              intro w'
              go_simp
              with_reducible rfl
             rotate_left
             ·
              simp only [sx]
              rfl
             refine one_ (i := 15) (N := some 9) #[true, true, true, true, true, true, true, true, true, true, true, true, true, true, true, true, false, false] rfl rfl (one_of HT_.out (by kernel_rfl)) (by decide) (fun K hK => ?_)
             refine box_step ?hg (N := 9) ?hd (cs := #[.string (⟨#[]⟩ : ByteArray), .string (⟨#[]⟩ : ByteArray)]) (t := 31) ?hr ?_; (case hd => rfl); (case hg => rfl); (case hr => first | (go_simp; done) | (go_simp; rfl))
             intro gb347 hg w26 hbox hb
             have n0_ := Aside0.mk (below_step (bz) hb)
             have n1_ := Aside0.mk (hbox)
             have n2_ : Aside0 (w.heap.size ≤ gb347) := bsg hg
             have n3_ : Aside0 (w.heap.size ≤ gb347) := bsg hg
             clear HB
             have HB := n0_
             have BK347 := n1_
             have GW347 := n2_
             have GE347 := n3_
             clear n0_ n1_ n2_ n3_
             clear hb hbox hg
             refine hK.out _ _ ⟨((HB.out.cell (World.block_lt_of_cell? w _ hw342_0)).trans hw342_0), ((HB.out.cell (World.block_lt_of_cell? w _ hw342_1)).trans hw342_1), ((HB.out.cell (World.block_lt_of_cell? w _ hw342_2)).trans hw342_2), ((HB.out.cell (World.block_lt_of_cell? w _ hw343_0)).trans hw343_0), ((HB.out.cell (World.block_lt_of_cell? w _ hw343_1)).trans hw343_1), ((HB.out.cell (World.block_lt_of_cell? w _ hw343_2)).trans hw343_2)⟩ (fun hHeld => ?_)
             clear hK K
             refine norm_ (a' := ?_) ?_ ?_
             rotate_left
             ·
              show Act.put _ (some 9) _ = _
              simp only [sx]
              rfl
             exact norm_ (by simp only [putAll, Act.put, List.setIfInBounds_toArray, List.set_cons_zero, List.set_cons_succ]) (hCont (gb347) _ ⟨hHeld, (bq BK347), GW347.out, GE347.out, (bz)⟩)
            ·
             skip
             refine box_step ?hg (N := 9) ?hd (cs := #[.string (⟨#[]⟩ : ByteArray), .string (⟨#[]⟩ : ByteArray)]) (t := 31) ?hr ?_; (case hd => rfl); (case hg => rfl); (case hr => first | (go_simp; done) | (go_simp; rfl))
             intro gb347 hg w25 hbox hb
             have n0_ := Aside0.mk (below_step (bz) hb)
             have n1_ := Aside0.mk (hbox)
             have n2_ : Aside0 (w.heap.size ≤ gb347) := bsg hg
             have n3_ : Aside0 (w.heap.size ≤ gb347) := bsg hg
             clear HB
             have HB := n0_
             have BK347 := n1_
             have GW347 := n2_
             have GE347 := n3_
             clear n0_ n1_ n2_ n3_
             clear hb hbox hg
             refine hK.out _ _ ⟨((HB.out.cell (World.block_lt_of_cell? w _ hw342_0)).trans hw342_0), ((HB.out.cell (World.block_lt_of_cell? w _ hw342_1)).trans hw342_1), ((HB.out.cell (World.block_lt_of_cell? w _ hw342_2)).trans hw342_2), ((HB.out.cell (World.block_lt_of_cell? w _ hw343_0)).trans hw343_0), ((HB.out.cell (World.block_lt_of_cell? w _ hw343_1)).trans hw343_1), ((HB.out.cell (World.block_lt_of_cell? w _ hw343_2)).trans hw343_2)⟩ (fun hHeld => ?_)
             clear hK K
             refine norm_ (a' := ?_) ?_ ?_
             rotate_left
             ·
              show Act.put _ (some 9) _ = _
              simp only [sx]
              rfl
             refine one_ (i := 11) (N := some 41) #[true, true, true, true, true, true, true, true, true, true, true, true, false, false, false, true, false, false] rfl rfl (one_of HT_.out (by kernel_rfl)) (by decide) (fun K hK => ?_)
             refine goes_ Try.func95 (by kernel_rfl) rfl #[.agg #[.string ((rd_T35 l0 t338).f1.f0), .string ((rd_T35 l0 t338).f1.f1)], .agg #[.string ((rd_T35 l0 (ji16)).f1.f0), .string ((rd_T35 l0 (ji16)).f1.f1)]] (by rfl) rfl rfl (by (try simp only [List.map_toArray, List.map_cons, List.map_nil]); first | done | (simp only [hji16]; rfl) | rfl | (simp only [List.length_drop, List.length_take]; rfl)) ?_
             with_reducible refine (impl_IntervalJoin.calls kj6 ((rd_T35 l0 t338).f1.f0) ((rd_T35 l0 t338).f1.f1) ((rd_T35 l0 (ji16)).f1.f0) ((rd_T35 l0 (ji16)).f1.f1) t344 t345 true _ A19.out).mono ?_
             rintro e w26 ⟨rfl, hb⟩
             refine ⟨_, rfl, ?_⟩
             have n0_ := bkb BK347 hb
             have n1_ := Aside0.mk (below_step (bz) hb)
             clear BK347
             clear HB
             have BK347 := n0_
             have HB := n1_
             clear n0_ n1_
             (try clear hb)
             (try clear hb2)
             (try clear hk)
             (try clear hi)
             refine hK.out _ _ ⟨((HB.out.cell (World.block_lt_of_cell? w _ hw342_0)).trans hw342_0), ((HB.out.cell (World.block_lt_of_cell? w _ hw342_1)).trans hw342_1), ((HB.out.cell (World.block_lt_of_cell? w _ hw342_2)).trans hw342_2), ((HB.out.cell (World.block_lt_of_cell? w _ hw343_0)).trans hw343_0), ((HB.out.cell (World.block_lt_of_cell? w _ hw343_1)).trans hw343_1), ((HB.out.cell (World.block_lt_of_cell? w _ hw343_2)).trans hw343_2)⟩ (fun hHeld => ?_)
             clear hK K
             refine norm_ (a' := ?_) ?_ ?_
             rotate_left
             ·
              show Act.put _ (some 41) _ = _
              simp only [sx]
              rfl
             refine pure_ (i := 12) (N := some 29) (v := ?_) (a' := ?_) #[true, true, true, true, true, true, true, true, true, true, true, true, true, false, false, true, false, false] rfl rfl (any_of HT_.out (by kernel_rfl)) (fun _ _ _ h => h) (Or.inl ⟨by rfl, ?_⟩) ?_ ?_
             rotate_left
             ·
              intro w'
              go_simp
              with_reducible rfl
             rotate_left
             ·
              simp only [sx]
              rfl
             refine pure_ (i := 13) (N := some 42) (v := ?_) (a' := ?_) #[true, true, true, true, true, true, true, true, true, true, true, true, true, true, false, true, false, false] rfl rfl (any_of HT_.out (by kernel_rfl)) (fun _ _ _ h => h) (Or.inl ⟨by rfl, ?_⟩) ?_ ?_
             rotate_left
             ·
              intro w'
              go_simp
              with_reducible rfl
             rotate_left
             ·
              simp only [sx]
              rfl
             refine pure_ (i := 14) (N := some 43) (v := ?_) (a' := ?_) #[true, true, true, true, true, true, true, true, true, true, true, true, true, true, true, true, false, false] rfl rfl (any_of HT_.out (by kernel_rfl)) (fun _ _ _ h => h) (Or.inl ⟨by rfl, ?_⟩) ?_ ?_
             rotate_left
             ·
              intro w'
              go_simp
              with_reducible rfl
             rotate_left
             ·
              simp only [sx]
              rfl
             exact norm_ (by simp only [putAll, Act.put, List.setIfInBounds_toArray, List.set_cons_zero, List.set_cons_succ]) (hCont (gb347) _ ⟨hHeld, (bq BK347), GW347.out, GE347.out, (bz)⟩)
           rintro gb347 w27 ⟨hS_, h0_, h1_, h2_, h3_⟩
           have n0_ : Aside0 (w27.heap[gb347]? = some (.cells #[.string (⟨#[]⟩ : ByteArray), .string (⟨#[]⟩ : ByteArray)] 31 (0, 0))) := ⟨h0_⟩
           have n1_ : Aside0 (w.heap.size ≤ gb347) := ⟨h1_⟩
           have n2_ : Aside0 (w.heap.size ≤ gb347) := ⟨h2_⟩
           have n3_ : Aside0 (Below w.heap.size w w27) := ⟨h3_⟩
           clear HB
           clear h0_ h1_ h2_ h3_
           have BK347 := n0_
           have GW347 := n1_
           have GE347 := n2_
           have HB := n3_
           clear n0_ n1_ n2_ n3_
           have hHeld : w27.cell? (ad342.add ((t338).toNat * 3)) = some (.int .i64 ((rd_T35 l0 t338).f0)) ∧ w27.cell? ⟨(ad342.add ((t338).toNat * 3)).block, (ad342.add ((t338).toNat * 3)).off + 1, none⟩ = some (.string ((rd_T35 l0 t338).f1.f0)) ∧ w27.cell? ⟨(ad342.add ((t338).toNat * 3)).block, (ad342.add ((t338).toNat * 3)).off + 2, none⟩ = some (.string ((rd_T35 l0 t338).f1.f1)) ∧ w27.cell? (ad342.add (((ji16)).toNat * 3)) = some (.int .i64 ((rd_T35 l0 (ji16)).f0)) ∧ w27.cell? ⟨(ad342.add (((ji16)).toNat * 3)).block, (ad342.add (((ji16)).toNat * 3)).off + 1, none⟩ = some (.string ((rd_T35 l0 (ji16)).f1.f0)) ∧ w27.cell? ⟨(ad342.add (((ji16)).toNat * 3)).block, (ad342.add (((ji16)).toNat * 3)).off + 2, none⟩ = some (.string ((rd_T35 l0 (ji16)).f1.f1)) := hS_
           refine norm_ (a' := ?_) ?_ ?_
           rotate_left
           ·
            simp only [putAll, Act.put, List.setIfInBounds_toArray, List.set_cons_zero, List.set_cons_succ]
            rfl
           refine one_ (i := 16) (N := none) #[true, true, true, true, true, true, true, true, true, true, true, true, true, true, true, true, true, false] rfl rfl (one_of HT_.out (by kernel_rfl)) (by decide) (fun K hK => ?_)
           have hs28 : w27.cell? ⟨gb347, 0, none⟩ = some (.string (⟨#[]⟩ : ByteArray)) := (blk_cell BK347.out 0).trans rfl
           have hfs28 := blk_frozen BK347.out 0
           have hs29 : w27.cell? ⟨gb347, 1, none⟩ = some (.string (⟨#[]⟩ : ByteArray)) := (blk_cell BK347.out 1).trans rfl
           have hfs29 := blk_frozen BK347.out 1
           refine skip_ (w1 := ?_) (by rfl) rfl ?_ ?_
           rotate_left
           ·
            go_simp
            rfl
           refine hK.out _ _ ⟨((cell_far (p := ⟨gb347, _, none⟩) (by first | exact Nat.ne_of_lt (Nat.lt_of_lt_of_le (by have := World.block_lt_of_cell? _ _ hw342_0; first | rwa [add_block] at this | exact this) GW347.out) | (rw [add_block]; exact Nat.ne_of_lt (Nat.lt_of_lt_of_le (by have := World.block_lt_of_cell? _ _ hw342_0; first | rwa [add_block] at this | exact this) GW347.out)) | (show (Addr.add _ _).block ≠ _; rw [add_block]; exact Nat.ne_of_lt (Nat.lt_of_lt_of_le (by have := World.block_lt_of_cell? _ _ hw342_0; first | rwa [add_block] at this | exact this) GW347.out)) | (dsimp only; exact Nat.ne_of_lt (Nat.lt_of_lt_of_le (by have := World.block_lt_of_cell? _ _ hw342_0; first | rwa [add_block] at this | exact this) GW347.out))) _).trans (((cell_far (p := ⟨gb347, _, none⟩) (by first | exact Nat.ne_of_lt (Nat.lt_of_lt_of_le (by have := World.block_lt_of_cell? _ _ hw342_0; first | rwa [add_block] at this | exact this) GW347.out) | (rw [add_block]; exact Nat.ne_of_lt (Nat.lt_of_lt_of_le (by have := World.block_lt_of_cell? _ _ hw342_0; first | rwa [add_block] at this | exact this) GW347.out)) | (show (Addr.add _ _).block ≠ _; rw [add_block]; exact Nat.ne_of_lt (Nat.lt_of_lt_of_le (by have := World.block_lt_of_cell? _ _ hw342_0; first | rwa [add_block] at this | exact this) GW347.out)) | (dsimp only; exact Nat.ne_of_lt (Nat.lt_of_lt_of_le (by have := World.block_lt_of_cell? _ _ hw342_0; first | rwa [add_block] at this | exact this) GW347.out))) _).trans (hHeld.1)))), ((cell_far (p := ⟨gb347, _, none⟩) (by first | exact Nat.ne_of_lt (Nat.lt_of_lt_of_le (by have := World.block_lt_of_cell? _ _ hw342_1; first | rwa [add_block] at this | exact this) GW347.out) | (rw [add_block]; exact Nat.ne_of_lt (Nat.lt_of_lt_of_le (by have := World.block_lt_of_cell? _ _ hw342_1; first | rwa [add_block] at this | exact this) GW347.out)) | (show (Addr.add _ _).block ≠ _; rw [add_block]; exact Nat.ne_of_lt (Nat.lt_of_lt_of_le (by have := World.block_lt_of_cell? _ _ hw342_1; first | rwa [add_block] at this | exact this) GW347.out)) | (dsimp only; exact Nat.ne_of_lt (Nat.lt_of_lt_of_le (by have := World.block_lt_of_cell? _ _ hw342_1; first | rwa [add_block] at this | exact this) GW347.out))) _).trans (((cell_far (p := ⟨gb347, _, none⟩) (by first | exact Nat.ne_of_lt (Nat.lt_of_lt_of_le (by have := World.block_lt_of_cell? _ _ hw342_1; first | rwa [add_block] at this | exact this) GW347.out) | (rw [add_block]; exact Nat.ne_of_lt (Nat.lt_of_lt_of_le (by have := World.block_lt_of_cell? _ _ hw342_1; first | rwa [add_block] at this | exact this) GW347.out)) | (show (Addr.add _ _).block ≠ _; rw [add_block]; exact Nat.ne_of_lt (Nat.lt_of_lt_of_le (by have := World.block_lt_of_cell? _ _ hw342_1; first | rwa [add_block] at this | exact this) GW347.out)) | (dsimp only; exact Nat.ne_of_lt (Nat.lt_of_lt_of_le (by have := World.block_lt_of_cell? _ _ hw342_1; first | rwa [add_block] at this | exact this) GW347.out))) _).trans (hHeld.2.1)))), ((cell_far (p := ⟨gb347, _, none⟩) (by first | exact Nat.ne_of_lt (Nat.lt_of_lt_of_le (by have := World.block_lt_of_cell? _ _ hw342_2; first | rwa [add_block] at this | exact this) GW347.out) | (rw [add_block]; exact Nat.ne_of_lt (Nat.lt_of_lt_of_le (by have := World.block_lt_of_cell? _ _ hw342_2; first | rwa [add_block] at this | exact this) GW347.out)) | (show (Addr.add _ _).block ≠ _; rw [add_block]; exact Nat.ne_of_lt (Nat.lt_of_lt_of_le (by have := World.block_lt_of_cell? _ _ hw342_2; first | rwa [add_block] at this | exact this) GW347.out)) | (dsimp only; exact Nat.ne_of_lt (Nat.lt_of_lt_of_le (by have := World.block_lt_of_cell? _ _ hw342_2; first | rwa [add_block] at this | exact this) GW347.out))) _).trans (((cell_far (p := ⟨gb347, _, none⟩) (by first | exact Nat.ne_of_lt (Nat.lt_of_lt_of_le (by have := World.block_lt_of_cell? _ _ hw342_2; first | rwa [add_block] at this | exact this) GW347.out) | (rw [add_block]; exact Nat.ne_of_lt (Nat.lt_of_lt_of_le (by have := World.block_lt_of_cell? _ _ hw342_2; first | rwa [add_block] at this | exact this) GW347.out)) | (show (Addr.add _ _).block ≠ _; rw [add_block]; exact Nat.ne_of_lt (Nat.lt_of_lt_of_le (by have := World.block_lt_of_cell? _ _ hw342_2; first | rwa [add_block] at this | exact this) GW347.out)) | (dsimp only; exact Nat.ne_of_lt (Nat.lt_of_lt_of_le (by have := World.block_lt_of_cell? _ _ hw342_2; first | rwa [add_block] at this | exact this) GW347.out))) _).trans (hHeld.2.2.1)))), ((cell_far (p := ⟨gb347, _, none⟩) (by first | exact Nat.ne_of_lt (Nat.lt_of_lt_of_le (by have := World.block_lt_of_cell? _ _ hw343_0; first | rwa [add_block] at this | exact this) GW347.out) | (rw [add_block]; exact Nat.ne_of_lt (Nat.lt_of_lt_of_le (by have := World.block_lt_of_cell? _ _ hw343_0; first | rwa [add_block] at this | exact this) GW347.out)) | (show (Addr.add _ _).block ≠ _; rw [add_block]; exact Nat.ne_of_lt (Nat.lt_of_lt_of_le (by have := World.block_lt_of_cell? _ _ hw343_0; first | rwa [add_block] at this | exact this) GW347.out)) | (dsimp only; exact Nat.ne_of_lt (Nat.lt_of_lt_of_le (by have := World.block_lt_of_cell? _ _ hw343_0; first | rwa [add_block] at this | exact this) GW347.out))) _).trans (((cell_far (p := ⟨gb347, _, none⟩) (by first | exact Nat.ne_of_lt (Nat.lt_of_lt_of_le (by have := World.block_lt_of_cell? _ _ hw343_0; first | rwa [add_block] at this | exact this) GW347.out) | (rw [add_block]; exact Nat.ne_of_lt (Nat.lt_of_lt_of_le (by have := World.block_lt_of_cell? _ _ hw343_0; first | rwa [add_block] at this | exact this) GW347.out)) | (show (Addr.add _ _).block ≠ _; rw [add_block]; exact Nat.ne_of_lt (Nat.lt_of_lt_of_le (by have := World.block_lt_of_cell? _ _ hw343_0; first | rwa [add_block] at this | exact this) GW347.out)) | (dsimp only; exact Nat.ne_of_lt (Nat.lt_of_lt_of_le (by have := World.block_lt_of_cell? _ _ hw343_0; first | rwa [add_block] at this | exact this) GW347.out))) _).trans (hHeld.2.2.2.1)))), ((cell_far (p := ⟨gb347, _, none⟩) (by first | exact Nat.ne_of_lt (Nat.lt_of_lt_of_le (by have := World.block_lt_of_cell? _ _ hw343_1; first | rwa [add_block] at this | exact this) GW347.out) | (rw [add_block]; exact Nat.ne_of_lt (Nat.lt_of_lt_of_le (by have := World.block_lt_of_cell? _ _ hw343_1; first | rwa [add_block] at this | exact this) GW347.out)) | (show (Addr.add _ _).block ≠ _; rw [add_block]; exact Nat.ne_of_lt (Nat.lt_of_lt_of_le (by have := World.block_lt_of_cell? _ _ hw343_1; first | rwa [add_block] at this | exact this) GW347.out)) | (dsimp only; exact Nat.ne_of_lt (Nat.lt_of_lt_of_le (by have := World.block_lt_of_cell? _ _ hw343_1; first | rwa [add_block] at this | exact this) GW347.out))) _).trans (((cell_far (p := ⟨gb347, _, none⟩) (by first | exact Nat.ne_of_lt (Nat.lt_of_lt_of_le (by have := World.block_lt_of_cell? _ _ hw343_1; first | rwa [add_block] at this | exact this) GW347.out) | (rw [add_block]; exact Nat.ne_of_lt (Nat.lt_of_lt_of_le (by have := World.block_lt_of_cell? _ _ hw343_1; first | rwa [add_block] at this | exact this) GW347.out)) | (show (Addr.add _ _).block ≠ _; rw [add_block]; exact Nat.ne_of_lt (Nat.lt_of_lt_of_le (by have := World.block_lt_of_cell? _ _ hw343_1; first | rwa [add_block] at this | exact this) GW347.out)) | (dsimp only; exact Nat.ne_of_lt (Nat.lt_of_lt_of_le (by have := World.block_lt_of_cell? _ _ hw343_1; first | rwa [add_block] at this | exact this) GW347.out))) _).trans (hHeld.2.2.2.2.1)))), ((cell_far (p := ⟨gb347, _, none⟩) (by first | exact Nat.ne_of_lt (Nat.lt_of_lt_of_le (by have := World.block_lt_of_cell? _ _ hw343_2; first | rwa [add_block] at this | exact this) GW347.out) | (rw [add_block]; exact Nat.ne_of_lt (Nat.lt_of_lt_of_le (by have := World.block_lt_of_cell? _ _ hw343_2; first | rwa [add_block] at this | exact this) GW347.out)) | (show (Addr.add _ _).block ≠ _; rw [add_block]; exact Nat.ne_of_lt (Nat.lt_of_lt_of_le (by have := World.block_lt_of_cell? _ _ hw343_2; first | rwa [add_block] at this | exact this) GW347.out)) | (dsimp only; exact Nat.ne_of_lt (Nat.lt_of_lt_of_le (by have := World.block_lt_of_cell? _ _ hw343_2; first | rwa [add_block] at this | exact this) GW347.out))) _).trans (((cell_far (p := ⟨gb347, _, none⟩) (by first | exact Nat.ne_of_lt (Nat.lt_of_lt_of_le (by have := World.block_lt_of_cell? _ _ hw343_2; first | rwa [add_block] at this | exact this) GW347.out) | (rw [add_block]; exact Nat.ne_of_lt (Nat.lt_of_lt_of_le (by have := World.block_lt_of_cell? _ _ hw343_2; first | rwa [add_block] at this | exact this) GW347.out)) | (show (Addr.add _ _).block ≠ _; rw [add_block]; exact Nat.ne_of_lt (Nat.lt_of_lt_of_le (by have := World.block_lt_of_cell? _ _ hw343_2; first | rwa [add_block] at this | exact this) GW347.out)) | (dsimp only; exact Nat.ne_of_lt (Nat.lt_of_lt_of_le (by have := World.block_lt_of_cell? _ _ hw343_2; first | rwa [add_block] at this | exact this) GW347.out))) _).trans (hHeld.2.2.2.2.2))))⟩ (fun hHeld => ?_)
           clear hK K
           refine pure_ (i := 17) (N := some 10) (v := ?_) (a' := ?_) #[true, true, true, true, true, true, true, true, true, true, true, true, true, true, true, true, true, true] rfl rfl (any_of HT_.out (by kernel_rfl)) (fun _ _ _ h => h) (Or.inl ⟨by rfl, ?_⟩) ?_ ?_
           rotate_left
           ·
            intro w'
            go_simp
            with_reducible rfl
           rotate_left
           ·
            simp only [sx]
            rfl
           refine done_ (done_of HT_.out (by kernel_rfl)) ?_
           obtain ⟨hcz30_0, hcz30_1⟩ := cl2 BK347
           obtain ⟨hfz30_0, hfz30_1⟩ := fz2 BK347
           try go_wp2_with (first | ((with_reducible refine gate_dst (N := 53) rfl ?_); (try (refine gate_guard (by rfl) ?_; dsimp only)); refine Kd.R_lit k35 _ 35 ?hg (N := 53) ?hd (xs := ([(⟨a2, (⟨t344, t345⟩ : S31)⟩ : S35)] : List (S35))) (inner := [.int .i64 a2, .string t344, .string t345]) (ok := fun _ => True) (okp := fun _ => True) ?hr ?hp (fun _ hk => hk) trivial (Below.refl _ _) (Nat.le_refl _) (by simp) ?_; (case hd => rfl); (case hg => rfl); (case hr => first | (go_simp; done) | (go_simp; rfl)); (case hp => exact (Reps.c3 (show Kd.M k35 _ _ _ (⟨a2, (⟨t344, t345⟩ : S31)⟩ : S35) [.int .i64 a2, .string t344, .string t345] from (k35_mkM _ _ _ (⟨a2, (⟨t344, t345⟩ : S31)⟩ : S35) )) (Reps.none _ _))); intro v352 w31 ho32 hb hg_ hnew_; clear hg_ hnew_; (first | rw [← Ny351.out] at ho32 | (simp only [Int.reduceToNat] at ho32; rw [← Ny351.out] at ho32)); have n0_ := Aside0.mk (Kd.R_lower ho32 (below_size (bz))); have n1_ := Aside0.mk (blk_below (g := gb347) (o := .cells #[.string t344, .string t345] 31 (0, 0)) (by (with_reducible repeat (first | refine blk_drewN ?_ _ | refine blk_drew ?_ | refine blk_alloc ?_ _)); refine blk_put (cs := #[.string t344, .string (⟨#[]⟩ : ByteArray)]) ?_ 1 _ rfl; (with_reducible repeat (first | refine blk_drewN ?_ _ | refine blk_drew ?_ | refine blk_alloc ?_ _)); refine blk_put (cs := #[.string (⟨#[]⟩ : ByteArray), .string (⟨#[]⟩ : ByteArray)]) ?_ 0 _ rfl; (with_reducible repeat (first | refine blk_drewN ?_ _ | refine blk_drew ?_ | refine blk_alloc ?_ _)); exact BK347.out) hb); have n2_ := Aside0.mk (below_step (bz) hb); clear BK347; clear HB; have HO353 := n0_; have BK347 := n1_; have HB := n2_; clear n0_ n1_ n2_; clear hb ho32; obtain ⟨Ao33, co33, eo33⟩ := Kd.R_slice HO353.out; subst eo33) | ((with_reducible refine gate_callee (f := 96) rfl ?_); refine goesL_ (some 54) rfl rfl Try.func96 (by kernel_rfl) rfl #[.slice (some ad342) l0.length c0, .int .i64 t338, .int .i64 2, .slice Ao33 y351.length co33] rfl (by (try simp only [List.map_toArray, List.map_cons, List.map_nil]); first | done | rfl | (simp only [List.length_drop, List.length_take]; rfl)) ?_; (with_reducible refine (impl_Route_96.calls _ _ l0 t338 2 _ _ y351 t354 _ ?side1 ?side2 ?side3 ?side4 A21.out).mono ?_); (case side1 => repeat (first | exact (Kd.C_below HR0.out HB.out) | (with_reducible refine Kd.C_alloc ?_ _) | (with_reducible refine Kd.C_drewN ?_ _) | (with_reducible refine Kd.C_drew ?_))); (case side2 => exact HC0.out); (case side3 => repeat (first | exact (Kd.R_reads' HO353.out).2.2 | (with_reducible refine Kd.C_alloc ?_ _) | (with_reducible refine Kd.C_drewN ?_ _) | (with_reducible refine Kd.C_drew ?_))); (case side4 => exact (Kd.R_reads' HO353.out).2.1); rintro e w34 ⟨v355, rfl, ho0, hb⟩; refine ⟨_, rfl, ?_⟩; have n0_ := Aside0.mk (Kd.R_elder' (by (with_reducible repeat (first | apply Kd.R_alloc | apply Kd.R_drewN | apply Kd.R_drew)); exact HO353.out) (Kd.R_base ho0) hb); have n1_ := Aside0.mk (Kd.R_lower (Kd.R_new' ho0 (Kd.R_lt (by (with_reducible repeat (first | apply Kd.R_alloc | apply Kd.R_drewN | apply Kd.R_drew)); exact HO353.out))) (below_size (bz))); have n2_ := bkb BK347 hb; have n3_ := Aside0.mk (below_step (bz) hb); clear HO353; clear BK347; clear HB; have HO353 := n0_; have HO356 := n1_; have BK347 := n2_; have HB := n3_; clear n0_ n1_ n2_ n3_; (try clear hb); (try clear hb2); (try clear hk); (try clear hi); (try clear ho0); obtain ⟨Ao35, co35, eo35⟩ := Kd.R_slice HO356.out; subst eo35) | ((with_reducible refine gate_callee (f := 18) rfl ?_); refine goesL_ (some 56) rfl rfl Try.func18 (by kernel_rfl) rfl #[.slice Ao35 t354.length co35] rfl (by (try simp only [List.map_toArray, List.map_cons, List.map_nil]); first | done | rfl | (simp only [List.length_drop, List.length_take]; rfl)) ?_; (with_reducible refine (impl_RoutesValid.calls kj6 _ _ t354 true _ ?side1 ?side2 A22.out).mono ?_); (case side1 => repeat (first | exact (Kd.R_reads' HO356.out).2.2 | (with_reducible refine Kd.C_alloc ?_ _) | (with_reducible refine Kd.C_drewN ?_ _) | (with_reducible refine Kd.C_drew ?_))); (case side2 => exact (Kd.R_reads' HO356.out).2.1); rintro e w36 ⟨rfl, hb⟩; refine ⟨_, rfl, ?_⟩; have n0_ := Aside0.mk (Kd.R_below (by (with_reducible repeat (first | apply Kd.R_alloc | apply Kd.R_drewN | apply Kd.R_drew)); exact HO353.out) hb); have n1_ := Aside0.mk (Kd.R_below (by (with_reducible repeat (first | apply Kd.R_alloc | apply Kd.R_drewN | apply Kd.R_drew)); exact HO356.out) hb); have n2_ := bkb BK347 hb; have n3_ := Aside0.mk (below_step (bz) hb); clear HO353; clear HO356; clear BK347; clear HB; have HO353 := n0_; have HO356 := n1_; have BK347 := n2_; have HB := n3_; clear n0_ n1_ n2_ n3_; (try clear hb); (try clear hb2); (try clear hk); (try clear hi)))
           go_ret2
           exact ⟨_, by first | rfl | (simp only [u8w, w64m]; rfl) | (simp [errW_none, errW_some] <;> rfl) | (simp only [← hji16]; first | rfl | (simp [errW_none, errW_some] <;> rfl)) | (simp [*, errW_none, errW_some] <;> rfl), by (with_reducible repeat (first | apply Kd.R_alloc | apply Kd.R_drewN | apply Kd.R_drew)); exact Kd.R_mono HO356.out (fun _ hk => trivial), bz⟩
          ·
           replace c23 := Bool.eq_false_iff.mpr c23
           subst c23
           rw [if_neg (show ¬ (false = true) by decide)] at H
           replace H := Option.bind_eq_some_iff.mp H
           obtain ⟨t358, A370, H⟩ := H
           try dsimp only at H
           have A37 := Aside0.mk A370
           clear A370
           simp only [Option.some.injEq, Prod.mk.injEq] at H
           obtain ⟨rfl, rfl⟩ := H
           try go_wp2
           have n0_ := Aside0.mk (below_drew1 HB.out)
           clear HB
           have HB := n0_
           clear n0_
           have p342 : 0 ≤ (t338 : Int) := of_decide_eq_true (by first | (with_reducible assumption) | assumption)
           have q342 : t338 < (l0.length : Int) := of_decide_eq_true (by first | (with_reducible assumption) | assumption)
           obtain ⟨ad342, e342, hx342_0, hx342_1, hx342_2⟩ := at_T35 HR0.out t338 p342 q342
           have hw342_2 := hx342_2
           have hw342_1 := hx342_1
           have hw342_0 := hx342_0
           cases e342
           replace hx342_0 := (HB.out.cell (World.block_lt_of_cell? w _ hx342_0)).trans hx342_0
           replace hx342_1 := (HB.out.cell (World.block_lt_of_cell? w _ hx342_1)).trans hx342_1
           replace hx342_2 := (HB.out.cell (World.block_lt_of_cell? w _ hx342_2)).trans hx342_2
           replace p342 := eq_true p342
           replace q342 := eq_true q342
           have p343 : 0 ≤ ((ji16) : Int) := of_decide_eq_true (by first | (with_reducible assumption) | assumption)
           have q343 : (ji16) < (l0.length : Int) := of_decide_eq_true (by first | (with_reducible assumption) | assumption)
           obtain ⟨ad343, e343, hx343_0, hx343_1, hx343_2⟩ := at_T35 HR0.out (ji16) p343 q343
           have hw343_2 := hx343_2
           have hw343_1 := hx343_1
           have hw343_0 := hx343_0
           obtain rfl : ad342 = ad343 := (by injection e343)
           replace hx343_0 := (HB.out.cell (World.block_lt_of_cell? w _ hx343_0)).trans hx343_0
           replace hx343_1 := (HB.out.cell (World.block_lt_of_cell? w _ hx343_1)).trans hx343_1
           replace hx343_2 := (HB.out.cell (World.block_lt_of_cell? w _ hx343_2)).trans hx343_2
           replace p343 := eq_true p343
           replace q343 := eq_true q343
           refine start_ (n := 18) (S := fun w' => w'.cell? (ad342.add ((t338).toNat * 3)) = some (.int .i64 ((rd_T35 l0 t338).f0)) ∧ w'.cell? ⟨(ad342.add ((t338).toNat * 3)).block, (ad342.add ((t338).toNat * 3)).off + 1, none⟩ = some (.string ((rd_T35 l0 t338).f1.f0)) ∧ w'.cell? ⟨(ad342.add ((t338).toNat * 3)).block, (ad342.add ((t338).toNat * 3)).off + 2, none⟩ = some (.string ((rd_T35 l0 t338).f1.f1)) ∧ w'.cell? (ad342.add (((ji16)).toNat * 3)) = some (.int .i64 ((rd_T35 l0 (ji16)).f0)) ∧ w'.cell? ⟨(ad342.add (((ji16)).toNat * 3)).block, (ad342.add (((ji16)).toNat * 3)).off + 1, none⟩ = some (.string ((rd_T35 l0 (ji16)).f1.f0)) ∧ w'.cell? ⟨(ad342.add (((ji16)).toNat * 3)).block, (ad342.add (((ji16)).toNat * 3)).off + 2, none⟩ = some (.string ((rd_T35 l0 (ji16)).f1.f1))) (ds := []) #[false, false, false, false, false, false, false, false, false, false, false, false, false, false, false, false, false, false] (by kernel_rfl) rfl rfl ⟨((HB.out.cell (World.block_lt_of_cell? w _ hw342_0)).trans hw342_0), ((HB.out.cell (World.block_lt_of_cell? w _ hw342_1)).trans hw342_1), ((HB.out.cell (World.block_lt_of_cell? w _ hw342_2)).trans hw342_2), ((HB.out.cell (World.block_lt_of_cell? w _ hw343_0)).trans hw343_0), ((HB.out.cell (World.block_lt_of_cell? w _ hw343_1)).trans hw343_1), ((HB.out.cell (World.block_lt_of_cell? w _ hw343_2)).trans hw343_2)⟩ (fun hHeld => ?_); refine with_tabW impl_MergeRoutes.tab6 impl_MergeRoutes.bits6 (fun HT_ HW_ => ?_)
           generalize wc.drew = w38 at HB hx342_0 hx342_1 hx342_2 hx343_0 hx343_1 hx343_2 hHeld ⊢
           refine pure_ (i := 0) (N := some 30) (v := ?_) (a' := ?_) #[true, false, false, false, false, false, false, false, false, false, false, false, false, false, false, false, false, false] rfl rfl (any_of HT_.out (by kernel_rfl)) (fun _ _ _ h => h) (Or.inl ⟨by rfl, ?_⟩) ?_ ?_
           rotate_left
           ·
            intro w'
            go_simp
            with_reducible rfl
           rotate_left
           ·
            simp only [sx]
            rfl
           refine pure_ (i := 1) (N := some 31) (v := ?_) (a' := ?_) #[true, true, false, false, false, false, false, false, false, false, false, false, false, false, false, false, false, false] rfl rfl (any_of HT_.out (by kernel_rfl)) (fun _ _ _ h => h) (Or.inl ⟨by rfl, ?_⟩) ?_ ?_
           rotate_left
           ·
            intro w'
            go_simp
            with_reducible rfl
           rotate_left
           ·
            simp only [sx]
            rfl
           refine pure_ (i := 2) (N := some 32) (v := ?_) (a' := ?_) #[true, true, true, false, false, false, false, false, false, false, false, false, false, false, false, false, false, false] rfl rfl (any_of HT_.out (by kernel_rfl)) (fun _ _ _ h => h) (Or.inl ⟨by rfl, ?_⟩) ?_ ?_
           rotate_left
           ·
            intro w'
            go_simp
            with_reducible rfl
           rotate_left
           ·
            simp only [sx]
            rfl
           refine pure_ (i := 3) (N := some 33) (v := ?_) (a' := ?_) #[true, true, true, true, false, false, false, false, false, false, false, false, false, false, false, false, false, false] rfl rfl (any_of HT_.out (by kernel_rfl)) (fun _ _ _ h => h) (Or.inl ⟨by rfl, ?_⟩) ?_ ?_
           rotate_left
           ·
            intro w'
            go_simp
            with_reducible rfl
           rotate_left
           ·
            simp only [sx]
            rfl
           refine pure_ (i := 5) (N := some 35) (v := ?_) (a' := ?_) #[true, true, true, true, false, true, false, false, false, false, false, false, false, false, false, false, false, false] rfl rfl (any_of HT_.out (by kernel_rfl)) (fun _ _ _ h => h) (Or.inl ⟨by rfl, ?_⟩) ?_ ?_
           rotate_left
           ·
            intro w'
            go_simp
            with_reducible rfl
           rotate_left
           ·
            simp only [sx]
            rfl
           refine pure_ (i := 6) (N := some 36) (v := ?_) (a' := ?_) #[true, true, true, true, false, true, true, false, false, false, false, false, false, false, false, false, false, false] rfl rfl (any_of HT_.out (by kernel_rfl)) (fun _ _ _ h => h) (Or.inl ⟨by rfl, ?_⟩) ?_ ?_
           rotate_left
           ·
            intro w'
            go_simp
            with_reducible rfl
           rotate_left
           ·
            simp only [sx]
            rfl
           refine pure_ (i := 7) (N := some 37) (v := ?_) (a' := ?_) #[true, true, true, true, false, true, true, true, false, false, false, false, false, false, false, false, false, false] rfl rfl (any_of HT_.out (by kernel_rfl)) (fun _ _ _ h => h) (Or.inl ⟨by rfl, ?_⟩) ?_ ?_
           rotate_left
           ·
            intro w'
            go_simp
            with_reducible rfl
           rotate_left
           ·
            simp only [sx]
            rfl
           refine pure_ (i := 8) (N := some 38) (v := ?_) (a' := ?_) #[true, true, true, true, false, true, true, true, true, false, false, false, false, false, false, false, false, false] rfl rfl (any_of HT_.out (by kernel_rfl)) (fun _ _ _ h => h) (Or.inl ⟨by rfl, ?_⟩) ?_ ?_
           rotate_left
           ·
            intro w'
            go_simp
            with_reducible rfl
           rotate_left
           ·
            simp only [sx]
            rfl
           refine pure_ (i := 9) (N := some 39) (v := ?_) (a' := ?_) #[true, true, true, true, false, true, true, true, true, true, false, false, false, false, false, false, false, false] rfl rfl (any_of HT_.out (by kernel_rfl)) (fun _ _ _ h => h) (Or.inl ⟨by rfl, ?_⟩) ?_ ?_
           rotate_left
           ·
            intro w'
            go_simp
            with_reducible rfl
           rotate_left
           ·
            simp only [sx]
            rfl
           refine take_ (i := 4) (N := some 34) (v := ?_) (a' := ?_) #[true, true, true, true, true, true, true, true, true, true, false, false, false, false, false, false, false, false] rfl rfl (take_ofW HT_.out HW_.out (by kernel_rfl)) (fun _ _ _ h => h) (Or.inl ⟨by rfl, ?_⟩) hHeld ?_ ?_
           rotate_left
           ·
            rintro w' ⟨s0, s1, s2, s3, s4, s5⟩
            go_simp
            with_reducible rfl
           rotate_left
           ·
            simp only [sx]
            rfl
           refine take_ (i := 10) (N := some 40) (v := ?_) (a' := ?_) #[true, true, true, true, true, true, true, true, true, true, true, false, false, false, false, false, false, false] rfl rfl (take_ofW HT_.out HW_.out (by kernel_rfl)) (fun _ _ _ h => h) (Or.inl ⟨by rfl, ?_⟩) hHeld ?_ ?_
           rotate_left
           ·
            rintro w' ⟨s0, s1, s2, s3, s4, s5⟩
            go_simp
            with_reducible rfl
           rotate_left
           ·
            simp only [sx]
            rfl
           refine join_ (σ := Nat) 2 #[true, true, true, true, true, true, true, true, true, true, true, true, true, true, true, true, false, false] (fun s_ => [(41, .tuple #[.agg #[.string t344, .string t345], .bool true]), (9, .pointer (some ⟨s_, 0, none⟩)), (29, .tuple #[.agg #[.string t344, .string t345], .bool true]), (42, .agg #[.string t344, .string t345]), (43, .bool true)]) (fun s_ w' => (w'.cell? (ad342.add ((t338).toNat * 3)) = some (.int .i64 ((rd_T35 l0 t338).f0)) ∧ w'.cell? ⟨(ad342.add ((t338).toNat * 3)).block, (ad342.add ((t338).toNat * 3)).off + 1, none⟩ = some (.string ((rd_T35 l0 t338).f1.f0)) ∧ w'.cell? ⟨(ad342.add ((t338).toNat * 3)).block, (ad342.add ((t338).toNat * 3)).off + 2, none⟩ = some (.string ((rd_T35 l0 t338).f1.f1)) ∧ w'.cell? (ad342.add (((ji16)).toNat * 3)) = some (.int .i64 ((rd_T35 l0 (ji16)).f0)) ∧ w'.cell? ⟨(ad342.add (((ji16)).toNat * 3)).block, (ad342.add (((ji16)).toNat * 3)).off + 1, none⟩ = some (.string ((rd_T35 l0 (ji16)).f1.f0)) ∧ w'.cell? ⟨(ad342.add (((ji16)).toNat * 3)).block, (ad342.add (((ji16)).toNat * 3)).off + 2, none⟩ = some (.string ((rd_T35 l0 (ji16)).f1.f1))) ∧ (w'.heap[s_]? = some (.cells #[.string (⟨#[]⟩ : ByteArray), .string (⟨#[]⟩ : ByteArray)] 31 (0, 0))) ∧ (w.heap.size ≤ s_) ∧ (w.heap.size ≤ s_) ∧ (Below w.heap.size w w')) ?_ ?_
           rotate_left
           ·
            intro hCont
            refine two_ (i := 11) (j := 15) (Ni := some 41) (Nj := some 9) #[true, true, true, true, true, true, true, true, true, true, true, true, false, false, false, false, false, false] #[true, true, true, true, true, true, true, true, true, true, true, false, false, false, false, true, false, false] rfl rfl rfl rfl (two_of HT_.out (by kernel_rfl)) (by decide) (by decide) (fun K hK => ?_) (fun K hK => ?_)
            ·
             skip
             refine goes_ Try.func95 (by kernel_rfl) rfl #[.agg #[.string ((rd_T35 l0 t338).f1.f0), .string ((rd_T35 l0 t338).f1.f1)], .agg #[.string ((rd_T35 l0 (ji16)).f1.f0), .string ((rd_T35 l0 (ji16)).f1.f1)]] (by rfl) rfl rfl (by (try simp only [List.map_toArray, List.map_cons, List.map_nil]); first | done | (simp only [hji16]; rfl) | rfl | (simp only [List.length_drop, List.length_take]; rfl)) ?_
             with_reducible refine (impl_IntervalJoin.calls kj6 ((rd_T35 l0 t338).f1.f0) ((rd_T35 l0 t338).f1.f1) ((rd_T35 l0 (ji16)).f1.f0) ((rd_T35 l0 (ji16)).f1.f1) t344 t345 true _ A19.out).mono ?_
             rintro e w39 ⟨rfl, hb⟩
             refine ⟨_, rfl, ?_⟩
             have n0_ := Aside0.mk (below_step (bz) hb)
             clear HB
             have HB := n0_
             clear n0_
             (try clear hb)
             (try clear hb2)
             (try clear hk)
             (try clear hi)
             refine hK.out _ _ ⟨((HB.out.cell (World.block_lt_of_cell? w _ hw342_0)).trans hw342_0), ((HB.out.cell (World.block_lt_of_cell? w _ hw342_1)).trans hw342_1), ((HB.out.cell (World.block_lt_of_cell? w _ hw342_2)).trans hw342_2), ((HB.out.cell (World.block_lt_of_cell? w _ hw343_0)).trans hw343_0), ((HB.out.cell (World.block_lt_of_cell? w _ hw343_1)).trans hw343_1), ((HB.out.cell (World.block_lt_of_cell? w _ hw343_2)).trans hw343_2)⟩ (fun hHeld => ?_)
             clear hK K
             refine norm_ (a' := ?_) ?_ ?_
             rotate_left
             ·
              show Act.put _ (some 41) _ = _
              simp only [sx]
              rfl
             refine pure_ (i := 12) (N := some 29) (v := ?_) (a' := ?_) #[true, true, true, true, true, true, true, true, true, true, true, true, true, false, false, false, false, false] rfl rfl (any_of HT_.out (by kernel_rfl)) (fun _ _ _ h => h) (Or.inl ⟨by rfl, ?_⟩) ?_ ?_
             rotate_left
             ·
              intro w'
              go_simp
              with_reducible rfl
             rotate_left
             ·
              simp only [sx]
              rfl
             refine pure_ (i := 13) (N := some 42) (v := ?_) (a' := ?_) #[true, true, true, true, true, true, true, true, true, true, true, true, true, true, false, false, false, false] rfl rfl (any_of HT_.out (by kernel_rfl)) (fun _ _ _ h => h) (Or.inl ⟨by rfl, ?_⟩) ?_ ?_
             rotate_left
             ·
              intro w'
              go_simp
              with_reducible rfl
             rotate_left
             ·
              simp only [sx]
              rfl
             refine pure_ (i := 14) (N := some 43) (v := ?_) (a' := ?_) #[true, true, true, true, true, true, true, true, true, true, true, true, true, true, true, false, false, false] rfl rfl (any_of HT_.out (by kernel_rfl)) (fun _ _ _ h => h) (Or.inl ⟨by rfl, ?_⟩) ?_ ?_
             rotate_left
             ·
              intro w'
              go_simp
              with_reducible rfl
             rotate_left
             ·
              simp only [sx]
              rfl
             refine one_ (i := 15) (N := some 9) #[true, true, true, true, true, true, true, true, true, true, true, true, true, true, true, true, false, false] rfl rfl (one_of HT_.out (by kernel_rfl)) (by decide) (fun K hK => ?_)
             refine box_step ?hg (N := 9) ?hd (cs := #[.string (⟨#[]⟩ : ByteArray), .string (⟨#[]⟩ : ByteArray)]) (t := 31) ?hr ?_; (case hd => rfl); (case hg => rfl); (case hr => first | (go_simp; done) | (go_simp; rfl))
             intro gb347 hg w40 hbox hb
             have n0_ := Aside0.mk (below_step (bz) hb)
             have n1_ := Aside0.mk (hbox)
             have n2_ : Aside0 (w.heap.size ≤ gb347) := bsg hg
             have n3_ : Aside0 (w.heap.size ≤ gb347) := bsg hg
             clear HB
             have HB := n0_
             have BK347 := n1_
             have GW347 := n2_
             have GE347 := n3_
             clear n0_ n1_ n2_ n3_
             clear hb hbox hg
             refine hK.out _ _ ⟨((HB.out.cell (World.block_lt_of_cell? w _ hw342_0)).trans hw342_0), ((HB.out.cell (World.block_lt_of_cell? w _ hw342_1)).trans hw342_1), ((HB.out.cell (World.block_lt_of_cell? w _ hw342_2)).trans hw342_2), ((HB.out.cell (World.block_lt_of_cell? w _ hw343_0)).trans hw343_0), ((HB.out.cell (World.block_lt_of_cell? w _ hw343_1)).trans hw343_1), ((HB.out.cell (World.block_lt_of_cell? w _ hw343_2)).trans hw343_2)⟩ (fun hHeld => ?_)
             clear hK K
             refine norm_ (a' := ?_) ?_ ?_
             rotate_left
             ·
              show Act.put _ (some 9) _ = _
              simp only [sx]
              rfl
             exact norm_ (by simp only [putAll, Act.put, List.setIfInBounds_toArray, List.set_cons_zero, List.set_cons_succ]) (hCont (gb347) _ ⟨hHeld, (bq BK347), GW347.out, GE347.out, (bz)⟩)
            ·
             skip
             refine box_step ?hg (N := 9) ?hd (cs := #[.string (⟨#[]⟩ : ByteArray), .string (⟨#[]⟩ : ByteArray)]) (t := 31) ?hr ?_; (case hd => rfl); (case hg => rfl); (case hr => first | (go_simp; done) | (go_simp; rfl))
             intro gb347 hg w39 hbox hb
             have n0_ := Aside0.mk (below_step (bz) hb)
             have n1_ := Aside0.mk (hbox)
             have n2_ : Aside0 (w.heap.size ≤ gb347) := bsg hg
             have n3_ : Aside0 (w.heap.size ≤ gb347) := bsg hg
             clear HB
             have HB := n0_
             have BK347 := n1_
             have GW347 := n2_
             have GE347 := n3_
             clear n0_ n1_ n2_ n3_
             clear hb hbox hg
             refine hK.out _ _ ⟨((HB.out.cell (World.block_lt_of_cell? w _ hw342_0)).trans hw342_0), ((HB.out.cell (World.block_lt_of_cell? w _ hw342_1)).trans hw342_1), ((HB.out.cell (World.block_lt_of_cell? w _ hw342_2)).trans hw342_2), ((HB.out.cell (World.block_lt_of_cell? w _ hw343_0)).trans hw343_0), ((HB.out.cell (World.block_lt_of_cell? w _ hw343_1)).trans hw343_1), ((HB.out.cell (World.block_lt_of_cell? w _ hw343_2)).trans hw343_2)⟩ (fun hHeld => ?_)
             clear hK K
             refine norm_ (a' := ?_) ?_ ?_
             rotate_left
             ·
              show Act.put _ (some 9) _ = _
              simp only [sx]
              rfl
             refine one_ (i := 11) (N := some 41) #[true, true, true, true, true, true, true, true, true, true, true, true, false, false, false, true, false, false] rfl rfl (one_of HT_.out (by kernel_rfl)) (by decide) (fun K hK => ?_)
             refine goes_ Try.func95 (by kernel_rfl) rfl #[.agg #[.string ((rd_T35 l0 t338).f1.f0), .string ((rd_T35 l0 t338).f1.f1)], .agg #[.string ((rd_T35 l0 (ji16)).f1.f0), .string ((rd_T35 l0 (ji16)).f1.f1)]] (by rfl) rfl rfl (by (try simp only [List.map_toArray, List.map_cons, List.map_nil]); first | done | (simp only [hji16]; rfl) | rfl | (simp only [List.length_drop, List.length_take]; rfl)) ?_
             with_reducible refine (impl_IntervalJoin.calls kj6 ((rd_T35 l0 t338).f1.f0) ((rd_T35 l0 t338).f1.f1) ((rd_T35 l0 (ji16)).f1.f0) ((rd_T35 l0 (ji16)).f1.f1) t344 t345 true _ A19.out).mono ?_
             rintro e w40 ⟨rfl, hb⟩
             refine ⟨_, rfl, ?_⟩
             have n0_ := bkb BK347 hb
             have n1_ := Aside0.mk (below_step (bz) hb)
             clear BK347
             clear HB
             have BK347 := n0_
             have HB := n1_
             clear n0_ n1_
             (try clear hb)
             (try clear hb2)
             (try clear hk)
             (try clear hi)
             refine hK.out _ _ ⟨((HB.out.cell (World.block_lt_of_cell? w _ hw342_0)).trans hw342_0), ((HB.out.cell (World.block_lt_of_cell? w _ hw342_1)).trans hw342_1), ((HB.out.cell (World.block_lt_of_cell? w _ hw342_2)).trans hw342_2), ((HB.out.cell (World.block_lt_of_cell? w _ hw343_0)).trans hw343_0), ((HB.out.cell (World.block_lt_of_cell? w _ hw343_1)).trans hw343_1), ((HB.out.cell (World.block_lt_of_cell? w _ hw343_2)).trans hw343_2)⟩ (fun hHeld => ?_)
             clear hK K
             refine norm_ (a' := ?_) ?_ ?_
             rotate_left
             ·
              show Act.put _ (some 41) _ = _
              simp only [sx]
              rfl
             refine pure_ (i := 12) (N := some 29) (v := ?_) (a' := ?_) #[true, true, true, true, true, true, true, true, true, true, true, true, true, false, false, true, false, false] rfl rfl (any_of HT_.out (by kernel_rfl)) (fun _ _ _ h => h) (Or.inl ⟨by rfl, ?_⟩) ?_ ?_
             rotate_left
             ·
              intro w'
              go_simp
              with_reducible rfl
             rotate_left
             ·
              simp only [sx]
              rfl
             refine pure_ (i := 13) (N := some 42) (v := ?_) (a' := ?_) #[true, true, true, true, true, true, true, true, true, true, true, true, true, true, false, true, false, false] rfl rfl (any_of HT_.out (by kernel_rfl)) (fun _ _ _ h => h) (Or.inl ⟨by rfl, ?_⟩) ?_ ?_
             rotate_left
             ·
              intro w'
              go_simp
              with_reducible rfl
             rotate_left
             ·
              simp only [sx]
              rfl
             refine pure_ (i := 14) (N := some 43) (v := ?_) (a' := ?_) #[true, true, true, true, true, true, true, true, true, true, true, true, true, true, true, true, false, false] rfl rfl (any_of HT_.out (by kernel_rfl)) (fun _ _ _ h => h) (Or.inl ⟨by rfl, ?_⟩) ?_ ?_
             rotate_left
             ·
              intro w'
              go_simp
              with_reducible rfl
             rotate_left
             ·
              simp only [sx]
              rfl
             exact norm_ (by simp only [putAll, Act.put, List.setIfInBounds_toArray, List.set_cons_zero, List.set_cons_succ]) (hCont (gb347) _ ⟨hHeld, (bq BK347), GW347.out, GE347.out, (bz)⟩)
           rintro gb347 w41 ⟨hS_, h0_, h1_, h2_, h3_⟩
           have n0_ : Aside0 (w41.heap[gb347]? = some (.cells #[.string (⟨#[]⟩ : ByteArray), .string (⟨#[]⟩ : ByteArray)] 31 (0, 0))) := ⟨h0_⟩
           have n1_ : Aside0 (w.heap.size ≤ gb347) := ⟨h1_⟩
           have n2_ : Aside0 (w.heap.size ≤ gb347) := ⟨h2_⟩
           have n3_ : Aside0 (Below w.heap.size w w41) := ⟨h3_⟩
           clear HB
           clear h0_ h1_ h2_ h3_
           have BK347 := n0_
           have GW347 := n1_
           have GE347 := n2_
           have HB := n3_
           clear n0_ n1_ n2_ n3_
           have hHeld : w41.cell? (ad342.add ((t338).toNat * 3)) = some (.int .i64 ((rd_T35 l0 t338).f0)) ∧ w41.cell? ⟨(ad342.add ((t338).toNat * 3)).block, (ad342.add ((t338).toNat * 3)).off + 1, none⟩ = some (.string ((rd_T35 l0 t338).f1.f0)) ∧ w41.cell? ⟨(ad342.add ((t338).toNat * 3)).block, (ad342.add ((t338).toNat * 3)).off + 2, none⟩ = some (.string ((rd_T35 l0 t338).f1.f1)) ∧ w41.cell? (ad342.add (((ji16)).toNat * 3)) = some (.int .i64 ((rd_T35 l0 (ji16)).f0)) ∧ w41.cell? ⟨(ad342.add (((ji16)).toNat * 3)).block, (ad342.add (((ji16)).toNat * 3)).off + 1, none⟩ = some (.string ((rd_T35 l0 (ji16)).f1.f0)) ∧ w41.cell? ⟨(ad342.add (((ji16)).toNat * 3)).block, (ad342.add (((ji16)).toNat * 3)).off + 2, none⟩ = some (.string ((rd_T35 l0 (ji16)).f1.f1)) := hS_
           refine norm_ (a' := ?_) ?_ ?_
           rotate_left
           ·
            simp only [putAll, Act.put, List.setIfInBounds_toArray, List.set_cons_zero, List.set_cons_succ]
            rfl
           refine one_ (i := 16) (N := none) #[true, true, true, true, true, true, true, true, true, true, true, true, true, true, true, true, true, false] rfl rfl (one_of HT_.out (by kernel_rfl)) (by decide) (fun K hK => ?_)
           have hs42 : w41.cell? ⟨gb347, 0, none⟩ = some (.string (⟨#[]⟩ : ByteArray)) := (blk_cell BK347.out 0).trans rfl
           have hfs42 := blk_frozen BK347.out 0
           have hs43 : w41.cell? ⟨gb347, 1, none⟩ = some (.string (⟨#[]⟩ : ByteArray)) := (blk_cell BK347.out 1).trans rfl
           have hfs43 := blk_frozen BK347.out 1
           refine skip_ (w1 := ?_) (by rfl) rfl ?_ ?_
           rotate_left
           ·
            go_simp
            rfl
           refine hK.out _ _ ⟨((cell_far (p := ⟨gb347, _, none⟩) (by first | exact Nat.ne_of_lt (Nat.lt_of_lt_of_le (by have := World.block_lt_of_cell? _ _ hw342_0; first | rwa [add_block] at this | exact this) GW347.out) | (rw [add_block]; exact Nat.ne_of_lt (Nat.lt_of_lt_of_le (by have := World.block_lt_of_cell? _ _ hw342_0; first | rwa [add_block] at this | exact this) GW347.out)) | (show (Addr.add _ _).block ≠ _; rw [add_block]; exact Nat.ne_of_lt (Nat.lt_of_lt_of_le (by have := World.block_lt_of_cell? _ _ hw342_0; first | rwa [add_block] at this | exact this) GW347.out)) | (dsimp only; exact Nat.ne_of_lt (Nat.lt_of_lt_of_le (by have := World.block_lt_of_cell? _ _ hw342_0; first | rwa [add_block] at this | exact this) GW347.out))) _).trans (((cell_far (p := ⟨gb347, _, none⟩) (by first | exact Nat.ne_of_lt (Nat.lt_of_lt_of_le (by have := World.block_lt_of_cell? _ _ hw342_0; first | rwa [add_block] at this | exact this) GW347.out) | (rw [add_block]; exact Nat.ne_of_lt (Nat.lt_of_lt_of_le (by have := World.block_lt_of_cell? _ _ hw342_0; first | rwa [add_block] at this | exact this) GW347.out)) | (show (Addr.add _ _).block ≠ _; rw [add_block]; exact Nat.ne_of_lt (Nat.lt_of_lt_of_le (by have := World.block_lt_of_cell? _ _ hw342_0; first | rwa [add_block] at this | exact this) GW347.out)) | (dsimp only; exact Nat.ne_of_lt (Nat.lt_of_lt_of_le (by have := World.block_lt_of_cell? _ _ hw342_0; first | rwa [add_block] at this | exact this) GW347.out))) _).trans (hHeld.1)))), ((cell_far (p := ⟨gb347, _, none⟩) (by first | exact Nat.ne_of_lt (Nat.lt_of_lt_of_le (by have := World.block_lt_of_cell? _ _ hw342_1; first | rwa [add_block] at this | exact this) GW347.out) | (rw [add_block]; exact Nat.ne_of_lt (Nat.lt_of_lt_of_le (by have := World.block_lt_of_cell? _ _ hw342_1; first | rwa [add_block] at this | exact this) GW347.out)) | (show (Addr.add _ _).block ≠ _; rw [add_block]; exact Nat.ne_of_lt (Nat.lt_of_lt_of_le (by have := World.block_lt_of_cell? _ _ hw342_1; first | rwa [add_block] at this | exact this) GW347.out)) | (dsimp only; exact Nat.ne_of_lt (Nat.lt_of_lt_of_le (by have := World.block_lt_of_cell? _ _ hw342_1; first | rwa [add_block] at this | exact this) GW347.out))) _).trans (((cell_far (p := ⟨gb347, _, none⟩) (by first | exact Nat.ne_of_lt (Nat.lt_of_lt_of_le (by have := World.block_lt_of_cell? _ _ hw342_1; first | rwa [add_block] at this | exact this) GW347.out) | (rw [add_block]; exact Nat.ne_of_lt (Nat.lt_of_lt_of_le (by have := World.block_lt_of_cell? _ _ hw342_1; first | rwa [add_block] at this | exact this) GW347.out)) | (show (Addr.add _ _).block ≠ _; rw [add_block]; exact Nat.ne_of_lt (Nat.lt_of_lt_of_le (by have := World.block_lt_of_cell? _ _ hw342_1; first | rwa [add_block] at this | exact this) GW347.out)) | (dsimp only; exact Nat.ne_of_lt (Nat.lt_of_lt_of_le (by have := World.block_lt_of_cell? _ _ hw342_1; first | rwa [add_block] at this | exact this) GW347.out))) _).trans (hHeld.2.1)))), ((cell_far (p := ⟨gb347, _, none⟩) (by first | exact Nat.ne_of_lt (Nat.lt_of_lt_of_le (by have := World.block_lt_of_cell? _ _ hw342_2; first | rwa [add_block] at this | exact this) GW347.out) | (rw [add_block]; exact Nat.ne_of_lt (Nat.lt_of_lt_of_le (by have := World.block_lt_of_cell? _ _ hw342_2; first | rwa [add_block] at this | exact this) GW347.out)) | (show (Addr.add _ _).block ≠ _; rw [add_block]; exact Nat.ne_of_lt (Nat.lt_of_lt_of_le (by have := World.block_lt_of_cell? _ _ hw342_2; first | rwa [add_block] at this | exact this) GW347.out)) | (dsimp only; exact Nat.ne_of_lt (Nat.lt_of_lt_of_le (by have := World.block_lt_of_cell? _ _ hw342_2; first | rwa [add_block] at this | exact this) GW347.out))) _).trans (((cell_far (p := ⟨gb347, _, none⟩) (by first | exact Nat.ne_of_lt (Nat.lt_of_lt_of_le (by have := World.block_lt_of_cell? _ _ hw342_2; first | rwa [add_block] at this | exact this) GW347.out) | (rw [add_block]; exact Nat.ne_of_lt (Nat.lt_of_lt_of_le (by have := World.block_lt_of_cell? _ _ hw342_2; first | rwa [add_block] at this | exact this) GW347.out)) | (show (Addr.add _ _).block ≠ _; rw [add_block]; exact Nat.ne_of_lt (Nat.lt_of_lt_of_le (by have := World.block_lt_of_cell? _ _ hw342_2; first | rwa [add_block] at this | exact this) GW347.out)) | (dsimp only; exact Nat.ne_of_lt (Nat.lt_of_lt_of_le (by have := World.block_lt_of_cell? _ _ hw342_2; first | rwa [add_block] at this | exact this) GW347.out))) _).trans (hHeld.2.2.1)))), ((cell_far (p := ⟨gb347, _, none⟩) (by first | exact Nat.ne_of_lt (Nat.lt_of_lt_of_le (by have := World.block_lt_of_cell? _ _ hw343_0; first | rwa [add_block] at this | exact this) GW347.out) | (rw [add_block]; exact Nat.ne_of_lt (Nat.lt_of_lt_of_le (by have := World.block_lt_of_cell? _ _ hw343_0; first | rwa [add_block] at this | exact this) GW347.out)) | (show (Addr.add _ _).block ≠ _; rw [add_block]; exact Nat.ne_of_lt (Nat.lt_of_lt_of_le (by have := World.block_lt_of_cell? _ _ hw343_0; first | rwa [add_block] at this | exact this) GW347.out)) | (dsimp only; exact Nat.ne_of_lt (Nat.lt_of_lt_of_le (by have := World.block_lt_of_cell? _ _ hw343_0; first | rwa [add_block] at this | exact this) GW347.out))) _).trans (((cell_far (p := ⟨gb347, _, none⟩) (by first | exact Nat.ne_of_lt (Nat.lt_of_lt_of_le (by have := World.block_lt_of_cell? _ _ hw343_0; first | rwa [add_block] at this | exact this) GW347.out) | (rw [add_block]; exact Nat.ne_of_lt (Nat.lt_of_lt_of_le (by have := World.block_lt_of_cell? _ _ hw343_0; first | rwa [add_block] at this | exact this) GW347.out)) | (show (Addr.add _ _).block ≠ _; rw [add_block]; exact Nat.ne_of_lt (Nat.lt_of_lt_of_le (by have := World.block_lt_of_cell? _ _ hw343_0; first | rwa [add_block] at this | exact this) GW347.out)) | (dsimp only; exact Nat.ne_of_lt (Nat.lt_of_lt_of_le (by have := World.block_lt_of_cell? _ _ hw343_0; first | rwa [add_block] at this | exact this) GW347.out))) _).trans (hHeld.2.2.2.1)))), ((cell_far (p := ⟨gb347, _, none⟩) (by first | exact Nat.ne_of_lt (Nat.lt_of_lt_of_le (by have := World.block_lt_of_cell? _ _ hw343_1; first | rwa [add_block] at this | exact this) GW347.out) | (rw [add_block]; exact Nat.ne_of_lt (Nat.lt_of_lt_of_le (by have := World.block_lt_of_cell? _ _ hw343_1; first | rwa [add_block] at this | exact this) GW347.out)) | (show (Addr.add _ _).block ≠ _; rw [add_block]; exact Nat.ne_of_lt (Nat.lt_of_lt_of_le (by have := World.block_lt_of_cell? _ _ hw343_1; first | rwa [add_block] at this | exact this) GW347.out)) | (dsimp only; exact Nat.ne_of_lt (Nat.lt_of_lt_of_le (by have := World.block_lt_of_cell? _ _ hw343_1; first | rwa [add_block] at this | exact this) GW347.out))) _).trans (((cell_far (p := ⟨gb347, _, none⟩) (by first | exact Nat.ne_of_lt (Nat.lt_of_lt_of_le (by have := World.block_lt_of_cell? _ _ hw343_1; first | rwa [add_block] at this | exact this) GW347.out) | (rw [add_block]; exact Nat.ne_of_lt (Nat.lt_of_lt_of_le (by have := World.block_lt_of_cell? _ _ hw343_1; first | rwa [add_block] at this | exact this) GW347.out)) | (show (Addr.add _ _).block ≠ _; rw [add_block]; exact Nat.ne_of_lt (Nat.lt_of_lt_of_le (by have := World.block_lt_of_cell? _ _ hw343_1; first | rwa [add_block] at this | exact this) GW347.out)) | (dsimp only; exact Nat.ne_of_lt (Nat.lt_of_lt_of_le (by have := World.block_lt_of_cell? _ _ hw343_1; first | rwa [add_block] at this | exact this) GW347.out))) _).trans (hHeld.2.2.2.2.1)))), ((cell_far (p := ⟨gb347, _, none⟩) (by first | exact Nat.ne_of_lt (Nat.lt_of_lt_of_le (by have := World.block_lt_of_cell? _ _ hw343_2; first | rwa [add_block] at this | exact this) GW347.out) | (rw [add_block]; exact Nat.ne_of_lt (Nat.lt_of_lt_of_le (by have := World.block_lt_of_cell? _ _ hw343_2; first | rwa [add_block] at this | exact this) GW347.out)) | (show (Addr.add _ _).block ≠ _; rw [add_block]; exact Nat.ne_of_lt (Nat.lt_of_lt_of_le (by have := World.block_lt_of_cell? _ _ hw343_2; first | rwa [add_block] at this | exact this) GW347.out)) | (dsimp only; exact Nat.ne_of_lt (Nat.lt_of_lt_of_le (by have := World.block_lt_of_cell? _ _ hw343_2; first | rwa [add_block] at this | exact this) GW347.out))) _).trans (((cell_far (p := ⟨gb347, _, none⟩) (by first | exact Nat.ne_of_lt (Nat.lt_of_lt_of_le (by have := World.block_lt_of_cell? _ _ hw343_2; first | rwa [add_block] at this | exact this) GW347.out) | (rw [add_block]; exact Nat.ne_of_lt (Nat.lt_of_lt_of_le (by have := World.block_lt_of_cell? _ _ hw343_2; first | rwa [add_block] at this | exact this) GW347.out)) | (show (Addr.add _ _).block ≠ _; rw [add_block]; exact Nat.ne_of_lt (Nat.lt_of_lt_of_le (by have := World.block_lt_of_cell? _ _ hw343_2; first | rwa [add_block] at this | exact this) GW347.out)) | (dsimp only; exact Nat.ne_of_lt (Nat.lt_of_lt_of_le (by have := World.block_lt_of_cell? _ _ hw343_2; first | rwa [add_block] at this | exact this) GW347.out))) _).trans (hHeld.2.2.2.2.2))))⟩ (fun hHeld => ?_)
           clear hK K
           refine pure_ (i := 17) (N := some 10) (v := ?_) (a' := ?_) #[true, true, true, true, true, true, true, true, true, true, true, true, true, true, true, true, true, true] rfl rfl (any_of HT_.out (by kernel_rfl)) (fun _ _ _ h => h) (Or.inl ⟨by rfl, ?_⟩) ?_ ?_
           rotate_left
           ·
            intro w'
            go_simp
            with_reducible rfl
           rotate_left
           ·
            simp only [sx]
            rfl
           refine done_ (done_of HT_.out (by kernel_rfl)) ?_
           obtain ⟨hcz44_0, hcz44_1⟩ := cl2 BK347
           obtain ⟨hfz44_0, hfz44_1⟩ := fz2 BK347
           try go_wp2_with (first | ((with_reducible refine gate_dst (N := 53) rfl ?_); (try (refine gate_guard (by rfl) ?_; dsimp only)); refine Kd.R_lit k35 _ 35 ?hg (N := 53) ?hd (xs := ([(⟨a2, (⟨t344, t345⟩ : S31)⟩ : S35)] : List (S35))) (inner := [.int .i64 a2, .string t344, .string t345]) (ok := fun _ => True) (okp := fun _ => True) ?hr ?hp (fun _ hk => hk) trivial (Below.refl _ _) (Nat.le_refl _) (by simp) ?_; (case hd => rfl); (case hg => rfl); (case hr => first | (go_simp; done) | (go_simp; rfl)); (case hp => exact (Reps.c3 (show Kd.M k35 _ _ _ (⟨a2, (⟨t344, t345⟩ : S31)⟩ : S35) [.int .i64 a2, .string t344, .string t345] from (k35_mkM _ _ _ (⟨a2, (⟨t344, t345⟩ : S31)⟩ : S35) )) (Reps.none _ _))); intro v352 w45 ho46 hb hg_ hnew_; clear hg_ hnew_; (first | rw [← Ny351.out] at ho46 | (simp only [Int.reduceToNat] at ho46; rw [← Ny351.out] at ho46)); have n0_ := Aside0.mk (Kd.R_lower ho46 (below_size (bz))); have n1_ := Aside0.mk (blk_below (g := gb347) (o := .cells #[.string t344, .string t345] 31 (0, 0)) (by (with_reducible repeat (first | refine blk_drewN ?_ _ | refine blk_drew ?_ | refine blk_alloc ?_ _)); refine blk_put (cs := #[.string t344, .string (⟨#[]⟩ : ByteArray)]) ?_ 1 _ rfl; (with_reducible repeat (first | refine blk_drewN ?_ _ | refine blk_drew ?_ | refine blk_alloc ?_ _)); refine blk_put (cs := #[.string (⟨#[]⟩ : ByteArray), .string (⟨#[]⟩ : ByteArray)]) ?_ 0 _ rfl; (with_reducible repeat (first | refine blk_drewN ?_ _ | refine blk_drew ?_ | refine blk_alloc ?_ _)); exact BK347.out) hb); have n2_ := Aside0.mk (below_step (bz) hb); clear BK347; clear HB; have HO353 := n0_; have BK347 := n1_; have HB := n2_; clear n0_ n1_ n2_; clear hb ho46; obtain ⟨Ao47, co47, eo47⟩ := Kd.R_slice HO353.out; subst eo47) | ((with_reducible refine gate_callee (f := 96) rfl ?_); refine goesL_ (some 54) rfl rfl Try.func96 (by kernel_rfl) rfl #[.slice (some ad342) l0.length c0, .int .i64 t338, .int .i64 2, .slice Ao47 y351.length co47] rfl (by (try simp only [List.map_toArray, List.map_cons, List.map_nil]); first | done | rfl | (simp only [List.length_drop, List.length_take]; rfl)) ?_; (with_reducible refine (impl_Route_96.calls _ _ l0 t338 2 _ _ y351 t354 _ ?side1 ?side2 ?side3 ?side4 A21.out).mono ?_); (case side1 => repeat (first | exact (Kd.C_below HR0.out HB.out) | (with_reducible refine Kd.C_alloc ?_ _) | (with_reducible refine Kd.C_drewN ?_ _) | (with_reducible refine Kd.C_drew ?_))); (case side2 => exact HC0.out); (case side3 => repeat (first | exact (Kd.R_reads' HO353.out).2.2 | (with_reducible refine Kd.C_alloc ?_ _) | (with_reducible refine Kd.C_drewN ?_ _) | (with_reducible refine Kd.C_drew ?_))); (case side4 => exact (Kd.R_reads' HO353.out).2.1); rintro e w48 ⟨v355, rfl, ho0, hb⟩; refine ⟨_, rfl, ?_⟩; have n0_ := Aside0.mk (Kd.R_elder' (by (with_reducible repeat (first | apply Kd.R_alloc | apply Kd.R_drewN | apply Kd.R_drew)); exact HO353.out) (Kd.R_base ho0) hb); have n1_ := Aside0.mk (Kd.R_lower (Kd.R_new' ho0 (Kd.R_lt (by (with_reducible repeat (first | apply Kd.R_alloc | apply Kd.R_drewN | apply Kd.R_drew)); exact HO353.out))) (below_size (bz))); have n2_ := bkb BK347 hb; have n3_ := Aside0.mk (below_step (bz) hb); clear HO353; clear BK347; clear HB; have HO353 := n0_; have HO356 := n1_; have BK347 := n2_; have HB := n3_; clear n0_ n1_ n2_ n3_; (try clear hb); (try clear hb2); (try clear hk); (try clear hi); (try clear ho0); obtain ⟨Ao49, co49, eo49⟩ := Kd.R_slice HO356.out; subst eo49) | ((with_reducible refine gate_callee (f := 18) rfl ?_); refine goesL_ (some 56) rfl rfl Try.func18 (by kernel_rfl) rfl #[.slice Ao49 t354.length co49] rfl (by (try simp only [List.map_toArray, List.map_cons, List.map_nil]); first | done | rfl | (simp only [List.length_drop, List.length_take]; rfl)) ?_; (with_reducible refine (impl_RoutesValid.calls kj6 _ _ t354 false _ ?side1 ?side2 A22.out).mono ?_); (case side1 => repeat (first | exact (Kd.R_reads' HO356.out).2.2 | (with_reducible refine Kd.C_alloc ?_ _) | (with_reducible refine Kd.C_drewN ?_ _) | (with_reducible refine Kd.C_drew ?_))); (case side2 => exact (Kd.R_reads' HO356.out).2.1); rintro e w50 ⟨rfl, hb⟩; refine ⟨_, rfl, ?_⟩; have n0_ := Aside0.mk (Kd.R_below (by (with_reducible repeat (first | apply Kd.R_alloc | apply Kd.R_drewN | apply Kd.R_drew)); exact HO353.out) hb); have n1_ := Aside0.mk (Kd.R_below (by (with_reducible repeat (first | apply Kd.R_alloc | apply Kd.R_drewN | apply Kd.R_drew)); exact HO356.out) hb); have n2_ := bkb BK347 hb; have n3_ := Aside0.mk (below_step (bz) hb); clear HO353; clear HO356; clear BK347; clear HB; have HO353 := n0_; have HO356 := n1_; have BK347 := n2_; have HB := n3_; clear n0_ n1_ n2_ n3_; (try clear hb); (try clear hb2); (try clear hk); (try clear hi)) | ((with_reducible refine gate_callee (f := 94) rfl ?_); refine goesL_ (some 59) rfl rfl Try.func94 (by kernel_rfl) rfl #[.slice (some ad342) l0.length c0] rfl (by (try simp only [List.map_toArray, List.map_cons, List.map_nil]); first | done | rfl | (simp only [List.length_drop, List.length_take]; rfl)) ?_; (with_reducible refine (impl_Route_94.calls _ _ l0 t358 _ ?side1 ?side2 A37.out).mono ?_); (case side1 => repeat (first | exact (Kd.C_below HR0.out HB.out) | (with_reducible refine Kd.C_alloc ?_ _) | (with_reducible refine Kd.C_drewN ?_ _) | (with_reducible refine Kd.C_drew ?_))); (case side2 => exact HC0.out); rintro e w51 ⟨v359, rfl, ho0, hb⟩; refine ⟨_, rfl, ?_⟩; have n0_ := Aside0.mk (Kd.R_elder' (by (with_reducible repeat (first | apply Kd.R_alloc | apply Kd.R_drewN | apply Kd.R_drew)); exact HO353.out) (Kd.R_base ho0) hb); have n1_ := Aside0.mk (Kd.R_elder' (by (with_reducible repeat (first | apply Kd.R_alloc | apply Kd.R_drewN | apply Kd.R_drew)); exact HO356.out) (Kd.R_base ho0) hb); have n2_ := Aside0.mk (Kd.R_lower (Kd.R_new' (Kd.R_new' ho0 (Kd.R_lt (by (with_reducible repeat (first | apply Kd.R_alloc | apply Kd.R_drewN | apply Kd.R_drew)); exact HO353.out))) (Kd.R_lt (by (with_reducible repeat (first | apply Kd.R_alloc | apply Kd.R_drewN | apply Kd.R_drew)); exact HO356.out))) (below_size (bz))); have n3_ := bkb BK347 hb; have n4_ := Aside0.mk (below_step (bz) hb); clear HO353; clear HO356; clear BK347; clear HB; have HO353 := n0_; have HO356 := n1_; have HO360 := n2_; have BK347 := n3_; have HB := n4_; clear n0_ n1_ n2_ n3_ n4_; (try clear hb); (try clear hb2); (try clear hk); (try clear hi); (try clear ho0)))
           go_ret2
           exact ⟨_, by first | rfl | (simp only [u8w, w64m]; rfl) | (simp [errW_none, errW_some] <;> rfl) | (simp only [← hji16]; first | rfl | (simp [errW_none, errW_some] <;> rfl)) | (simp [*, errW_none, errW_some] <;> rfl), by (with_reducible repeat (first | apply Kd.R_alloc | apply Kd.R_drewN | apply Kd.R_drew)); exact Kd.R_mono HO360.out (fun _ hk => trivial), bz⟩
         ·
          replace c20 := Bool.eq_false_iff.mpr c20
          subst c20
          rw [if_neg (show ¬ (false = true) by decide)] at H
          replace H := Option.bind_eq_some_iff.mp H
          obtain ⟨t348, A520, H⟩ := H
          try dsimp only at H
          have A52 := Aside0.mk A520
          clear A520
          simp only [Option.some.injEq, Prod.mk.injEq] at H
          obtain ⟨rfl, rfl⟩ := H
          try go_wp2
          have n0_ := Aside0.mk (below_drew1 HB.out)
          clear HB
          have HB := n0_
          clear n0_
          have p342 : 0 ≤ (t338 : Int) := of_decide_eq_true (by first | (with_reducible assumption) | assumption)
          have q342 : t338 < (l0.length : Int) := of_decide_eq_true (by first | (with_reducible assumption) | assumption)
          obtain ⟨ad342, e342, hx342_0, hx342_1, hx342_2⟩ := at_T35 HR0.out t338 p342 q342
          have hw342_2 := hx342_2
          have hw342_1 := hx342_1
          have hw342_0 := hx342_0
          cases e342
          replace hx342_0 := (HB.out.cell (World.block_lt_of_cell? w _ hx342_0)).trans hx342_0
          replace hx342_1 := (HB.out.cell (World.block_lt_of_cell? w _ hx342_1)).trans hx342_1
          replace hx342_2 := (HB.out.cell (World.block_lt_of_cell? w _ hx342_2)).trans hx342_2
          replace p342 := eq_true p342
          replace q342 := eq_true q342
          have p343 : 0 ≤ ((ji16) : Int) := of_decide_eq_true (by first | (with_reducible assumption) | assumption)
          have q343 : (ji16) < (l0.length : Int) := of_decide_eq_true (by first | (with_reducible assumption) | assumption)
          obtain ⟨ad343, e343, hx343_0, hx343_1, hx343_2⟩ := at_T35 HR0.out (ji16) p343 q343
          have hw343_2 := hx343_2
          have hw343_1 := hx343_1
          have hw343_0 := hx343_0
          obtain rfl : ad342 = ad343 := (by injection e343)
          replace hx343_0 := (HB.out.cell (World.block_lt_of_cell? w _ hx343_0)).trans hx343_0
          replace hx343_1 := (HB.out.cell (World.block_lt_of_cell? w _ hx343_1)).trans hx343_1
          replace hx343_2 := (HB.out.cell (World.block_lt_of_cell? w _ hx343_2)).trans hx343_2
          replace p343 := eq_true p343
          replace q343 := eq_true q343
          refine start_ (n := 18) (S := fun w' => w'.cell? (ad342.add ((t338).toNat * 3)) = some (.int .i64 ((rd_T35 l0 t338).f0)) ∧ w'.cell? ⟨(ad342.add ((t338).toNat * 3)).block, (ad342.add ((t338).toNat * 3)).off + 1, none⟩ = some (.string ((rd_T35 l0 t338).f1.f0)) ∧ w'.cell? ⟨(ad342.add ((t338).toNat * 3)).block, (ad342.add ((t338).toNat * 3)).off + 2, none⟩ = some (.string ((rd_T35 l0 t338).f1.f1)) ∧ w'.cell? (ad342.add (((ji16)).toNat * 3)) = some (.int .i64 ((rd_T35 l0 (ji16)).f0)) ∧ w'.cell? ⟨(ad342.add (((ji16)).toNat * 3)).block, (ad342.add (((ji16)).toNat * 3)).off + 1, none⟩ = some (.string ((rd_T35 l0 (ji16)).f1.f0)) ∧ w'.cell? ⟨(ad342.add (((ji16)).toNat * 3)).block, (ad342.add (((ji16)).toNat * 3)).off + 2, none⟩ = some (.string ((rd_T35 l0 (ji16)).f1.f1))) (ds := []) #[false, false, false, false, false, false, false, false, false, false, false, false, false, false, false, false, false, false] (by kernel_rfl) rfl rfl ⟨((HB.out.cell (World.block_lt_of_cell? w _ hw342_0)).trans hw342_0), ((HB.out.cell (World.block_lt_of_cell? w _ hw342_1)).trans hw342_1), ((HB.out.cell (World.block_lt_of_cell? w _ hw342_2)).trans hw342_2), ((HB.out.cell (World.block_lt_of_cell? w _ hw343_0)).trans hw343_0), ((HB.out.cell (World.block_lt_of_cell? w _ hw343_1)).trans hw343_1), ((HB.out.cell (World.block_lt_of_cell? w _ hw343_2)).trans hw343_2)⟩ (fun hHeld => ?_); refine with_tabW impl_MergeRoutes.tab6 impl_MergeRoutes.bits6 (fun HT_ HW_ => ?_)
          generalize wc.drew = w53 at HB hx342_0 hx342_1 hx342_2 hx343_0 hx343_1 hx343_2 hHeld ⊢
          refine pure_ (i := 0) (N := some 30) (v := ?_) (a' := ?_) #[true, false, false, false, false, false, false, false, false, false, false, false, false, false, false, false, false, false] rfl rfl (any_of HT_.out (by kernel_rfl)) (fun _ _ _ h => h) (Or.inl ⟨by rfl, ?_⟩) ?_ ?_
          rotate_left
          ·
           intro w'
           go_simp
           with_reducible rfl
          rotate_left
          ·
           simp only [sx]
           rfl
          refine pure_ (i := 1) (N := some 31) (v := ?_) (a' := ?_) #[true, true, false, false, false, false, false, false, false, false, false, false, false, false, false, false, false, false] rfl rfl (any_of HT_.out (by kernel_rfl)) (fun _ _ _ h => h) (Or.inl ⟨by rfl, ?_⟩) ?_ ?_
          rotate_left
          ·
           intro w'
           go_simp
           with_reducible rfl
          rotate_left
          ·
           simp only [sx]
           rfl
          refine pure_ (i := 2) (N := some 32) (v := ?_) (a' := ?_) #[true, true, true, false, false, false, false, false, false, false, false, false, false, false, false, false, false, false] rfl rfl (any_of HT_.out (by kernel_rfl)) (fun _ _ _ h => h) (Or.inl ⟨by rfl, ?_⟩) ?_ ?_
          rotate_left
          ·
           intro w'
           go_simp
           with_reducible rfl
          rotate_left
          ·
           simp only [sx]
           rfl
          refine pure_ (i := 3) (N := some 33) (v := ?_) (a' := ?_) #[true, true, true, true, false, false, false, false, false, false, false, false, false, false, false, false, false, false] rfl rfl (any_of HT_.out (by kernel_rfl)) (fun _ _ _ h => h) (Or.inl ⟨by rfl, ?_⟩) ?_ ?_
          rotate_left
          ·
           intro w'
           go_simp
           with_reducible rfl
          rotate_left
          ·
           simp only [sx]
           rfl
          refine pure_ (i := 5) (N := some 35) (v := ?_) (a' := ?_) #[true, true, true, true, false, true, false, false, false, false, false, false, false, false, false, false, false, false] rfl rfl (any_of HT_.out (by kernel_rfl)) (fun _ _ _ h => h) (Or.inl ⟨by rfl, ?_⟩) ?_ ?_
          rotate_left
          ·
           intro w'
           go_simp
           with_reducible rfl
          rotate_left
          ·
           simp only [sx]
           rfl
          refine pure_ (i := 6) (N := some 36) (v := ?_) (a' := ?_) #[true, true, true, true, false, true, true, false, false, false, false, false, false, false, false, false, false, false] rfl rfl (any_of HT_.out (by kernel_rfl)) (fun _ _ _ h => h) (Or.inl ⟨by rfl, ?_⟩) ?_ ?_
          rotate_left
          ·
           intro w'
           go_simp
           with_reducible rfl
          rotate_left
          ·
           simp only [sx]
           rfl
          refine pure_ (i := 7) (N := some 37) (v := ?_) (a' := ?_) #[true, true, true, true, false, true, true, true, false, false, false, false, false, false, false, false, false, false] rfl rfl (any_of HT_.out (by kernel_rfl)) (fun _ _ _ h => h) (Or.inl ⟨by rfl, ?_⟩) ?_ ?_
          rotate_left
          ·
           intro w'
           go_simp
           with_reducible rfl
          rotate_left
          ·
           simp only [sx]
           rfl
          refine pure_ (i := 8) (N := some 38) (v := ?_) (a' := ?_) #[true, true, true, true, false, true, true, true, true, false, false, false, false, false, false, false, false, false] rfl rfl (any_of HT_.out (by kernel_rfl)) (fun _ _ _ h => h) (Or.inl ⟨by rfl, ?_⟩) ?_ ?_
          rotate_left
          ·
           intro w'
           go_simp
           with_reducible rfl
          rotate_left
          ·
           simp only [sx]
           rfl
          refine pure_ (i := 9) (N := some 39) (v := ?_) (a' := ?_) #[true, true, true, true, false, true, true, true, true, true, false, false, false, false, false, false, false, false] rfl rfl (any_of HT_.out (by kernel_rfl)) (fun _ _ _ h => h) (Or.inl ⟨by rfl, ?_⟩) ?_ ?_
          rotate_left
          ·
           intro w'
           go_simp
           with_reducible rfl
          rotate_left
          ·
           simp only [sx]
           rfl
          refine take_ (i := 4) (N := some 34) (v := ?_) (a' := ?_) #[true, true, true, true, true, true, true, true, true, true, false, false, false, false, false, false, false, false] rfl rfl (take_ofW HT_.out HW_.out (by kernel_rfl)) (fun _ _ _ h => h) (Or.inl ⟨by rfl, ?_⟩) hHeld ?_ ?_
          rotate_left
          ·
           rintro w' ⟨s0, s1, s2, s3, s4, s5⟩
           go_simp
           with_reducible rfl
          rotate_left
          ·
           simp only [sx]
           rfl
          refine take_ (i := 10) (N := some 40) (v := ?_) (a' := ?_) #[true, true, true, true, true, true, true, true, true, true, true, false, false, false, false, false, false, false] rfl rfl (take_ofW HT_.out HW_.out (by kernel_rfl)) (fun _ _ _ h => h) (Or.inl ⟨by rfl, ?_⟩) hHeld ?_ ?_
          rotate_left
          ·
           rintro w' ⟨s0, s1, s2, s3, s4, s5⟩
           go_simp
           with_reducible rfl
          rotate_left
          ·
           simp only [sx]
           rfl
          refine join_ (σ := Nat) 2 #[true, true, true, true, true, true, true, true, true, true, true, true, true, true, true, true, false, false] (fun s_ => [(41, .tuple #[.agg #[.string t344, .string t345], .bool false]), (9, .pointer (some ⟨s_, 0, none⟩)), (29, .tuple #[.agg #[.string t344, .string t345], .bool false]), (42, .agg #[.string t344, .string t345]), (43, .bool false)]) (fun s_ w' => (w'.cell? (ad342.add ((t338).toNat * 3)) = some (.int .i64 ((rd_T35 l0 t338).f0)) ∧ w'.cell? ⟨(ad342.add ((t338).toNat * 3)).block, (ad342.add ((t338).toNat * 3)).off + 1, none⟩ = some (.string ((rd_T35 l0 t338).f1.f0)) ∧ w'.cell? ⟨(ad342.add ((t338).toNat * 3)).block, (ad342.add ((t338).toNat * 3)).off + 2, none⟩ = some (.string ((rd_T35 l0 t338).f1.f1)) ∧ w'.cell? (ad342.add (((ji16)).toNat * 3)) = some (.int .i64 ((rd_T35 l0 (ji16)).f0)) ∧ w'.cell? ⟨(ad342.add (((ji16)).toNat * 3)).block, (ad342.add (((ji16)).toNat * 3)).off + 1, none⟩ = some (.string ((rd_T35 l0 (ji16)).f1.f0)) ∧ w'.cell? ⟨(ad342.add (((ji16)).toNat * 3)).block, (ad342.add (((ji16)).toNat * 3)).off + 2, none⟩ = some (.string ((rd_T35 l0 (ji16)).f1.f1))) ∧ (w'.heap[s_]? = some (.cells #[.string (⟨#[]⟩ : ByteArray), .string (⟨#[]⟩ : ByteArray)] 31 (0, 0))) ∧ (w.heap.size ≤ s_) ∧ (w.heap.size ≤ s_) ∧ (Below w.heap.size w w')) ?_ ?_
          rotate_left
          ·
           intro hCont
           refine two_ (i := 11) (j := 15) (Ni := some 41) (Nj := some 9) #[true, true, true, true, true, true, true, true, true, true, true, true, false, false, false, false, false, false] #[true, true, true, true, true, true, true, true, true, true, true, false, false, false, false, true, false, false] rfl rfl rfl rfl (two_of HT_.out (by kernel_rfl)) (by decide) (by decide) (fun K hK => ?_) (fun K hK => ?_)
           ·
            skip
            refine goes_ Try.func95 (by kernel_rfl) rfl #[.agg #[.string ((rd_T35 l0 t338).f1.f0), .string ((rd_T35 l0 t338).f1.f1)], .agg #[.string ((rd_T35 l0 (ji16)).f1.f0), .string ((rd_T35 l0 (ji16)).f1.f1)]] (by rfl) rfl rfl (by (try simp only [List.map_toArray, List.map_cons, List.map_nil]); first | done | (simp only [hji16]; rfl) | rfl | (simp only [List.length_drop, List.length_take]; rfl)) ?_
            with_reducible refine (impl_IntervalJoin.calls kj6 ((rd_T35 l0 t338).f1.f0) ((rd_T35 l0 t338).f1.f1) ((rd_T35 l0 (ji16)).f1.f0) ((rd_T35 l0 (ji16)).f1.f1) t344 t345 false _ A19.out).mono ?_
            rintro e w54 ⟨rfl, hb⟩
            refine ⟨_, rfl, ?_⟩
            have n0_ := Aside0.mk (below_step (bz) hb)
            clear HB
            have HB := n0_
            clear n0_
            (try clear hb)
            (try clear hb2)
            (try clear hk)
            (try clear hi)
            refine hK.out _ _ ⟨((HB.out.cell (World.block_lt_of_cell? w _ hw342_0)).trans hw342_0), ((HB.out.cell (World.block_lt_of_cell? w _ hw342_1)).trans hw342_1), ((HB.out.cell (World.block_lt_of_cell? w _ hw342_2)).trans hw342_2), ((HB.out.cell (World.block_lt_of_cell? w _ hw343_0)).trans hw343_0), ((HB.out.cell (World.block_lt_of_cell? w _ hw343_1)).trans hw343_1), ((HB.out.cell (World.block_lt_of_cell? w _ hw343_2)).trans hw343_2)⟩ (fun hHeld => ?_)
            clear hK K
            refine norm_ (a' := ?_) ?_ ?_
            rotate_left
            ·
             show Act.put _ (some 41) _ = _
             simp only [sx]
             rfl
            refine pure_ (i := 12) (N := some 29) (v := ?_) (a' := ?_) #[true, true, true, true, true, true, true, true, true, true, true, true, true, false, false, false, false, false] rfl rfl (any_of HT_.out (by kernel_rfl)) (fun _ _ _ h => h) (Or.inl ⟨by rfl, ?_⟩) ?_ ?_
            rotate_left
            ·
             intro w'
             go_simp
             with_reducible rfl
            rotate_left
            ·
             simp only [sx]
             rfl
            refine pure_ (i := 13) (N := some 42) (v := ?_) (a' := ?_) #[true, true, true, true, true, true, true, true, true, true, true, true, true, true, false, false, false, false] rfl rfl (any_of HT_.out (by kernel_rfl)) (fun _ _ _ h => h) (Or.inl ⟨by rfl, ?_⟩) ?_ ?_
            rotate_left
            ·
             intro w'
             go_simp
             with_reducible rfl
            rotate_left
            ·
             simp only [sx]
             rfl
            refine pure_ (i := 14) (N := some 43) (v := ?_) (a' := ?_) #[true, true, true, true, true, true, true, true, true, true, true, true, true, true, true, false, false, false] rfl rfl (any_of HT_.out (by kernel_rfl)) (fun _ _ _ h => h) (Or.inl ⟨by rfl, ?_⟩) ?_ ?_
            rotate_left
            ·
             intro w'
             go_simp
             with_reducible rfl
            rotate_left
            ·
             simp only [sx]
             rfl
            refine one_ (i := 15) (N := some 9) #[true, true, true, true, true, true, true, true, true, true, true, true, true, true, true, true, false, false] rfl rfl (one_of HT_.out (by kernel_rfl)) (by decide) (fun K hK => ?_)
            refine box_step ?hg (N := 9) ?hd (cs := #[.string (⟨#[]⟩ : ByteArray), .string (⟨#[]⟩ : ByteArray)]) (t := 31) ?hr ?_; (case hd => rfl); (case hg => rfl); (case hr => first | (go_simp; done) | (go_simp; rfl))
            intro gb347 hg w55 hbox hb
            have n0_ := Aside0.mk (below_step (bz) hb)
            have n1_ := Aside0.mk (hbox)
            have n2_ : Aside0 (w.heap.size ≤ gb347) := bsg hg
            have n3_ : Aside0 (w.heap.size ≤ gb347) := bsg hg
            clear HB
            have HB := n0_
            have BK347 := n1_
            have GW347 := n2_
            have GE347 := n3_
            clear n0_ n1_ n2_ n3_
            clear hb hbox hg
            refine hK.out _ _ ⟨((HB.out.cell (World.block_lt_of_cell? w _ hw342_0)).trans hw342_0), ((HB.out.cell (World.block_lt_of_cell? w _ hw342_1)).trans hw342_1), ((HB.out.cell (World.block_lt_of_cell? w _ hw342_2)).trans hw342_2), ((HB.out.cell (World.block_lt_of_cell? w _ hw343_0)).trans hw343_0), ((HB.out.cell (World.block_lt_of_cell? w _ hw343_1)).trans hw343_1), ((HB.out.cell (World.block_lt_of_cell? w _ hw343_2)).trans hw343_2)⟩ (fun hHeld => ?_)
            clear hK K
            refine norm_ (a' := ?_) ?_ ?_
            rotate_left
            ·
             show Act.put _ (some 9) _ = _
             simp only [sx]
             rfl
            exact norm_ (by simp only [putAll, Act.put, List.setIfInBounds_toArray, List.set_cons_zero, List.set_cons_succ]) (hCont (gb347) _ ⟨hHeld, (bq BK347), GW347.out, GE347.out, (bz)⟩)
           ·
            skip
            refine box_step ?hg (N := 9) ?hd (cs := #[.string (⟨#[]⟩ : ByteArray), .string (⟨#[]⟩ : ByteArray)]) (t := 31) ?hr ?_; (case hd => rfl); (case hg => rfl); (case hr => first | (go_simp; done) | (go_simp; rfl))
            intro gb347 hg w54 hbox hb
            have n0_ := Aside0.mk (below_step (bz) hb)
            have n1_ := Aside0.mk (hbox)
            have n2_ : Aside0 (w.heap.size ≤ gb347) := bsg hg
            have n3_ : Aside0 (w.heap.size ≤ gb347) := bsg hg
            clear HB
            have HB := n0_
            have BK347 := n1_
            have GW347 := n2_
            have GE347 := n3_
            clear n0_ n1_ n2_ n3_
            clear hb hbox hg
            refine hK.out _ _ ⟨((HB.out.cell (World.block_lt_of_cell? w _ hw342_0)).trans hw342_0), ((HB.out.cell (World.block_lt_of_cell? w _ hw342_1)).trans hw342_1), ((HB.out.cell (World.block_lt_of_cell? w _ hw342_2)).trans hw342_2), ((HB.out.cell (World.block_lt_of_cell? w _ hw343_0)).trans hw343_0), ((HB.out.cell (World.block_lt_of_cell? w _ hw343_1)).trans hw343_1), ((HB.out.cell (World.block_lt_of_cell? w _ hw343_2)).trans hw343_2)⟩ (fun hHeld => ?_)
            clear hK K
            refine norm_ (a' := ?_) ?_ ?_
            rotate_left
            ·
             show Act.put _ (some 9) _ = _
             simp only [sx]
             rfl
            refine one_ (i := 11) (N := some 41) #[true, true, true, true, true, true, true, true, true, true, true, true, false, false, false, true, false, false] rfl rfl (one_of HT_.out (by kernel_rfl)) (by decide) (fun K hK => ?_)
            refine goes_ Try.func95 (by kernel_rfl) rfl #[.agg #[.string ((rd_T35 l0 t338).f1.f0), .string ((rd_T35 l0 t338).f1.f1)], .agg #[.string ((rd_T35 l0 (ji16)).f1.f0), .string ((rd_T35 l0 (ji16)).f1.f1)]] (by rfl) rfl rfl (by (try simp only [List.map_toArray, List.map_cons, List.map_nil]); first | done | (simp only [hji16]; rfl) | rfl | (simp only [List.length_drop, List.length_take]; rfl)) ?_
            with_reducible refine (impl_IntervalJoin.calls kj6 ((rd_T35 l0 t338).f1.f0) ((rd_T35 l0 t338).f1.f1) ((rd_T35 l0 (ji16)).f1.f0) ((rd_T35 l0 (ji16)).f1.f1) t344 t345 false _ A19.out).mono ?_
            rintro e w55 ⟨rfl, hb⟩
            refine ⟨_, rfl, ?_⟩
            have n0_ := bkb BK347 hb
            have n1_ := Aside0.mk (below_step (bz) hb)
            clear BK347
            clear HB
            have BK347 := n0_
            have HB := n1_
            clear n0_ n1_
            (try clear hb)
            (try clear hb2)
            (try clear hk)
            (try clear hi)
            refine hK.out _ _ ⟨((HB.out.cell (World.block_lt_of_cell? w _ hw342_0)).trans hw342_0), ((HB.out.cell (World.block_lt_of_cell? w _ hw342_1)).trans hw342_1), ((HB.out.cell (World.block_lt_of_cell? w _ hw342_2)).trans hw342_2), ((HB.out.cell (World.block_lt_of_cell? w _ hw343_0)).trans hw343_0), ((HB.out.cell (World.block_lt_of_cell? w _ hw343_1)).trans hw343_1), ((HB.out.cell (World.block_lt_of_cell? w _ hw343_2)).trans hw343_2)⟩ (fun hHeld => ?_)
            clear hK K
            refine norm_ (a' := ?_) ?_ ?_
            rotate_left
            ·
             show Act.put _ (some 41) _ = _
             simp only [sx]
             rfl
            refine pure_ (i := 12) (N := some 29) (v := ?_) (a' := ?_) #[true, true, true, true, true, true, true, true, true, true, true, true, true, false, false, true, false, false] rfl rfl (any_of HT_.out (by kernel_rfl)) (fun _ _ _ h => h) (Or.inl ⟨by rfl, ?_⟩) ?_ ?_
            rotate_left
            ·
             intro w'
             go_simp
             with_reducible rfl
            rotate_left
            ·
             simp only [sx]
             rfl
            refine pure_ (i := 13) (N := some 42) (v := ?_) (a' := ?_) #[true, true, true, true, true, true, true, true, true, true, true, true, true, true, false, true, false, false] rfl rfl (any_of HT_.out (by kernel_rfl)) (fun _ _ _ h => h) (Or.inl ⟨by rfl, ?_⟩) ?_ ?_
            rotate_left
            ·
             intro w'
             go_simp
             with_reducible rfl
            rotate_left
            ·
             simp only [sx]
             rfl
            refine pure_ (i := 14) (N := some 43) (v := ?_) (a' := ?_) #[true, true, true, true, true, true, true, true, true, true, true, true, true, true, true, true, false, false] rfl rfl (any_of HT_.out (by kernel_rfl)) (fun _ _ _ h => h) (Or.inl ⟨by rfl, ?_⟩) ?_ ?_
            rotate_left
            ·
             intro w'
             go_simp
             with_reducible rfl
            rotate_left
            ·
             simp only [sx]
             rfl
            exact norm_ (by simp only [putAll, Act.put, List.setIfInBounds_toArray, List.set_cons_zero, List.set_cons_succ]) (hCont (gb347) _ ⟨hHeld, (bq BK347), GW347.out, GE347.out, (bz)⟩)
          rintro gb347 w56 ⟨hS_, h0_, h1_, h2_, h3_⟩
          have n0_ : Aside0 (w56.heap[gb347]? = some (.cells #[.string (⟨#[]⟩ : ByteArray), .string (⟨#[]⟩ : ByteArray)] 31 (0, 0))) := ⟨h0_⟩
          have n1_ : Aside0 (w.heap.size ≤ gb347) := ⟨h1_⟩
          have n2_ : Aside0 (w.heap.size ≤ gb347) := ⟨h2_⟩
          have n3_ : Aside0 (Below w.heap.size w w56) := ⟨h3_⟩
          clear HB
          clear h0_ h1_ h2_ h3_
          have BK347 := n0_
          have GW347 := n1_
          have GE347 := n2_
          have HB := n3_
          clear n0_ n1_ n2_ n3_
          have hHeld : w56.cell? (ad342.add ((t338).toNat * 3)) = some (.int .i64 ((rd_T35 l0 t338).f0)) ∧ w56.cell? ⟨(ad342.add ((t338).toNat * 3)).block, (ad342.add ((t338).toNat * 3)).off + 1, none⟩ = some (.string ((rd_T35 l0 t338).f1.f0)) ∧ w56.cell? ⟨(ad342.add ((t338).toNat * 3)).block, (ad342.add ((t338).toNat * 3)).off + 2, none⟩ = some (.string ((rd_T35 l0 t338).f1.f1)) ∧ w56.cell? (ad342.add (((ji16)).toNat * 3)) = some (.int .i64 ((rd_T35 l0 (ji16)).f0)) ∧ w56.cell? ⟨(ad342.add (((ji16)).toNat * 3)).block, (ad342.add (((ji16)).toNat * 3)).off + 1, none⟩ = some (.string ((rd_T35 l0 (ji16)).f1.f0)) ∧ w56.cell? ⟨(ad342.add (((ji16)).toNat * 3)).block, (ad342.add (((ji16)).toNat * 3)).off + 2, none⟩ = some (.string ((rd_T35 l0 (ji16)).f1.f1)) := hS_
          refine norm_ (a' := ?_) ?_ ?_
          rotate_left
          ·
           simp only [putAll, Act.put, List.setIfInBounds_toArray, List.set_cons_zero, List.set_cons_succ]
           rfl
          refine one_ (i := 16) (N := none) #[true, true, true, true, true, true, true, true, true, true, true, true, true, true, true, true, true, false] rfl rfl (one_of HT_.out (by kernel_rfl)) (by decide) (fun K hK => ?_)
          have hs57 : w56.cell? ⟨gb347, 0, none⟩ = some (.string (⟨#[]⟩ : ByteArray)) := (blk_cell BK347.out 0).trans rfl
          have hfs57 := blk_frozen BK347.out 0
          have hs58 : w56.cell? ⟨gb347, 1, none⟩ = some (.string (⟨#[]⟩ : ByteArray)) := (blk_cell BK347.out 1).trans rfl
          have hfs58 := blk_frozen BK347.out 1
          refine skip_ (w1 := ?_) (by rfl) rfl ?_ ?_
          rotate_left
          ·
           go_simp
           rfl
          refine hK.out _ _ ⟨((cell_far (p := ⟨gb347, _, none⟩) (by first | exact Nat.ne_of_lt (Nat.lt_of_lt_of_le (by have := World.block_lt_of_cell? _ _ hw342_0; first | rwa [add_block] at this | exact this) GW347.out) | (rw [add_block]; exact Nat.ne_of_lt (Nat.lt_of_lt_of_le (by have := World.block_lt_of_cell? _ _ hw342_0; first | rwa [add_block] at this | exact this) GW347.out)) | (show (Addr.add _ _).block ≠ _; rw [add_block]; exact Nat.ne_of_lt (Nat.lt_of_lt_of_le (by have := World.block_lt_of_cell? _ _ hw342_0; first | rwa [add_block] at this | exact this) GW347.out)) | (dsimp only; exact Nat.ne_of_lt (Nat.lt_of_lt_of_le (by have := World.block_lt_of_cell? _ _ hw342_0; first | rwa [add_block] at this | exact this) GW347.out))) _).trans (((cell_far (p := ⟨gb347, _, none⟩) (by first | exact Nat.ne_of_lt (Nat.lt_of_lt_of_le (by have := World.block_lt_of_cell? _ _ hw342_0; first | rwa [add_block] at this | exact this) GW347.out) | (rw [add_block]; exact Nat.ne_of_lt (Nat.lt_of_lt_of_le (by have := World.block_lt_of_cell? _ _ hw342_0; first | rwa [add_block] at this | exact this) GW347.out)) | (show (Addr.add _ _).block ≠ _; rw [add_block]; exact Nat.ne_of_lt (Nat.lt_of_lt_of_le (by have := World.block_lt_of_cell? _ _ hw342_0; first | rwa [add_block] at this | exact this) GW347.out)) | (dsimp only; exact Nat.ne_of_lt (Nat.lt_of_lt_of_le (by have := World.block_lt_of_cell? _ _ hw342_0; first | rwa [add_block] at this | exact this) GW347.out))) _).trans (hHeld.1)))), ((cell_far (p := ⟨gb347, _, none⟩) (by first | exact Nat.ne_of_lt (Nat.lt_of_lt_of_le (by have := World.block_lt_of_cell? _ _ hw342_1; first | rwa [add_block] at this | exact this) GW347.out) | (rw [add_block]; exact Nat.ne_of_lt (Nat.lt_of_lt_of_le (by have := World.block_lt_of_cell? _ _ hw342_1; first | rwa [add_block] at this | exact this) GW347.out)) | (show (Addr.add _ _).block ≠ _; rw [add_block]; exact Nat.ne_of_lt (Nat.lt_of_lt_of_le (by have := World.block_lt_of_cell? _ _ hw342_1; first | rwa [add_block] at this | exact this) GW347.out)) | (dsimp only; exact Nat.ne_of_lt (Nat.lt_of_lt_of_le (by have := World.block_lt_of_cell? _ _ hw342_1; first | rwa [add_block] at this | exact this) GW347.out))) _).trans (((cell_far (p := ⟨gb347, _, none⟩) (by first | exact Nat.ne_of_lt (Nat.lt_of_lt_of_le (by have := World.block_lt_of_cell? _ _ hw342_1; first | rwa [add_block] at this | exact this) GW347.out) | (rw [add_block]; exact Nat.ne_of_lt (Nat.lt_of_lt_of_le (by have := World.block_lt_of_cell? _ _ hw342_1; first | rwa [add_block] at this | exact this) GW347.out)) | (show (Addr.add _ _).block ≠ _; rw [add_block]; exact Nat.ne_of_lt (Nat.lt_of_lt_of_le (by have := World.block_lt_of_cell? _ _ hw342_1; first | rwa [add_block] at this | exact this) GW347.out)) | (dsimp only; exact Nat.ne_of_lt (Nat.lt_of_lt_of_le (by have := World.block_lt_of_cell? _ _ hw342_1; first | rwa [add_block] at this | exact this) GW347.out))) _).trans (hHeld.2.1)))), ((cell_far (p := ⟨gb347, _, none⟩) (by first | exact Nat.ne_of_lt (Nat.lt_of_lt_of_le (by have := World.block_lt_of_cell? _ _ hw342_2; first | rwa [add_block] at this | exact this) GW347.out) | (rw [add_block]; exact Nat.ne_of_lt (Nat.lt_of_lt_of_le (by have := World.block_lt_of_cell? _ _ hw342_2; first | rwa [add_block] at this | exact this) GW347.out)) | (show (Addr.add _ _).block ≠ _; rw [add_block]; exact Nat.ne_of_lt (Nat.lt_of_lt_of_le (by have := World.block_lt_of_cell? _ _ hw342_2; first | rwa [add_block] at this | exact this) GW347.out)) | (dsimp only; exact Nat.ne_of_lt (Nat.lt_of_lt_of_le (by have := World.block_lt_of_cell? _ _ hw342_2; first | rwa [add_block] at this | exact this) GW347.out))) _).trans (((cell_far (p := ⟨gb347, _, none⟩) (by first | exact Nat.ne_of_lt (Nat.lt_of_lt_of_le (by have := World.block_lt_of_cell? _ _ hw342_2; first | rwa [add_block] at this | exact this) GW347.out) | (rw [add_block]; exact Nat.ne_of_lt (Nat.lt_of_lt_of_le (by have := World.block_lt_of_cell? _ _ hw342_2; first | rwa [add_block] at this | exact this) GW347.out)) | (show (Addr.add _ _).block ≠ _; rw [add_block]; exact Nat.ne_of_lt (Nat.lt_of_lt_of_le (by have := World.block_lt_of_cell? _ _ hw342_2; first | rwa [add_block] at this | exact this) GW347.out)) | (dsimp only; exact Nat.ne_of_lt (Nat.lt_of_lt_of_le (by have := World.block_lt_of_cell? _ _ hw342_2; first | rwa [add_block] at this | exact this) GW347.out))) _).trans (hHeld.2.2.1)))), ((cell_far (p := ⟨gb347, _, none⟩) (by first | exact Nat.ne_of_lt (Nat.lt_of_lt_of_le (by have := World.block_lt_of_cell? _ _ hw343_0; first | rwa [add_block] at this | exact this) GW347.out) | (rw [add_block]; exact Nat.ne_of_lt (Nat.lt_of_lt_of_le (by have := World.block_lt_of_cell? _ _ hw343_0; first | rwa [add_block] at this | exact this) GW347.out)) | (show (Addr.add _ _).block ≠ _; rw [add_block]; exact Nat.ne_of_lt (Nat.lt_of_lt_of_le (by have := World.block_lt_of_cell? _ _ hw343_0; first | rwa [add_block] at this | exact this) GW347.out)) | (dsimp only; exact Nat.ne_of_lt (Nat.lt_of_lt_of_le (by have := World.block_lt_of_cell? _ _ hw343_0; first | rwa [add_block] at this | exact this) GW347.out))) _).trans (((cell_far (p := ⟨gb347, _, none⟩) (by first | exact Nat.ne_of_lt (Nat.lt_of_lt_of_le (by have := World.block_lt_of_cell? _ _ hw343_0; first | rwa [add_block] at this | exact this) GW347.out) | (rw [add_block]; exact Nat.ne_of_lt (Nat.lt_of_lt_of_le (by have := World.block_lt_of_cell? _ _ hw343_0; first | rwa [add_block] at this | exact this) GW347.out)) | (show (Addr.add _ _).block ≠ _; rw [add_block]; exact Nat.ne_of_lt (Nat.lt_of_lt_of_le (by have := World.block_lt_of_cell? _ _ hw343_0; first | rwa [add_block] at this | exact this) GW347.out)) | (dsimp only; exact Nat.ne_of_lt (Nat.lt_of_lt_of_le (by have := World.block_lt_of_cell? _ _ hw343_0; first | rwa [add_block] at this | exact this) GW347.out))) _).trans (hHeld.2.2.2.1)))), ((cell_far (p := ⟨gb347, _, none⟩) (by first | exact Nat.ne_of_lt (Nat.lt_of_lt_of_le (by have := World.block_lt_of_cell? _ _ hw343_1; first | rwa [add_block] at this | exact this) GW347.out) | (rw [add_block]; exact Nat.ne_of_lt (Nat.lt_of_lt_of_le (by have := World.block_lt_of_cell? _ _ hw343_1; first | rwa [add_block] at this | exact this) GW347.out)) | (show (Addr.add _ _).block ≠ _; rw [add_block]; exact Nat.ne_of_lt (Nat.lt_of_lt_of_le (by have := World.block_lt_of_cell? _ _ hw343_1; first | rwa [add_block] at this | exact this) GW347.out)) | (dsimp only; exact Nat.ne_of_lt (Nat.lt_of_lt_of_le (by have := World.block_lt_of_cell? _ _ hw343_1; first | rwa [add_block] at this | exact this) GW347.out))) _).trans (((cell_far (p := ⟨gb347, _, none⟩) (by first | exact Nat.ne_of_lt (Nat.lt_of_lt_of_le (by have := World.block_lt_of_cell? _ _ hw343_1; first | rwa [add_block] at this | exact this) GW347.out) | (rw [add_block]; exact Nat.ne_of_lt (Nat.lt_of_lt_of_le (by have := World.block_lt_of_cell? _ _ hw343_1; first | rwa [add_block] at this | exact this) GW347.out)) | (show (Addr.add _ _).block ≠ _; rw [add_block]; exact Nat.ne_of_lt (Nat.lt_of_lt_of_le (by have := World.block_lt_of_cell? _ _ hw343_1; first | rwa [add_block] at this | exact this) GW347.out)) | (dsimp only; exact Nat.ne_of_lt (Nat.lt_of_lt_of_le (by have := World.block_lt_of_cell? _ _ hw343_1; first | rwa [add_block] at this | exact this) GW347.out))) _).trans (hHeld.2.2.2.2.1)))), ((cell_far (p := ⟨gb347, _, none⟩) (by first | exact Nat.ne_of_lt (Nat.lt_of_lt_of_le (by have := World.block_lt_of_cell? _ _ hw343_2; first | rwa [add_block] at this | exact this) GW347.out) | (rw [add_block]; exact Nat.ne_of_lt (Nat.lt_of_lt_of_le (by have := World.block_lt_of_cell? _ _ hw343_2; first | rwa [add_block] at this | exact this) GW347.out)) | (show (Addr.add _ _).block ≠ _; rw [add_block]; exact Nat.ne_of_lt (Nat.lt_of_lt_of_le (by have := World.block_lt_of_cell? _ _ hw343_2; first | rwa [add_block] at this | exact this) GW347.out)) | (dsimp only; exact Nat.ne_of_lt (Nat.lt_of_lt_of_le (by have := World.block_lt_of_cell? _ _ hw343_2; first | rwa [add_block] at this | exact this) GW347.out))) _).trans (((cell_far (p := ⟨gb347, _, none⟩) (by first | exact Nat.ne_of_lt (Nat.lt_of_lt_of_le (by have := World.block_lt_of_cell? _ _ hw343_2; first | rwa [add_block] at this | exact this) GW347.out) | (rw [add_block]; exact Nat.ne_of_lt (Nat.lt_of_lt_of_le (by have := World.block_lt_of_cell? _ _ hw343_2; first | rwa [add_block] at this | exact this) GW347.out)) | (show (Addr.add _ _).block ≠ _; rw [add_block]; exact Nat.ne_of_lt (Nat.lt_of_lt_of_le (by have := World.block_lt_of_cell? _ _ hw343_2; first | rwa [add_block] at this | exact this) GW347.out)) | (dsimp only; exact Nat.ne_of_lt (Nat.lt_of_lt_of_le (by have := World.block_lt_of_cell? _ _ hw343_2; first | rwa [add_block] at this | exact this) GW347.out))) _).trans (hHeld.2.2.2.2.2))))⟩ (fun hHeld => ?_)
          clear hK K
          refine pure_ (i := 17) (N := some 10) (v := ?_) (a' := ?_) #[true, true, true, true, true, true, true, true, true, true, true, true, true, true, true, true, true, true] rfl rfl (any_of HT_.out (by kernel_rfl)) (fun _ _ _ h => h) (Or.inl ⟨by rfl, ?_⟩) ?_ ?_
          rotate_left
          ·
           intro w'
           go_simp
           with_reducible rfl
          rotate_left
          ·
           simp only [sx]
           rfl
          refine done_ (done_of HT_.out (by kernel_rfl)) ?_
          try go_wp2_with (first | ((with_reducible refine gate_callee (f := 94) rfl ?_); refine goesL_ (some 47) rfl rfl Try.func94 (by kernel_rfl) rfl #[.slice (some ad342) l0.length c0] rfl (by (try simp only [List.map_toArray, List.map_cons, List.map_nil]); first | done | rfl | (simp only [List.length_drop, List.length_take]; rfl)) ?_; (with_reducible refine (impl_Route_94.calls _ _ l0 t348 _ ?side1 ?side2 A52.out).mono ?_); (case side1 => exact Kd.C_below HR0.out (bz)); (case side2 => exact HC0.out); rintro e w59 ⟨v349, rfl, ho0, hb⟩; refine ⟨_, rfl, ?_⟩; have n0_ := Aside0.mk (Kd.R_lower ho0 (below_size (bz))); have n1_ := Aside0.mk (blk_below (g := gb347) (o := .cells #[.string t344, .string t345] 31 (0, 0)) (by (with_reducible repeat (first | refine blk_drewN ?_ _ | refine blk_drew ?_ | refine blk_alloc ?_ _)); refine blk_put (cs := #[.string t344, .string (⟨#[]⟩ : ByteArray)]) ?_ 1 _ rfl; (with_reducible repeat (first | refine blk_drewN ?_ _ | refine blk_drew ?_ | refine blk_alloc ?_ _)); refine blk_put (cs := #[.string (⟨#[]⟩ : ByteArray), .string (⟨#[]⟩ : ByteArray)]) ?_ 0 _ rfl; (with_reducible repeat (first | refine blk_drewN ?_ _ | refine blk_drew ?_ | refine blk_alloc ?_ _)); exact BK347.out) hb); have n2_ := Aside0.mk (below_step (bz) hb); clear BK347; clear HB; have HO350 := n0_; have BK347 := n1_; have HB := n2_; clear n0_ n1_ n2_; (try clear hb); (try clear hb2); (try clear hk); (try clear hi); (try clear ho0)))
          go_ret2
          exact ⟨_, by first | rfl | (simp only [u8w, w64m]; rfl) | (simp [errW_none, errW_some] <;> rfl) | (simp only [← hji16]; first | rfl | (simp [errW_none, errW_some] <;> rfl)) | (simp [*, errW_none, errW_some] <;> rfl), by (with_reducible repeat (first | apply Kd.R_alloc | apply Kd.R_drewN | apply Kd.R_drew)); exact HO350.out, bz⟩
        ·
         rw [if_neg c18] at H
         exact absurd H (by simp)
       ·
        rw [if_neg c17] at H
        exact absurd H (by simp)
      ·
       rw [if_neg c15] at H
       exact absurd H (by simp)
     ·
      rw [if_neg c14] at H
      exact absurd H (by simp)
 ·
  replace c5 := Bool.eq_false_iff.mpr c5
  subst c5
  rw [if_neg (show ¬ (false = true) by decide)] at H
  simp only [Option.some.injEq, Prod.mk.injEq] at H
  obtain ⟨rfl, rfl⟩ := H
  go_enter Try.func31, Try.ntmps31
  go_wp2_with (first | ((with_reducible refine gate_callee (f := 18) rfl ?_); refine goesL_ (some 13) rfl rfl Try.func18 (by kernel_rfl) rfl #[.slice A0 l0.length c0] rfl (by (try simp only [List.map_toArray, List.map_cons, List.map_nil]); first | done | rfl | (simp only [List.length_drop, List.length_take]; rfl)) ?_; (with_reducible refine (impl_RoutesValid.calls k _ _ l0 false _ ?side1 ?side2 A4.out).mono ?_); (case side1 => repeat (first | exact HR0.out | (with_reducible refine Kd.C_alloc ?_ _) | (with_reducible refine Kd.C_drewN ?_ _) | (with_reducible refine Kd.C_drew ?_))); (case side2 => exact HC0.out); rintro e w60 ⟨rfl, hb⟩; refine ⟨_, rfl, ?_⟩; have n0_ := Aside0.mk (below_step (bz) hb); clear HB; have HB := n0_; clear n0_; (try clear hb); (try clear hb2); (try clear hk); (try clear hi)))
  go_ret2
  exact ⟨_, by first | rfl | (simp only [u8w, w64m]; rfl) | (simp [errW_none, errW_some] <;> rfl) | (simp [*, errW_none, errW_some] <;> rfl), by first | exact Kd.R_nil _ _ _ _ _ | exact Kd.N_nil _ _ _ _ _ | exact Kd.V_nil _ _ _ _ _ | exact Kd.Q_nil _ _ _ _ _ | exact Kd.S_nil _ _ _ _ _, bz⟩

end Go.Proofs.Ytkjkokljgbpbbaa.PFnMergeRoutes
