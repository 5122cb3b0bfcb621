/- Go functions as plain Lean functions, and for each a proof that its call comes to what the function says; under the conditions that each theorem names. Written by a program of this session. -/
import Derived.Test.YtkjkokljgbpbbaaPFnMergeRoutesx0
import Derived.Test.YtkjkokljgbpbbaaPFnMergeRoutesx6
import Derived.Test.YtkjkokljgbpbbaaPFnMergeRoutesx8
namespace Go.Proofs.Ytkjkokljgbpbbaa.PFnMergeRoutes
open Go.RowKit Go.Proofs.YtkjkokljgbpbbaaW.PrintWords Go.Proofs.YtkjkokljgbpbbaaW.PrintLast Go.Proofs.YtkjkokljgbpbbaaW.PrintMore
attribute [local go_sem high] str_gtr str_leq str_geq
attribute [local go_sem] max2_int min2_int max_two min_two max_three min_three max_four min_four   -- for this text's walks alone
set_option linter.unusedVariables false
set_option linter.unusedSimpArgs false

/-! ### spec_RoutesValid: function 75 -/
mutual
def spec_RoutesValid.l0 : Nat → List (S35) → List (S31) → Int → Option (Bool)
 | 0, _, _, _ => none
 | k + 1, x0, x3, x4 => if x4 < (x0.length : Int) then (if x4 ≥ 6 then (spec_RoutesValid.j1 k x0 x3 x4 true) else (if 0 ≤ x4 then ((spec_l1In.f ((rd_T35 x0 x4).f0) 0 7).bind fun t366 => (spec_RoutesValid.j1 k x0 x3 x4 (!t366))) else (none))) else ((spec_PartitionValid.f k x3).bind fun t364 => (some t364))
def spec_RoutesValid.j1 : Nat → List (S35) → List (S31) → Int → Bool → Option (Bool)
 | 0, _, _, _, _ => none
 | k + 1, x0, x3, x4, x23 => if x23 = true then (some false) else (spec_RoutesValid.l1 k x0 x3 x4 0)
def spec_RoutesValid.l1 : Nat → List (S35) → List (S31) → Int → Int → Option (Bool)
 | 0, _, _, _, _ => none
 | k + 1, x0, x3, x4, x5 => if x5 < x4 then (if 0 ≤ x5 then (if x5 < (x0.length : Int) then (if 0 ≤ x4 then (if x4 < (x0.length : Int) then (if ((rd_T35 x0 x5).f0) = ((rd_T35 x0 x4).f0) then (some false) else (spec_RoutesValid.l1 k x0 x3 x4 (wrap64 (x5 + 1)))) else (none)) else (none)) else (none)) else (none)) else (if 0 ≤ x4 then (if x4 < (x0.length : Int) then (if x3.length < 4398046511104 then (spec_RoutesValid.l0 k x0 (x3 ++ [(⟨(rd_T35 x0 x4).f1.f0, (rd_T35 x0 x4).f1.f1⟩ : S31)]) (wrap64 (x4 + 1))) else (none)) else (none)) else (none))
end
def spec_RoutesValid.f (k : Nat) (l0 : List (S35)) : Option (Bool) := spec_RoutesValid.l0 k l0 (([] : List (S31))) 0
theorem spec_RoutesValid.mono_l : ∀ k, (∀ y0 y1 y2, LeO (spec_RoutesValid.l0 k y0 y1 y2) (spec_RoutesValid.l0 (k + 1) y0 y1 y2)) ∧ (∀ y0 y1 y2 y3, LeO (spec_RoutesValid.j1 k y0 y1 y2 y3) (spec_RoutesValid.j1 (k + 1) y0 y1 y2 y3)) ∧ (∀ y0 y1 y2 y3, LeO (spec_RoutesValid.l1 k y0 y1 y2 y3) (spec_RoutesValid.l1 (k + 1) y0 y1 y2 y3))
 | 0 => ⟨fun _ _ _ r h => by simp [spec_RoutesValid.l0] at h, fun _ _ _ _ r h => by simp [spec_RoutesValid.j1] at h, fun _ _ _ _ r h => by simp [spec_RoutesValid.l1] at h⟩
 | k + 1 => by
  obtain ⟨ih0, ih1, ih2⟩ := spec_RoutesValid.mono_l k
  refine ⟨?_, ?_, ?_⟩
  ·
   intro y0 y1 y2
   unfold spec_RoutesValid.l0
   repeat' first
   | (with_reducible exact ih0 _ _ _)
   | (with_reducible exact ih1 _ _ _ _)
   | (with_reducible exact ih2 _ _ _ _)
   | (with_reducible exact spec_PartitionValid.mono _ _)
   | (with_reducible exact LeO.refl _)
   | (with_reducible exact LeO.none _)
   | (with_reducible refine LeO.ite ?_ ?_)
   | (with_reducible refine LeO.bind ?_ (fun _ => ?_))
   | exact ih0 _ _ _
   | exact ih1 _ _ _ _
   | exact ih2 _ _ _ _
   | exact spec_PartitionValid.mono _ _
   | exact LeO.none _
   | refine LeO.ite ?_ ?_
   | refine LeO.bind ?_ (fun _ => ?_)
  ·
   intro y0 y1 y2 y3
   unfold spec_RoutesValid.j1
   repeat' first
   | (with_reducible exact ih0 _ _ _)
   | (with_reducible exact ih1 _ _ _ _)
   | (with_reducible exact ih2 _ _ _ _)
   | (with_reducible exact spec_PartitionValid.mono _ _)
   | (with_reducible exact LeO.refl _)
   | (with_reducible exact LeO.none _)
   | (with_reducible refine LeO.ite ?_ ?_)
   | (with_reducible refine LeO.bind ?_ (fun _ => ?_))
   | exact ih0 _ _ _
   | exact ih1 _ _ _ _
   | exact ih2 _ _ _ _
   | exact spec_PartitionValid.mono _ _
   | exact LeO.none _
   | refine LeO.ite ?_ ?_
   | refine LeO.bind ?_ (fun _ => ?_)
  ·
   intro y0 y1 y2 y3
   unfold spec_RoutesValid.l1
   repeat' first
   | (with_reducible exact ih0 _ _ _)
   | (with_reducible exact ih1 _ _ _ _)
   | (with_reducible exact ih2 _ _ _ _)
   | (with_reducible exact spec_PartitionValid.mono _ _)
   | (with_reducible exact LeO.refl _)
   | (with_reducible exact LeO.none _)
   | (with_reducible refine LeO.ite ?_ ?_)
   | (with_reducible refine LeO.bind ?_ (fun _ => ?_))
   | exact ih0 _ _ _
   | exact ih1 _ _ _ _
   | exact ih2 _ _ _ _
   | exact spec_PartitionValid.mono _ _
   | exact LeO.none _
   | refine LeO.ite ?_ ?_
   | refine LeO.bind ?_ (fun _ => ?_)
theorem spec_RoutesValid.mono : ∀ a0 k, LeO (spec_RoutesValid.f k a0) (spec_RoutesValid.f (k + 1) a0) := by
 intro a0 k
 obtain ⟨ih0, ih1, ih2⟩ := spec_RoutesValid.mono_l k
 unfold spec_RoutesValid.f
 repeat' first
   | (with_reducible exact ih0 _ _ _)
   | (with_reducible exact ih1 _ _ _ _)
   | (with_reducible exact ih2 _ _ _ _)
   | (with_reducible exact spec_PartitionValid.mono _ _)
   | (with_reducible exact LeO.refl _)
   | (with_reducible exact LeO.none _)
   | (with_reducible refine LeO.ite ?_ ?_)
   | (with_reducible refine LeO.bind ?_ (fun _ => ?_))
   | exact ih0 _ _ _
   | exact ih1 _ _ _ _
   | exact ih2 _ _ _ _
   | exact spec_PartitionValid.mono _ _
   | exact LeO.none _
   | refine LeO.ite ?_ ?_
   | refine LeO.bind ?_ (fun _ => ?_)
set_option maxHeartbeats 8000000 in
set_option maxRecDepth 100000 in
theorem spec_RoutesValid.calls (k : Nat) (A0 : Option Addr) (c0 : Nat) (l0 : List (S35)) (r : Bool) (w : World) (hr0 : Kd.C k35 w A0 l0.length l0) (hc0 : l0.length ≤ c0) (h : spec_RoutesValid.f k l0 = some r) :
  Calls Try.prog 75 #[.slice A0 l0.length c0] w fun e w' => e = .returned (.bool r) ∧ Below w.heap.size w w' := by
 have hu31 := Try.underlying31
 have HR0 := Aside0.mk hr0
 have HC0 := Aside0.mk hc0
 clear hr0 hc0
 have HB := Aside0.mk (Below.refl w.heap.size w)
 have H : (spec_RoutesValid.l0 k l0 (([] : List (S31))) 0) = some r := h
 clear h
 obtain ⟨y361, hy361⟩ : ∃ y_ : List (S31), y_ = (([] : List (S31))) := ⟨_, rfl⟩
 replace H : (spec_RoutesValid.l0 k l0 y361 0) = some r := by first | (rw [hy361]; with_reducible exact H) | (have H2_ := (Option.bind_some _ _).symm.trans H; rw [hy361]; with_reducible exact H2_) | (have H2_ := (Option.bind_some _ _).symm.trans H; with_reducible exact H2_) | with_reducible exact H | (rw [hy361]; exact H) | exact H
 have Ny361 := Aside0.mk hy361
 clear hy361
 have H' := Aside0.mk H
 clear H
 go_enter Try.func75, Try.ntmps75
 go_wp2_with (first | ((with_reducible refine gate_dst (N := 6) rfl ?_); refine Kd.R_lit k31 _ 31 ?hg (N := 6) ?hd (xs := ([] : List (S31))) (inner := []) (ok := fun _ => True) (okp := fun _ => True) ?hr ?hp (fun _ hk => hk) trivial (Below.refl _ _) (Nat.le_refl _) (by simp) ?_; (case hd => rfl); (case hg => rfl); (case hr => first | (go_simp; done) | (go_simp; rfl)); (case hp => exact (Reps.none _ _)); intro v362 w2 ho3 hb hg_ hnew_; clear hg_ hnew_; (first | rw [← Ny361.out] at ho3 | (simp only [Int.reduceToNat] at ho3; rw [← Ny361.out] at ho3)); have n0_ := Aside0.mk (Kd.R_lower ho3 (below_size (bz))); have n1_ := Aside0.mk (below_step (bz) hb); clear HB; have HO363 := n0_; have HB := n1_; clear n0_ n1_; clear hb ho3))
 repeat (go_quiet (first | ((with_reducible refine gate_dst (N := 6) rfl ?_); refine Kd.R_lit k31 _ 31 ?hg (N := 6) ?hd (xs := ([] : List (S31))) (inner := []) (ok := fun _ => True) (okp := fun _ => True) ?hr ?hp (fun _ hk => hk) trivial (Below.refl _ _) (Nat.le_refl _) (by simp) ?_; (case hd => rfl); (case hg => rfl); (case hr => first | (go_simp; done) | (go_simp; rfl)); (case hp => exact (Reps.none _ _)); intro v362 w2 ho3 hb hg_ hnew_; clear hg_ hnew_; (first | rw [← Ny361.out] at ho3 | (simp only [Int.reduceToNat] at ho3; rw [← Ny361.out] at ho3)); have n0_ := Aside0.mk (Kd.R_lower ho3 (below_size (bz))); have n1_ := Aside0.mk (below_step (bz) hb); clear HB; have HO363 := n0_; have HB := n1_; clear n0_ n1_; clear hb ho3)); try go_wp2_with (first | ((with_reducible refine gate_dst (N := 6) rfl ?_); refine Kd.R_lit k31 _ 31 ?hg (N := 6) ?hd (xs := ([] : List (S31))) (inner := []) (ok := fun _ => True) (okp := fun _ => True) ?hr ?hp (fun _ hk => hk) trivial (Below.refl _ _) (Nat.le_refl _) (by simp) ?_; (case hd => rfl); (case hg => rfl); (case hr => first | (go_simp; done) | (go_simp; rfl)); (case hp => exact (Reps.none _ _)); intro v362 w2 ho3 hb hg_ hnew_; clear hg_ hnew_; (first | rw [← Ny361.out] at ho3 | (simp only [Int.reduceToNat] at ho3; rw [← Ny361.out] at ho3)); have n0_ := Aside0.mk (Kd.R_lower ho3 (below_size (bz))); have n1_ := Aside0.mk (below_step (bz) hb); clear HB; have HO363 := n0_; have HB := n1_; clear n0_ n1_; clear hb ho3)))
 go_loopg [3, 4] k (fun kq v3 v4 w' => ∃ (x3_1 : List (S31)) (x4_1 : Int), v4 = .int .i64 x4_1 ∧ Aside0 (spec_RoutesValid.l0 kq l0 x3_1 x4_1 = some r) ∧ Aside0 (kq ≤ k) ∧ Aside0 (Kd.R k31 31 w' w.heap.size (fun _ => True) v3 x3_1) ∧ Aside0 (Below w.heap.size w w'))
 case atStart => exact ⟨(y361), (0), (by first | rfl | (simp; done) | exact congrArg Value.bool (ne_nil_b _) | exact congrArg Value.bool (eq_nil_b _) | (simp [*]; done)), H', ⟨Nat.le_refl _⟩, ⟨by (with_reducible repeat (first | apply Kd.R_alloc | apply Kd.R_drewN | apply Kd.R_drew)); exact HO363.out⟩, ⟨bz⟩⟩
 case round =>
  clear H'
  try clear p2
  obtain ⟨x3_1, x4_1, rfl, HA, HK1, HO_3, HB⟩ := hrel
  cases gk with
  | zero => exact absurd HA.out (by simp [spec_RoutesValid.l0])
  | succ k1 =>
   have H := HA.out
   clear HA
   simp only [spec_RoutesValid.l0] at H
   by_cases c4 : x4_1 < (l0.length : Int)
   ·
    rw [if_pos c4] at H
    have c4b0 : decide (x4_1 < (l0.length : Int)) = true := decide_eq_true c4
    clear c4
    have HC5 := Aside0.mk H
    clear H
    go_upto_region 5 with (fail)
    repeat (go_quiet (fail); go_upto_region 5 with (fail))
    go_cut [23] (fun v23 wc => ∃ (kq : Nat) (x23_4 : Bool), v23 = .bool x23_4 ∧ Aside0 (spec_RoutesValid.j1 kq l0 x3_1 x4_1 x23_4 = some r) ∧ Aside0 (kq ≤ k1) ∧ Aside0 (Kd.R k31 31 wc w.heap.size (fun _ => True) u3 x3_1) ∧ Aside0 (Below w.heap.size w wc))
    case first =>
     have H := HC5.out
     clear HC5
     by_cases c6 : x4_1 ≥ 6
     ·
      rw [if_pos c6] at H
      have c6b0 : decide (6 ≤ x4_1) = true := decide_eq_true c6
      clear c6
      (first | rw [c6b0] | (simp only [i64_w, i32_w]; rw [c6b0]) | skip)
      have H' := Aside0.mk H
      clear H
      go_wp2
      repeat (go_quiet (fail); try go_wp2)
      go_meet
      case rel => exact ⟨_, (true), (by first | rfl | (simp; done) | exact congrArg Value.bool (ne_nil_b _) | exact congrArg Value.bool (eq_nil_b _) | (simp [*]; done)), H', ⟨by have := HK1.out; first | omega | exact Nat.le_refl _⟩, ⟨by (with_reducible repeat (first | apply Kd.R_alloc | apply Kd.R_drewN | apply Kd.R_drew)); exact HO_3.out⟩, ⟨bz⟩⟩
     ·
      rw [if_neg c6] at H
      have c6b0 : decide (6 ≤ x4_1) = false := decide_eq_false c6
      clear c6
      (first | rw [c6b0] | (simp only [i64_w, i32_w]; rw [c6b0]) | skip)
      by_cases c7 : 0 ≤ x4_1
      ·
       rw [if_pos c7] at H
       have c7b0 : decide (0 ≤ x4_1) = true := decide_eq_true c7
       clear c7
       replace H := Option.bind_eq_some_iff.mp H
       obtain ⟨t366, A80, H⟩ := H
       try dsimp only at H
       have A8 := Aside0.mk A80
       clear A80
       have H' := Aside0.mk H
       clear H
       have p365 : 0 ≤ (x4_1 : Int) := of_decide_eq_true (by first | (with_reducible assumption) | assumption)
       have q365 : x4_1 < (l0.length : Int) := of_decide_eq_true (by first | (with_reducible assumption) | assumption)
       obtain ⟨ad365, e365, hx365_0, hx365_1, hx365_2⟩ := at_T35 HR0.out x4_1 p365 q365
       cases e365
       replace hx365_0 := (HB.out.cell (World.block_lt_of_cell? w _ hx365_0)).trans hx365_0
       replace hx365_1 := (HB.out.cell (World.block_lt_of_cell? w _ hx365_1)).trans hx365_1
       replace hx365_2 := (HB.out.cell (World.block_lt_of_cell? w _ hx365_2)).trans hx365_2
       replace p365 := eq_true p365
       replace q365 := eq_true q365
       go_wp2_with (first | (go_at_call 89; (with_reducible refine (spec_l1In.calls ((rd_T35 l0 x4_1).f0) 0 7 t366 _ A8.out).mono ?_); rintro e w' ⟨rfl, ⟨nd, rfl⟩⟩; (try first | exact ⟨rfl, _, World.drewN_drewN _ _ _⟩ | exact ⟨rfl, _, Eq.trans (World.drewN_drewN _ _ _) (congrArg (World.drewN _) (Nat.add_assoc _ _ _))⟩)))
       repeat (go_quiet (first | (go_at_call 89; (with_reducible refine (spec_l1In.calls ((rd_T35 l0 x4_1).f0) 0 7 t366 _ A8.out).mono ?_); rintro e w' ⟨rfl, ⟨nd, rfl⟩⟩; (try first | exact ⟨rfl, _, World.drewN_drewN _ _ _⟩ | exact ⟨rfl, _, Eq.trans (World.drewN_drewN _ _ _) (congrArg (World.drewN _) (Nat.add_assoc _ _ _))⟩))); try go_wp2_with (first | (go_at_call 89; (with_reducible refine (spec_l1In.calls ((rd_T35 l0 x4_1).f0) 0 7 t366 _ A8.out).mono ?_); rintro e w' ⟨rfl, ⟨nd, rfl⟩⟩; (try first | exact ⟨rfl, _, World.drewN_drewN _ _ _⟩ | exact ⟨rfl, _, Eq.trans (World.drewN_drewN _ _ _) (congrArg (World.drewN _) (Nat.add_assoc _ _ _))⟩))))
       go_meet
       case rel => exact ⟨_, (!t366), (by first | rfl | (simp; done) | exact congrArg Value.bool (ne_nil_b _) | exact congrArg Value.bool (eq_nil_b _) | (simp [*]; done)), H', ⟨by have := HK1.out; first | omega | exact Nat.le_refl _⟩, ⟨by (with_reducible repeat (first | apply Kd.R_alloc | apply Kd.R_drewN | apply Kd.R_drew)); exact HO_3.out⟩, ⟨bz⟩⟩
      ·
       rw [if_neg c7] at H
       exact absurd H (by simp)
    case rest =>
     clear HC5
     try clear p2
     try clear p3
     try clear q3
     try clear hx3
     try clear c4
     try clear c4b0
     try clear c6
     try clear c6b0
     try clear c7
     try clear c7b0
     try clear hx365_0
     try clear hx365_1
     try clear hx365_2
     try clear p2
     try clear p365
     try clear q365
     obtain ⟨kq, x23_4, rfl, HA, HJ4, HO_3, HB⟩ := hcut
     cases kq with
     | zero => exact absurd HA.out (by simp [spec_RoutesValid.j1])
     | succ kj4 =>
      have H := HA.out
      clear HA
      simp only [spec_RoutesValid.j1] at H
      by_cases c9 : x23_4 = true
      ·
       subst c9
       rw [if_pos rfl] at H
       obtain rfl := Option.some.inj H
       go_wp2
       repeat (go_quiet (fail); try go_wp2)
       go_ret
       exact ⟨by first | rfl | (simp only [u8w, w64m]; rfl) | (simp [errW_none, errW_some] <;> rfl) | (simp [*, errW_none, errW_some] <;> rfl), bz⟩
      ·
       replace c9 := Bool.eq_false_iff.mpr c9
       subst c9
       rw [if_neg (show ¬ (false = true) by decide)] at H
       have H' := Aside0.mk H
       clear H
       go_wp2
       repeat (go_quiet (fail); try go_wp2)
       go_loopg [5] kj4 (fun kq v5 w' => ∃ (x5_3 : Int), v5 = .int .i64 x5_3 ∧ Aside0 (spec_RoutesValid.l1 kq l0 x3_1 x4_1 x5_3 = some r) ∧ Aside0 (kq ≤ kj4) ∧ Aside0 (Kd.R k31 31 w' w.heap.size (fun _ => True) u3 x3_1) ∧ Aside0 (Below w.heap.size w w'))
       case atStart => exact ⟨(0), (by first | rfl | (simp; done) | exact congrArg Value.bool (ne_nil_b _) | exact congrArg Value.bool (eq_nil_b _) | (simp [*]; done)), H', ⟨Nat.le_refl _⟩, ⟨by (with_reducible repeat (first | apply Kd.R_alloc | apply Kd.R_drewN | apply Kd.R_drew)); exact HO_3.out⟩, ⟨bz⟩⟩
       case round =>
        clear H'
        try clear p2
        try clear p3
        try clear q3
        try clear hx3
        try clear c4
        try clear c4b0
        try clear c6
        try clear c6b0
        try clear c7
        try clear c7b0
        try clear c9
        try clear hx365_0
        try clear hx365_1
        try clear hx365_2
        try clear p2
        try clear p3
        try clear p365
        try clear q3
        try clear q365
        obtain ⟨x5_3, rfl, HA, HK3, HO_3, HB⟩ := hrel
        cases gk with
        | zero => exact absurd HA.out (by simp [spec_RoutesValid.l1])
        | succ k3 =>
         have H := HA.out
         clear HA
         simp only [spec_RoutesValid.l1] at H
         by_cases c10 : x5_3 < x4_1
         ·
          rw [if_pos c10] at H
          have c10b0 : decide (x5_3 < x4_1) = true := decide_eq_true c10
          clear c10
          by_cases c11 : 0 ≤ x5_3
          ·
           rw [if_pos c11] at H
           have c11b0 : decide (0 ≤ x5_3) = true := decide_eq_true c11
           clear c11
           by_cases c12 : x5_3 < (l0.length : Int)
           ·
            rw [if_pos c12] at H
            have c12b0 : decide (x5_3 < (l0.length : Int)) = true := decide_eq_true c12
            clear c12
            by_cases c13 : 0 ≤ x4_1
            ·
             rw [if_pos c13] at H
             have c13b0 : decide (0 ≤ x4_1) = true := decide_eq_true c13
             clear c13
             by_cases c14 : x4_1 < (l0.length : Int)
             ·
              rw [if_pos c14] at H
              have c14b0 : decide (x4_1 < (l0.length : Int)) = true := decide_eq_true c14
              clear c14
              by_cases c15 : ((rd_T35 l0 x5_3).f0) = ((rd_T35 l0 x4_1).f0)
              ·
               rw [if_pos c15] at H
               have c15b0 : (((rd_T35 l0 x5_3).f0) == ((rd_T35 l0 x4_1).f0)) = true := beq_iff_eq.mpr c15
               have c15b1 : (((rd_T35 l0 x5_3).f0) != ((rd_T35 l0 x4_1).f0)) = false := bne_eq_false_iff_eq.mpr c15
               clear c15
               obtain rfl := Option.some.inj H
               have p367 : 0 ≤ (x5_3 : Int) := of_decide_eq_true (by first | (with_reducible assumption) | assumption)
               have q367 : x5_3 < (l0.length : Int) := of_decide_eq_true (by first | (with_reducible assumption) | assumption)
               obtain ⟨ad367, e367, hx367_0, hx367_1, hx367_2⟩ := at_T35 HR0.out x5_3 p367 q367
               cases e367
               replace hx367_0 := (HB.out.cell (World.block_lt_of_cell? w _ hx367_0)).trans hx367_0
               replace hx367_1 := (HB.out.cell (World.block_lt_of_cell? w _ hx367_1)).trans hx367_1
               replace hx367_2 := (HB.out.cell (World.block_lt_of_cell? w _ hx367_2)).trans hx367_2
               replace p367 := eq_true p367
               replace q367 := eq_true q367
               have p368 : 0 ≤ (x4_1 : Int) := of_decide_eq_true (by first | (with_reducible assumption) | assumption)
               have q368 : x4_1 < (l0.length : Int) := of_decide_eq_true (by first | (with_reducible assumption) | assumption)
               obtain ⟨ad368, e368, hx368_0, hx368_1, hx368_2⟩ := at_T35 HR0.out x4_1 p368 q368
               obtain rfl : ad367 = ad368 := (by injection e368)
               replace hx368_0 := (HB.out.cell (World.block_lt_of_cell? w _ hx368_0)).trans hx368_0
               replace hx368_1 := (HB.out.cell (World.block_lt_of_cell? w _ hx368_1)).trans hx368_1
               replace hx368_2 := (HB.out.cell (World.block_lt_of_cell? w _ hx368_2)).trans hx368_2
               replace p368 := eq_true p368
               replace q368 := eq_true q368
               go_wp2
               repeat (go_quiet (fail); try go_wp2)
               go_ret
               exact ⟨by first | rfl | (simp only [u8w, w64m]; rfl) | (simp [errW_none, errW_some] <;> rfl) | (simp [*, errW_none, errW_some] <;> rfl), bz⟩
              ·
               rw [if_neg c15] at H
               have c15b0 : (((rd_T35 l0 x5_3).f0) == ((rd_T35 l0 x4_1).f0)) = false := beq_eq_false_iff_ne.mpr c15
               have c15b1 : (((rd_T35 l0 x5_3).f0) != ((rd_T35 l0 x4_1).f0)) = true := bne_iff_ne.mpr c15
               have H' := Aside0.mk H
               clear H
               have p367 : 0 ≤ (x5_3 : Int) := of_decide_eq_true (by first | (with_reducible assumption) | assumption)
               have q367 : x5_3 < (l0.length : Int) := of_decide_eq_true (by first | (with_reducible assumption) | assumption)
               obtain ⟨ad367, e367, hx367_0, hx367_1, hx367_2⟩ := at_T35 HR0.out x5_3 p367 q367
               cases e367
               replace hx367_0 := (HB.out.cell (World.block_lt_of_cell? w _ hx367_0)).trans hx367_0
               replace hx367_1 := (HB.out.cell (World.block_lt_of_cell? w _ hx367_1)).trans hx367_1
               replace hx367_2 := (HB.out.cell (World.block_lt_of_cell? w _ hx367_2)).trans hx367_2
               replace p367 := eq_true p367
               replace q367 := eq_true q367
               have p368 : 0 ≤ (x4_1 : Int) := of_decide_eq_true (by first | (with_reducible assumption) | assumption)
               have q368 : x4_1 < (l0.length : Int) := of_decide_eq_true (by first | (with_reducible assumption) | assumption)
               obtain ⟨ad368, e368, hx368_0, hx368_1, hx368_2⟩ := at_T35 HR0.out x4_1 p368 q368
               obtain rfl : ad367 = ad368 := (by injection e368)
               replace hx368_0 := (HB.out.cell (World.block_lt_of_cell? w _ hx368_0)).trans hx368_0
               replace hx368_1 := (HB.out.cell (World.block_lt_of_cell? w _ hx368_1)).trans hx368_1
               replace hx368_2 := (HB.out.cell (World.block_lt_of_cell? w _ hx368_2)).trans hx368_2
               replace p368 := eq_true p368
               replace q368 := eq_true q368
               go_wp2
               repeat (go_quiet (fail); try go_wp2)
               go_roundg k3
               case measure => have := HK1.out; have := HJ4.out; have := HK3.out; omega
               case rel => exact ⟨(wrap64 (x5_3 + 1)), (by first | rfl | (simp; done) | exact congrArg Value.bool (ne_nil_b _) | exact congrArg Value.bool (eq_nil_b _) | (simp [*]; done)), H', ⟨by have := HK1.out; have := HJ4.out; have := HK3.out; omega⟩, ⟨by (with_reducible repeat (first | apply Kd.R_alloc | apply Kd.R_drewN | apply Kd.R_drew)); exact HO_3.out⟩, ⟨bz⟩⟩
             ·
              rw [if_neg c14] at H
              exact absurd H (by simp)
            ·
             rw [if_neg c13] at H
             exact absurd H (by simp)
           ·
            rw [if_neg c12] at H
            exact absurd H (by simp)
          ·
           rw [if_neg c11] at H
           exact absurd H (by simp)
         ·
          rw [if_neg c10] at H
          have c10b0 : decide (x5_3 < x4_1) = false := decide_eq_false c10
          clear c10
          by_cases c16 : 0 ≤ x4_1
          ·
           rw [if_pos c16] at H
           have c16b0 : decide (0 ≤ x4_1) = true := decide_eq_true c16
           clear c16
           by_cases c17 : x4_1 < (l0.length : Int)
           ·
            rw [if_pos c17] at H
            have c17b0 : decide (x4_1 < (l0.length : Int)) = true := decide_eq_true c17
            clear c17
            by_cases c18 : x3_1.length < 4398046511104
            ·
             rw [if_pos c18] at H
             have LMc18 := Aside0.mk c18
             clear c18
             obtain ⟨y370, hy370⟩ : ∃ y_ : List (S31), y_ = (x3_1 ++ [(⟨(rd_T35 l0 x4_1).f1.f0, (rd_T35 l0 x4_1).f1.f1⟩ : S31)]) := ⟨_, rfl⟩
             replace H : (spec_RoutesValid.l0 k3 l0 y370 (wrap64 (x4_1 + 1))) = some r := by first | (rw [hy370]; with_reducible exact H) | (have H2_ := (Option.bind_some _ _).symm.trans H; rw [hy370]; with_reducible exact H2_) | (have H2_ := (Option.bind_some _ _).symm.trans H; with_reducible exact H2_) | with_reducible exact H | (rw [hy370]; exact H) | exact H
             have Ny370 := Aside0.mk hy370
             clear hy370
             have H' := Aside0.mk H
             clear H
             have p369 : 0 ≤ (x4_1 : Int) := of_decide_eq_true (by first | (with_reducible assumption) | assumption)
             have q369 : x4_1 < (l0.length : Int) := of_decide_eq_true (by first | (with_reducible assumption) | assumption)
             obtain ⟨ad369, e369, hx369_0, hx369_1, hx369_2⟩ := at_T35 HR0.out x4_1 p369 q369
             cases e369
             replace hx369_0 := (HB.out.cell (World.block_lt_of_cell? w _ hx369_0)).trans hx369_0
             replace hx369_1 := (HB.out.cell (World.block_lt_of_cell? w _ hx369_1)).trans hx369_1
             replace hx369_2 := (HB.out.cell (World.block_lt_of_cell? w _ hx369_2)).trans hx369_2
             replace p369 := eq_true p369
             replace q369 := eq_true q369
             go_wp2_with (first | ((with_reducible refine gate_builtin (b := .append) (xs := #[.tmp 40, .tmp 46]) rfl ?_); at_builtin; refine Kd.R_append k31 (w0 := w) w.heap.size rfl (.tmp 40) (.tmp 46) 106 31 (.agg #[(.string ⟨#[]⟩), (.string ⟨#[]⟩)]) 32 rfl Try.underlying106 info31 rfl (by decide) (by omega) u3 x3_1 (⟨(rd_T35 l0 x4_1).f1.f0, (rd_T35 l0 x4_1).f1.f1⟩ : S31) [.string ((rd_T35 l0 x4_1).f1.f0), .string ((rd_T35 l0 x4_1).f1.f1)] (fun _ => True) (fun _ => False) rfl rfl ?aP (fun _ hk => hk.elim) ?aF ?aO ?aB ?aS ?aL ?_; (case aP => exact k31_mkM _ _ _ (⟨(rd_T35 l0 x4_1).f1.f0, (rd_T35 l0 x4_1).f1.f1⟩ : S31)); (case aB => exact (bz)); (case aF => exact (fun _ _ => trivial)); (case aO => exact (by (with_reducible repeat (first | apply Kd.R_alloc | apply Kd.R_drewN | apply Kd.R_drew)); exact HO_3.out)); (case aS => exact (below_size (bz))); (case aL => have := LMc18.out; omega); intro v371 w19 ho hb hg hat; rw [← Ny370.out] at ho; have n0_ := Aside0.mk (hb); have n1_ := Aside0.mk (ho); clear HB; clear HO_3; have HB := n0_; have HO372 := n1_; clear n0_ n1_; clear ho hb hg hat))
             repeat (go_quiet (first | ((with_reducible refine gate_builtin (b := .append) (xs := #[.tmp 40, .tmp 46]) rfl ?_); at_builtin; refine Kd.R_append k31 (w0 := w) w.heap.size rfl (.tmp 40) (.tmp 46) 106 31 (.agg #[(.string ⟨#[]⟩), (.string ⟨#[]⟩)]) 32 rfl Try.underlying106 info31 rfl (by decide) (by omega) u3 x3_1 (⟨(rd_T35 l0 x4_1).f1.f0, (rd_T35 l0 x4_1).f1.f1⟩ : S31) [.string ((rd_T35 l0 x4_1).f1.f0), .string ((rd_T35 l0 x4_1).f1.f1)] (fun _ => True) (fun _ => False) rfl rfl ?aP (fun _ hk => hk.elim) ?aF ?aO ?aB ?aS ?aL ?_; (case aP => exact k31_mkM _ _ _ (⟨(rd_T35 l0 x4_1).f1.f0, (rd_T35 l0 x4_1).f1.f1⟩ : S31)); (case aB => exact (bz)); (case aF => exact (fun _ _ => trivial)); (case aO => exact (by (with_reducible repeat (first | apply Kd.R_alloc | apply Kd.R_drewN | apply Kd.R_drew)); exact HO_3.out)); (case aS => exact (below_size (bz))); (case aL => have := LMc18.out; omega); intro v371 w19 ho hb hg hat; rw [← Ny370.out] at ho; have n0_ := Aside0.mk (hb); have n1_ := Aside0.mk (ho); clear HB; clear HO_3; have HB := n0_; have HO372 := n1_; clear n0_ n1_; clear ho hb hg hat)); try go_wp2_with (first | ((with_reducible refine gate_builtin (b := .append) (xs := #[.tmp 40, .tmp 46]) rfl ?_); at_builtin; refine Kd.R_append k31 (w0 := w) w.heap.size rfl (.tmp 40) (.tmp 46) 106 31 (.agg #[(.string ⟨#[]⟩), (.string ⟨#[]⟩)]) 32 rfl Try.underlying106 info31 rfl (by decide) (by omega) u3 x3_1 (⟨(rd_T35 l0 x4_1).f1.f0, (rd_T35 l0 x4_1).f1.f1⟩ : S31) [.string ((rd_T35 l0 x4_1).f1.f0), .string ((rd_T35 l0 x4_1).f1.f1)] (fun _ => True) (fun _ => False) rfl rfl ?aP (fun _ hk => hk.elim) ?aF ?aO ?aB ?aS ?aL ?_; (case aP => exact k31_mkM _ _ _ (⟨(rd_T35 l0 x4_1).f1.f0, (rd_T35 l0 x4_1).f1.f1⟩ : S31)); (case aB => exact (bz)); (case aF => exact (fun _ _ => trivial)); (case aO => exact (by (with_reducible repeat (first | apply Kd.R_alloc | apply Kd.R_drewN | apply Kd.R_drew)); exact HO_3.out)); (case aS => exact (below_size (bz))); (case aL => have := LMc18.out; omega); intro v371 w19 ho hb hg hat; rw [← Ny370.out] at ho; have n0_ := Aside0.mk (hb); have n1_ := Aside0.mk (ho); clear HB; clear HO_3; have HB := n0_; have HO372 := n1_; clear n0_ n1_; clear ho hb hg hat)))
             go_roundg k3
             case measure => have := HK1.out; have := HJ4.out; have := HK3.out; omega
             case rel => exact ⟨(y370), (wrap64 (x4_1 + 1)), (by first | rfl | (simp; done) | exact congrArg Value.bool (ne_nil_b _) | exact congrArg Value.bool (eq_nil_b _) | (simp [*]; done)), H', ⟨by have := HK1.out; have := HJ4.out; have := HK3.out; omega⟩, ⟨by (with_reducible repeat (first | apply Kd.R_alloc | apply Kd.R_drewN | apply Kd.R_drew)); exact HO372.out⟩, ⟨bz⟩⟩
            ·
             rw [if_neg c18] at H
             exact absurd H (by simp)
           ·
            rw [if_neg c17] at H
            exact absurd H (by simp)
          ·
           rw [if_neg c16] at H
           exact absurd H (by simp)
   ·
    rw [if_neg c4] at H
    have c4b0 : decide (x4_1 < (l0.length : Int)) = false := decide_eq_false c4
    clear c4
    replace H := Option.bind_eq_some_iff.mp H
    obtain ⟨t364, A200, H⟩ := H
    try dsimp only at H
    have A20 := Aside0.mk A200
    clear A200
    obtain rfl := Option.some.inj H
    obtain ⟨Ao21, co21, eo21⟩ := Kd.R_slice HO_3.out
    subst eo21
    go_wp2_with (first | (go_at_call 127; (with_reducible refine (spec_PartitionValid.calls k1 _ _ x3_1 t364 _ ?side1 ?side2 A20.out).mono ?_); (case side1 => repeat (first | exact (Kd.R_reads' HO_3.out).2.2 | (with_reducible refine Kd.C_alloc ?_ _) | (with_reducible refine Kd.C_drewN ?_ _) | (with_reducible refine Kd.C_drew ?_))); (case side2 => exact (Kd.R_reads' HO_3.out).2.1); rintro e w22 ⟨rfl, hb⟩; have n0_ := Aside0.mk (Kd.R_below (by (with_reducible repeat (first | apply Kd.R_alloc | apply Kd.R_drewN | apply Kd.R_drew)); exact HO_3.out) hb); have n1_ := Aside0.mk (below_step (bz) hb); clear HO_3; clear HB; have HO_3 := n0_; have HB := n1_; clear n0_ n1_; (try clear hb); (try clear hb2); (try clear hk); (try clear hi)))
    repeat (go_quiet (first | (go_at_call 127; (with_reducible refine (spec_PartitionValid.calls k1 _ _ x3_1 t364 _ ?side1 ?side2 A20.out).mono ?_); (case side1 => repeat (first | exact (Kd.R_reads' HO_3.out).2.2 | (with_reducible refine Kd.C_alloc ?_ _) | (with_reducible refine Kd.C_drewN ?_ _) | (with_reducible refine Kd.C_drew ?_))); (case side2 => exact (Kd.R_reads' HO_3.out).2.1); rintro e w22 ⟨rfl, hb⟩; have n0_ := Aside0.mk (Kd.R_below (by (with_reducible repeat (first | apply Kd.R_alloc | apply Kd.R_drewN | apply Kd.R_drew)); exact HO_3.out) hb); have n1_ := Aside0.mk (below_step (bz) hb); clear HO_3; clear HB; have HO_3 := n0_; have HB := n1_; clear n0_ n1_; (try clear hb); (try clear hb2); (try clear hk); (try clear hi))); try go_wp2_with (first | (go_at_call 127; (with_reducible refine (spec_PartitionValid.calls k1 _ _ x3_1 t364 _ ?side1 ?side2 A20.out).mono ?_); (case side1 => repeat (first | exact (Kd.R_reads' HO_3.out).2.2 | (with_reducible refine Kd.C_alloc ?_ _) | (with_reducible refine Kd.C_drewN ?_ _) | (with_reducible refine Kd.C_drew ?_))); (case side2 => exact (Kd.R_reads' HO_3.out).2.1); rintro e w22 ⟨rfl, hb⟩; have n0_ := Aside0.mk (Kd.R_below (by (with_reducible repeat (first | apply Kd.R_alloc | apply Kd.R_drewN | apply Kd.R_drew)); exact HO_3.out) hb); have n1_ := Aside0.mk (below_step (bz) hb); clear HO_3; clear HB; have HO_3 := n0_; have HB := n1_; clear n0_ n1_; (try clear hb); (try clear hb2); (try clear hk); (try clear hi))))
    go_ret
    exact ⟨by first | rfl | (simp only [u8w, w64m]; rfl) | (simp [errW_none, errW_some] <;> rfl) | (simp [*, errW_none, errW_some] <;> rfl), bz⟩

/-! ### spec_l23Index: function 97 -/
def spec_l23Index.l0 : Nat → List (S35) → Int → Int → Option (Int)
 | 0, _, _, _ => none
 | k + 1, x0, x1, x5 => if x5 < (x0.length : Int) then (if 0 ≤ x5 then (if ((rd_T35 x0 x5).f0) = x1 then (some x5) else (spec_l23Index.l0 k x0 x1 (wrap64 (x5 + 1)))) else (none)) else (some (-1))
def spec_l23Index.f (k : Nat) (l0 : List (S35)) (a1 : Int) : Option (Int) := spec_l23Index.l0 k l0 a1 0
theorem spec_l23Index.mono_l : ∀ k, (∀ y0 y1 y2, LeO (spec_l23Index.l0 k y0 y1 y2) (spec_l23Index.l0 (k + 1) y0 y1 y2))
 | 0 => fun _ _ _ r h => by simp [spec_l23Index.l0] at h
 | k + 1 => by
  have ih0 := spec_l23Index.mono_l k
  ·
   intro y0 y1 y2
   unfold spec_l23Index.l0
   repeat' first
   | (with_reducible exact ih0 _ _ _)
   | (with_reducible exact LeO.refl _)
   | (with_reducible exact LeO.none _)
   | (with_reducible refine LeO.ite ?_ ?_)
   | (with_reducible refine LeO.bind ?_ (fun _ => ?_))
   | exact ih0 _ _ _
   | exact LeO.none _
   | refine LeO.ite ?_ ?_
   | refine LeO.bind ?_ (fun _ => ?_)
theorem spec_l23Index.mono : ∀ a0 a1 k, LeO (spec_l23Index.f k a0 a1) (spec_l23Index.f (k + 1) a0 a1) := by
 intro a0 a1 k
 have ih0 := spec_l23Index.mono_l k
 unfold spec_l23Index.f
 repeat' first
   | (with_reducible exact ih0 _ _ _)
   | (with_reducible exact LeO.refl _)
   | (with_reducible exact LeO.none _)
   | (with_reducible refine LeO.ite ?_ ?_)
   | (with_reducible refine LeO.bind ?_ (fun _ => ?_))
   | exact ih0 _ _ _
   | exact LeO.none _
   | refine LeO.ite ?_ ?_
   | refine LeO.bind ?_ (fun _ => ?_)
set_option maxHeartbeats 8000000 in
set_option maxRecDepth 100000 in
theorem spec_l23Index.calls (k : Nat) (A0 : Option Addr) (c0 : Nat) (l0 : List (S35)) (a1 : Int) (r : Int) (w : World) (hr0 : Kd.C k35 w A0 l0.length l0) (hc0 : l0.length ≤ c0) (h : spec_l23Index.f k l0 a1 = some r) :
  Calls Try.prog 97 #[.slice A0 l0.length c0, .int .i64 a1] w fun e w' => e = .returned (.int .i64 r) ∧ Drawn0 w w' := by
 have HR0 := Aside0.mk hr0
 have HC0 := Aside0.mk hc0
 clear hr0 hc0
 have H : (spec_l23Index.l0 k l0 a1 0) = some r := h
 clear h
 have H' := Aside0.mk H
 clear H
 go_enter Try.func97, Try.ntmps97
 go_wp2
 go_loopg [5] k (fun kq v5 w' => ∃ (x5_1 : Int), v5 = .int .i64 x5_1 ∧ Aside0 (spec_l23Index.l0 kq l0 a1 x5_1 = some r) ∧ Aside0 (kq ≤ k) ∧ Drawn0 w w')
 case atStart => exact ⟨(0), (by first | rfl | (simp; done) | exact congrArg Value.bool (ne_nil_b _) | exact congrArg Value.bool (eq_nil_b _) | (simp [*]; done)), H', ⟨Nat.le_refl _⟩, by repeat (first | exact Drawn0.refl _ | apply Drawn0.step)⟩
 case round =>
  clear H'
  try clear p2
  obtain ⟨x5_1, rfl, HA, HK1, ⟨m1, rfl⟩⟩ := hrel
  cases gk with
  | zero => exact absurd HA.out (by simp [spec_l23Index.l0])
  | succ k1 =>
   have H := HA.out
   clear HA
   simp only [spec_l23Index.l0] at H
   by_cases c3 : x5_1 < (l0.length : Int)
   ·
    rw [if_pos c3] at H
    have c3b0 : decide (x5_1 < (l0.length : Int)) = true := decide_eq_true c3
    clear c3
    by_cases c4 : 0 ≤ x5_1
    ·
     rw [if_pos c4] at H
     have c4b0 : decide (0 ≤ x5_1) = true := decide_eq_true c4
     clear c4
     by_cases c5 : ((rd_T35 l0 x5_1).f0) = a1
     ·
      rw [if_pos c5] at H
      have c5b0 : (((rd_T35 l0 x5_1).f0) == a1) = true := beq_iff_eq.mpr c5
      have c5b1 : (((rd_T35 l0 x5_1).f0) != a1) = false := bne_eq_false_iff_eq.mpr c5
      clear c5
      obtain rfl := Option.some.inj H
      have p373 : 0 ≤ (x5_1 : Int) := of_decide_eq_true (by first | (with_reducible assumption) | assumption)
      have q373 : x5_1 < (l0.length : Int) := of_decide_eq_true (by first | (with_reducible assumption) | assumption)
      obtain ⟨ad373, e373, hx373_0, hx373_1, hx373_2⟩ := at_T35 HR0.out x5_1 p373 q373
      cases e373
      replace p373 := eq_true p373
      replace q373 := eq_true q373
      go_wp2
      go_ret
      exact ⟨by first | rfl | (simp; done) | exact congrArg Value.bool (ne_nil_b _) | exact congrArg Value.bool (eq_nil_b _) | (simp [*]; done), by repeat (first | exact Drawn0.refl _ | apply Drawn0.step)⟩
     ·
      rw [if_neg c5] at H
      have c5b0 : (((rd_T35 l0 x5_1).f0) == a1) = false := beq_eq_false_iff_ne.mpr c5
      have c5b1 : (((rd_T35 l0 x5_1).f0) != a1) = true := bne_iff_ne.mpr c5
      have H' := Aside0.mk H
      clear H
      have p373 : 0 ≤ (x5_1 : Int) := of_decide_eq_true (by first | (with_reducible assumption) | assumption)
      have q373 : x5_1 < (l0.length : Int) := of_decide_eq_true (by first | (with_reducible assumption) | assumption)
      obtain ⟨ad373, e373, hx373_0, hx373_1, hx373_2⟩ := at_T35 HR0.out x5_1 p373 q373
      cases e373
      replace p373 := eq_true p373
      replace q373 := eq_true q373
      go_wp2
      go_roundg k1
      case measure => have := HK1.out; omega
      case rel => exact ⟨(wrap64 (x5_1 + 1)), (by first | rfl | (simp; done) | exact congrArg Value.bool (ne_nil_b _) | exact congrArg Value.bool (eq_nil_b _) | (simp [*]; done)), H', ⟨by have := HK1.out; omega⟩, by repeat (first | exact Drawn0.refl _ | apply Drawn0.step)⟩
    ·
     rw [if_neg c4] at H
     exact absurd H (by simp)
   ·
    rw [if_neg c3] at H
    have c3b0 : decide (x5_1 < (l0.length : Int)) = false := decide_eq_false c3
    clear c3
    obtain rfl := Option.some.inj H
    go_wp2
    go_ret
    exact ⟨by first | rfl | (simp; done) | exact congrArg Value.bool (ne_nil_b _) | exact congrArg Value.bool (eq_nil_b _) | (simp [*]; done), by repeat (first | exact Drawn0.refl _ | apply Drawn0.step)⟩

end Go.Proofs.Ytkjkokljgbpbbaa.PFnMergeRoutes
