/- Go functions as plain Lean functions, and for each a proof that its call comes to what the function says; under the conditions that each theorem names. Written by a program of this session. -/
import Derived.Test.YtinnjgogaidhlaaPFnExactRequestOfx0
import Derived.Test.YtinnjgogaidhlaaPFnExactRequestOfx2
namespace Go.Proofs.Ytinnjgogaidhlaa.PFnExactRequestOf
open Go.RowKit Go.Proofs.YtinnjgogaidhlaaW.PrintWords Go.Proofs.YtinnjgogaidhlaaW.PrintLast Go.Proofs.YtinnjgogaidhlaaW.PrintMore
attribute [local go_sem high] str_gtr str_leq str_geq
attribute [local go_sem] max2_int min2_int max_two min_two max_three min_three max_four min_four   -- for this text's walks alone
set_option linter.unusedVariables false
set_option linter.unusedSimpArgs false

/-! ### laws_eqRouteS: function 19 -/
def laws_eqRouteS.l0 : Nat → List (S43) → List (S43) → Int → Option (Bool)
 | 0, _, _, _ => none
 | k + 1, x0, x1, x5 => if x5 < (x0.length : Int) then (if 0 ≤ x5 then (if x5 < (x1.length : Int) then ((laws_eqRoute.f ((rd_T43 x0 x5).f0) ((rd_T43 x0 x5).f1.f0) ((rd_T43 x0 x5).f1.f1) ((rd_T43 x1 x5).f0) ((rd_T43 x1 x5).f1.f0) ((rd_T43 x1 x5).f1.f1)).bind fun t146 => (if t146 = true then (laws_eqRouteS.l0 k x0 x1 (wrap64 (x5 + 1))) else (some false))) else (none)) else (none)) else (some true)
def laws_eqRouteS.f (k : Nat) (l0 : List (S43)) (l1 : List (S43)) : Option (Bool) := if (l0.length : Int) = (l1.length : Int) then (laws_eqRouteS.l0 k l0 l1 0) else (some false)
theorem laws_eqRouteS.mono_l : ∀ k, (∀ y0 y1 y2, LeO (laws_eqRouteS.l0 k y0 y1 y2) (laws_eqRouteS.l0 (k + 1) y0 y1 y2))
 | 0 => fun _ _ _ r h => by simp [laws_eqRouteS.l0] at h
 | k + 1 => by
  have ih0 := laws_eqRouteS.mono_l k
  ·
   intro y0 y1 y2
   unfold laws_eqRouteS.l0
   repeat' first
   | (with_reducible exact ih0 _ _ _)
   | (with_reducible exact LeO.refl _)
   | (with_reducible exact LeO.none _)
   | (with_reducible refine LeO.ite ?_ ?_)
   | (with_reducible refine LeO.bind ?_ (fun _ => ?_))
   | exact ih0 _ _ _
   | exact LeO.none _
   | refine LeO.ite ?_ ?_
   | refine LeO.bind ?_ (fun _ => ?_)
theorem laws_eqRouteS.mono : ∀ a0 a1 k, LeO (laws_eqRouteS.f k a0 a1) (laws_eqRouteS.f (k + 1) a0 a1) := by
 intro a0 a1 k
 have ih0 := laws_eqRouteS.mono_l k
 unfold laws_eqRouteS.f
 repeat' first
   | (with_reducible exact ih0 _ _ _)
   | (with_reducible exact LeO.refl _)
   | (with_reducible exact LeO.none _)
   | (with_reducible refine LeO.ite ?_ ?_)
   | (with_reducible refine LeO.bind ?_ (fun _ => ?_))
   | exact ih0 _ _ _
   | exact LeO.none _
   | refine LeO.ite ?_ ?_
   | refine LeO.bind ?_ (fun _ => ?_)
def laws_eqRouteS.T6 : Bool × List (List Nat × List Nat) := (true, [([], []), ([], []), ([0, 1], [0, 1]), ([2], [2]), ([], []), ([], []), ([4, 5], [4, 5]), ([6], [6]), ([3, 7], [3, 7]), ([8], [8])])
def laws_eqRouteS.B6 : List Nat := [0, 0, 3, 7, 0, 0, 48, 112, 255, 511]
theorem laws_eqRouteS.tab6 : rtab .any (opsOf Try.f19 6) = laws_eqRouteS.T6 := by kernel_rfl
theorem laws_eqRouteS.bits6 : waitsOk laws_eqRouteS.T6.2 laws_eqRouteS.B6 = true := by kernel_rfl
set_option maxHeartbeats 8000000 in
set_option maxRecDepth 100000 in
theorem laws_eqRouteS.calls (k : Nat) (A0 : Option Addr) (c0 : Nat) (l0 : List (S43)) (A1 : Option Addr) (c1 : Nat) (l1 : List (S43)) (r : Bool) (w : World) (hr0 : Kd.C k43 w A0 l0.length l0) (hc0 : l0.length ≤ c0) (hr1 : Kd.C k43 w A1 l1.length l1) (hc1 : l1.length ≤ c1) (h : laws_eqRouteS.f k l0 l1 = some r) :
  Calls Try.prog 19 #[.slice A0 l0.length c0, .slice A1 l1.length c1] w fun e w' => e = .returned (.bool r) ∧ Below w.heap.size w w' := by
 have hu43 := Try.underlying43
 have HR0 := Aside0.mk hr0
 have HC0 := Aside0.mk hc0
 clear hr0 hc0
 have HR1 := Aside0.mk hr1
 have HC1 := Aside0.mk hc1
 clear hr1 hc1
 have HB := Aside0.mk (Below.refl w.heap.size w)
 have H : (if (l0.length : Int) = (l1.length : Int) then (laws_eqRouteS.l0 k l0 l1 0) else (some false)) = some r := h
 clear h
 by_cases c3 : (l0.length : Int) = (l1.length : Int)
 ·
  rw [if_pos c3] at H
  have c3b0 : ((l0.length : Int) == (l1.length : Int)) = true := beq_iff_eq.mpr c3
  have c3b1 : ((l0.length : Int) != (l1.length : Int)) = false := bne_eq_false_iff_eq.mpr c3
  have c3b2 : (l0.length == l1.length) = true := by first | simpa using c3 | (simp at c3 ⊢; omega)
  clear c3
  have H' := Aside0.mk H
  clear H
  go_enter Try.func19, Try.ntmps19
  go_wp2
  go_loopg [5] k (fun kq v5 w' => ∃ (x5_1 : Int), v5 = .int .i64 x5_1 ∧ Aside0 (laws_eqRouteS.l0 kq l0 l1 x5_1 = some r) ∧ Aside0 (kq ≤ k) ∧ Aside0 (Below w.heap.size w w'))
  case atStart => exact ⟨(0), (by first | rfl | (simp; done) | exact congrArg Value.bool (ne_nil_b _) | exact congrArg Value.bool (eq_nil_b _) | (simp [*]; done)), H', ⟨Nat.le_refl _⟩, ⟨bz⟩⟩
  case round =>
   clear H'
   try clear c1
   try clear p2
   try clear c3
   try clear c3b0
   try clear c3b1
   try clear c3b2
   obtain ⟨x5_1, rfl, HA, HK1, HB⟩ := hrel
   cases gk with
   | zero => exact absurd HA.out (by simp [laws_eqRouteS.l0])
   | succ k1 =>
    have H := HA.out
    clear HA
    simp only [laws_eqRouteS.l0] at H
    by_cases c4 : x5_1 < (l0.length : Int)
    ·
     rw [if_pos c4] at H
     have c4b0 : decide (x5_1 < (l0.length : Int)) = true := decide_eq_true c4
     clear c4
     by_cases c5 : 0 ≤ x5_1
     ·
      rw [if_pos c5] at H
      have c5b0 : decide (0 ≤ x5_1) = true := decide_eq_true c5
      clear c5
      by_cases c6 : x5_1 < (l1.length : Int)
      ·
       rw [if_pos c6] at H
       have c6b0 : decide (x5_1 < (l1.length : Int)) = true := decide_eq_true c6
       clear c6
       replace H := Option.bind_eq_some_iff.mp H
       obtain ⟨t146, A70, H⟩ := H
       try dsimp only at H
       have A7 := Aside0.mk A70
       clear A70
       by_cases c8 : t146 = true
       ·
        subst c8
        rw [if_pos rfl] at H
        have H' := Aside0.mk H
        clear H
        try go_wp2
        have n0_ := Aside0.mk (below_drew1 HB.out)
        clear HB
        have HB := n0_
        clear n0_
        have p144 : 0 ≤ (x5_1 : Int) := of_decide_eq_true (by first | (with_reducible assumption) | assumption)
        have q144 : x5_1 < (l0.length : Int) := of_decide_eq_true (by first | (with_reducible assumption) | assumption)
        obtain ⟨ad144, e144, hx144_0, hx144_1, hx144_2⟩ := at_T43 HR0.out x5_1 p144 q144
        have hw144_2 := hx144_2
        have hw144_1 := hx144_1
        have hw144_0 := hx144_0
        cases e144
        replace hx144_0 := (HB.out.cell (World.block_lt_of_cell? w _ hx144_0)).trans hx144_0
        replace hx144_1 := (HB.out.cell (World.block_lt_of_cell? w _ hx144_1)).trans hx144_1
        replace hx144_2 := (HB.out.cell (World.block_lt_of_cell? w _ hx144_2)).trans hx144_2
        replace p144 := eq_true p144
        replace q144 := eq_true q144
        have p145 : 0 ≤ (x5_1 : Int) := of_decide_eq_true (by first | (with_reducible assumption) | assumption)
        have q145 : x5_1 < (l1.length : Int) := of_decide_eq_true (by first | (with_reducible assumption) | assumption)
        obtain ⟨ad145, e145, hx145_0, hx145_1, hx145_2⟩ := at_T43 HR1.out x5_1 p145 q145
        have hw145_2 := hx145_2
        have hw145_1 := hx145_1
        have hw145_0 := hx145_0
        cases e145
        replace hx145_0 := (HB.out.cell (World.block_lt_of_cell? w _ hx145_0)).trans hx145_0
        replace hx145_1 := (HB.out.cell (World.block_lt_of_cell? w _ hx145_1)).trans hx145_1
        replace hx145_2 := (HB.out.cell (World.block_lt_of_cell? w _ hx145_2)).trans hx145_2
        replace p145 := eq_true p145
        replace q145 := eq_true q145
        refine start_ (n := 10) (S := fun w' => w'.cell? (ad144.add ((x5_1).toNat * 3)) = some (.int .i64 ((rd_T43 l0 x5_1).f0)) ∧ w'.cell? ⟨(ad144.add ((x5_1).toNat * 3)).block, (ad144.add ((x5_1).toNat * 3)).off + 1, none⟩ = some (.string ((rd_T43 l0 x5_1).f1.f0)) ∧ w'.cell? ⟨(ad144.add ((x5_1).toNat * 3)).block, (ad144.add ((x5_1).toNat * 3)).off + 2, none⟩ = some (.string ((rd_T43 l0 x5_1).f1.f1)) ∧ w'.cell? (ad145.add ((x5_1).toNat * 3)) = some (.int .i64 ((rd_T43 l1 x5_1).f0)) ∧ w'.cell? ⟨(ad145.add ((x5_1).toNat * 3)).block, (ad145.add ((x5_1).toNat * 3)).off + 1, none⟩ = some (.string ((rd_T43 l1 x5_1).f1.f0)) ∧ w'.cell? ⟨(ad145.add ((x5_1).toNat * 3)).block, (ad145.add ((x5_1).toNat * 3)).off + 2, none⟩ = some (.string ((rd_T43 l1 x5_1).f1.f1))) (ds := []) #[false, false, false, false, false, false, false, false, false, false] (by kernel_rfl) rfl rfl ⟨((HB.out.cell (World.block_lt_of_cell? w _ hw144_0)).trans hw144_0), ((HB.out.cell (World.block_lt_of_cell? w _ hw144_1)).trans hw144_1), ((HB.out.cell (World.block_lt_of_cell? w _ hw144_2)).trans hw144_2), ((HB.out.cell (World.block_lt_of_cell? w _ hw145_0)).trans hw145_0), ((HB.out.cell (World.block_lt_of_cell? w _ hw145_1)).trans hw145_1), ((HB.out.cell (World.block_lt_of_cell? w _ hw145_2)).trans hw145_2)⟩ (fun hHeld => ?_); refine with_tabW laws_eqRouteS.tab6 laws_eqRouteS.bits6 (fun HT_ HW_ => ?_)
        generalize wr.drew = w9 at HB hx144_0 hx144_1 hx144_2 hx145_0 hx145_1 hx145_2 hHeld ⊢
        refine pure_ (i := 0) (N := some 17) (v := ?_) (a' := ?_) #[true, false, false, false, false, false, false, false, false, false] rfl rfl (any_of HT_.out (by kernel_rfl)) (fun _ _ _ h => h) (Or.inl ⟨by rfl, ?_⟩) ?_ ?_
        rotate_left
        ·
         intro w'
         go_simp
         with_reducible rfl
        rotate_left
        ·
         simp only [Act.put, List.setIfInBounds_toArray, List.set_cons_zero, List.set_cons_succ, i64_w, i32_w]
         rfl
        refine pure_ (i := 1) (N := some 18) (v := ?_) (a' := ?_) #[true, true, false, false, false, false, false, false, false, false] rfl rfl (any_of HT_.out (by kernel_rfl)) (fun _ _ _ h => h) (Or.inl ⟨by rfl, ?_⟩) ?_ ?_
        rotate_left
        ·
         intro w'
         go_simp
         with_reducible rfl
        rotate_left
        ·
         simp only [Act.put, List.setIfInBounds_toArray, List.set_cons_zero, List.set_cons_succ, i64_w, i32_w]
         rfl
        refine pure_ (i := 2) (N := some 19) (v := ?_) (a' := ?_) #[true, true, true, false, false, false, false, false, false, false] rfl rfl (any_of HT_.out (by kernel_rfl)) (fun _ _ _ h => h) (Or.inl ⟨by rfl, ?_⟩) ?_ ?_
        rotate_left
        ·
         intro w'
         go_simp
         with_reducible rfl
        rotate_left
        ·
         simp only [Act.put, List.setIfInBounds_toArray, List.set_cons_zero, List.set_cons_succ, i64_w, i32_w]
         rfl
        refine pure_ (i := 4) (N := some 21) (v := ?_) (a' := ?_) #[true, true, true, false, true, false, false, false, false, false] rfl rfl (any_of HT_.out (by kernel_rfl)) (fun _ _ _ h => h) (Or.inl ⟨by rfl, ?_⟩) ?_ ?_
        rotate_left
        ·
         intro w'
         go_simp
         with_reducible rfl
        rotate_left
        ·
         simp only [Act.put, List.setIfInBounds_toArray, List.set_cons_zero, List.set_cons_succ, i64_w, i32_w]
         rfl
        refine pure_ (i := 5) (N := some 22) (v := ?_) (a' := ?_) #[true, true, true, false, true, true, false, false, false, false] rfl rfl (any_of HT_.out (by kernel_rfl)) (fun _ _ _ h => h) (Or.inl ⟨by rfl, ?_⟩) ?_ ?_
        rotate_left
        ·
         intro w'
         go_simp
         with_reducible rfl
        rotate_left
        ·
         simp only [Act.put, List.setIfInBounds_toArray, List.set_cons_zero, List.set_cons_succ, i64_w, i32_w]
         rfl
        refine pure_ (i := 6) (N := some 23) (v := ?_) (a' := ?_) #[true, true, true, false, true, true, true, false, false, false] rfl rfl (any_of HT_.out (by kernel_rfl)) (fun _ _ _ h => h) (Or.inl ⟨by rfl, ?_⟩) ?_ ?_
        rotate_left
        ·
         intro w'
         go_simp
         with_reducible rfl
        rotate_left
        ·
         simp only [Act.put, List.setIfInBounds_toArray, List.set_cons_zero, List.set_cons_succ, i64_w, i32_w]
         rfl
        refine take_ (i := 3) (N := some 20) (v := ?_) (a' := ?_) #[true, true, true, true, true, true, true, false, false, false] rfl rfl (take_ofW HT_.out HW_.out (by kernel_rfl)) (fun _ _ _ h => h) (Or.inl ⟨by rfl, ?_⟩) hHeld ?_ ?_
        rotate_left
        ·
         rintro w' ⟨s0, s1, s2, s3, s4, s5⟩
         go_simp
         with_reducible rfl
        rotate_left
        ·
         simp only [Act.put, List.setIfInBounds_toArray, List.set_cons_zero, List.set_cons_succ, i64_w, i32_w]
         rfl
        refine take_ (i := 7) (N := some 24) (v := ?_) (a' := ?_) #[true, true, true, true, true, true, true, true, false, false] rfl rfl (take_ofW HT_.out HW_.out (by kernel_rfl)) (fun _ _ _ h => h) (Or.inl ⟨by rfl, ?_⟩) hHeld ?_ ?_
        rotate_left
        ·
         rintro w' ⟨s0, s1, s2, s3, s4, s5⟩
         go_simp
         with_reducible rfl
        rotate_left
        ·
         simp only [Act.put, List.setIfInBounds_toArray, List.set_cons_zero, List.set_cons_succ, i64_w, i32_w]
         rfl
        refine one_ (i := 8) (N := some 25) #[true, true, true, true, true, true, true, true, true, false] rfl rfl (one_of HT_.out (by kernel_rfl)) (by decide) (fun K hK => ?_)
        refine goes_ Try.func55 (by kernel_rfl) rfl #[.agg #[.int .i64 ((rd_T43 l0 x5_1).f0), .string ((rd_T43 l0 x5_1).f1.f0), .string ((rd_T43 l0 x5_1).f1.f1)], .agg #[.int .i64 ((rd_T43 l1 x5_1).f0), .string ((rd_T43 l1 x5_1).f1.f0), .string ((rd_T43 l1 x5_1).f1.f1)]] (by rfl) rfl rfl (by (try simp only [List.map_toArray, List.map_cons, List.map_nil]); first | done | rfl | (simp only [List.length_drop, List.length_take]; rfl)) ?_
        with_reducible refine (laws_eqRoute.calls ((rd_T43 l0 x5_1).f0) ((rd_T43 l0 x5_1).f1.f0) ((rd_T43 l0 x5_1).f1.f1) ((rd_T43 l1 x5_1).f0) ((rd_T43 l1 x5_1).f1.f0) ((rd_T43 l1 x5_1).f1.f1) true _ A7.out).mono ?_
        rintro e w10 ⟨rfl, hb⟩
        refine ⟨_, rfl, ?_⟩
        have n0_ := Aside0.mk (below_step (bz) hb)
        clear HB
        have HB := n0_
        clear n0_
        (try clear hb)
        (try clear hb2)
        (try clear hk)
        (try clear hi)
        refine hK.out _ _ ⟨((HB.out.cell (World.block_lt_of_cell? w _ hw144_0)).trans hw144_0), ((HB.out.cell (World.block_lt_of_cell? w _ hw144_1)).trans hw144_1), ((HB.out.cell (World.block_lt_of_cell? w _ hw144_2)).trans hw144_2), ((HB.out.cell (World.block_lt_of_cell? w _ hw145_0)).trans hw145_0), ((HB.out.cell (World.block_lt_of_cell? w _ hw145_1)).trans hw145_1), ((HB.out.cell (World.block_lt_of_cell? w _ hw145_2)).trans hw145_2)⟩ (fun hHeld => ?_)
        clear hK K
        refine norm_ (a' := ?_) ?_ ?_
        rotate_left
        ·
         show Act.put _ (some 25) _ = _
         simp only [Act.put, List.setIfInBounds_toArray, List.set_cons_zero, List.set_cons_succ, i64_w, i32_w]
         rfl
        refine pure_ (i := 9) (N := some 26) (v := ?_) (a' := ?_) #[true, true, true, true, true, true, true, true, true, true] rfl rfl (any_of HT_.out (by kernel_rfl)) (fun _ _ _ h => h) (Or.inl ⟨by rfl, ?_⟩) ?_ ?_
        rotate_left
        ·
         intro w'
         go_simp
         with_reducible rfl
        rotate_left
        ·
         simp only [Act.put, List.setIfInBounds_toArray, List.set_cons_zero, List.set_cons_succ, i64_w, i32_w]
         rfl
        refine done_ (done_of HT_.out (by kernel_rfl)) ?_
        try go_wp2
        go_roundg k1
        case measure => have := HK1.out; omega
        case rel => exact ⟨(wrap64 (x5_1 + 1)), (by first | rfl | (simp; done) | exact congrArg Value.bool (ne_nil_b _) | exact congrArg Value.bool (eq_nil_b _) | (simp [*]; done)), H', ⟨by have := HK1.out; omega⟩, ⟨bz⟩⟩
       ·
        replace c8 := Bool.eq_false_iff.mpr c8
        subst c8
        rw [if_neg (show ¬ (false = true) by decide)] at H
        obtain rfl := Option.some.inj H
        try go_wp2
        have n0_ := Aside0.mk (below_drew1 HB.out)
        clear HB
        have HB := n0_
        clear n0_
        have p144 : 0 ≤ (x5_1 : Int) := of_decide_eq_true (by first | (with_reducible assumption) | assumption)
        have q144 : x5_1 < (l0.length : Int) := of_decide_eq_true (by first | (with_reducible assumption) | assumption)
        obtain ⟨ad144, e144, hx144_0, hx144_1, hx144_2⟩ := at_T43 HR0.out x5_1 p144 q144
        have hw144_2 := hx144_2
        have hw144_1 := hx144_1
        have hw144_0 := hx144_0
        cases e144
        replace hx144_0 := (HB.out.cell (World.block_lt_of_cell? w _ hx144_0)).trans hx144_0
        replace hx144_1 := (HB.out.cell (World.block_lt_of_cell? w _ hx144_1)).trans hx144_1
        replace hx144_2 := (HB.out.cell (World.block_lt_of_cell? w _ hx144_2)).trans hx144_2
        replace p144 := eq_true p144
        replace q144 := eq_true q144
        have p145 : 0 ≤ (x5_1 : Int) := of_decide_eq_true (by first | (with_reducible assumption) | assumption)
        have q145 : x5_1 < (l1.length : Int) := of_decide_eq_true (by first | (with_reducible assumption) | assumption)
        obtain ⟨ad145, e145, hx145_0, hx145_1, hx145_2⟩ := at_T43 HR1.out x5_1 p145 q145
        have hw145_2 := hx145_2
        have hw145_1 := hx145_1
        have hw145_0 := hx145_0
        cases e145
        replace hx145_0 := (HB.out.cell (World.block_lt_of_cell? w _ hx145_0)).trans hx145_0
        replace hx145_1 := (HB.out.cell (World.block_lt_of_cell? w _ hx145_1)).trans hx145_1
        replace hx145_2 := (HB.out.cell (World.block_lt_of_cell? w _ hx145_2)).trans hx145_2
        replace p145 := eq_true p145
        replace q145 := eq_true q145
        refine start_ (n := 10) (S := fun w' => w'.cell? (ad144.add ((x5_1).toNat * 3)) = some (.int .i64 ((rd_T43 l0 x5_1).f0)) ∧ w'.cell? ⟨(ad144.add ((x5_1).toNat * 3)).block, (ad144.add ((x5_1).toNat * 3)).off + 1, none⟩ = some (.string ((rd_T43 l0 x5_1).f1.f0)) ∧ w'.cell? ⟨(ad144.add ((x5_1).toNat * 3)).block, (ad144.add ((x5_1).toNat * 3)).off + 2, none⟩ = some (.string ((rd_T43 l0 x5_1).f1.f1)) ∧ w'.cell? (ad145.add ((x5_1).toNat * 3)) = some (.int .i64 ((rd_T43 l1 x5_1).f0)) ∧ w'.cell? ⟨(ad145.add ((x5_1).toNat * 3)).block, (ad145.add ((x5_1).toNat * 3)).off + 1, none⟩ = some (.string ((rd_T43 l1 x5_1).f1.f0)) ∧ w'.cell? ⟨(ad145.add ((x5_1).toNat * 3)).block, (ad145.add ((x5_1).toNat * 3)).off + 2, none⟩ = some (.string ((rd_T43 l1 x5_1).f1.f1))) (ds := []) #[false, false, false, false, false, false, false, false, false, false] (by kernel_rfl) rfl rfl ⟨((HB.out.cell (World.block_lt_of_cell? w _ hw144_0)).trans hw144_0), ((HB.out.cell (World.block_lt_of_cell? w _ hw144_1)).trans hw144_1), ((HB.out.cell (World.block_lt_of_cell? w _ hw144_2)).trans hw144_2), ((HB.out.cell (World.block_lt_of_cell? w _ hw145_0)).trans hw145_0), ((HB.out.cell (World.block_lt_of_cell? w _ hw145_1)).trans hw145_1), ((HB.out.cell (World.block_lt_of_cell? w _ hw145_2)).trans hw145_2)⟩ (fun hHeld => ?_); refine with_tabW laws_eqRouteS.tab6 laws_eqRouteS.bits6 (fun HT_ HW_ => ?_)
        generalize wr.drew = w11 at HB hx144_0 hx144_1 hx144_2 hx145_0 hx145_1 hx145_2 hHeld ⊢
        refine pure_ (i := 0) (N := some 17) (v := ?_) (a' := ?_) #[true, false, false, false, false, false, false, false, false, false] rfl rfl (any_of HT_.out (by kernel_rfl)) (fun _ _ _ h => h) (Or.inl ⟨by rfl, ?_⟩) ?_ ?_
        rotate_left
        ·
         intro w'
         go_simp
         with_reducible rfl
        rotate_left
        ·
         simp only [Act.put, List.setIfInBounds_toArray, List.set_cons_zero, List.set_cons_succ, i64_w, i32_w]
         rfl
        refine pure_ (i := 1) (N := some 18) (v := ?_) (a' := ?_) #[true, true, false, false, false, false, false, false, false, false] rfl rfl (any_of HT_.out (by kernel_rfl)) (fun _ _ _ h => h) (Or.inl ⟨by rfl, ?_⟩) ?_ ?_
        rotate_left
        ·
         intro w'
         go_simp
         with_reducible rfl
        rotate_left
        ·
         simp only [Act.put, List.setIfInBounds_toArray, List.set_cons_zero, List.set_cons_succ, i64_w, i32_w]
         rfl
        refine pure_ (i := 2) (N := some 19) (v := ?_) (a' := ?_) #[true, true, true, false, false, false, false, false, false, false] rfl rfl (any_of HT_.out (by kernel_rfl)) (fun _ _ _ h => h) (Or.inl ⟨by rfl, ?_⟩) ?_ ?_
        rotate_left
        ·
         intro w'
         go_simp
         with_reducible rfl
        rotate_left
        ·
         simp only [Act.put, List.setIfInBounds_toArray, List.set_cons_zero, List.set_cons_succ, i64_w, i32_w]
         rfl
        refine pure_ (i := 4) (N := some 21) (v := ?_) (a' := ?_) #[true, true, true, false, true, false, false, false, false, false] rfl rfl (any_of HT_.out (by kernel_rfl)) (fun _ _ _ h => h) (Or.inl ⟨by rfl, ?_⟩) ?_ ?_
        rotate_left
        ·
         intro w'
         go_simp
         with_reducible rfl
        rotate_left
        ·
         simp only [Act.put, List.setIfInBounds_toArray, List.set_cons_zero, List.set_cons_succ, i64_w, i32_w]
         rfl
        refine pure_ (i := 5) (N := some 22) (v := ?_) (a' := ?_) #[true, true, true, false, true, true, false, false, false, false] rfl rfl (any_of HT_.out (by kernel_rfl)) (fun _ _ _ h => h) (Or.inl ⟨by rfl, ?_⟩) ?_ ?_
        rotate_left
        ·
         intro w'
         go_simp
         with_reducible rfl
        rotate_left
        ·
         simp only [Act.put, List.setIfInBounds_toArray, List.set_cons_zero, List.set_cons_succ, i64_w, i32_w]
         rfl
        refine pure_ (i := 6) (N := some 23) (v := ?_) (a' := ?_) #[true, true, true, false, true, true, true, false, false, false] rfl rfl (any_of HT_.out (by kernel_rfl)) (fun _ _ _ h => h) (Or.inl ⟨by rfl, ?_⟩) ?_ ?_
        rotate_left
        ·
         intro w'
         go_simp
         with_reducible rfl
        rotate_left
        ·
         simp only [Act.put, List.setIfInBounds_toArray, List.set_cons_zero, List.set_cons_succ, i64_w, i32_w]
         rfl
        refine take_ (i := 3) (N := some 20) (v := ?_) (a' := ?_) #[true, true, true, true, true, true, true, false, false, false] rfl rfl (take_ofW HT_.out HW_.out (by kernel_rfl)) (fun _ _ _ h => h) (Or.inl ⟨by rfl, ?_⟩) hHeld ?_ ?_
        rotate_left
        ·
         rintro w' ⟨s0, s1, s2, s3, s4, s5⟩
         go_simp
         with_reducible rfl
        rotate_left
        ·
         simp only [Act.put, List.setIfInBounds_toArray, List.set_cons_zero, List.set_cons_succ, i64_w, i32_w]
         rfl
        refine take_ (i := 7) (N := some 24) (v := ?_) (a' := ?_) #[true, true, true, true, true, true, true, true, false, false] rfl rfl (take_ofW HT_.out HW_.out (by kernel_rfl)) (fun _ _ _ h => h) (Or.inl ⟨by rfl, ?_⟩) hHeld ?_ ?_
        rotate_left
        ·
         rintro w' ⟨s0, s1, s2, s3, s4, s5⟩
         go_simp
         with_reducible rfl
        rotate_left
        ·
         simp only [Act.put, List.setIfInBounds_toArray, List.set_cons_zero, List.set_cons_succ, i64_w, i32_w]
         rfl
        refine one_ (i := 8) (N := some 25) #[true, true, true, true, true, true, true, true, true, false] rfl rfl (one_of HT_.out (by kernel_rfl)) (by decide) (fun K hK => ?_)
        refine goes_ Try.func55 (by kernel_rfl) rfl #[.agg #[.int .i64 ((rd_T43 l0 x5_1).f0), .string ((rd_T43 l0 x5_1).f1.f0), .string ((rd_T43 l0 x5_1).f1.f1)], .agg #[.int .i64 ((rd_T43 l1 x5_1).f0), .string ((rd_T43 l1 x5_1).f1.f0), .string ((rd_T43 l1 x5_1).f1.f1)]] (by rfl) rfl rfl (by (try simp only [List.map_toArray, List.map_cons, List.map_nil]); first | done | rfl | (simp only [List.length_drop, List.length_take]; rfl)) ?_
        with_reducible refine (laws_eqRoute.calls ((rd_T43 l0 x5_1).f0) ((rd_T43 l0 x5_1).f1.f0) ((rd_T43 l0 x5_1).f1.f1) ((rd_T43 l1 x5_1).f0) ((rd_T43 l1 x5_1).f1.f0) ((rd_T43 l1 x5_1).f1.f1) false _ A7.out).mono ?_
        rintro e w12 ⟨rfl, hb⟩
        refine ⟨_, rfl, ?_⟩
        have n0_ := Aside0.mk (below_step (bz) hb)
        clear HB
        have HB := n0_
        clear n0_
        (try clear hb)
        (try clear hb2)
        (try clear hk)
        (try clear hi)
        refine hK.out _ _ ⟨((HB.out.cell (World.block_lt_of_cell? w _ hw144_0)).trans hw144_0), ((HB.out.cell (World.block_lt_of_cell? w _ hw144_1)).trans hw144_1), ((HB.out.cell (World.block_lt_of_cell? w _ hw144_2)).trans hw144_2), ((HB.out.cell (World.block_lt_of_cell? w _ hw145_0)).trans hw145_0), ((HB.out.cell (World.block_lt_of_cell? w _ hw145_1)).trans hw145_1), ((HB.out.cell (World.block_lt_of_cell? w _ hw145_2)).trans hw145_2)⟩ (fun hHeld => ?_)
        clear hK K
        refine norm_ (a' := ?_) ?_ ?_
        rotate_left
        ·
         show Act.put _ (some 25) _ = _
         simp only [Act.put, List.setIfInBounds_toArray, List.set_cons_zero, List.set_cons_succ, i64_w, i32_w]
         rfl
        refine pure_ (i := 9) (N := some 26) (v := ?_) (a' := ?_) #[true, true, true, true, true, true, true, true, true, true] rfl rfl (any_of HT_.out (by kernel_rfl)) (fun _ _ _ h => h) (Or.inl ⟨by rfl, ?_⟩) ?_ ?_
        rotate_left
        ·
         intro w'
         go_simp
         with_reducible rfl
        rotate_left
        ·
         simp only [Act.put, List.setIfInBounds_toArray, List.set_cons_zero, List.set_cons_succ, i64_w, i32_w]
         rfl
        refine done_ (done_of HT_.out (by kernel_rfl)) ?_
        try go_wp2
        go_ret
        exact ⟨by first | rfl | (simp only [u8w, w64m]; rfl) | (simp [errW_none, errW_some] <;> rfl) | (simp [*, errW_none, errW_some] <;> rfl), bz⟩
      ·
       rw [if_neg c6] at H
       exact absurd H (by simp)
     ·
      rw [if_neg c5] at H
      exact absurd H (by simp)
    ·
     rw [if_neg c4] at H
     have c4b0 : decide (x5_1 < (l0.length : Int)) = false := decide_eq_false c4
     clear c4
     obtain rfl := Option.some.inj H
     go_wp2
     go_ret
     exact ⟨by first | rfl | (simp only [u8w, w64m]; rfl) | (simp [errW_none, errW_some] <;> rfl) | (simp [*, errW_none, errW_some] <;> rfl), bz⟩
 ·
  rw [if_neg c3] at H
  have c3b0 : ((l0.length : Int) == (l1.length : Int)) = false := beq_eq_false_iff_ne.mpr c3
  have c3b1 : ((l0.length : Int) != (l1.length : Int)) = true := bne_iff_ne.mpr c3
  have c3b2 : (l0.length == l1.length) = false := by first | simpa using c3 | (simp at c3 ⊢; omega)
  obtain rfl := Option.some.inj H
  go_enter Try.func19, Try.ntmps19
  go_wp2
  go_ret
  exact ⟨by first | rfl | (simp only [u8w, w64m]; rfl) | (simp [errW_none, errW_some] <;> rfl) | (simp [*, errW_none, errW_some] <;> rfl), bz⟩

/-! ### laws_eqCommand: function 82 -/
def laws_eqCommand.f (a0_0 : Int) (a0_1 : ByteArray) (a0_2 : Int) (a0_3 : Int) (a1_0 : Int) (a1_1 : ByteArray) (a1_2 : Int) (a1_3 : Int) : Option (Bool) := if a0_0 = a1_0 then (if a0_1.toList = a1_1.toList then (if a0_2 = a1_2 then (if a0_3 = a1_3 then (some true) else (some false)) else (some false)) else (some false)) else (some false)
set_option maxHeartbeats 8000000 in
set_option maxRecDepth 100000 in
theorem laws_eqCommand.calls (a0_0 : Int) (a0_1 : ByteArray) (a0_2 : Int) (a0_3 : Int) (a1_0 : Int) (a1_1 : ByteArray) (a1_2 : Int) (a1_3 : Int) (r : Bool) (w : World) (h : laws_eqCommand.f a0_0 a0_1 a0_2 a0_3 a1_0 a1_1 a1_2 a1_3 = some r) :
  Calls Try.prog 82 #[.agg #[.int .i64 a0_0, .string a0_1, .int .i64 a0_2, .int .i64 a0_3], .agg #[.int .i64 a1_0, .string a1_1, .int .i64 a1_2, .int .i64 a1_3]] w fun e w' => e = .returned (.bool r) ∧ Below w.heap.size w w' := by
 have hu55 := Try.underlying55
 have HB := Aside0.mk (Below.refl w.heap.size w)
 have H : (if a0_0 = a1_0 then (if a0_1.toList = a1_1.toList then (if a0_2 = a1_2 then (if a0_3 = a1_3 then (some true) else (some false)) else (some false)) else (some false)) else (some false)) = some r := h
 clear h
 by_cases c3 : a0_0 = a1_0
 ·
  rw [if_pos c3] at H
  have c3b0 : (a0_0 == a1_0) = true := beq_iff_eq.mpr c3
  have c3b1 : (a0_0 != a1_0) = false := bne_eq_false_iff_eq.mpr c3
  clear c3
  by_cases c4 : a0_1.toList = a1_1.toList
  ·
   rw [if_pos c4] at H
   have c4b0 : (a0_1.toList == a1_1.toList) = true := beq_iff_eq.mpr c4
   have c4b1 : (a0_1.toList != a1_1.toList) = false := bne_eq_false_iff_eq.mpr c4
   clear c4
   by_cases c5 : a0_2 = a1_2
   ·
    rw [if_pos c5] at H
    have c5b0 : (a0_2 == a1_2) = true := beq_iff_eq.mpr c5
    have c5b1 : (a0_2 != a1_2) = false := bne_eq_false_iff_eq.mpr c5
    clear c5
    by_cases c6 : a0_3 = a1_3
    ·
     rw [if_pos c6] at H
     have c6b0 : (a0_3 == a1_3) = true := beq_iff_eq.mpr c6
     have c6b1 : (a0_3 != a1_3) = false := bne_eq_false_iff_eq.mpr c6
     clear c6
     obtain rfl := Option.some.inj H
     go_enter Try.func82, Try.ntmps82
     go_wp2_with (first | ((with_reducible refine gate_dst (N := 2) rfl ?_); refine box_event ?hg (N := 2) ?hd (cs := #[.int .i64 a0_0, .string a0_1, .int .i64 a0_2, .int .i64 a0_3]) (t := 55) ?hr ?_; (case hd => rfl); (case hg => rfl); (case hr => first | (go_simp; done) | (go_simp; rfl)); intro gb147 hg w7 hbox hb; have n0_ := Aside0.mk (below_step (bz) hb); have n1_ := Aside0.mk (hbox); have n2_ : Aside0 (w.heap.size ≤ gb147) := bsg hg; have n3_ : Aside0 (w.heap.size ≤ gb147) := bsg hg; clear HB; have HB := n0_; have BK147 := n1_; have GW147 := n2_; have GE147 := n3_; clear n0_ n1_ n2_ n3_; clear hb hbox hg) | ((with_reducible refine gate_dst (N := 3) rfl ?_); refine box_event ?hg (N := 3) ?hd (cs := #[.int .i64 a1_0, .string a1_1, .int .i64 a1_2, .int .i64 a1_3]) (t := 55) ?hr ?_; (case hd => rfl); (case hg => rfl); (case hr => first | (go_simp; done) | (go_simp; rfl)); intro gb148 hg w8 hbox hb; have n0_ := bkb BK147 hb; have n1_ := Aside0.mk (below_step (bz) hb); have n2_ := Aside0.mk (hbox); have n3_ : Aside0 (w.heap.size ≤ gb148) := bsg hg; have n4_ : Aside0 (w.heap.size ≤ gb148) := bsg hg; have n5_ := nlt hg BK147; have n6_ := ngt hg BK147; clear BK147; clear HB; have BK147 := n0_; have HB := n1_; have BK148 := n2_; have GW148 := n3_; have GE148 := n4_; have NB147_148 := n5_; have NB148_147 := n6_; clear n0_ n1_ n2_ n3_ n4_ n5_ n6_; clear hb hbox hg; have hnb9 := NB147_148.out; have hnc9 := NB148_147.out; have hcz10_0 : w8.cell? ⟨gb147, 0, none⟩ = some (.int .i64 a0_0) := (blk_cell BK147.out 0).trans rfl; have hcz10_1 : w8.cell? ⟨gb147, 1, none⟩ = some (.string a0_1) := (blk_cell BK147.out 1).trans rfl; have hcz10_2 : w8.cell? ⟨gb147, 2, none⟩ = some (.int .i64 a0_2) := (blk_cell BK147.out 2).trans rfl; have hcz10_3 : w8.cell? ⟨gb147, 3, none⟩ = some (.int .i64 a0_3) := (blk_cell BK147.out 3).trans rfl; have hfz10_0 := blk_frozen BK147.out 0; have hfz10_1 := blk_frozen BK147.out 1; have hfz10_2 := blk_frozen BK147.out 2; have hfz10_3 := blk_frozen BK147.out 3; have hcz11_0 : w8.cell? ⟨gb148, 0, none⟩ = some (.int .i64 a1_0) := (blk_cell BK148.out 0).trans rfl; have hcz11_1 : w8.cell? ⟨gb148, 1, none⟩ = some (.string a1_1) := (blk_cell BK148.out 1).trans rfl; have hcz11_2 : w8.cell? ⟨gb148, 2, none⟩ = some (.int .i64 a1_2) := (blk_cell BK148.out 2).trans rfl; have hcz11_3 : w8.cell? ⟨gb148, 3, none⟩ = some (.int .i64 a1_3) := (blk_cell BK148.out 3).trans rfl; have hfz11_0 := blk_frozen BK148.out 0; have hfz11_1 := blk_frozen BK148.out 1; have hfz11_2 := blk_frozen BK148.out 2; have hfz11_3 := blk_frozen BK148.out 3))
     go_ret
     exact ⟨by first | rfl | (simp only [u8w, w64m]; rfl) | (simp [errW_none, errW_some] <;> rfl) | (simp [*, errW_none, errW_some] <;> rfl), bz⟩
    ·
     rw [if_neg c6] at H
     have c6b0 : (a0_3 == a1_3) = false := beq_eq_false_iff_ne.mpr c6
     have c6b1 : (a0_3 != a1_3) = true := bne_iff_ne.mpr c6
     obtain rfl := Option.some.inj H
     go_enter Try.func82, Try.ntmps82
     go_wp2_with (first | ((with_reducible refine gate_dst (N := 2) rfl ?_); refine box_event ?hg (N := 2) ?hd (cs := #[.int .i64 a0_0, .string a0_1, .int .i64 a0_2, .int .i64 a0_3]) (t := 55) ?hr ?_; (case hd => rfl); (case hg => rfl); (case hr => first | (go_simp; done) | (go_simp; rfl)); intro gb147 hg w12 hbox hb; have n0_ := Aside0.mk (below_step (bz) hb); have n1_ := Aside0.mk (hbox); have n2_ : Aside0 (w.heap.size ≤ gb147) := bsg hg; have n3_ : Aside0 (w.heap.size ≤ gb147) := bsg hg; clear HB; have HB := n0_; have BK147 := n1_; have GW147 := n2_; have GE147 := n3_; clear n0_ n1_ n2_ n3_; clear hb hbox hg) | ((with_reducible refine gate_dst (N := 3) rfl ?_); refine box_event ?hg (N := 3) ?hd (cs := #[.int .i64 a1_0, .string a1_1, .int .i64 a1_2, .int .i64 a1_3]) (t := 55) ?hr ?_; (case hd => rfl); (case hg => rfl); (case hr => first | (go_simp; done) | (go_simp; rfl)); intro gb148 hg w13 hbox hb; have n0_ := bkb BK147 hb; have n1_ := Aside0.mk (below_step (bz) hb); have n2_ := Aside0.mk (hbox); have n3_ : Aside0 (w.heap.size ≤ gb148) := bsg hg; have n4_ : Aside0 (w.heap.size ≤ gb148) := bsg hg; have n5_ := nlt hg BK147; have n6_ := ngt hg BK147; clear BK147; clear HB; have BK147 := n0_; have HB := n1_; have BK148 := n2_; have GW148 := n3_; have GE148 := n4_; have NB147_148 := n5_; have NB148_147 := n6_; clear n0_ n1_ n2_ n3_ n4_ n5_ n6_; clear hb hbox hg; have hnb14 := NB147_148.out; have hnc14 := NB148_147.out; have hcz15_0 : w13.cell? ⟨gb147, 0, none⟩ = some (.int .i64 a0_0) := (blk_cell BK147.out 0).trans rfl; have hcz15_1 : w13.cell? ⟨gb147, 1, none⟩ = some (.string a0_1) := (blk_cell BK147.out 1).trans rfl; have hcz15_2 : w13.cell? ⟨gb147, 2, none⟩ = some (.int .i64 a0_2) := (blk_cell BK147.out 2).trans rfl; have hcz15_3 : w13.cell? ⟨gb147, 3, none⟩ = some (.int .i64 a0_3) := (blk_cell BK147.out 3).trans rfl; have hfz15_0 := blk_frozen BK147.out 0; have hfz15_1 := blk_frozen BK147.out 1; have hfz15_2 := blk_frozen BK147.out 2; have hfz15_3 := blk_frozen BK147.out 3; have hcz16_0 : w13.cell? ⟨gb148, 0, none⟩ = some (.int .i64 a1_0) := (blk_cell BK148.out 0).trans rfl; have hcz16_1 : w13.cell? ⟨gb148, 1, none⟩ = some (.string a1_1) := (blk_cell BK148.out 1).trans rfl; have hcz16_2 : w13.cell? ⟨gb148, 2, none⟩ = some (.int .i64 a1_2) := (blk_cell BK148.out 2).trans rfl; have hcz16_3 : w13.cell? ⟨gb148, 3, none⟩ = some (.int .i64 a1_3) := (blk_cell BK148.out 3).trans rfl; have hfz16_0 := blk_frozen BK148.out 0; have hfz16_1 := blk_frozen BK148.out 1; have hfz16_2 := blk_frozen BK148.out 2; have hfz16_3 := blk_frozen BK148.out 3))
     go_ret
     exact ⟨by first | rfl | (simp only [u8w, w64m]; rfl) | (simp [errW_none, errW_some] <;> rfl) | (simp [*, errW_none, errW_some] <;> rfl), bz⟩
   ·
    rw [if_neg c5] at H
    have c5b0 : (a0_2 == a1_2) = false := beq_eq_false_iff_ne.mpr c5
    have c5b1 : (a0_2 != a1_2) = true := bne_iff_ne.mpr c5
    obtain rfl := Option.some.inj H
    go_enter Try.func82, Try.ntmps82
    go_wp2_with (first | ((with_reducible refine gate_dst (N := 2) rfl ?_); refine box_event ?hg (N := 2) ?hd (cs := #[.int .i64 a0_0, .string a0_1, .int .i64 a0_2, .int .i64 a0_3]) (t := 55) ?hr ?_; (case hd => rfl); (case hg => rfl); (case hr => first | (go_simp; done) | (go_simp; rfl)); intro gb147 hg w17 hbox hb; have n0_ := Aside0.mk (below_step (bz) hb); have n1_ := Aside0.mk (hbox); have n2_ : Aside0 (w.heap.size ≤ gb147) := bsg hg; have n3_ : Aside0 (w.heap.size ≤ gb147) := bsg hg; clear HB; have HB := n0_; have BK147 := n1_; have GW147 := n2_; have GE147 := n3_; clear n0_ n1_ n2_ n3_; clear hb hbox hg) | ((with_reducible refine gate_dst (N := 3) rfl ?_); refine box_event ?hg (N := 3) ?hd (cs := #[.int .i64 a1_0, .string a1_1, .int .i64 a1_2, .int .i64 a1_3]) (t := 55) ?hr ?_; (case hd => rfl); (case hg => rfl); (case hr => first | (go_simp; done) | (go_simp; rfl)); intro gb148 hg w18 hbox hb; have n0_ := bkb BK147 hb; have n1_ := Aside0.mk (below_step (bz) hb); have n2_ := Aside0.mk (hbox); have n3_ : Aside0 (w.heap.size ≤ gb148) := bsg hg; have n4_ : Aside0 (w.heap.size ≤ gb148) := bsg hg; have n5_ := nlt hg BK147; have n6_ := ngt hg BK147; clear BK147; clear HB; have BK147 := n0_; have HB := n1_; have BK148 := n2_; have GW148 := n3_; have GE148 := n4_; have NB147_148 := n5_; have NB148_147 := n6_; clear n0_ n1_ n2_ n3_ n4_ n5_ n6_; clear hb hbox hg; have hnb19 := NB147_148.out; have hnc19 := NB148_147.out; have hcz20_0 : w18.cell? ⟨gb147, 0, none⟩ = some (.int .i64 a0_0) := (blk_cell BK147.out 0).trans rfl; have hcz20_1 : w18.cell? ⟨gb147, 1, none⟩ = some (.string a0_1) := (blk_cell BK147.out 1).trans rfl; have hcz20_2 : w18.cell? ⟨gb147, 2, none⟩ = some (.int .i64 a0_2) := (blk_cell BK147.out 2).trans rfl; have hcz20_3 : w18.cell? ⟨gb147, 3, none⟩ = some (.int .i64 a0_3) := (blk_cell BK147.out 3).trans rfl; have hfz20_0 := blk_frozen BK147.out 0; have hfz20_1 := blk_frozen BK147.out 1; have hfz20_2 := blk_frozen BK147.out 2; have hfz20_3 := blk_frozen BK147.out 3; have hcz21_0 : w18.cell? ⟨gb148, 0, none⟩ = some (.int .i64 a1_0) := (blk_cell BK148.out 0).trans rfl; have hcz21_1 : w18.cell? ⟨gb148, 1, none⟩ = some (.string a1_1) := (blk_cell BK148.out 1).trans rfl; have hcz21_2 : w18.cell? ⟨gb148, 2, none⟩ = some (.int .i64 a1_2) := (blk_cell BK148.out 2).trans rfl; have hcz21_3 : w18.cell? ⟨gb148, 3, none⟩ = some (.int .i64 a1_3) := (blk_cell BK148.out 3).trans rfl; have hfz21_0 := blk_frozen BK148.out 0; have hfz21_1 := blk_frozen BK148.out 1; have hfz21_2 := blk_frozen BK148.out 2; have hfz21_3 := blk_frozen BK148.out 3))
    go_ret
    exact ⟨by first | rfl | (simp only [u8w, w64m]; rfl) | (simp [errW_none, errW_some] <;> rfl) | (simp [*, errW_none, errW_some] <;> rfl), bz⟩
  ·
   rw [if_neg c4] at H
   have c4b0 : (a0_1.toList == a1_1.toList) = false := beq_eq_false_iff_ne.mpr c4
   have c4b1 : (a0_1.toList != a1_1.toList) = true := bne_iff_ne.mpr c4
   obtain rfl := Option.some.inj H
   go_enter Try.func82, Try.ntmps82
   go_wp2_with (first | ((with_reducible refine gate_dst (N := 2) rfl ?_); refine box_event ?hg (N := 2) ?hd (cs := #[.int .i64 a0_0, .string a0_1, .int .i64 a0_2, .int .i64 a0_3]) (t := 55) ?hr ?_; (case hd => rfl); (case hg => rfl); (case hr => first | (go_simp; done) | (go_simp; rfl)); intro gb147 hg w22 hbox hb; have n0_ := Aside0.mk (below_step (bz) hb); have n1_ := Aside0.mk (hbox); have n2_ : Aside0 (w.heap.size ≤ gb147) := bsg hg; have n3_ : Aside0 (w.heap.size ≤ gb147) := bsg hg; clear HB; have HB := n0_; have BK147 := n1_; have GW147 := n2_; have GE147 := n3_; clear n0_ n1_ n2_ n3_; clear hb hbox hg) | ((with_reducible refine gate_dst (N := 3) rfl ?_); refine box_event ?hg (N := 3) ?hd (cs := #[.int .i64 a1_0, .string a1_1, .int .i64 a1_2, .int .i64 a1_3]) (t := 55) ?hr ?_; (case hd => rfl); (case hg => rfl); (case hr => first | (go_simp; done) | (go_simp; rfl)); intro gb148 hg w23 hbox hb; have n0_ := bkb BK147 hb; have n1_ := Aside0.mk (below_step (bz) hb); have n2_ := Aside0.mk (hbox); have n3_ : Aside0 (w.heap.size ≤ gb148) := bsg hg; have n4_ : Aside0 (w.heap.size ≤ gb148) := bsg hg; have n5_ := nlt hg BK147; have n6_ := ngt hg BK147; clear BK147; clear HB; have BK147 := n0_; have HB := n1_; have BK148 := n2_; have GW148 := n3_; have GE148 := n4_; have NB147_148 := n5_; have NB148_147 := n6_; clear n0_ n1_ n2_ n3_ n4_ n5_ n6_; clear hb hbox hg; have hnb24 := NB147_148.out; have hnc24 := NB148_147.out; have hcz25_0 : w23.cell? ⟨gb147, 0, none⟩ = some (.int .i64 a0_0) := (blk_cell BK147.out 0).trans rfl; have hcz25_1 : w23.cell? ⟨gb147, 1, none⟩ = some (.string a0_1) := (blk_cell BK147.out 1).trans rfl; have hcz25_2 : w23.cell? ⟨gb147, 2, none⟩ = some (.int .i64 a0_2) := (blk_cell BK147.out 2).trans rfl; have hcz25_3 : w23.cell? ⟨gb147, 3, none⟩ = some (.int .i64 a0_3) := (blk_cell BK147.out 3).trans rfl; have hfz25_0 := blk_frozen BK147.out 0; have hfz25_1 := blk_frozen BK147.out 1; have hfz25_2 := blk_frozen BK147.out 2; have hfz25_3 := blk_frozen BK147.out 3; have hcz26_0 : w23.cell? ⟨gb148, 0, none⟩ = some (.int .i64 a1_0) := (blk_cell BK148.out 0).trans rfl; have hcz26_1 : w23.cell? ⟨gb148, 1, none⟩ = some (.string a1_1) := (blk_cell BK148.out 1).trans rfl; have hcz26_2 : w23.cell? ⟨gb148, 2, none⟩ = some (.int .i64 a1_2) := (blk_cell BK148.out 2).trans rfl; have hcz26_3 : w23.cell? ⟨gb148, 3, none⟩ = some (.int .i64 a1_3) := (blk_cell BK148.out 3).trans rfl; have hfz26_0 := blk_frozen BK148.out 0; have hfz26_1 := blk_frozen BK148.out 1; have hfz26_2 := blk_frozen BK148.out 2; have hfz26_3 := blk_frozen BK148.out 3))
   go_ret
   exact ⟨by first | rfl | (simp only [u8w, w64m]; rfl) | (simp [errW_none, errW_some] <;> rfl) | (simp [*, errW_none, errW_some] <;> rfl), bz⟩
 ·
  rw [if_neg c3] at H
  have c3b0 : (a0_0 == a1_0) = false := beq_eq_false_iff_ne.mpr c3
  have c3b1 : (a0_0 != a1_0) = true := bne_iff_ne.mpr c3
  obtain rfl := Option.some.inj H
  go_enter Try.func82, Try.ntmps82
  go_wp2_with (first | ((with_reducible refine gate_dst (N := 2) rfl ?_); refine box_event ?hg (N := 2) ?hd (cs := #[.int .i64 a0_0, .string a0_1, .int .i64 a0_2, .int .i64 a0_3]) (t := 55) ?hr ?_; (case hd => rfl); (case hg => rfl); (case hr => first | (go_simp; done) | (go_simp; rfl)); intro gb147 hg w27 hbox hb; have n0_ := Aside0.mk (below_step (bz) hb); have n1_ := Aside0.mk (hbox); have n2_ : Aside0 (w.heap.size ≤ gb147) := bsg hg; have n3_ : Aside0 (w.heap.size ≤ gb147) := bsg hg; clear HB; have HB := n0_; have BK147 := n1_; have GW147 := n2_; have GE147 := n3_; clear n0_ n1_ n2_ n3_; clear hb hbox hg) | ((with_reducible refine gate_dst (N := 3) rfl ?_); refine box_event ?hg (N := 3) ?hd (cs := #[.int .i64 a1_0, .string a1_1, .int .i64 a1_2, .int .i64 a1_3]) (t := 55) ?hr ?_; (case hd => rfl); (case hg => rfl); (case hr => first | (go_simp; done) | (go_simp; rfl)); intro gb148 hg w28 hbox hb; have n0_ := bkb BK147 hb; have n1_ := Aside0.mk (below_step (bz) hb); have n2_ := Aside0.mk (hbox); have n3_ : Aside0 (w.heap.size ≤ gb148) := bsg hg; have n4_ : Aside0 (w.heap.size ≤ gb148) := bsg hg; have n5_ := nlt hg BK147; have n6_ := ngt hg BK147; clear BK147; clear HB; have BK147 := n0_; have HB := n1_; have BK148 := n2_; have GW148 := n3_; have GE148 := n4_; have NB147_148 := n5_; have NB148_147 := n6_; clear n0_ n1_ n2_ n3_ n4_ n5_ n6_; clear hb hbox hg; have hnb29 := NB147_148.out; have hnc29 := NB148_147.out; have hcz30_0 : w28.cell? ⟨gb147, 0, none⟩ = some (.int .i64 a0_0) := (blk_cell BK147.out 0).trans rfl; have hcz30_1 : w28.cell? ⟨gb147, 1, none⟩ = some (.string a0_1) := (blk_cell BK147.out 1).trans rfl; have hcz30_2 : w28.cell? ⟨gb147, 2, none⟩ = some (.int .i64 a0_2) := (blk_cell BK147.out 2).trans rfl; have hcz30_3 : w28.cell? ⟨gb147, 3, none⟩ = some (.int .i64 a0_3) := (blk_cell BK147.out 3).trans rfl; have hfz30_0 := blk_frozen BK147.out 0; have hfz30_1 := blk_frozen BK147.out 1; have hfz30_2 := blk_frozen BK147.out 2; have hfz30_3 := blk_frozen BK147.out 3; have hcz31_0 : w28.cell? ⟨gb148, 0, none⟩ = some (.int .i64 a1_0) := (blk_cell BK148.out 0).trans rfl; have hcz31_1 : w28.cell? ⟨gb148, 1, none⟩ = some (.string a1_1) := (blk_cell BK148.out 1).trans rfl; have hcz31_2 : w28.cell? ⟨gb148, 2, none⟩ = some (.int .i64 a1_2) := (blk_cell BK148.out 2).trans rfl; have hcz31_3 : w28.cell? ⟨gb148, 3, none⟩ = some (.int .i64 a1_3) := (blk_cell BK148.out 3).trans rfl; have hfz31_0 := blk_frozen BK148.out 0; have hfz31_1 := blk_frozen BK148.out 1; have hfz31_2 := blk_frozen BK148.out 2; have hfz31_3 := blk_frozen BK148.out 3))
  go_ret
  exact ⟨by first | rfl | (simp only [u8w, w64m]; rfl) | (simp [errW_none, errW_some] <;> rfl) | (simp [*, errW_none, errW_some] <;> rfl), bz⟩

/-! ### laws_eqCaller: function 40 -/
def laws_eqCaller.f (k : Nat) (l0_0 : List (S43)) (a0_1 : Int) (a0_2 : Bool) (a0_3 : Int) (a0_4 : ByteArray) (a0_5 : Int) (a0_6 : Int) (a0_7 : Int) (l1_0 : List (S43)) (a1_1 : Int) (a1_2 : Bool) (a1_3 : Int) (a1_4 : ByteArray) (a1_5 : Int) (a1_6 : Int) (a1_7 : Int) : Option (Bool) := (laws_eqRouteS.f k l0_0 l1_0).bind fun t151 => (if t151 = true then (if a0_1 = a1_1 then (if (a0_2 != a1_2) = true then (some false) else ((laws_eqCommand.f a0_3 a0_4 a0_5 a0_6 a1_3 a1_4 a1_5 a1_6).bind fun t152 => (if t152 = true then (if a0_7 = a1_7 then (some true) else (some false)) else (some false)))) else (some false)) else (some false))
theorem laws_eqCaller.mono : ∀ a0 a1 a2 a3 a4 a5 a6 a7 a8 a9 a10 a11 a12 a13 a14 a15 k, LeO (laws_eqCaller.f k a0 a1 a2 a3 a4 a5 a6 a7 a8 a9 a10 a11 a12 a13 a14 a15) (laws_eqCaller.f (k + 1) a0 a1 a2 a3 a4 a5 a6 a7 a8 a9 a10 a11 a12 a13 a14 a15) := by
 intro a0 a1 a2 a3 a4 a5 a6 a7 a8 a9 a10 a11 a12 a13 a14 a15 k
 unfold laws_eqCaller.f
 repeat' first
   | (with_reducible exact laws_eqRouteS.mono _ _ _)
   | (with_reducible exact LeO.refl _)
   | (with_reducible exact LeO.none _)
   | (with_reducible refine LeO.ite ?_ ?_)
   | (with_reducible refine LeO.bind ?_ (fun _ => ?_))
   | exact laws_eqRouteS.mono _ _ _
   | exact LeO.none _
   | refine LeO.ite ?_ ?_
   | refine LeO.bind ?_ (fun _ => ?_)
set_option maxHeartbeats 8000000 in
set_option maxRecDepth 100000 in
theorem laws_eqCaller.calls (k : Nat) (A0_0 : Option Addr) (c0_0 : Nat) (l0_0 : List (S43)) (a0_1 : Int) (a0_2 : Bool) (a0_3 : Int) (a0_4 : ByteArray) (a0_5 : Int) (a0_6 : Int) (a0_7 : Int) (A1_0 : Option Addr) (c1_0 : Nat) (l1_0 : List (S43)) (a1_1 : Int) (a1_2 : Bool) (a1_3 : Int) (a1_4 : ByteArray) (a1_5 : Int) (a1_6 : Int) (a1_7 : Int) (r : Bool) (w : World) (hr0_0 : Kd.C k43 w A0_0 l0_0.length l0_0) (hc0_0 : l0_0.length ≤ c0_0) (hr1_0 : Kd.C k43 w A1_0 l1_0.length l1_0) (hc1_0 : l1_0.length ≤ c1_0) (h : laws_eqCaller.f k l0_0 a0_1 a0_2 a0_3 a0_4 a0_5 a0_6 a0_7 l1_0 a1_1 a1_2 a1_3 a1_4 a1_5 a1_6 a1_7 = some r) :
  Calls Try.prog 40 #[.agg #[.slice A0_0 l0_0.length c0_0, .int .i64 a0_1, .bool a0_2, .int .i64 a0_3, .string a0_4, .int .i64 a0_5, .int .i64 a0_6, .int .i64 a0_7], .agg #[.slice A1_0 l1_0.length c1_0, .int .i64 a1_1, .bool a1_2, .int .i64 a1_3, .string a1_4, .int .i64 a1_5, .int .i64 a1_6, .int .i64 a1_7]] w fun e w' => e = .returned (.bool r) ∧ Below w.heap.size w w' := by
 have hu57 := Try.underlying57
 have hu55 := Try.underlying55
 have HR0_0 := Aside0.mk hr0_0
 have HC0_0 := Aside0.mk hc0_0
 clear hr0_0 hc0_0
 have HR1_0 := Aside0.mk hr1_0
 have HC1_0 := Aside0.mk hc1_0
 clear hr1_0 hc1_0
 have HB := Aside0.mk (Below.refl w.heap.size w)
 have H : ((laws_eqRouteS.f k l0_0 l1_0).bind fun t151 => (if t151 = true then (if a0_1 = a1_1 then (if (a0_2 != a1_2) = true then (some false) else ((laws_eqCommand.f a0_3 a0_4 a0_5 a0_6 a1_3 a1_4 a1_5 a1_6).bind fun t152 => (if t152 = true then (if a0_7 = a1_7 then (some true) else (some false)) else (some false)))) else (some false)) else (some false))) = some r := h
 clear h
 replace H := Option.bind_eq_some_iff.mp H
 obtain ⟨t151, A30, H⟩ := H
 try dsimp only at H
 have A3 := Aside0.mk A30
 clear A30
 by_cases c4 : t151 = true
 ·
  subst c4
  rw [if_pos rfl] at H
  by_cases c5 : a0_1 = a1_1
  ·
   rw [if_pos c5] at H
   have c5b0 : (a0_1 == a1_1) = true := beq_iff_eq.mpr c5
   have c5b1 : (a0_1 != a1_1) = false := bne_eq_false_iff_eq.mpr c5
   clear c5
   by_cases c6 : (a0_2 != a1_2) = true
   ·
    rw [if_pos c6] at H
    have c6b0 : (a0_2 != a1_2) = true := c6
    (try (have c6b1 : decide (a0_2 = a1_2) = false := by simpa using c6))
    (try (have c6b2 : (a0_2 == a1_2) = false := by simpa using c6))
    (try (have c6b3 : ¬ (a0_2 = a1_2) := by simpa using c6))
    clear c6
    obtain rfl := Option.some.inj H
    go_enter Try.func40, Try.ntmps40
    go_wp2_with (first | ((with_reducible refine gate_dst (N := 2) rfl ?_); refine box_event ?hg (N := 2) ?hd (cs := #[.slice A0_0 l0_0.length c0_0, .int .i64 a0_1, .bool a0_2, .int .i64 a0_3, .string a0_4, .int .i64 a0_5, .int .i64 a0_6, .int .i64 a0_7]) (t := 57) ?hr ?_; (case hd => rfl); (case hg => rfl); (case hr => first | (go_simp; done) | (go_simp; rfl)); intro gb149 hg w7 hbox hb; have n0_ := Aside0.mk (below_step (bz) hb); have n1_ := Aside0.mk (hbox); have n2_ : Aside0 (w.heap.size ≤ gb149) := bsg hg; have n3_ : Aside0 (w.heap.size ≤ gb149) := bsg hg; clear HB; have HB := n0_; have BK149 := n1_; have GW149 := n2_; have GE149 := n3_; clear n0_ n1_ n2_ n3_; clear hb hbox hg) | ((with_reducible refine gate_dst (N := 3) rfl ?_); refine box_event ?hg (N := 3) ?hd (cs := #[.slice A1_0 l1_0.length c1_0, .int .i64 a1_1, .bool a1_2, .int .i64 a1_3, .string a1_4, .int .i64 a1_5, .int .i64 a1_6, .int .i64 a1_7]) (t := 57) ?hr ?_; (case hd => rfl); (case hg => rfl); (case hr => first | (go_simp; done) | (go_simp; rfl)); intro gb150 hg w8 hbox hb; have n0_ := bkb BK149 hb; have n1_ := Aside0.mk (below_step (bz) hb); have n2_ := Aside0.mk (hbox); have n3_ : Aside0 (w.heap.size ≤ gb150) := bsg hg; have n4_ : Aside0 (w.heap.size ≤ gb150) := bsg hg; have n5_ := nlt hg BK149; have n6_ := ngt hg BK149; clear BK149; clear HB; have BK149 := n0_; have HB := n1_; have BK150 := n2_; have GW150 := n3_; have GE150 := n4_; have NB149_150 := n5_; have NB150_149 := n6_; clear n0_ n1_ n2_ n3_ n4_ n5_ n6_; clear hb hbox hg; have hnb9 := NB149_150.out; have hnc9 := NB150_149.out; have hcz10_0 : w8.cell? ⟨gb149, 0, none⟩ = some (.slice A0_0 l0_0.length c0_0) := (blk_cell BK149.out 0).trans rfl; have hcz10_1 : w8.cell? ⟨gb149, 1, none⟩ = some (.int .i64 a0_1) := (blk_cell BK149.out 1).trans rfl; have hcz10_2 : w8.cell? ⟨gb149, 2, none⟩ = some (.bool a0_2) := (blk_cell BK149.out 2).trans rfl; have hcz10_3 : w8.cell? ⟨gb149, 3, none⟩ = some (.int .i64 a0_3) := (blk_cell BK149.out 3).trans rfl; have hcz10_4 : w8.cell? ⟨gb149, 4, none⟩ = some (.string a0_4) := (blk_cell BK149.out 4).trans rfl; have hcz10_5 : w8.cell? ⟨gb149, 5, none⟩ = some (.int .i64 a0_5) := (blk_cell BK149.out 5).trans rfl; have hcz10_6 : w8.cell? ⟨gb149, 6, none⟩ = some (.int .i64 a0_6) := (blk_cell BK149.out 6).trans rfl; have hcz10_7 : w8.cell? ⟨gb149, 7, none⟩ = some (.int .i64 a0_7) := (blk_cell BK149.out 7).trans rfl; have hfz10_0 := blk_frozen BK149.out 0; have hfz10_1 := blk_frozen BK149.out 1; have hfz10_2 := blk_frozen BK149.out 2; have hfz10_3 := blk_frozen BK149.out 3; have hfz10_4 := blk_frozen BK149.out 4; have hfz10_5 := blk_frozen BK149.out 5; have hfz10_6 := blk_frozen BK149.out 6; have hfz10_7 := blk_frozen BK149.out 7; have hcz11_0 : w8.cell? ⟨gb150, 0, none⟩ = some (.slice A1_0 l1_0.length c1_0) := (blk_cell BK150.out 0).trans rfl; have hcz11_1 : w8.cell? ⟨gb150, 1, none⟩ = some (.int .i64 a1_1) := (blk_cell BK150.out 1).trans rfl; have hcz11_2 : w8.cell? ⟨gb150, 2, none⟩ = some (.bool a1_2) := (blk_cell BK150.out 2).trans rfl; have hcz11_3 : w8.cell? ⟨gb150, 3, none⟩ = some (.int .i64 a1_3) := (blk_cell BK150.out 3).trans rfl; have hcz11_4 : w8.cell? ⟨gb150, 4, none⟩ = some (.string a1_4) := (blk_cell BK150.out 4).trans rfl; have hcz11_5 : w8.cell? ⟨gb150, 5, none⟩ = some (.int .i64 a1_5) := (blk_cell BK150.out 5).trans rfl; have hcz11_6 : w8.cell? ⟨gb150, 6, none⟩ = some (.int .i64 a1_6) := (blk_cell BK150.out 6).trans rfl; have hcz11_7 : w8.cell? ⟨gb150, 7, none⟩ = some (.int .i64 a1_7) := (blk_cell BK150.out 7).trans rfl; have hfz11_0 := blk_frozen BK150.out 0; have hfz11_1 := blk_frozen BK150.out 1; have hfz11_2 := blk_frozen BK150.out 2; have hfz11_3 := blk_frozen BK150.out 3; have hfz11_4 := blk_frozen BK150.out 4; have hfz11_5 := blk_frozen BK150.out 5; have hfz11_6 := blk_frozen BK150.out 6; have hfz11_7 := blk_frozen BK150.out 7) | ((with_reducible refine gate_callee (f := 19) rfl ?_); refine goesL_ (some 9) rfl rfl Try.func19 (by kernel_rfl) rfl #[.slice A0_0 l0_0.length c0_0, .slice A1_0 l1_0.length c1_0] rfl (by (try simp only [List.map_toArray, List.map_cons, List.map_nil]); first | done | rfl | (simp only [List.length_drop, List.length_take]; rfl)) ?_; (with_reducible refine (laws_eqRouteS.calls k _ _ l0_0 _ _ l1_0 true _ ?side1 ?side2 ?side3 ?side4 A3.out).mono ?_); (case side1 => repeat (first | exact (Kd.C_below HR0_0.out HB.out) | (with_reducible refine Kd.C_alloc ?_ _) | (with_reducible refine Kd.C_drewN ?_ _) | (with_reducible refine Kd.C_drew ?_))); (case side2 => exact HC0_0.out); (case side3 => repeat (first | exact (Kd.C_below HR1_0.out HB.out) | (with_reducible refine Kd.C_alloc ?_ _) | (with_reducible refine Kd.C_drewN ?_ _) | (with_reducible refine Kd.C_drew ?_))); (case side4 => exact HC1_0.out); rintro e w12 ⟨rfl, hb⟩; refine ⟨_, rfl, ?_⟩; have n0_ := bkb BK149 hb; have n1_ := bkb BK150 hb; have n2_ := Aside0.mk (below_step (bz) hb); clear BK149; clear BK150; clear HB; have BK149 := n0_; have BK150 := n1_; have HB := n2_; clear n0_ n1_ n2_; (try clear hb); (try clear hb2); (try clear hk); (try clear hi); have hcz13_0 : w12.cell? ⟨gb149, 0, none⟩ = some (.slice A0_0 l0_0.length c0_0) := (blk_cell BK149.out 0).trans rfl; have hcz13_1 : w12.cell? ⟨gb149, 1, none⟩ = some (.int .i64 a0_1) := (blk_cell BK149.out 1).trans rfl; have hcz13_2 : w12.cell? ⟨gb149, 2, none⟩ = some (.bool a0_2) := (blk_cell BK149.out 2).trans rfl; have hcz13_3 : w12.cell? ⟨gb149, 3, none⟩ = some (.int .i64 a0_3) := (blk_cell BK149.out 3).trans rfl; have hcz13_4 : w12.cell? ⟨gb149, 4, none⟩ = some (.string a0_4) := (blk_cell BK149.out 4).trans rfl; have hcz13_5 : w12.cell? ⟨gb149, 5, none⟩ = some (.int .i64 a0_5) := (blk_cell BK149.out 5).trans rfl; have hcz13_6 : w12.cell? ⟨gb149, 6, none⟩ = some (.int .i64 a0_6) := (blk_cell BK149.out 6).trans rfl; have hcz13_7 : w12.cell? ⟨gb149, 7, none⟩ = some (.int .i64 a0_7) := (blk_cell BK149.out 7).trans rfl; have hfz13_0 := blk_frozen BK149.out 0; have hfz13_1 := blk_frozen BK149.out 1; have hfz13_2 := blk_frozen BK149.out 2; have hfz13_3 := blk_frozen BK149.out 3; have hfz13_4 := blk_frozen BK149.out 4; have hfz13_5 := blk_frozen BK149.out 5; have hfz13_6 := blk_frozen BK149.out 6; have hfz13_7 := blk_frozen BK149.out 7; have hcz14_0 : w12.cell? ⟨gb150, 0, none⟩ = some (.slice A1_0 l1_0.length c1_0) := (blk_cell BK150.out 0).trans rfl; have hcz14_1 : w12.cell? ⟨gb150, 1, none⟩ = some (.int .i64 a1_1) := (blk_cell BK150.out 1).trans rfl; have hcz14_2 : w12.cell? ⟨gb150, 2, none⟩ = some (.bool a1_2) := (blk_cell BK150.out 2).trans rfl; have hcz14_3 : w12.cell? ⟨gb150, 3, none⟩ = some (.int .i64 a1_3) := (blk_cell BK150.out 3).trans rfl; have hcz14_4 : w12.cell? ⟨gb150, 4, none⟩ = some (.string a1_4) := (blk_cell BK150.out 4).trans rfl; have hcz14_5 : w12.cell? ⟨gb150, 5, none⟩ = some (.int .i64 a1_5) := (blk_cell BK150.out 5).trans rfl; have hcz14_6 : w12.cell? ⟨gb150, 6, none⟩ = some (.int .i64 a1_6) := (blk_cell BK150.out 6).trans rfl; have hcz14_7 : w12.cell? ⟨gb150, 7, none⟩ = some (.int .i64 a1_7) := (blk_cell BK150.out 7).trans rfl; have hfz14_0 := blk_frozen BK150.out 0; have hfz14_1 := blk_frozen BK150.out 1; have hfz14_2 := blk_frozen BK150.out 2; have hfz14_3 := blk_frozen BK150.out 3; have hfz14_4 := blk_frozen BK150.out 4; have hfz14_5 := blk_frozen BK150.out 5; have hfz14_6 := blk_frozen BK150.out 6; have hfz14_7 := blk_frozen BK150.out 7))
    go_ret
    exact ⟨by first | rfl | (simp only [u8w, w64m]; rfl) | (simp [errW_none, errW_some] <;> rfl) | (simp [*, errW_none, errW_some] <;> rfl), bz⟩
   ·
    rw [if_neg c6] at H
    have c6b0 : (a0_2 != a1_2) = false := by simpa using c6
    (try (have c6b1 : decide (a0_2 = a1_2) = true := by simpa using c6))
    (try (have c6b2 : (a0_2 == a1_2) = true := by simpa using c6))
    clear c6
    replace H := Option.bind_eq_some_iff.mp H
    obtain ⟨t152, A150, H⟩ := H
    try dsimp only at H
    have A15 := Aside0.mk A150
    clear A150
    by_cases c16 : t152 = true
    ·
     subst c16
     rw [if_pos rfl] at H
     by_cases c17 : a0_7 = a1_7
     ·
      rw [if_pos c17] at H
      have c17b0 : (a0_7 == a1_7) = true := beq_iff_eq.mpr c17
      have c17b1 : (a0_7 != a1_7) = false := bne_eq_false_iff_eq.mpr c17
      clear c17
      obtain rfl := Option.some.inj H
      go_enter Try.func40, Try.ntmps40
      go_wp2_with (first | ((with_reducible refine gate_dst (N := 2) rfl ?_); refine box_event ?hg (N := 2) ?hd (cs := #[.slice A0_0 l0_0.length c0_0, .int .i64 a0_1, .bool a0_2, .int .i64 a0_3, .string a0_4, .int .i64 a0_5, .int .i64 a0_6, .int .i64 a0_7]) (t := 57) ?hr ?_; (case hd => rfl); (case hg => rfl); (case hr => first | (go_simp; done) | (go_simp; rfl)); intro gb149 hg w18 hbox hb; have n0_ := Aside0.mk (below_step (bz) hb); have n1_ := Aside0.mk (hbox); have n2_ : Aside0 (w.heap.size ≤ gb149) := bsg hg; have n3_ : Aside0 (w.heap.size ≤ gb149) := bsg hg; clear HB; have HB := n0_; have BK149 := n1_; have GW149 := n2_; have GE149 := n3_; clear n0_ n1_ n2_ n3_; clear hb hbox hg) | ((with_reducible refine gate_dst (N := 3) rfl ?_); refine box_event ?hg (N := 3) ?hd (cs := #[.slice A1_0 l1_0.length c1_0, .int .i64 a1_1, .bool a1_2, .int .i64 a1_3, .string a1_4, .int .i64 a1_5, .int .i64 a1_6, .int .i64 a1_7]) (t := 57) ?hr ?_; (case hd => rfl); (case hg => rfl); (case hr => first | (go_simp; done) | (go_simp; rfl)); intro gb150 hg w19 hbox hb; have n0_ := bkb BK149 hb; have n1_ := Aside0.mk (below_step (bz) hb); have n2_ := Aside0.mk (hbox); have n3_ : Aside0 (w.heap.size ≤ gb150) := bsg hg; have n4_ : Aside0 (w.heap.size ≤ gb150) := bsg hg; have n5_ := nlt hg BK149; have n6_ := ngt hg BK149; clear BK149; clear HB; have BK149 := n0_; have HB := n1_; have BK150 := n2_; have GW150 := n3_; have GE150 := n4_; have NB149_150 := n5_; have NB150_149 := n6_; clear n0_ n1_ n2_ n3_ n4_ n5_ n6_; clear hb hbox hg; have hnb20 := NB149_150.out; have hnc20 := NB150_149.out; have hcz21_0 : w19.cell? ⟨gb149, 0, none⟩ = some (.slice A0_0 l0_0.length c0_0) := (blk_cell BK149.out 0).trans rfl; have hcz21_1 : w19.cell? ⟨gb149, 1, none⟩ = some (.int .i64 a0_1) := (blk_cell BK149.out 1).trans rfl; have hcz21_2 : w19.cell? ⟨gb149, 2, none⟩ = some (.bool a0_2) := (blk_cell BK149.out 2).trans rfl; have hcz21_3 : w19.cell? ⟨gb149, 3, none⟩ = some (.int .i64 a0_3) := (blk_cell BK149.out 3).trans rfl; have hcz21_4 : w19.cell? ⟨gb149, 4, none⟩ = some (.string a0_4) := (blk_cell BK149.out 4).trans rfl; have hcz21_5 : w19.cell? ⟨gb149, 5, none⟩ = some (.int .i64 a0_5) := (blk_cell BK149.out 5).trans rfl; have hcz21_6 : w19.cell? ⟨gb149, 6, none⟩ = some (.int .i64 a0_6) := (blk_cell BK149.out 6).trans rfl; have hcz21_7 : w19.cell? ⟨gb149, 7, none⟩ = some (.int .i64 a0_7) := (blk_cell BK149.out 7).trans rfl; have hfz21_0 := blk_frozen BK149.out 0; have hfz21_1 := blk_frozen BK149.out 1; have hfz21_2 := blk_frozen BK149.out 2; have hfz21_3 := blk_frozen BK149.out 3; have hfz21_4 := blk_frozen BK149.out 4; have hfz21_5 := blk_frozen BK149.out 5; have hfz21_6 := blk_frozen BK149.out 6; have hfz21_7 := blk_frozen BK149.out 7; have hcz22_0 : w19.cell? ⟨gb150, 0, none⟩ = some (.slice A1_0 l1_0.length c1_0) := (blk_cell BK150.out 0).trans rfl; have hcz22_1 : w19.cell? ⟨gb150, 1, none⟩ = some (.int .i64 a1_1) := (blk_cell BK150.out 1).trans rfl; have hcz22_2 : w19.cell? ⟨gb150, 2, none⟩ = some (.bool a1_2) := (blk_cell BK150.out 2).trans rfl; have hcz22_3 : w19.cell? ⟨gb150, 3, none⟩ = some (.int .i64 a1_3) := (blk_cell BK150.out 3).trans rfl; have hcz22_4 : w19.cell? ⟨gb150, 4, none⟩ = some (.string a1_4) := (blk_cell BK150.out 4).trans rfl; have hcz22_5 : w19.cell? ⟨gb150, 5, none⟩ = some (.int .i64 a1_5) := (blk_cell BK150.out 5).trans rfl; have hcz22_6 : w19.cell? ⟨gb150, 6, none⟩ = some (.int .i64 a1_6) := (blk_cell BK150.out 6).trans rfl; have hcz22_7 : w19.cell? ⟨gb150, 7, none⟩ = some (.int .i64 a1_7) := (blk_cell BK150.out 7).trans rfl; have hfz22_0 := blk_frozen BK150.out 0; have hfz22_1 := blk_frozen BK150.out 1; have hfz22_2 := blk_frozen BK150.out 2; have hfz22_3 := blk_frozen BK150.out 3; have hfz22_4 := blk_frozen BK150.out 4; have hfz22_5 := blk_frozen BK150.out 5; have hfz22_6 := blk_frozen BK150.out 6; have hfz22_7 := blk_frozen BK150.out 7) | ((with_reducible refine gate_callee (f := 19) rfl ?_); refine goesL_ (some 9) rfl rfl Try.func19 (by kernel_rfl) rfl #[.slice A0_0 l0_0.length c0_0, .slice A1_0 l1_0.length c1_0] rfl (by (try simp only [List.map_toArray, List.map_cons, List.map_nil]); first | done | rfl | (simp only [List.length_drop, List.length_take]; rfl)) ?_; (with_reducible refine (laws_eqRouteS.calls k _ _ l0_0 _ _ l1_0 true _ ?side1 ?side2 ?side3 ?side4 A3.out).mono ?_); (case side1 => repeat (first | exact (Kd.C_below HR0_0.out HB.out) | (with_reducible refine Kd.C_alloc ?_ _) | (with_reducible refine Kd.C_drewN ?_ _) | (with_reducible refine Kd.C_drew ?_))); (case side2 => exact HC0_0.out); (case side3 => repeat (first | exact (Kd.C_below HR1_0.out HB.out) | (with_reducible refine Kd.C_alloc ?_ _) | (with_reducible refine Kd.C_drewN ?_ _) | (with_reducible refine Kd.C_drew ?_))); (case side4 => exact HC1_0.out); rintro e w23 ⟨rfl, hb⟩; refine ⟨_, rfl, ?_⟩; have n0_ := bkb BK149 hb; have n1_ := bkb BK150 hb; have n2_ := Aside0.mk (below_step (bz) hb); clear BK149; clear BK150; clear HB; have BK149 := n0_; have BK150 := n1_; have HB := n2_; clear n0_ n1_ n2_; (try clear hb); (try clear hb2); (try clear hk); (try clear hi); have hcz24_0 : w23.cell? ⟨gb149, 0, none⟩ = some (.slice A0_0 l0_0.length c0_0) := (blk_cell BK149.out 0).trans rfl; have hcz24_1 : w23.cell? ⟨gb149, 1, none⟩ = some (.int .i64 a0_1) := (blk_cell BK149.out 1).trans rfl; have hcz24_2 : w23.cell? ⟨gb149, 2, none⟩ = some (.bool a0_2) := (blk_cell BK149.out 2).trans rfl; have hcz24_3 : w23.cell? ⟨gb149, 3, none⟩ = some (.int .i64 a0_3) := (blk_cell BK149.out 3).trans rfl; have hcz24_4 : w23.cell? ⟨gb149, 4, none⟩ = some (.string a0_4) := (blk_cell BK149.out 4).trans rfl; have hcz24_5 : w23.cell? ⟨gb149, 5, none⟩ = some (.int .i64 a0_5) := (blk_cell BK149.out 5).trans rfl; have hcz24_6 : w23.cell? ⟨gb149, 6, none⟩ = some (.int .i64 a0_6) := (blk_cell BK149.out 6).trans rfl; have hcz24_7 : w23.cell? ⟨gb149, 7, none⟩ = some (.int .i64 a0_7) := (blk_cell BK149.out 7).trans rfl; have hfz24_0 := blk_frozen BK149.out 0; have hfz24_1 := blk_frozen BK149.out 1; have hfz24_2 := blk_frozen BK149.out 2; have hfz24_3 := blk_frozen BK149.out 3; have hfz24_4 := blk_frozen BK149.out 4; have hfz24_5 := blk_frozen BK149.out 5; have hfz24_6 := blk_frozen BK149.out 6; have hfz24_7 := blk_frozen BK149.out 7; have hcz25_0 : w23.cell? ⟨gb150, 0, none⟩ = some (.slice A1_0 l1_0.length c1_0) := (blk_cell BK150.out 0).trans rfl; have hcz25_1 : w23.cell? ⟨gb150, 1, none⟩ = some (.int .i64 a1_1) := (blk_cell BK150.out 1).trans rfl; have hcz25_2 : w23.cell? ⟨gb150, 2, none⟩ = some (.bool a1_2) := (blk_cell BK150.out 2).trans rfl; have hcz25_3 : w23.cell? ⟨gb150, 3, none⟩ = some (.int .i64 a1_3) := (blk_cell BK150.out 3).trans rfl; have hcz25_4 : w23.cell? ⟨gb150, 4, none⟩ = some (.string a1_4) := (blk_cell BK150.out 4).trans rfl; have hcz25_5 : w23.cell? ⟨gb150, 5, none⟩ = some (.int .i64 a1_5) := (blk_cell BK150.out 5).trans rfl; have hcz25_6 : w23.cell? ⟨gb150, 6, none⟩ = some (.int .i64 a1_6) := (blk_cell BK150.out 6).trans rfl; have hcz25_7 : w23.cell? ⟨gb150, 7, none⟩ = some (.int .i64 a1_7) := (blk_cell BK150.out 7).trans rfl; have hfz25_0 := blk_frozen BK150.out 0; have hfz25_1 := blk_frozen BK150.out 1; have hfz25_2 := blk_frozen BK150.out 2; have hfz25_3 := blk_frozen BK150.out 3; have hfz25_4 := blk_frozen BK150.out 4; have hfz25_5 := blk_frozen BK150.out 5; have hfz25_6 := blk_frozen BK150.out 6; have hfz25_7 := blk_frozen BK150.out 7) | ((with_reducible refine gate_callee (f := 82) rfl ?_); refine goesL_ (some 25) rfl rfl Try.func82 (by kernel_rfl) rfl #[.agg #[.int .i64 a0_3, .string a0_4, .int .i64 a0_5, .int .i64 a0_6], .agg #[.int .i64 a1_3, .string a1_4, .int .i64 a1_5, .int .i64 a1_6]] rfl (by (try simp only [List.map_toArray, List.map_cons, List.map_nil]); first | done | rfl | (simp only [List.length_drop, List.length_take]; rfl)) ?_; (with_reducible refine (laws_eqCommand.calls a0_3 a0_4 a0_5 a0_6 a1_3 a1_4 a1_5 a1_6 true _ A15.out).mono ?_); rintro e w26 ⟨rfl, hb⟩; refine ⟨_, rfl, ?_⟩; have n0_ := bkb BK149 hb; have n1_ := bkb BK150 hb; have n2_ := Aside0.mk (below_step (bz) hb); clear BK149; clear BK150; clear HB; have BK149 := n0_; have BK150 := n1_; have HB := n2_; clear n0_ n1_ n2_; (try clear hb); (try clear hb2); (try clear hk); (try clear hi); have hcz27_0 : w26.cell? ⟨gb149, 0, none⟩ = some (.slice A0_0 l0_0.length c0_0) := (blk_cell BK149.out 0).trans rfl; have hcz27_1 : w26.cell? ⟨gb149, 1, none⟩ = some (.int .i64 a0_1) := (blk_cell BK149.out 1).trans rfl; have hcz27_2 : w26.cell? ⟨gb149, 2, none⟩ = some (.bool a0_2) := (blk_cell BK149.out 2).trans rfl; have hcz27_3 : w26.cell? ⟨gb149, 3, none⟩ = some (.int .i64 a0_3) := (blk_cell BK149.out 3).trans rfl; have hcz27_4 : w26.cell? ⟨gb149, 4, none⟩ = some (.string a0_4) := (blk_cell BK149.out 4).trans rfl; have hcz27_5 : w26.cell? ⟨gb149, 5, none⟩ = some (.int .i64 a0_5) := (blk_cell BK149.out 5).trans rfl; have hcz27_6 : w26.cell? ⟨gb149, 6, none⟩ = some (.int .i64 a0_6) := (blk_cell BK149.out 6).trans rfl; have hcz27_7 : w26.cell? ⟨gb149, 7, none⟩ = some (.int .i64 a0_7) := (blk_cell BK149.out 7).trans rfl; have hfz27_0 := blk_frozen BK149.out 0; have hfz27_1 := blk_frozen BK149.out 1; have hfz27_2 := blk_frozen BK149.out 2; have hfz27_3 := blk_frozen BK149.out 3; have hfz27_4 := blk_frozen BK149.out 4; have hfz27_5 := blk_frozen BK149.out 5; have hfz27_6 := blk_frozen BK149.out 6; have hfz27_7 := blk_frozen BK149.out 7; have hcz28_0 : w26.cell? ⟨gb150, 0, none⟩ = some (.slice A1_0 l1_0.length c1_0) := (blk_cell BK150.out 0).trans rfl; have hcz28_1 : w26.cell? ⟨gb150, 1, none⟩ = some (.int .i64 a1_1) := (blk_cell BK150.out 1).trans rfl; have hcz28_2 : w26.cell? ⟨gb150, 2, none⟩ = some (.bool a1_2) := (blk_cell BK150.out 2).trans rfl; have hcz28_3 : w26.cell? ⟨gb150, 3, none⟩ = some (.int .i64 a1_3) := (blk_cell BK150.out 3).trans rfl; have hcz28_4 : w26.cell? ⟨gb150, 4, none⟩ = some (.string a1_4) := (blk_cell BK150.out 4).trans rfl; have hcz28_5 : w26.cell? ⟨gb150, 5, none⟩ = some (.int .i64 a1_5) := (blk_cell BK150.out 5).trans rfl; have hcz28_6 : w26.cell? ⟨gb150, 6, none⟩ = some (.int .i64 a1_6) := (blk_cell BK150.out 6).trans rfl; have hcz28_7 : w26.cell? ⟨gb150, 7, none⟩ = some (.int .i64 a1_7) := (blk_cell BK150.out 7).trans rfl; have hfz28_0 := blk_frozen BK150.out 0; have hfz28_1 := blk_frozen BK150.out 1; have hfz28_2 := blk_frozen BK150.out 2; have hfz28_3 := blk_frozen BK150.out 3; have hfz28_4 := blk_frozen BK150.out 4; have hfz28_5 := blk_frozen BK150.out 5; have hfz28_6 := blk_frozen BK150.out 6; have hfz28_7 := blk_frozen BK150.out 7))
      go_ret
      exact ⟨by first | rfl | (simp only [u8w, w64m]; rfl) | (simp [errW_none, errW_some] <;> rfl) | (simp [*, errW_none, errW_some] <;> rfl), bz⟩
     ·
      rw [if_neg c17] at H
      have c17b0 : (a0_7 == a1_7) = false := beq_eq_false_iff_ne.mpr c17
      have c17b1 : (a0_7 != a1_7) = true := bne_iff_ne.mpr c17
      obtain rfl := Option.some.inj H
      go_enter Try.func40, Try.ntmps40
      go_wp2_with (first | ((with_reducible refine gate_dst (N := 2) rfl ?_); refine box_event ?hg (N := 2) ?hd (cs := #[.slice A0_0 l0_0.length c0_0, .int .i64 a0_1, .bool a0_2, .int .i64 a0_3, .string a0_4, .int .i64 a0_5, .int .i64 a0_6, .int .i64 a0_7]) (t := 57) ?hr ?_; (case hd => rfl); (case hg => rfl); (case hr => first | (go_simp; done) | (go_simp; rfl)); intro gb149 hg w29 hbox hb; have n0_ := Aside0.mk (below_step (bz) hb); have n1_ := Aside0.mk (hbox); have n2_ : Aside0 (w.heap.size ≤ gb149) := bsg hg; have n3_ : Aside0 (w.heap.size ≤ gb149) := bsg hg; clear HB; have HB := n0_; have BK149 := n1_; have GW149 := n2_; have GE149 := n3_; clear n0_ n1_ n2_ n3_; clear hb hbox hg) | ((with_reducible refine gate_dst (N := 3) rfl ?_); refine box_event ?hg (N := 3) ?hd (cs := #[.slice A1_0 l1_0.length c1_0, .int .i64 a1_1, .bool a1_2, .int .i64 a1_3, .string a1_4, .int .i64 a1_5, .int .i64 a1_6, .int .i64 a1_7]) (t := 57) ?hr ?_; (case hd => rfl); (case hg => rfl); (case hr => first | (go_simp; done) | (go_simp; rfl)); intro gb150 hg w30 hbox hb; have n0_ := bkb BK149 hb; have n1_ := Aside0.mk (below_step (bz) hb); have n2_ := Aside0.mk (hbox); have n3_ : Aside0 (w.heap.size ≤ gb150) := bsg hg; have n4_ : Aside0 (w.heap.size ≤ gb150) := bsg hg; have n5_ := nlt hg BK149; have n6_ := ngt hg BK149; clear BK149; clear HB; have BK149 := n0_; have HB := n1_; have BK150 := n2_; have GW150 := n3_; have GE150 := n4_; have NB149_150 := n5_; have NB150_149 := n6_; clear n0_ n1_ n2_ n3_ n4_ n5_ n6_; clear hb hbox hg; have hnb31 := NB149_150.out; have hnc31 := NB150_149.out; have hcz32_0 : w30.cell? ⟨gb149, 0, none⟩ = some (.slice A0_0 l0_0.length c0_0) := (blk_cell BK149.out 0).trans rfl; have hcz32_1 : w30.cell? ⟨gb149, 1, none⟩ = some (.int .i64 a0_1) := (blk_cell BK149.out 1).trans rfl; have hcz32_2 : w30.cell? ⟨gb149, 2, none⟩ = some (.bool a0_2) := (blk_cell BK149.out 2).trans rfl; have hcz32_3 : w30.cell? ⟨gb149, 3, none⟩ = some (.int .i64 a0_3) := (blk_cell BK149.out 3).trans rfl; have hcz32_4 : w30.cell? ⟨gb149, 4, none⟩ = some (.string a0_4) := (blk_cell BK149.out 4).trans rfl; have hcz32_5 : w30.cell? ⟨gb149, 5, none⟩ = some (.int .i64 a0_5) := (blk_cell BK149.out 5).trans rfl; have hcz32_6 : w30.cell? ⟨gb149, 6, none⟩ = some (.int .i64 a0_6) := (blk_cell BK149.out 6).trans rfl; have hcz32_7 : w30.cell? ⟨gb149, 7, none⟩ = some (.int .i64 a0_7) := (blk_cell BK149.out 7).trans rfl; have hfz32_0 := blk_frozen BK149.out 0; have hfz32_1 := blk_frozen BK149.out 1; have hfz32_2 := blk_frozen BK149.out 2; have hfz32_3 := blk_frozen BK149.out 3; have hfz32_4 := blk_frozen BK149.out 4; have hfz32_5 := blk_frozen BK149.out 5; have hfz32_6 := blk_frozen BK149.out 6; have hfz32_7 := blk_frozen BK149.out 7; have hcz33_0 : w30.cell? ⟨gb150, 0, none⟩ = some (.slice A1_0 l1_0.length c1_0) := (blk_cell BK150.out 0).trans rfl; have hcz33_1 : w30.cell? ⟨gb150, 1, none⟩ = some (.int .i64 a1_1) := (blk_cell BK150.out 1).trans rfl; have hcz33_2 : w30.cell? ⟨gb150, 2, none⟩ = some (.bool a1_2) := (blk_cell BK150.out 2).trans rfl; have hcz33_3 : w30.cell? ⟨gb150, 3, none⟩ = some (.int .i64 a1_3) := (blk_cell BK150.out 3).trans rfl; have hcz33_4 : w30.cell? ⟨gb150, 4, none⟩ = some (.string a1_4) := (blk_cell BK150.out 4).trans rfl; have hcz33_5 : w30.cell? ⟨gb150, 5, none⟩ = some (.int .i64 a1_5) := (blk_cell BK150.out 5).trans rfl; have hcz33_6 : w30.cell? ⟨gb150, 6, none⟩ = some (.int .i64 a1_6) := (blk_cell BK150.out 6).trans rfl; have hcz33_7 : w30.cell? ⟨gb150, 7, none⟩ = some (.int .i64 a1_7) := (blk_cell BK150.out 7).trans rfl; have hfz33_0 := blk_frozen BK150.out 0; have hfz33_1 := blk_frozen BK150.out 1; have hfz33_2 := blk_frozen BK150.out 2; have hfz33_3 := blk_frozen BK150.out 3; have hfz33_4 := blk_frozen BK150.out 4; have hfz33_5 := blk_frozen BK150.out 5; have hfz33_6 := blk_frozen BK150.out 6; have hfz33_7 := blk_frozen BK150.out 7) | ((with_reducible refine gate_callee (f := 19) rfl ?_); refine goesL_ (some 9) rfl rfl Try.func19 (by kernel_rfl) rfl #[.slice A0_0 l0_0.length c0_0, .slice A1_0 l1_0.length c1_0] rfl (by (try simp only [List.map_toArray, List.map_cons, List.map_nil]); first | done | rfl | (simp only [List.length_drop, List.length_take]; rfl)) ?_; (with_reducible refine (laws_eqRouteS.calls k _ _ l0_0 _ _ l1_0 true _ ?side1 ?side2 ?side3 ?side4 A3.out).mono ?_); (case side1 => repeat (first | exact (Kd.C_below HR0_0.out HB.out) | (with_reducible refine Kd.C_alloc ?_ _) | (with_reducible refine Kd.C_drewN ?_ _) | (with_reducible refine Kd.C_drew ?_))); (case side2 => exact HC0_0.out); (case side3 => repeat (first | exact (Kd.C_below HR1_0.out HB.out) | (with_reducible refine Kd.C_alloc ?_ _) | (with_reducible refine Kd.C_drewN ?_ _) | (with_reducible refine Kd.C_drew ?_))); (case side4 => exact HC1_0.out); rintro e w34 ⟨rfl, hb⟩; refine ⟨_, rfl, ?_⟩; have n0_ := bkb BK149 hb; have n1_ := bkb BK150 hb; have n2_ := Aside0.mk (below_step (bz) hb); clear BK149; clear BK150; clear HB; have BK149 := n0_; have BK150 := n1_; have HB := n2_; clear n0_ n1_ n2_; (try clear hb); (try clear hb2); (try clear hk); (try clear hi); have hcz35_0 : w34.cell? ⟨gb149, 0, none⟩ = some (.slice A0_0 l0_0.length c0_0) := (blk_cell BK149.out 0).trans rfl; have hcz35_1 : w34.cell? ⟨gb149, 1, none⟩ = some (.int .i64 a0_1) := (blk_cell BK149.out 1).trans rfl; have hcz35_2 : w34.cell? ⟨gb149, 2, none⟩ = some (.bool a0_2) := (blk_cell BK149.out 2).trans rfl; have hcz35_3 : w34.cell? ⟨gb149, 3, none⟩ = some (.int .i64 a0_3) := (blk_cell BK149.out 3).trans rfl; have hcz35_4 : w34.cell? ⟨gb149, 4, none⟩ = some (.string a0_4) := (blk_cell BK149.out 4).trans rfl; have hcz35_5 : w34.cell? ⟨gb149, 5, none⟩ = some (.int .i64 a0_5) := (blk_cell BK149.out 5).trans rfl; have hcz35_6 : w34.cell? ⟨gb149, 6, none⟩ = some (.int .i64 a0_6) := (blk_cell BK149.out 6).trans rfl; have hcz35_7 : w34.cell? ⟨gb149, 7, none⟩ = some (.int .i64 a0_7) := (blk_cell BK149.out 7).trans rfl; have hfz35_0 := blk_frozen BK149.out 0; have hfz35_1 := blk_frozen BK149.out 1; have hfz35_2 := blk_frozen BK149.out 2; have hfz35_3 := blk_frozen BK149.out 3; have hfz35_4 := blk_frozen BK149.out 4; have hfz35_5 := blk_frozen BK149.out 5; have hfz35_6 := blk_frozen BK149.out 6; have hfz35_7 := blk_frozen BK149.out 7; have hcz36_0 : w34.cell? ⟨gb150, 0, none⟩ = some (.slice A1_0 l1_0.length c1_0) := (blk_cell BK150.out 0).trans rfl; have hcz36_1 : w34.cell? ⟨gb150, 1, none⟩ = some (.int .i64 a1_1) := (blk_cell BK150.out 1).trans rfl; have hcz36_2 : w34.cell? ⟨gb150, 2, none⟩ = some (.bool a1_2) := (blk_cell BK150.out 2).trans rfl; have hcz36_3 : w34.cell? ⟨gb150, 3, none⟩ = some (.int .i64 a1_3) := (blk_cell BK150.out 3).trans rfl; have hcz36_4 : w34.cell? ⟨gb150, 4, none⟩ = some (.string a1_4) := (blk_cell BK150.out 4).trans rfl; have hcz36_5 : w34.cell? ⟨gb150, 5, none⟩ = some (.int .i64 a1_5) := (blk_cell BK150.out 5).trans rfl; have hcz36_6 : w34.cell? ⟨gb150, 6, none⟩ = some (.int .i64 a1_6) := (blk_cell BK150.out 6).trans rfl; have hcz36_7 : w34.cell? ⟨gb150, 7, none⟩ = some (.int .i64 a1_7) := (blk_cell BK150.out 7).trans rfl; have hfz36_0 := blk_frozen BK150.out 0; have hfz36_1 := blk_frozen BK150.out 1; have hfz36_2 := blk_frozen BK150.out 2; have hfz36_3 := blk_frozen BK150.out 3; have hfz36_4 := blk_frozen BK150.out 4; have hfz36_5 := blk_frozen BK150.out 5; have hfz36_6 := blk_frozen BK150.out 6; have hfz36_7 := blk_frozen BK150.out 7) | ((with_reducible refine gate_callee (f := 82) rfl ?_); refine goesL_ (some 25) rfl rfl Try.func82 (by kernel_rfl) rfl #[.agg #[.int .i64 a0_3, .string a0_4, .int .i64 a0_5, .int .i64 a0_6], .agg #[.int .i64 a1_3, .string a1_4, .int .i64 a1_5, .int .i64 a1_6]] rfl (by (try simp only [List.map_toArray, List.map_cons, List.map_nil]); first | done | rfl | (simp only [List.length_drop, List.length_take]; rfl)) ?_; (with_reducible refine (laws_eqCommand.calls a0_3 a0_4 a0_5 a0_6 a1_3 a1_4 a1_5 a1_6 true _ A15.out).mono ?_); rintro e w37 ⟨rfl, hb⟩; refine ⟨_, rfl, ?_⟩; have n0_ := bkb BK149 hb; have n1_ := bkb BK150 hb; have n2_ := Aside0.mk (below_step (bz) hb); clear BK149; clear BK150; clear HB; have BK149 := n0_; have BK150 := n1_; have HB := n2_; clear n0_ n1_ n2_; (try clear hb); (try clear hb2); (try clear hk); (try clear hi); have hcz38_0 : w37.cell? ⟨gb149, 0, none⟩ = some (.slice A0_0 l0_0.length c0_0) := (blk_cell BK149.out 0).trans rfl; have hcz38_1 : w37.cell? ⟨gb149, 1, none⟩ = some (.int .i64 a0_1) := (blk_cell BK149.out 1).trans rfl; have hcz38_2 : w37.cell? ⟨gb149, 2, none⟩ = some (.bool a0_2) := (blk_cell BK149.out 2).trans rfl; have hcz38_3 : w37.cell? ⟨gb149, 3, none⟩ = some (.int .i64 a0_3) := (blk_cell BK149.out 3).trans rfl; have hcz38_4 : w37.cell? ⟨gb149, 4, none⟩ = some (.string a0_4) := (blk_cell BK149.out 4).trans rfl; have hcz38_5 : w37.cell? ⟨gb149, 5, none⟩ = some (.int .i64 a0_5) := (blk_cell BK149.out 5).trans rfl; have hcz38_6 : w37.cell? ⟨gb149, 6, none⟩ = some (.int .i64 a0_6) := (blk_cell BK149.out 6).trans rfl; have hcz38_7 : w37.cell? ⟨gb149, 7, none⟩ = some (.int .i64 a0_7) := (blk_cell BK149.out 7).trans rfl; have hfz38_0 := blk_frozen BK149.out 0; have hfz38_1 := blk_frozen BK149.out 1; have hfz38_2 := blk_frozen BK149.out 2; have hfz38_3 := blk_frozen BK149.out 3; have hfz38_4 := blk_frozen BK149.out 4; have hfz38_5 := blk_frozen BK149.out 5; have hfz38_6 := blk_frozen BK149.out 6; have hfz38_7 := blk_frozen BK149.out 7; have hcz39_0 : w37.cell? ⟨gb150, 0, none⟩ = some (.slice A1_0 l1_0.length c1_0) := (blk_cell BK150.out 0).trans rfl; have hcz39_1 : w37.cell? ⟨gb150, 1, none⟩ = some (.int .i64 a1_1) := (blk_cell BK150.out 1).trans rfl; have hcz39_2 : w37.cell? ⟨gb150, 2, none⟩ = some (.bool a1_2) := (blk_cell BK150.out 2).trans rfl; have hcz39_3 : w37.cell? ⟨gb150, 3, none⟩ = some (.int .i64 a1_3) := (blk_cell BK150.out 3).trans rfl; have hcz39_4 : w37.cell? ⟨gb150, 4, none⟩ = some (.string a1_4) := (blk_cell BK150.out 4).trans rfl; have hcz39_5 : w37.cell? ⟨gb150, 5, none⟩ = some (.int .i64 a1_5) := (blk_cell BK150.out 5).trans rfl; have hcz39_6 : w37.cell? ⟨gb150, 6, none⟩ = some (.int .i64 a1_6) := (blk_cell BK150.out 6).trans rfl; have hcz39_7 : w37.cell? ⟨gb150, 7, none⟩ = some (.int .i64 a1_7) := (blk_cell BK150.out 7).trans rfl; have hfz39_0 := blk_frozen BK150.out 0; have hfz39_1 := blk_frozen BK150.out 1; have hfz39_2 := blk_frozen BK150.out 2; have hfz39_3 := blk_frozen BK150.out 3; have hfz39_4 := blk_frozen BK150.out 4; have hfz39_5 := blk_frozen BK150.out 5; have hfz39_6 := blk_frozen BK150.out 6; have hfz39_7 := blk_frozen BK150.out 7))
      go_ret
      exact ⟨by first | rfl | (simp only [u8w, w64m]; rfl) | (simp [errW_none, errW_some] <;> rfl) | (simp [*, errW_none, errW_some] <;> rfl), bz⟩
    ·
     replace c16 := Bool.eq_false_iff.mpr c16
     subst c16
     rw [if_neg (show ¬ (false = true) by decide)] at H
     obtain rfl := Option.some.inj H
     go_enter Try.func40, Try.ntmps40
     go_wp2_with (first | ((with_reducible refine gate_dst (N := 2) rfl ?_); refine box_event ?hg (N := 2) ?hd (cs := #[.slice A0_0 l0_0.length c0_0, .int .i64 a0_1, .bool a0_2, .int .i64 a0_3, .string a0_4, .int .i64 a0_5, .int .i64 a0_6, .int .i64 a0_7]) (t := 57) ?hr ?_; (case hd => rfl); (case hg => rfl); (case hr => first | (go_simp; done) | (go_simp; rfl)); intro gb149 hg w40 hbox hb; have n0_ := Aside0.mk (below_step (bz) hb); have n1_ := Aside0.mk (hbox); have n2_ : Aside0 (w.heap.size ≤ gb149) := bsg hg; have n3_ : Aside0 (w.heap.size ≤ gb149) := bsg hg; clear HB; have HB := n0_; have BK149 := n1_; have GW149 := n2_; have GE149 := n3_; clear n0_ n1_ n2_ n3_; clear hb hbox hg) | ((with_reducible refine gate_dst (N := 3) rfl ?_); refine box_event ?hg (N := 3) ?hd (cs := #[.slice A1_0 l1_0.length c1_0, .int .i64 a1_1, .bool a1_2, .int .i64 a1_3, .string a1_4, .int .i64 a1_5, .int .i64 a1_6, .int .i64 a1_7]) (t := 57) ?hr ?_; (case hd => rfl); (case hg => rfl); (case hr => first | (go_simp; done) | (go_simp; rfl)); intro gb150 hg w41 hbox hb; have n0_ := bkb BK149 hb; have n1_ := Aside0.mk (below_step (bz) hb); have n2_ := Aside0.mk (hbox); have n3_ : Aside0 (w.heap.size ≤ gb150) := bsg hg; have n4_ : Aside0 (w.heap.size ≤ gb150) := bsg hg; have n5_ := nlt hg BK149; have n6_ := ngt hg BK149; clear BK149; clear HB; have BK149 := n0_; have HB := n1_; have BK150 := n2_; have GW150 := n3_; have GE150 := n4_; have NB149_150 := n5_; have NB150_149 := n6_; clear n0_ n1_ n2_ n3_ n4_ n5_ n6_; clear hb hbox hg; have hnb42 := NB149_150.out; have hnc42 := NB150_149.out; have hcz43_0 : w41.cell? ⟨gb149, 0, none⟩ = some (.slice A0_0 l0_0.length c0_0) := (blk_cell BK149.out 0).trans rfl; have hcz43_1 : w41.cell? ⟨gb149, 1, none⟩ = some (.int .i64 a0_1) := (blk_cell BK149.out 1).trans rfl; have hcz43_2 : w41.cell? ⟨gb149, 2, none⟩ = some (.bool a0_2) := (blk_cell BK149.out 2).trans rfl; have hcz43_3 : w41.cell? ⟨gb149, 3, none⟩ = some (.int .i64 a0_3) := (blk_cell BK149.out 3).trans rfl; have hcz43_4 : w41.cell? ⟨gb149, 4, none⟩ = some (.string a0_4) := (blk_cell BK149.out 4).trans rfl; have hcz43_5 : w41.cell? ⟨gb149, 5, none⟩ = some (.int .i64 a0_5) := (blk_cell BK149.out 5).trans rfl; have hcz43_6 : w41.cell? ⟨gb149, 6, none⟩ = some (.int .i64 a0_6) := (blk_cell BK149.out 6).trans rfl; have hcz43_7 : w41.cell? ⟨gb149, 7, none⟩ = some (.int .i64 a0_7) := (blk_cell BK149.out 7).trans rfl; have hfz43_0 := blk_frozen BK149.out 0; have hfz43_1 := blk_frozen BK149.out 1; have hfz43_2 := blk_frozen BK149.out 2; have hfz43_3 := blk_frozen BK149.out 3; have hfz43_4 := blk_frozen BK149.out 4; have hfz43_5 := blk_frozen BK149.out 5; have hfz43_6 := blk_frozen BK149.out 6; have hfz43_7 := blk_frozen BK149.out 7; have hcz44_0 : w41.cell? ⟨gb150, 0, none⟩ = some (.slice A1_0 l1_0.length c1_0) := (blk_cell BK150.out 0).trans rfl; have hcz44_1 : w41.cell? ⟨gb150, 1, none⟩ = some (.int .i64 a1_1) := (blk_cell BK150.out 1).trans rfl; have hcz44_2 : w41.cell? ⟨gb150, 2, none⟩ = some (.bool a1_2) := (blk_cell BK150.out 2).trans rfl; have hcz44_3 : w41.cell? ⟨gb150, 3, none⟩ = some (.int .i64 a1_3) := (blk_cell BK150.out 3).trans rfl; have hcz44_4 : w41.cell? ⟨gb150, 4, none⟩ = some (.string a1_4) := (blk_cell BK150.out 4).trans rfl; have hcz44_5 : w41.cell? ⟨gb150, 5, none⟩ = some (.int .i64 a1_5) := (blk_cell BK150.out 5).trans rfl; have hcz44_6 : w41.cell? ⟨gb150, 6, none⟩ = some (.int .i64 a1_6) := (blk_cell BK150.out 6).trans rfl; have hcz44_7 : w41.cell? ⟨gb150, 7, none⟩ = some (.int .i64 a1_7) := (blk_cell BK150.out 7).trans rfl; have hfz44_0 := blk_frozen BK150.out 0; have hfz44_1 := blk_frozen BK150.out 1; have hfz44_2 := blk_frozen BK150.out 2; have hfz44_3 := blk_frozen BK150.out 3; have hfz44_4 := blk_frozen BK150.out 4; have hfz44_5 := blk_frozen BK150.out 5; have hfz44_6 := blk_frozen BK150.out 6; have hfz44_7 := blk_frozen BK150.out 7) | ((with_reducible refine gate_callee (f := 19) rfl ?_); refine goesL_ (some 9) rfl rfl Try.func19 (by kernel_rfl) rfl #[.slice A0_0 l0_0.length c0_0, .slice A1_0 l1_0.length c1_0] rfl (by (try simp only [List.map_toArray, List.map_cons, List.map_nil]); first | done | rfl | (simp only [List.length_drop, List.length_take]; rfl)) ?_; (with_reducible refine (laws_eqRouteS.calls k _ _ l0_0 _ _ l1_0 true _ ?side1 ?side2 ?side3 ?side4 A3.out).mono ?_); (case side1 => repeat (first | exact (Kd.C_below HR0_0.out HB.out) | (with_reducible refine Kd.C_alloc ?_ _) | (with_reducible refine Kd.C_drewN ?_ _) | (with_reducible refine Kd.C_drew ?_))); (case side2 => exact HC0_0.out); (case side3 => repeat (first | exact (Kd.C_below HR1_0.out HB.out) | (with_reducible refine Kd.C_alloc ?_ _) | (with_reducible refine Kd.C_drewN ?_ _) | (with_reducible refine Kd.C_drew ?_))); (case side4 => exact HC1_0.out); rintro e w45 ⟨rfl, hb⟩; refine ⟨_, rfl, ?_⟩; have n0_ := bkb BK149 hb; have n1_ := bkb BK150 hb; have n2_ := Aside0.mk (below_step (bz) hb); clear BK149; clear BK150; clear HB; have BK149 := n0_; have BK150 := n1_; have HB := n2_; clear n0_ n1_ n2_; (try clear hb); (try clear hb2); (try clear hk); (try clear hi); have hcz46_0 : w45.cell? ⟨gb149, 0, none⟩ = some (.slice A0_0 l0_0.length c0_0) := (blk_cell BK149.out 0).trans rfl; have hcz46_1 : w45.cell? ⟨gb149, 1, none⟩ = some (.int .i64 a0_1) := (blk_cell BK149.out 1).trans rfl; have hcz46_2 : w45.cell? ⟨gb149, 2, none⟩ = some (.bool a0_2) := (blk_cell BK149.out 2).trans rfl; have hcz46_3 : w45.cell? ⟨gb149, 3, none⟩ = some (.int .i64 a0_3) := (blk_cell BK149.out 3).trans rfl; have hcz46_4 : w45.cell? ⟨gb149, 4, none⟩ = some (.string a0_4) := (blk_cell BK149.out 4).trans rfl; have hcz46_5 : w45.cell? ⟨gb149, 5, none⟩ = some (.int .i64 a0_5) := (blk_cell BK149.out 5).trans rfl; have hcz46_6 : w45.cell? ⟨gb149, 6, none⟩ = some (.int .i64 a0_6) := (blk_cell BK149.out 6).trans rfl; have hcz46_7 : w45.cell? ⟨gb149, 7, none⟩ = some (.int .i64 a0_7) := (blk_cell BK149.out 7).trans rfl; have hfz46_0 := blk_frozen BK149.out 0; have hfz46_1 := blk_frozen BK149.out 1; have hfz46_2 := blk_frozen BK149.out 2; have hfz46_3 := blk_frozen BK149.out 3; have hfz46_4 := blk_frozen BK149.out 4; have hfz46_5 := blk_frozen BK149.out 5; have hfz46_6 := blk_frozen BK149.out 6; have hfz46_7 := blk_frozen BK149.out 7; have hcz47_0 : w45.cell? ⟨gb150, 0, none⟩ = some (.slice A1_0 l1_0.length c1_0) := (blk_cell BK150.out 0).trans rfl; have hcz47_1 : w45.cell? ⟨gb150, 1, none⟩ = some (.int .i64 a1_1) := (blk_cell BK150.out 1).trans rfl; have hcz47_2 : w45.cell? ⟨gb150, 2, none⟩ = some (.bool a1_2) := (blk_cell BK150.out 2).trans rfl; have hcz47_3 : w45.cell? ⟨gb150, 3, none⟩ = some (.int .i64 a1_3) := (blk_cell BK150.out 3).trans rfl; have hcz47_4 : w45.cell? ⟨gb150, 4, none⟩ = some (.string a1_4) := (blk_cell BK150.out 4).trans rfl; have hcz47_5 : w45.cell? ⟨gb150, 5, none⟩ = some (.int .i64 a1_5) := (blk_cell BK150.out 5).trans rfl; have hcz47_6 : w45.cell? ⟨gb150, 6, none⟩ = some (.int .i64 a1_6) := (blk_cell BK150.out 6).trans rfl; have hcz47_7 : w45.cell? ⟨gb150, 7, none⟩ = some (.int .i64 a1_7) := (blk_cell BK150.out 7).trans rfl; have hfz47_0 := blk_frozen BK150.out 0; have hfz47_1 := blk_frozen BK150.out 1; have hfz47_2 := blk_frozen BK150.out 2; have hfz47_3 := blk_frozen BK150.out 3; have hfz47_4 := blk_frozen BK150.out 4; have hfz47_5 := blk_frozen BK150.out 5; have hfz47_6 := blk_frozen BK150.out 6; have hfz47_7 := blk_frozen BK150.out 7) | ((with_reducible refine gate_callee (f := 82) rfl ?_); refine goesL_ (some 25) rfl rfl Try.func82 (by kernel_rfl) rfl #[.agg #[.int .i64 a0_3, .string a0_4, .int .i64 a0_5, .int .i64 a0_6], .agg #[.int .i64 a1_3, .string a1_4, .int .i64 a1_5, .int .i64 a1_6]] rfl (by (try simp only [List.map_toArray, List.map_cons, List.map_nil]); first | done | rfl | (simp only [List.length_drop, List.length_take]; rfl)) ?_; (with_reducible refine (laws_eqCommand.calls a0_3 a0_4 a0_5 a0_6 a1_3 a1_4 a1_5 a1_6 false _ A15.out).mono ?_); rintro e w48 ⟨rfl, hb⟩; refine ⟨_, rfl, ?_⟩; have n0_ := bkb BK149 hb; have n1_ := bkb BK150 hb; have n2_ := Aside0.mk (below_step (bz) hb); clear BK149; clear BK150; clear HB; have BK149 := n0_; have BK150 := n1_; have HB := n2_; clear n0_ n1_ n2_; (try clear hb); (try clear hb2); (try clear hk); (try clear hi)))
     go_ret
     exact ⟨by first | rfl | (simp only [u8w, w64m]; rfl) | (simp [errW_none, errW_some] <;> rfl) | (simp [*, errW_none, errW_some] <;> rfl), bz⟩
  ·
   rw [if_neg c5] at H
   have c5b0 : (a0_1 == a1_1) = false := beq_eq_false_iff_ne.mpr c5
   have c5b1 : (a0_1 != a1_1) = true := bne_iff_ne.mpr c5
   obtain rfl := Option.some.inj H
   go_enter Try.func40, Try.ntmps40
   go_wp2_with (first | ((with_reducible refine gate_dst (N := 2) rfl ?_); refine box_event ?hg (N := 2) ?hd (cs := #[.slice A0_0 l0_0.length c0_0, .int .i64 a0_1, .bool a0_2, .int .i64 a0_3, .string a0_4, .int .i64 a0_5, .int .i64 a0_6, .int .i64 a0_7]) (t := 57) ?hr ?_; (case hd => rfl); (case hg => rfl); (case hr => first | (go_simp; done) | (go_simp; rfl)); intro gb149 hg w49 hbox hb; have n0_ := Aside0.mk (below_step (bz) hb); have n1_ := Aside0.mk (hbox); have n2_ : Aside0 (w.heap.size ≤ gb149) := bsg hg; have n3_ : Aside0 (w.heap.size ≤ gb149) := bsg hg; clear HB; have HB := n0_; have BK149 := n1_; have GW149 := n2_; have GE149 := n3_; clear n0_ n1_ n2_ n3_; clear hb hbox hg) | ((with_reducible refine gate_dst (N := 3) rfl ?_); refine box_event ?hg (N := 3) ?hd (cs := #[.slice A1_0 l1_0.length c1_0, .int .i64 a1_1, .bool a1_2, .int .i64 a1_3, .string a1_4, .int .i64 a1_5, .int .i64 a1_6, .int .i64 a1_7]) (t := 57) ?hr ?_; (case hd => rfl); (case hg => rfl); (case hr => first | (go_simp; done) | (go_simp; rfl)); intro gb150 hg w50 hbox hb; have n0_ := bkb BK149 hb; have n1_ := Aside0.mk (below_step (bz) hb); have n2_ := Aside0.mk (hbox); have n3_ : Aside0 (w.heap.size ≤ gb150) := bsg hg; have n4_ : Aside0 (w.heap.size ≤ gb150) := bsg hg; have n5_ := nlt hg BK149; have n6_ := ngt hg BK149; clear BK149; clear HB; have BK149 := n0_; have HB := n1_; have BK150 := n2_; have GW150 := n3_; have GE150 := n4_; have NB149_150 := n5_; have NB150_149 := n6_; clear n0_ n1_ n2_ n3_ n4_ n5_ n6_; clear hb hbox hg; have hnb51 := NB149_150.out; have hnc51 := NB150_149.out; have hcz52_0 : w50.cell? ⟨gb149, 0, none⟩ = some (.slice A0_0 l0_0.length c0_0) := (blk_cell BK149.out 0).trans rfl; have hcz52_1 : w50.cell? ⟨gb149, 1, none⟩ = some (.int .i64 a0_1) := (blk_cell BK149.out 1).trans rfl; have hcz52_2 : w50.cell? ⟨gb149, 2, none⟩ = some (.bool a0_2) := (blk_cell BK149.out 2).trans rfl; have hcz52_3 : w50.cell? ⟨gb149, 3, none⟩ = some (.int .i64 a0_3) := (blk_cell BK149.out 3).trans rfl; have hcz52_4 : w50.cell? ⟨gb149, 4, none⟩ = some (.string a0_4) := (blk_cell BK149.out 4).trans rfl; have hcz52_5 : w50.cell? ⟨gb149, 5, none⟩ = some (.int .i64 a0_5) := (blk_cell BK149.out 5).trans rfl; have hcz52_6 : w50.cell? ⟨gb149, 6, none⟩ = some (.int .i64 a0_6) := (blk_cell BK149.out 6).trans rfl; have hcz52_7 : w50.cell? ⟨gb149, 7, none⟩ = some (.int .i64 a0_7) := (blk_cell BK149.out 7).trans rfl; have hfz52_0 := blk_frozen BK149.out 0; have hfz52_1 := blk_frozen BK149.out 1; have hfz52_2 := blk_frozen BK149.out 2; have hfz52_3 := blk_frozen BK149.out 3; have hfz52_4 := blk_frozen BK149.out 4; have hfz52_5 := blk_frozen BK149.out 5; have hfz52_6 := blk_frozen BK149.out 6; have hfz52_7 := blk_frozen BK149.out 7; have hcz53_0 : w50.cell? ⟨gb150, 0, none⟩ = some (.slice A1_0 l1_0.length c1_0) := (blk_cell BK150.out 0).trans rfl; have hcz53_1 : w50.cell? ⟨gb150, 1, none⟩ = some (.int .i64 a1_1) := (blk_cell BK150.out 1).trans rfl; have hcz53_2 : w50.cell? ⟨gb150, 2, none⟩ = some (.bool a1_2) := (blk_cell BK150.out 2).trans rfl; have hcz53_3 : w50.cell? ⟨gb150, 3, none⟩ = some (.int .i64 a1_3) := (blk_cell BK150.out 3).trans rfl; have hcz53_4 : w50.cell? ⟨gb150, 4, none⟩ = some (.string a1_4) := (blk_cell BK150.out 4).trans rfl; have hcz53_5 : w50.cell? ⟨gb150, 5, none⟩ = some (.int .i64 a1_5) := (blk_cell BK150.out 5).trans rfl; have hcz53_6 : w50.cell? ⟨gb150, 6, none⟩ = some (.int .i64 a1_6) := (blk_cell BK150.out 6).trans rfl; have hcz53_7 : w50.cell? ⟨gb150, 7, none⟩ = some (.int .i64 a1_7) := (blk_cell BK150.out 7).trans rfl; have hfz53_0 := blk_frozen BK150.out 0; have hfz53_1 := blk_frozen BK150.out 1; have hfz53_2 := blk_frozen BK150.out 2; have hfz53_3 := blk_frozen BK150.out 3; have hfz53_4 := blk_frozen BK150.out 4; have hfz53_5 := blk_frozen BK150.out 5; have hfz53_6 := blk_frozen BK150.out 6; have hfz53_7 := blk_frozen BK150.out 7) | ((with_reducible refine gate_callee (f := 19) rfl ?_); refine goesL_ (some 9) rfl rfl Try.func19 (by kernel_rfl) rfl #[.slice A0_0 l0_0.length c0_0, .slice A1_0 l1_0.length c1_0] rfl (by (try simp only [List.map_toArray, List.map_cons, List.map_nil]); first | done | rfl | (simp only [List.length_drop, List.length_take]; rfl)) ?_; (with_reducible refine (laws_eqRouteS.calls k _ _ l0_0 _ _ l1_0 true _ ?side1 ?side2 ?side3 ?side4 A3.out).mono ?_); (case side1 => repeat (first | exact (Kd.C_below HR0_0.out HB.out) | (with_reducible refine Kd.C_alloc ?_ _) | (with_reducible refine Kd.C_drewN ?_ _) | (with_reducible refine Kd.C_drew ?_))); (case side2 => exact HC0_0.out); (case side3 => repeat (first | exact (Kd.C_below HR1_0.out HB.out) | (with_reducible refine Kd.C_alloc ?_ _) | (with_reducible refine Kd.C_drewN ?_ _) | (with_reducible refine Kd.C_drew ?_))); (case side4 => exact HC1_0.out); rintro e w54 ⟨rfl, hb⟩; refine ⟨_, rfl, ?_⟩; have n0_ := bkb BK149 hb; have n1_ := bkb BK150 hb; have n2_ := Aside0.mk (below_step (bz) hb); clear BK149; clear BK150; clear HB; have BK149 := n0_; have BK150 := n1_; have HB := n2_; clear n0_ n1_ n2_; (try clear hb); (try clear hb2); (try clear hk); (try clear hi); have hcz55_0 : w54.cell? ⟨gb149, 0, none⟩ = some (.slice A0_0 l0_0.length c0_0) := (blk_cell BK149.out 0).trans rfl; have hcz55_1 : w54.cell? ⟨gb149, 1, none⟩ = some (.int .i64 a0_1) := (blk_cell BK149.out 1).trans rfl; have hcz55_2 : w54.cell? ⟨gb149, 2, none⟩ = some (.bool a0_2) := (blk_cell BK149.out 2).trans rfl; have hcz55_3 : w54.cell? ⟨gb149, 3, none⟩ = some (.int .i64 a0_3) := (blk_cell BK149.out 3).trans rfl; have hcz55_4 : w54.cell? ⟨gb149, 4, none⟩ = some (.string a0_4) := (blk_cell BK149.out 4).trans rfl; have hcz55_5 : w54.cell? ⟨gb149, 5, none⟩ = some (.int .i64 a0_5) := (blk_cell BK149.out 5).trans rfl; have hcz55_6 : w54.cell? ⟨gb149, 6, none⟩ = some (.int .i64 a0_6) := (blk_cell BK149.out 6).trans rfl; have hcz55_7 : w54.cell? ⟨gb149, 7, none⟩ = some (.int .i64 a0_7) := (blk_cell BK149.out 7).trans rfl; have hfz55_0 := blk_frozen BK149.out 0; have hfz55_1 := blk_frozen BK149.out 1; have hfz55_2 := blk_frozen BK149.out 2; have hfz55_3 := blk_frozen BK149.out 3; have hfz55_4 := blk_frozen BK149.out 4; have hfz55_5 := blk_frozen BK149.out 5; have hfz55_6 := blk_frozen BK149.out 6; have hfz55_7 := blk_frozen BK149.out 7; have hcz56_0 : w54.cell? ⟨gb150, 0, none⟩ = some (.slice A1_0 l1_0.length c1_0) := (blk_cell BK150.out 0).trans rfl; have hcz56_1 : w54.cell? ⟨gb150, 1, none⟩ = some (.int .i64 a1_1) := (blk_cell BK150.out 1).trans rfl; have hcz56_2 : w54.cell? ⟨gb150, 2, none⟩ = some (.bool a1_2) := (blk_cell BK150.out 2).trans rfl; have hcz56_3 : w54.cell? ⟨gb150, 3, none⟩ = some (.int .i64 a1_3) := (blk_cell BK150.out 3).trans rfl; have hcz56_4 : w54.cell? ⟨gb150, 4, none⟩ = some (.string a1_4) := (blk_cell BK150.out 4).trans rfl; have hcz56_5 : w54.cell? ⟨gb150, 5, none⟩ = some (.int .i64 a1_5) := (blk_cell BK150.out 5).trans rfl; have hcz56_6 : w54.cell? ⟨gb150, 6, none⟩ = some (.int .i64 a1_6) := (blk_cell BK150.out 6).trans rfl; have hcz56_7 : w54.cell? ⟨gb150, 7, none⟩ = some (.int .i64 a1_7) := (blk_cell BK150.out 7).trans rfl; have hfz56_0 := blk_frozen BK150.out 0; have hfz56_1 := blk_frozen BK150.out 1; have hfz56_2 := blk_frozen BK150.out 2; have hfz56_3 := blk_frozen BK150.out 3; have hfz56_4 := blk_frozen BK150.out 4; have hfz56_5 := blk_frozen BK150.out 5; have hfz56_6 := blk_frozen BK150.out 6; have hfz56_7 := blk_frozen BK150.out 7))
   go_ret
   exact ⟨by first | rfl | (simp only [u8w, w64m]; rfl) | (simp [errW_none, errW_some] <;> rfl) | (simp [*, errW_none, errW_some] <;> rfl), bz⟩
 ·
  replace c4 := Bool.eq_false_iff.mpr c4
  subst c4
  rw [if_neg (show ¬ (false = true) by decide)] at H
  obtain rfl := Option.some.inj H
  go_enter Try.func40, Try.ntmps40
  go_wp2_with (first | ((with_reducible refine gate_dst (N := 2) rfl ?_); refine box_event ?hg (N := 2) ?hd (cs := #[.slice A0_0 l0_0.length c0_0, .int .i64 a0_1, .bool a0_2, .int .i64 a0_3, .string a0_4, .int .i64 a0_5, .int .i64 a0_6, .int .i64 a0_7]) (t := 57) ?hr ?_; (case hd => rfl); (case hg => rfl); (case hr => first | (go_simp; done) | (go_simp; rfl)); intro gb149 hg w57 hbox hb; have n0_ := Aside0.mk (below_step (bz) hb); have n1_ := Aside0.mk (hbox); have n2_ : Aside0 (w.heap.size ≤ gb149) := bsg hg; have n3_ : Aside0 (w.heap.size ≤ gb149) := bsg hg; clear HB; have HB := n0_; have BK149 := n1_; have GW149 := n2_; have GE149 := n3_; clear n0_ n1_ n2_ n3_; clear hb hbox hg) | ((with_reducible refine gate_dst (N := 3) rfl ?_); refine box_event ?hg (N := 3) ?hd (cs := #[.slice A1_0 l1_0.length c1_0, .int .i64 a1_1, .bool a1_2, .int .i64 a1_3, .string a1_4, .int .i64 a1_5, .int .i64 a1_6, .int .i64 a1_7]) (t := 57) ?hr ?_; (case hd => rfl); (case hg => rfl); (case hr => first | (go_simp; done) | (go_simp; rfl)); intro gb150 hg w58 hbox hb; have n0_ := bkb BK149 hb; have n1_ := Aside0.mk (below_step (bz) hb); have n2_ := Aside0.mk (hbox); have n3_ : Aside0 (w.heap.size ≤ gb150) := bsg hg; have n4_ : Aside0 (w.heap.size ≤ gb150) := bsg hg; have n5_ := nlt hg BK149; have n6_ := ngt hg BK149; clear BK149; clear HB; have BK149 := n0_; have HB := n1_; have BK150 := n2_; have GW150 := n3_; have GE150 := n4_; have NB149_150 := n5_; have NB150_149 := n6_; clear n0_ n1_ n2_ n3_ n4_ n5_ n6_; clear hb hbox hg; have hnb59 := NB149_150.out; have hnc59 := NB150_149.out; have hcz60_0 : w58.cell? ⟨gb149, 0, none⟩ = some (.slice A0_0 l0_0.length c0_0) := (blk_cell BK149.out 0).trans rfl; have hcz60_1 : w58.cell? ⟨gb149, 1, none⟩ = some (.int .i64 a0_1) := (blk_cell BK149.out 1).trans rfl; have hcz60_2 : w58.cell? ⟨gb149, 2, none⟩ = some (.bool a0_2) := (blk_cell BK149.out 2).trans rfl; have hcz60_3 : w58.cell? ⟨gb149, 3, none⟩ = some (.int .i64 a0_3) := (blk_cell BK149.out 3).trans rfl; have hcz60_4 : w58.cell? ⟨gb149, 4, none⟩ = some (.string a0_4) := (blk_cell BK149.out 4).trans rfl; have hcz60_5 : w58.cell? ⟨gb149, 5, none⟩ = some (.int .i64 a0_5) := (blk_cell BK149.out 5).trans rfl; have hcz60_6 : w58.cell? ⟨gb149, 6, none⟩ = some (.int .i64 a0_6) := (blk_cell BK149.out 6).trans rfl; have hcz60_7 : w58.cell? ⟨gb149, 7, none⟩ = some (.int .i64 a0_7) := (blk_cell BK149.out 7).trans rfl; have hfz60_0 := blk_frozen BK149.out 0; have hfz60_1 := blk_frozen BK149.out 1; have hfz60_2 := blk_frozen BK149.out 2; have hfz60_3 := blk_frozen BK149.out 3; have hfz60_4 := blk_frozen BK149.out 4; have hfz60_5 := blk_frozen BK149.out 5; have hfz60_6 := blk_frozen BK149.out 6; have hfz60_7 := blk_frozen BK149.out 7; have hcz61_0 : w58.cell? ⟨gb150, 0, none⟩ = some (.slice A1_0 l1_0.length c1_0) := (blk_cell BK150.out 0).trans rfl; have hcz61_1 : w58.cell? ⟨gb150, 1, none⟩ = some (.int .i64 a1_1) := (blk_cell BK150.out 1).trans rfl; have hcz61_2 : w58.cell? ⟨gb150, 2, none⟩ = some (.bool a1_2) := (blk_cell BK150.out 2).trans rfl; have hcz61_3 : w58.cell? ⟨gb150, 3, none⟩ = some (.int .i64 a1_3) := (blk_cell BK150.out 3).trans rfl; have hcz61_4 : w58.cell? ⟨gb150, 4, none⟩ = some (.string a1_4) := (blk_cell BK150.out 4).trans rfl; have hcz61_5 : w58.cell? ⟨gb150, 5, none⟩ = some (.int .i64 a1_5) := (blk_cell BK150.out 5).trans rfl; have hcz61_6 : w58.cell? ⟨gb150, 6, none⟩ = some (.int .i64 a1_6) := (blk_cell BK150.out 6).trans rfl; have hcz61_7 : w58.cell? ⟨gb150, 7, none⟩ = some (.int .i64 a1_7) := (blk_cell BK150.out 7).trans rfl; have hfz61_0 := blk_frozen BK150.out 0; have hfz61_1 := blk_frozen BK150.out 1; have hfz61_2 := blk_frozen BK150.out 2; have hfz61_3 := blk_frozen BK150.out 3; have hfz61_4 := blk_frozen BK150.out 4; have hfz61_5 := blk_frozen BK150.out 5; have hfz61_6 := blk_frozen BK150.out 6; have hfz61_7 := blk_frozen BK150.out 7) | ((with_reducible refine gate_callee (f := 19) rfl ?_); refine goesL_ (some 9) rfl rfl Try.func19 (by kernel_rfl) rfl #[.slice A0_0 l0_0.length c0_0, .slice A1_0 l1_0.length c1_0] rfl (by (try simp only [List.map_toArray, List.map_cons, List.map_nil]); first | done | rfl | (simp only [List.length_drop, List.length_take]; rfl)) ?_; (with_reducible refine (laws_eqRouteS.calls k _ _ l0_0 _ _ l1_0 false _ ?side1 ?side2 ?side3 ?side4 A3.out).mono ?_); (case side1 => repeat (first | exact (Kd.C_below HR0_0.out HB.out) | (with_reducible refine Kd.C_alloc ?_ _) | (with_reducible refine Kd.C_drewN ?_ _) | (with_reducible refine Kd.C_drew ?_))); (case side2 => exact HC0_0.out); (case side3 => repeat (first | exact (Kd.C_below HR1_0.out HB.out) | (with_reducible refine Kd.C_alloc ?_ _) | (with_reducible refine Kd.C_drewN ?_ _) | (with_reducible refine Kd.C_drew ?_))); (case side4 => exact HC1_0.out); rintro e w62 ⟨rfl, hb⟩; refine ⟨_, rfl, ?_⟩; have n0_ := bkb BK149 hb; have n1_ := bkb BK150 hb; have n2_ := Aside0.mk (below_step (bz) hb); clear BK149; clear BK150; clear HB; have BK149 := n0_; have BK150 := n1_; have HB := n2_; clear n0_ n1_ n2_; (try clear hb); (try clear hb2); (try clear hk); (try clear hi)))
  go_ret
  exact ⟨by first | rfl | (simp only [u8w, w64m]; rfl) | (simp [errW_none, errW_some] <;> rfl) | (simp [*, errW_none, errW_some] <;> rfl), bz⟩

/-! ### spec_l1In: function 74 -/
def spec_l1In.f (a0 : Int) (a1 : Int) (a2 : Int) : Option (Bool) := if a0 ≥ a1 then (some (decide (a0 ≤ a2))) else (some false)
set_option maxHeartbeats 8000000 in
set_option maxRecDepth 100000 in
theorem spec_l1In.calls (a0 : Int) (a1 : Int) (a2 : Int) (r : Bool) (w : World) (h : spec_l1In.f a0 a1 a2 = some r) :
  Calls Try.prog 74 #[.int .i64 a0, .int .i64 a1, .int .i64 a2] w fun e w' => e = .returned (.bool r) ∧ Drawn0 w w' := by
 have H : (if a0 ≥ a1 then (some (decide (a0 ≤ a2))) else (some false)) = some r := h
 clear h
 by_cases c4 : a0 ≥ a1
 ·
  rw [if_pos c4] at H
  have c4b0 : decide (a1 ≤ a0) = true := decide_eq_true c4
  clear c4
  obtain rfl := Option.some.inj H
  go_enter Try.func74, Try.ntmps74
  go_wp2
  go_ret
  exact ⟨by first | rfl | (simp; done) | exact congrArg Value.bool (ne_nil_b _) | exact congrArg Value.bool (eq_nil_b _) | (simp [*]; done), by repeat (first | exact Drawn0.refl _ | apply Drawn0.step)⟩
 ·
  rw [if_neg c4] at H
  have c4b0 : decide (a1 ≤ a0) = false := decide_eq_false c4
  clear c4
  obtain rfl := Option.some.inj H
  go_enter Try.func74, Try.ntmps74
  go_wp2
  go_ret
  exact ⟨by first | rfl | (simp; done) | exact congrArg Value.bool (ne_nil_b _) | exact congrArg Value.bool (eq_nil_b _) | (simp [*]; done), by repeat (first | exact Drawn0.refl _ | apply Drawn0.step)⟩

/-! ### spec_KeyValid: function 60 -/
def spec_KeyValid.l0 : Nat → ByteArray → Int → Option (Bool)
 | 0, _, _ => none
 | k + 1, x0, x3 => if x3 < (x0.size : Int) then (if 0 ≤ x3 then (if (bt x0 x3) < 97 then (some false) else (if (bt x0 x3) > 122 then (some false) else (spec_KeyValid.l0 k x0 (wrap64 (x3 + 1))))) else (none)) else (some true)
def spec_KeyValid.f (k : Nat) (a0 : ByteArray) : Option (Bool) := (spec_l1In.f (a0.size : Int) 1 4).bind fun t153 => (if t153 = true then (spec_KeyValid.l0 k a0 0) else (some false))
theorem spec_KeyValid.mono_l : ∀ k, (∀ y0 y1, LeO (spec_KeyValid.l0 k y0 y1) (spec_KeyValid.l0 (k + 1) y0 y1))
 | 0 => fun _ _ r h => by simp [spec_KeyValid.l0] at h
 | k + 1 => by
  have ih0 := spec_KeyValid.mono_l k
  ·
   intro y0 y1
   unfold spec_KeyValid.l0
   repeat' first
   | (with_reducible exact ih0 _ _)
   | (with_reducible exact LeO.refl _)
   | (with_reducible exact LeO.none _)
   | (with_reducible refine LeO.ite ?_ ?_)
   | (with_reducible refine LeO.bind ?_ (fun _ => ?_))
   | exact ih0 _ _
   | exact LeO.none _
   | refine LeO.ite ?_ ?_
   | refine LeO.bind ?_ (fun _ => ?_)
theorem spec_KeyValid.mono : ∀ a0 k, LeO (spec_KeyValid.f k a0) (spec_KeyValid.f (k + 1) a0) := by
 intro a0 k
 have ih0 := spec_KeyValid.mono_l k
 unfold spec_KeyValid.f
 repeat' first
   | (with_reducible exact ih0 _ _)
   | (with_reducible exact LeO.refl _)
   | (with_reducible exact LeO.none _)
   | (with_reducible refine LeO.ite ?_ ?_)
   | (with_reducible refine LeO.bind ?_ (fun _ => ?_))
   | exact ih0 _ _
   | exact LeO.none _
   | refine LeO.ite ?_ ?_
   | refine LeO.bind ?_ (fun _ => ?_)
set_option maxHeartbeats 8000000 in
set_option maxRecDepth 100000 in
theorem spec_KeyValid.calls (k : Nat) (a0 : ByteArray) (r : Bool) (w : World) (h : spec_KeyValid.f k a0 = some r) :
  Calls Try.prog 60 #[.string a0] w fun e w' => e = .returned (.bool r) ∧ Drawn0 w w' := by
 have H : ((spec_l1In.f (a0.size : Int) 1 4).bind fun t153 => (if t153 = true then (spec_KeyValid.l0 k a0 0) else (some false))) = some r := h
 clear h
 replace H := Option.bind_eq_some_iff.mp H
 obtain ⟨t153, A20, H⟩ := H
 try dsimp only at H
 have A2 := Aside0.mk A20
 clear A20
 by_cases c3 : t153 = true
 ·
  subst c3
  rw [if_pos rfl] at H
  have H' := Aside0.mk H
  clear H
  go_enter Try.func60, Try.ntmps60
  go_wp2_with (first | ((with_reducible refine gate_callee (f := 74) rfl ?_); refine goesL_ (some 6) rfl rfl Try.func74 (by kernel_rfl) rfl #[.int .i64 (a0.size : Int), .int .i64 1, .int .i64 4] rfl (by (try simp only [List.map_toArray, List.map_cons, List.map_nil]); first | done | rfl | (simp only [List.length_drop, List.length_take]; rfl)) ?_; (with_reducible refine (spec_l1In.calls (a0.size : Int) 1 4 true _ A2.out).mono ?_); rintro e w' ⟨rfl, ⟨nd, rfl⟩⟩; refine ⟨_, rfl, ?_⟩))
  go_loopg [3] k (fun kq v3 w' => ∃ (x3_1 : Int), v3 = .int .i64 x3_1 ∧ Aside0 (spec_KeyValid.l0 kq a0 x3_1 = some r) ∧ Aside0 (kq ≤ k) ∧ Drawn0 w w')
  case atStart => exact ⟨(0), (by first | rfl | (simp; done) | exact congrArg Value.bool (ne_nil_b _) | exact congrArg Value.bool (eq_nil_b _) | (simp [*]; done)), H', ⟨Nat.le_refl _⟩, by repeat (first | exact Drawn0.refl _ | apply Drawn0.step)⟩
  case round =>
   clear H'
   try clear p2
   try clear c3
   obtain ⟨x3_1, rfl, HA, HK1, ⟨m1, rfl⟩⟩ := hrel
   cases gk with
   | zero => exact absurd HA.out (by simp [spec_KeyValid.l0])
   | succ k1 =>
    have H := HA.out
    clear HA
    simp only [spec_KeyValid.l0] at H
    by_cases c4 : x3_1 < (a0.size : Int)
    ·
     rw [if_pos c4] at H
     have c4b0 : decide (x3_1 < (a0.size : Int)) = true := decide_eq_true c4
     clear c4
     by_cases c5 : 0 ≤ x3_1
     ·
      rw [if_pos c5] at H
      have c5b0 : decide (0 ≤ x3_1) = true := decide_eq_true c5
      clear c5
      by_cases c7 : (bt a0 x3_1) < 97
      ·
       rw [if_pos c7] at H
       have c7b0 : decide ((bt a0 x3_1) < 97) = true := decide_eq_true c7
       clear c7
       obtain rfl := Option.some.inj H
       have p6 : 0 ≤ (x3_1 : Int) := of_decide_eq_true (by first | (with_reducible assumption) | assumption)
       have q6 : x3_1 < (a0.size : Int) := of_decide_eq_true (by first | (with_reducible assumption) | assumption)
       have hx6 := bt_at a0 x3_1
       replace p6 := eq_true p6
       replace q6 := eq_true q6
       go_wp2
       go_ret
       exact ⟨by first | rfl | (simp; done) | exact congrArg Value.bool (ne_nil_b _) | exact congrArg Value.bool (eq_nil_b _) | (simp [*]; done), by repeat (first | exact Drawn0.refl _ | apply Drawn0.step)⟩
      ·
       rw [if_neg c7] at H
       have c7b0 : decide ((bt a0 x3_1) < 97) = false := decide_eq_false c7
       clear c7
       by_cases c9 : (bt a0 x3_1) > 122
       ·
        rw [if_pos c9] at H
        have c9b0 : decide (122 < (bt a0 x3_1)) = true := decide_eq_true c9
        clear c9
        obtain rfl := Option.some.inj H
        have p6 : 0 ≤ (x3_1 : Int) := of_decide_eq_true (by first | (with_reducible assumption) | assumption)
        have q6 : x3_1 < (a0.size : Int) := of_decide_eq_true (by first | (with_reducible assumption) | assumption)
        have hx6 := bt_at a0 x3_1
        replace p6 := eq_true p6
        replace q6 := eq_true q6
        have p8 : 0 ≤ (x3_1 : Int) := of_decide_eq_true (by first | (with_reducible assumption) | assumption)
        have q8 : x3_1 < (a0.size : Int) := of_decide_eq_true (by first | (with_reducible assumption) | assumption)
        have hx8 := bt_at a0 x3_1
        replace p8 := eq_true p8
        replace q8 := eq_true q8
        go_wp2
        go_ret
        exact ⟨by first | rfl | (simp; done) | exact congrArg Value.bool (ne_nil_b _) | exact congrArg Value.bool (eq_nil_b _) | (simp [*]; done), by repeat (first | exact Drawn0.refl _ | apply Drawn0.step)⟩
       ·
        rw [if_neg c9] at H
        have c9b0 : decide (122 < (bt a0 x3_1)) = false := decide_eq_false c9
        clear c9
        have H' := Aside0.mk H
        clear H
        have p6 : 0 ≤ (x3_1 : Int) := of_decide_eq_true (by first | (with_reducible assumption) | assumption)
        have q6 : x3_1 < (a0.size : Int) := of_decide_eq_true (by first | (with_reducible assumption) | assumption)
        have hx6 := bt_at a0 x3_1
        replace p6 := eq_true p6
        replace q6 := eq_true q6
        have p8 : 0 ≤ (x3_1 : Int) := of_decide_eq_true (by first | (with_reducible assumption) | assumption)
        have q8 : x3_1 < (a0.size : Int) := of_decide_eq_true (by first | (with_reducible assumption) | assumption)
        have hx8 := bt_at a0 x3_1
        replace p8 := eq_true p8
        replace q8 := eq_true q8
        go_wp2
        go_roundg k1
        case measure => have := HK1.out; omega
        case rel => exact ⟨(wrap64 (x3_1 + 1)), (by first | rfl | (simp; done) | exact congrArg Value.bool (ne_nil_b _) | exact congrArg Value.bool (eq_nil_b _) | (simp [*]; done)), H', ⟨by have := HK1.out; omega⟩, by repeat (first | exact Drawn0.refl _ | apply Drawn0.step)⟩
     ·
      rw [if_neg c5] at H
      exact absurd H (by simp)
    ·
     rw [if_neg c4] at H
     have c4b0 : decide (x3_1 < (a0.size : Int)) = false := decide_eq_false c4
     clear c4
     obtain rfl := Option.some.inj H
     go_wp2
     go_ret
     exact ⟨by first | rfl | (simp; done) | exact congrArg Value.bool (ne_nil_b _) | exact congrArg Value.bool (eq_nil_b _) | (simp [*]; done), by repeat (first | exact Drawn0.refl _ | apply Drawn0.step)⟩
 ·
  replace c3 := Bool.eq_false_iff.mpr c3
  subst c3
  rw [if_neg (show ¬ (false = true) by decide)] at H
  obtain rfl := Option.some.inj H
  go_enter Try.func60, Try.ntmps60
  go_wp2_with (first | ((with_reducible refine gate_callee (f := 74) rfl ?_); refine goesL_ (some 6) rfl rfl Try.func74 (by kernel_rfl) rfl #[.int .i64 (a0.size : Int), .int .i64 1, .int .i64 4] rfl (by (try simp only [List.map_toArray, List.map_cons, List.map_nil]); first | done | rfl | (simp only [List.length_drop, List.length_take]; rfl)) ?_; (with_reducible refine (spec_l1In.calls (a0.size : Int) 1 4 false _ A2.out).mono ?_); rintro e w' ⟨rfl, ⟨nd, rfl⟩⟩; refine ⟨_, rfl, ?_⟩))
  go_ret
  exact ⟨by first | rfl | (simp; done) | exact congrArg Value.bool (ne_nil_b _) | exact congrArg Value.bool (eq_nil_b _) | (simp [*]; done), by repeat (first | exact Drawn0.refl _ | apply Drawn0.step)⟩

end Go.Proofs.Ytinnjgogaidhlaa.PFnExactRequestOf
