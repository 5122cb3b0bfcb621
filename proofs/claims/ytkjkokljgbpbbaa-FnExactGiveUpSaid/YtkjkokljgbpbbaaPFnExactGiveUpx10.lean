/- Go functions as plain Lean functions, and for each a proof that its call comes to what the function says; under the conditions that each theorem names. Written by a program of this session. -/
import Derived.Test.YtkjkokljgbpbbaaPFnExactGiveUpx0
import Derived.Test.YtkjkokljgbpbbaaPFnExactGiveUpx9
namespace Go.Proofs.Ytkjkokljgbpbbaa.PFnExactGiveUp
open Go.RowKit Go.Proofs.YtkjkokljgbpbbaaW.PrintWords Go.Proofs.YtkjkokljgbpbbaaW.PrintLast Go.Proofs.YtkjkokljgbpbbaaW.PrintMore
attribute [local go_sem high] str_gtr str_leq str_geq
attribute [local go_sem] max2_int min2_int max_two min_two max_three min_three max_four min_four   -- for this text's walks alone
set_option linter.unusedVariables false
set_option linter.unusedSimpArgs false

/-! ### laws_eqRouteS: function 54 -/
def laws_eqRouteS.l0 : Nat → List (S35) → List (S35) → Int → Option (Bool)
 | 0, _, _, _ => none
 | k + 1, x0, x1, x5 => if x5 < (x0.length : Int) then (if 0 ≤ x5 then (if x5 < (x1.length : Int) then ((laws_eqRoute.f ((rd_T35 x0 x5).f0) ((rd_T35 x0 x5).f1.f0) ((rd_T35 x0 x5).f1.f1) ((rd_T35 x1 x5).f0) ((rd_T35 x1 x5).f1.f0) ((rd_T35 x1 x5).f1.f1)).bind fun t253 => (if t253 = true then (laws_eqRouteS.l0 k x0 x1 (wrap64 (x5 + 1))) else (some false))) else (none)) else (none)) else (some true)
def laws_eqRouteS.f (k : Nat) (l0 : List (S35)) (l1 : List (S35)) : Option (Bool) := if (l0.length : Int) = (l1.length : Int) then (laws_eqRouteS.l0 k l0 l1 0) else (some false)
theorem laws_eqRouteS.mono_l : ∀ k, (∀ y0 y1 y2, LeO (laws_eqRouteS.l0 k y0 y1 y2) (laws_eqRouteS.l0 (k + 1) y0 y1 y2))
 | 0 => fun _ _ _ r h => by simp [laws_eqRouteS.l0] at h
 | k + 1 => by
  have ih0 := laws_eqRouteS.mono_l k
  ·
   intro y0 y1 y2
   unfold laws_eqRouteS.l0
   repeat' first
   | (with_reducible exact ih0 _ _ _)
   | (with_reducible exact LeO.refl _)
   | (with_reducible exact LeO.none _)
   | (with_reducible refine LeO.ite ?_ ?_)
   | (with_reducible refine LeO.bind ?_ (fun _ => ?_))
   | exact ih0 _ _ _
   | exact LeO.none _
   | refine LeO.ite ?_ ?_
   | refine LeO.bind ?_ (fun _ => ?_)
theorem laws_eqRouteS.mono : ∀ a0 a1 k, LeO (laws_eqRouteS.f k a0 a1) (laws_eqRouteS.f (k + 1) a0 a1) := by
 intro a0 a1 k
 have ih0 := laws_eqRouteS.mono_l k
 unfold laws_eqRouteS.f
 repeat' first
   | (with_reducible exact ih0 _ _ _)
   | (with_reducible exact LeO.refl _)
   | (with_reducible exact LeO.none _)
   | (with_reducible refine LeO.ite ?_ ?_)
   | (with_reducible refine LeO.bind ?_ (fun _ => ?_))
   | exact ih0 _ _ _
   | exact LeO.none _
   | refine LeO.ite ?_ ?_
   | refine LeO.bind ?_ (fun _ => ?_)
def laws_eqRouteS.T6 : Bool × List (List Nat × List Nat) := (true, [([], []), ([], []), ([0, 1], [0, 1]), ([2], [2]), ([], []), ([], []), ([4, 5], [4, 5]), ([6], [6]), ([3, 7], [3, 7]), ([8], [8])])
def laws_eqRouteS.B6 : List Nat := [0, 0, 3, 7, 0, 0, 48, 112, 255, 511]
theorem laws_eqRouteS.tab6 : rtab .any (opsOf Try.f54 6) = laws_eqRouteS.T6 := by kernel_rfl
theorem laws_eqRouteS.bits6 : waitsOk laws_eqRouteS.T6.2 laws_eqRouteS.B6 = true := by kernel_rfl
set_option maxHeartbeats 8000000 in
set_option maxRecDepth 100000 in
theorem laws_eqRouteS.calls (k : Nat) (A0 : Option Addr) (c0 : Nat) (l0 : List (S35)) (A1 : Option Addr) (c1 : Nat) (l1 : List (S35)) (r : Bool) (w : World) (hr0 : Kd.C k35 w A0 l0.length l0) (hc0 : l0.length ≤ c0) (hr1 : Kd.C k35 w A1 l1.length l1) (hc1 : l1.length ≤ c1) (h : laws_eqRouteS.f k l0 l1 = some r) :
  Calls Try.prog 54 #[.slice A0 l0.length c0, .slice A1 l1.length c1] w fun e w' => e = .returned (.bool r) ∧ Below w.heap.size w w' := by
 have hu35 := Try.underlying35
 have HR0 := Aside0.mk hr0
 have HC0 := Aside0.mk hc0
 clear hr0 hc0
 have HR1 := Aside0.mk hr1
 have HC1 := Aside0.mk hc1
 clear hr1 hc1
 have HB := Aside0.mk (Below.refl w.heap.size w)
 have H : (if (l0.length : Int) = (l1.length : Int) then (laws_eqRouteS.l0 k l0 l1 0) else (some false)) = some r := h
 clear h
 by_cases c3 : (l0.length : Int) = (l1.length : Int)
 ·
  rw [if_pos c3] at H
  have c3b0 : ((l0.length : Int) == (l1.length : Int)) = true := beq_iff_eq.mpr c3
  have c3b1 : ((l0.length : Int) != (l1.length : Int)) = false := bne_eq_false_iff_eq.mpr c3
  have c3b2 : (l0.length == l1.length) = true := by first | simpa using c3 | (simp at c3 ⊢; omega)
  clear c3
  have H' := Aside0.mk H
  clear H
  go_enter Try.func54, Try.ntmps54
  go_wp2
  go_loopg [5] k (fun kq v5 w' => ∃ (x5_1 : Int), v5 = .int .i64 x5_1 ∧ Aside0 (laws_eqRouteS.l0 kq l0 l1 x5_1 = some r) ∧ Aside0 (kq ≤ k) ∧ Aside0 (Below w.heap.size w w'))
  case atStart => exact ⟨(0), (by first | rfl | (simp; done) | exact congrArg Value.bool (ne_nil_b _) | exact congrArg Value.bool (eq_nil_b _) | (simp [*]; done)), H', ⟨Nat.le_refl _⟩, ⟨bz⟩⟩
  case round =>
   clear H'
   try clear c1
   try clear p2
   try clear c3
   try clear c3b0
   try clear c3b1
   try clear c3b2
   obtain ⟨x5_1, rfl, HA, HK1, HB⟩ := hrel
   cases gk with
   | zero => exact absurd HA.out (by simp [laws_eqRouteS.l0])
   | succ k1 =>
    have H := HA.out
    clear HA
    simp only [laws_eqRouteS.l0] at H
    by_cases c4 : x5_1 < (l0.length : Int)
    ·
     rw [if_pos c4] at H
     have c4b0 : decide (x5_1 < (l0.length : Int)) = true := decide_eq_true c4
     clear c4
     by_cases c5 : 0 ≤ x5_1
     ·
      rw [if_pos c5] at H
      have c5b0 : decide (0 ≤ x5_1) = true := decide_eq_true c5
      clear c5
      by_cases c6 : x5_1 < (l1.length : Int)
      ·
       rw [if_pos c6] at H
       have c6b0 : decide (x5_1 < (l1.length : Int)) = true := decide_eq_true c6
       clear c6
       replace H := Option.bind_eq_some_iff.mp H
       obtain ⟨t253, A70, H⟩ := H
       try dsimp only at H
       have A7 := Aside0.mk A70
       clear A70
       by_cases c8 : t253 = true
       ·
        subst c8
        rw [if_pos rfl] at H
        have H' := Aside0.mk H
        clear H
        try go_wp2
        have n0_ := Aside0.mk (below_drew1 HB.out)
        clear HB
        have HB := n0_
        clear n0_
        have p251 : 0 ≤ (x5_1 : Int) := of_decide_eq_true (by first | (with_reducible assumption) | assumption)
        have q251 : x5_1 < (l0.length : Int) := of_decide_eq_true (by first | (with_reducible assumption) | assumption)
        obtain ⟨ad251, e251, hx251_0, hx251_1, hx251_2⟩ := at_T35 HR0.out x5_1 p251 q251
        have hw251_2 := hx251_2
        have hw251_1 := hx251_1
        have hw251_0 := hx251_0
        cases e251
        replace hx251_0 := (HB.out.cell (World.block_lt_of_cell? w _ hx251_0)).trans hx251_0
        replace hx251_1 := (HB.out.cell (World.block_lt_of_cell? w _ hx251_1)).trans hx251_1
        replace hx251_2 := (HB.out.cell (World.block_lt_of_cell? w _ hx251_2)).trans hx251_2
        replace p251 := eq_true p251
        replace q251 := eq_true q251
        have p252 : 0 ≤ (x5_1 : Int) := of_decide_eq_true (by first | (with_reducible assumption) | assumption)
        have q252 : x5_1 < (l1.length : Int) := of_decide_eq_true (by first | (with_reducible assumption) | assumption)
        obtain ⟨ad252, e252, hx252_0, hx252_1, hx252_2⟩ := at_T35 HR1.out x5_1 p252 q252
        have hw252_2 := hx252_2
        have hw252_1 := hx252_1
        have hw252_0 := hx252_0
        cases e252
        replace hx252_0 := (HB.out.cell (World.block_lt_of_cell? w _ hx252_0)).trans hx252_0
        replace hx252_1 := (HB.out.cell (World.block_lt_of_cell? w _ hx252_1)).trans hx252_1
        replace hx252_2 := (HB.out.cell (World.block_lt_of_cell? w _ hx252_2)).trans hx252_2
        replace p252 := eq_true p252
        replace q252 := eq_true q252
        refine start_ (n := 10) (S := fun w' => w'.cell? (ad251.add ((x5_1).toNat * 3)) = some (.int .i64 ((rd_T35 l0 x5_1).f0)) ∧ w'.cell? ⟨(ad251.add ((x5_1).toNat * 3)).block, (ad251.add ((x5_1).toNat * 3)).off + 1, none⟩ = some (.string ((rd_T35 l0 x5_1).f1.f0)) ∧ w'.cell? ⟨(ad251.add ((x5_1).toNat * 3)).block, (ad251.add ((x5_1).toNat * 3)).off + 2, none⟩ = some (.string ((rd_T35 l0 x5_1).f1.f1)) ∧ w'.cell? (ad252.add ((x5_1).toNat * 3)) = some (.int .i64 ((rd_T35 l1 x5_1).f0)) ∧ w'.cell? ⟨(ad252.add ((x5_1).toNat * 3)).block, (ad252.add ((x5_1).toNat * 3)).off + 1, none⟩ = some (.string ((rd_T35 l1 x5_1).f1.f0)) ∧ w'.cell? ⟨(ad252.add ((x5_1).toNat * 3)).block, (ad252.add ((x5_1).toNat * 3)).off + 2, none⟩ = some (.string ((rd_T35 l1 x5_1).f1.f1))) (ds := []) #[false, false, false, false, false, false, false, false, false, false] (by kernel_rfl) rfl rfl ⟨((HB.out.cell (World.block_lt_of_cell? w _ hw251_0)).trans hw251_0), ((HB.out.cell (World.block_lt_of_cell? w _ hw251_1)).trans hw251_1), ((HB.out.cell (World.block_lt_of_cell? w _ hw251_2)).trans hw251_2), ((HB.out.cell (World.block_lt_of_cell? w _ hw252_0)).trans hw252_0), ((HB.out.cell (World.block_lt_of_cell? w _ hw252_1)).trans hw252_1), ((HB.out.cell (World.block_lt_of_cell? w _ hw252_2)).trans hw252_2)⟩ (fun hHeld => ?_); refine with_tabW laws_eqRouteS.tab6 laws_eqRouteS.bits6 (fun HT_ HW_ => ?_)
        generalize wr.drew = w9 at HB hx251_0 hx251_1 hx251_2 hx252_0 hx252_1 hx252_2 hHeld ⊢
        refine pure_ (i := 0) (N := some 17) (v := ?_) (a' := ?_) #[true, false, false, false, false, false, false, false, false, false] rfl rfl (any_of HT_.out (by kernel_rfl)) (fun _ _ _ h => h) (Or.inl ⟨by rfl, ?_⟩) ?_ ?_
        rotate_left
        ·
         intro w'
         go_simp
         with_reducible rfl
        rotate_left
        ·
         simp only [Act.put, List.setIfInBounds_toArray, List.set_cons_zero, List.set_cons_succ, i64_w, i32_w]
         rfl
        refine pure_ (i := 1) (N := some 18) (v := ?_) (a' := ?_) #[true, true, false, false, false, false, false, false, false, false] rfl rfl (any_of HT_.out (by kernel_rfl)) (fun _ _ _ h => h) (Or.inl ⟨by rfl, ?_⟩) ?_ ?_
        rotate_left
        ·
         intro w'
         go_simp
         with_reducible rfl
        rotate_left
        ·
         simp only [Act.put, List.setIfInBounds_toArray, List.set_cons_zero, List.set_cons_succ, i64_w, i32_w]
         rfl
        refine pure_ (i := 2) (N := some 19) (v := ?_) (a' := ?_) #[true, true, true, false, false, false, false, false, false, false] rfl rfl (any_of HT_.out (by kernel_rfl)) (fun _ _ _ h => h) (Or.inl ⟨by rfl, ?_⟩) ?_ ?_
        rotate_left
        ·
         intro w'
         go_simp
         with_reducible rfl
        rotate_left
        ·
         simp only [Act.put, List.setIfInBounds_toArray, List.set_cons_zero, List.set_cons_succ, i64_w, i32_w]
         rfl
        refine pure_ (i := 4) (N := some 21) (v := ?_) (a' := ?_) #[true, true, true, false, true, false, false, false, false, false] rfl rfl (any_of HT_.out (by kernel_rfl)) (fun _ _ _ h => h) (Or.inl ⟨by rfl, ?_⟩) ?_ ?_
        rotate_left
        ·
         intro w'
         go_simp
         with_reducible rfl
        rotate_left
        ·
         simp only [Act.put, List.setIfInBounds_toArray, List.set_cons_zero, List.set_cons_succ, i64_w, i32_w]
         rfl
        refine pure_ (i := 5) (N := some 22) (v := ?_) (a' := ?_) #[true, true, true, false, true, true, false, false, false, false] rfl rfl (any_of HT_.out (by kernel_rfl)) (fun _ _ _ h => h) (Or.inl ⟨by rfl, ?_⟩) ?_ ?_
        rotate_left
        ·
         intro w'
         go_simp
         with_reducible rfl
        rotate_left
        ·
         simp only [Act.put, List.setIfInBounds_toArray, List.set_cons_zero, List.set_cons_succ, i64_w, i32_w]
         rfl
        refine pure_ (i := 6) (N := some 23) (v := ?_) (a' := ?_) #[true, true, true, false, true, true, true, false, false, false] rfl rfl (any_of HT_.out (by kernel_rfl)) (fun _ _ _ h => h) (Or.inl ⟨by rfl, ?_⟩) ?_ ?_
        rotate_left
        ·
         intro w'
         go_simp
         with_reducible rfl
        rotate_left
        ·
         simp only [Act.put, List.setIfInBounds_toArray, List.set_cons_zero, List.set_cons_succ, i64_w, i32_w]
         rfl
        refine take_ (i := 3) (N := some 20) (v := ?_) (a' := ?_) #[true, true, true, true, true, true, true, false, false, false] rfl rfl (take_ofW HT_.out HW_.out (by kernel_rfl)) (fun _ _ _ h => h) (Or.inl ⟨by rfl, ?_⟩) hHeld ?_ ?_
        rotate_left
        ·
         rintro w' ⟨s0, s1, s2, s3, s4, s5⟩
         go_simp
         with_reducible rfl
        rotate_left
        ·
         simp only [Act.put, List.setIfInBounds_toArray, List.set_cons_zero, List.set_cons_succ, i64_w, i32_w]
         rfl
        refine take_ (i := 7) (N := some 24) (v := ?_) (a' := ?_) #[true, true, true, true, true, true, true, true, false, false] rfl rfl (take_ofW HT_.out HW_.out (by kernel_rfl)) (fun _ _ _ h => h) (Or.inl ⟨by rfl, ?_⟩) hHeld ?_ ?_
        rotate_left
        ·
         rintro w' ⟨s0, s1, s2, s3, s4, s5⟩
         go_simp
         with_reducible rfl
        rotate_left
        ·
         simp only [Act.put, List.setIfInBounds_toArray, List.set_cons_zero, List.set_cons_succ, i64_w, i32_w]
         rfl
        refine one_ (i := 8) (N := some 25) #[true, true, true, true, true, true, true, true, true, false] rfl rfl (one_of HT_.out (by kernel_rfl)) (by decide) (fun K hK => ?_)
        refine goes_ Try.func110 (by kernel_rfl) rfl #[.agg #[.int .i64 ((rd_T35 l0 x5_1).f0), .string ((rd_T35 l0 x5_1).f1.f0), .string ((rd_T35 l0 x5_1).f1.f1)], .agg #[.int .i64 ((rd_T35 l1 x5_1).f0), .string ((rd_T35 l1 x5_1).f1.f0), .string ((rd_T35 l1 x5_1).f1.f1)]] (by rfl) rfl rfl (by (try simp only [List.map_toArray, List.map_cons, List.map_nil]); first | done | rfl | (simp only [List.length_drop, List.length_take]; rfl)) ?_
        with_reducible refine (laws_eqRoute.calls ((rd_T35 l0 x5_1).f0) ((rd_T35 l0 x5_1).f1.f0) ((rd_T35 l0 x5_1).f1.f1) ((rd_T35 l1 x5_1).f0) ((rd_T35 l1 x5_1).f1.f0) ((rd_T35 l1 x5_1).f1.f1) true _ A7.out).mono ?_
        rintro e w10 ⟨rfl, hb⟩
        refine ⟨_, rfl, ?_⟩
        have n0_ := Aside0.mk (below_step (bz) hb)
        clear HB
        have HB := n0_
        clear n0_
        (try clear hb)
        (try clear hb2)
        (try clear hk)
        (try clear hi)
        refine hK.out _ _ ⟨((HB.out.cell (World.block_lt_of_cell? w _ hw251_0)).trans hw251_0), ((HB.out.cell (World.block_lt_of_cell? w _ hw251_1)).trans hw251_1), ((HB.out.cell (World.block_lt_of_cell? w _ hw251_2)).trans hw251_2), ((HB.out.cell (World.block_lt_of_cell? w _ hw252_0)).trans hw252_0), ((HB.out.cell (World.block_lt_of_cell? w _ hw252_1)).trans hw252_1), ((HB.out.cell (World.block_lt_of_cell? w _ hw252_2)).trans hw252_2)⟩ (fun hHeld => ?_)
        clear hK K
        refine norm_ (a' := ?_) ?_ ?_
        rotate_left
        ·
         show Act.put _ (some 25) _ = _
         simp only [Act.put, List.setIfInBounds_toArray, List.set_cons_zero, List.set_cons_succ, i64_w, i32_w]
         rfl
        refine pure_ (i := 9) (N := some 26) (v := ?_) (a' := ?_) #[true, true, true, true, true, true, true, true, true, true] rfl rfl (any_of HT_.out (by kernel_rfl)) (fun _ _ _ h => h) (Or.inl ⟨by rfl, ?_⟩) ?_ ?_
        rotate_left
        ·
         intro w'
         go_simp
         with_reducible rfl
        rotate_left
        ·
         simp only [Act.put, List.setIfInBounds_toArray, List.set_cons_zero, List.set_cons_succ, i64_w, i32_w]
         rfl
        refine done_ (done_of HT_.out (by kernel_rfl)) ?_
        try go_wp2
        go_roundg k1
        case measure => have := HK1.out; omega
        case rel => exact ⟨(wrap64 (x5_1 + 1)), (by first | rfl | (simp; done) | exact congrArg Value.bool (ne_nil_b _) | exact congrArg Value.bool (eq_nil_b _) | (simp [*]; done)), H', ⟨by have := HK1.out; omega⟩, ⟨bz⟩⟩
       ·
        replace c8 := Bool.eq_false_iff.mpr c8
        subst c8
        rw [if_neg (show ¬ (false = true) by decide)] at H
        obtain rfl := Option.some.inj H
        try go_wp2
        have n0_ := Aside0.mk (below_drew1 HB.out)
        clear HB
        have HB := n0_
        clear n0_
        have p251 : 0 ≤ (x5_1 : Int) := of_decide_eq_true (by first | (with_reducible assumption) | assumption)
        have q251 : x5_1 < (l0.length : Int) := of_decide_eq_true (by first | (with_reducible assumption) | assumption)
        obtain ⟨ad251, e251, hx251_0, hx251_1, hx251_2⟩ := at_T35 HR0.out x5_1 p251 q251
        have hw251_2 := hx251_2
        have hw251_1 := hx251_1
        have hw251_0 := hx251_0
        cases e251
        replace hx251_0 := (HB.out.cell (World.block_lt_of_cell? w _ hx251_0)).trans hx251_0
        replace hx251_1 := (HB.out.cell (World.block_lt_of_cell? w _ hx251_1)).trans hx251_1
        replace hx251_2 := (HB.out.cell (World.block_lt_of_cell? w _ hx251_2)).trans hx251_2
        replace p251 := eq_true p251
        replace q251 := eq_true q251
        have p252 : 0 ≤ (x5_1 : Int) := of_decide_eq_true (by first | (with_reducible assumption) | assumption)
        have q252 : x5_1 < (l1.length : Int) := of_decide_eq_true (by first | (with_reducible assumption) | assumption)
        obtain ⟨ad252, e252, hx252_0, hx252_1, hx252_2⟩ := at_T35 HR1.out x5_1 p252 q252
        have hw252_2 := hx252_2
        have hw252_1 := hx252_1
        have hw252_0 := hx252_0
        cases e252
        replace hx252_0 := (HB.out.cell (World.block_lt_of_cell? w _ hx252_0)).trans hx252_0
        replace hx252_1 := (HB.out.cell (World.block_lt_of_cell? w _ hx252_1)).trans hx252_1
        replace hx252_2 := (HB.out.cell (World.block_lt_of_cell? w _ hx252_2)).trans hx252_2
        replace p252 := eq_true p252
        replace q252 := eq_true q252
        refine start_ (n := 10) (S := fun w' => w'.cell? (ad251.add ((x5_1).toNat * 3)) = some (.int .i64 ((rd_T35 l0 x5_1).f0)) ∧ w'.cell? ⟨(ad251.add ((x5_1).toNat * 3)).block, (ad251.add ((x5_1).toNat * 3)).off + 1, none⟩ = some (.string ((rd_T35 l0 x5_1).f1.f0)) ∧ w'.cell? ⟨(ad251.add ((x5_1).toNat * 3)).block, (ad251.add ((x5_1).toNat * 3)).off + 2, none⟩ = some (.string ((rd_T35 l0 x5_1).f1.f1)) ∧ w'.cell? (ad252.add ((x5_1).toNat * 3)) = some (.int .i64 ((rd_T35 l1 x5_1).f0)) ∧ w'.cell? ⟨(ad252.add ((x5_1).toNat * 3)).block, (ad252.add ((x5_1).toNat * 3)).off + 1, none⟩ = some (.string ((rd_T35 l1 x5_1).f1.f0)) ∧ w'.cell? ⟨(ad252.add ((x5_1).toNat * 3)).block, (ad252.add ((x5_1).toNat * 3)).off + 2, none⟩ = some (.string ((rd_T35 l1 x5_1).f1.f1))) (ds := []) #[false, false, false, false, false, false, false, false, false, false] (by kernel_rfl) rfl rfl ⟨((HB.out.cell (World.block_lt_of_cell? w _ hw251_0)).trans hw251_0), ((HB.out.cell (World.block_lt_of_cell? w _ hw251_1)).trans hw251_1), ((HB.out.cell (World.block_lt_of_cell? w _ hw251_2)).trans hw251_2), ((HB.out.cell (World.block_lt_of_cell? w _ hw252_0)).trans hw252_0), ((HB.out.cell (World.block_lt_of_cell? w _ hw252_1)).trans hw252_1), ((HB.out.cell (World.block_lt_of_cell? w _ hw252_2)).trans hw252_2)⟩ (fun hHeld => ?_); refine with_tabW laws_eqRouteS.tab6 laws_eqRouteS.bits6 (fun HT_ HW_ => ?_)
        generalize wr.drew = w11 at HB hx251_0 hx251_1 hx251_2 hx252_0 hx252_1 hx252_2 hHeld ⊢
        refine pure_ (i := 0) (N := some 17) (v := ?_) (a' := ?_) #[true, false, false, false, false, false, false, false, false, false] rfl rfl (any_of HT_.out (by kernel_rfl)) (fun _ _ _ h => h) (Or.inl ⟨by rfl, ?_⟩) ?_ ?_
        rotate_left
        ·
         intro w'
         go_simp
         with_reducible rfl
        rotate_left
        ·
         simp only [Act.put, List.setIfInBounds_toArray, List.set_cons_zero, List.set_cons_succ, i64_w, i32_w]
         rfl
        refine pure_ (i := 1) (N := some 18) (v := ?_) (a' := ?_) #[true, true, false, false, false, false, false, false, false, false] rfl rfl (any_of HT_.out (by kernel_rfl)) (fun _ _ _ h => h) (Or.inl ⟨by rfl, ?_⟩) ?_ ?_
        rotate_left
        ·
         intro w'
         go_simp
         with_reducible rfl
        rotate_left
        ·
         simp only [Act.put, List.setIfInBounds_toArray, List.set_cons_zero, List.set_cons_succ, i64_w, i32_w]
         rfl
        refine pure_ (i := 2) (N := some 19) (v := ?_) (a' := ?_) #[true, true, true, false, false, false, false, false, false, false] rfl rfl (any_of HT_.out (by kernel_rfl)) (fun _ _ _ h => h) (Or.inl ⟨by rfl, ?_⟩) ?_ ?_
        rotate_left
        ·
         intro w'
         go_simp
         with_reducible rfl
        rotate_left
        ·
         simp only [Act.put, List.setIfInBounds_toArray, List.set_cons_zero, List.set_cons_succ, i64_w, i32_w]
         rfl
        refine pure_ (i := 4) (N := some 21) (v := ?_) (a' := ?_) #[true, true, true, false, true, false, false, false, false, false] rfl rfl (any_of HT_.out (by kernel_rfl)) (fun _ _ _ h => h) (Or.inl ⟨by rfl, ?_⟩) ?_ ?_
        rotate_left
        ·
         intro w'
         go_simp
         with_reducible rfl
        rotate_left
        ·
         simp only [Act.put, List.setIfInBounds_toArray, List.set_cons_zero, List.set_cons_succ, i64_w, i32_w]
         rfl
        refine pure_ (i := 5) (N := some 22) (v := ?_) (a' := ?_) #[true, true, true, false, true, true, false, false, false, false] rfl rfl (any_of HT_.out (by kernel_rfl)) (fun _ _ _ h => h) (Or.inl ⟨by rfl, ?_⟩) ?_ ?_
        rotate_left
        ·
         intro w'
         go_simp
         with_reducible rfl
        rotate_left
        ·
         simp only [Act.put, List.setIfInBounds_toArray, List.set_cons_zero, List.set_cons_succ, i64_w, i32_w]
         rfl
        refine pure_ (i := 6) (N := some 23) (v := ?_) (a' := ?_) #[true, true, true, false, true, true, true, false, false, false] rfl rfl (any_of HT_.out (by kernel_rfl)) (fun _ _ _ h => h) (Or.inl ⟨by rfl, ?_⟩) ?_ ?_
        rotate_left
        ·
         intro w'
         go_simp
         with_reducible rfl
        rotate_left
        ·
         simp only [Act.put, List.setIfInBounds_toArray, List.set_cons_zero, List.set_cons_succ, i64_w, i32_w]
         rfl
        refine take_ (i := 3) (N := some 20) (v := ?_) (a' := ?_) #[true, true, true, true, true, true, true, false, false, false] rfl rfl (take_ofW HT_.out HW_.out (by kernel_rfl)) (fun _ _ _ h => h) (Or.inl ⟨by rfl, ?_⟩) hHeld ?_ ?_
        rotate_left
        ·
         rintro w' ⟨s0, s1, s2, s3, s4, s5⟩
         go_simp
         with_reducible rfl
        rotate_left
        ·
         simp only [Act.put, List.setIfInBounds_toArray, List.set_cons_zero, List.set_cons_succ, i64_w, i32_w]
         rfl
        refine take_ (i := 7) (N := some 24) (v := ?_) (a' := ?_) #[true, true, true, true, true, true, true, true, false, false] rfl rfl (take_ofW HT_.out HW_.out (by kernel_rfl)) (fun _ _ _ h => h) (Or.inl ⟨by rfl, ?_⟩) hHeld ?_ ?_
        rotate_left
        ·
         rintro w' ⟨s0, s1, s2, s3, s4, s5⟩
         go_simp
         with_reducible rfl
        rotate_left
        ·
         simp only [Act.put, List.setIfInBounds_toArray, List.set_cons_zero, List.set_cons_succ, i64_w, i32_w]
         rfl
        refine one_ (i := 8) (N := some 25) #[true, true, true, true, true, true, true, true, true, false] rfl rfl (one_of HT_.out (by kernel_rfl)) (by decide) (fun K hK => ?_)
        refine goes_ Try.func110 (by kernel_rfl) rfl #[.agg #[.int .i64 ((rd_T35 l0 x5_1).f0), .string ((rd_T35 l0 x5_1).f1.f0), .string ((rd_T35 l0 x5_1).f1.f1)], .agg #[.int .i64 ((rd_T35 l1 x5_1).f0), .string ((rd_T35 l1 x5_1).f1.f0), .string ((rd_T35 l1 x5_1).f1.f1)]] (by rfl) rfl rfl (by (try simp only [List.map_toArray, List.map_cons, List.map_nil]); first | done | rfl | (simp only [List.length_drop, List.length_take]; rfl)) ?_
        with_reducible refine (laws_eqRoute.calls ((rd_T35 l0 x5_1).f0) ((rd_T35 l0 x5_1).f1.f0) ((rd_T35 l0 x5_1).f1.f1) ((rd_T35 l1 x5_1).f0) ((rd_T35 l1 x5_1).f1.f0) ((rd_T35 l1 x5_1).f1.f1) false _ A7.out).mono ?_
        rintro e w12 ⟨rfl, hb⟩
        refine ⟨_, rfl, ?_⟩
        have n0_ := Aside0.mk (below_step (bz) hb)
        clear HB
        have HB := n0_
        clear n0_
        (try clear hb)
        (try clear hb2)
        (try clear hk)
        (try clear hi)
        refine hK.out _ _ ⟨((HB.out.cell (World.block_lt_of_cell? w _ hw251_0)).trans hw251_0), ((HB.out.cell (World.block_lt_of_cell? w _ hw251_1)).trans hw251_1), ((HB.out.cell (World.block_lt_of_cell? w _ hw251_2)).trans hw251_2), ((HB.out.cell (World.block_lt_of_cell? w _ hw252_0)).trans hw252_0), ((HB.out.cell (World.block_lt_of_cell? w _ hw252_1)).trans hw252_1), ((HB.out.cell (World.block_lt_of_cell? w _ hw252_2)).trans hw252_2)⟩ (fun hHeld => ?_)
        clear hK K
        refine norm_ (a' := ?_) ?_ ?_
        rotate_left
        ·
         show Act.put _ (some 25) _ = _
         simp only [Act.put, List.setIfInBounds_toArray, List.set_cons_zero, List.set_cons_succ, i64_w, i32_w]
         rfl
        refine pure_ (i := 9) (N := some 26) (v := ?_) (a' := ?_) #[true, true, true, true, true, true, true, true, true, true] rfl rfl (any_of HT_.out (by kernel_rfl)) (fun _ _ _ h => h) (Or.inl ⟨by rfl, ?_⟩) ?_ ?_
        rotate_left
        ·
         intro w'
         go_simp
         with_reducible rfl
        rotate_left
        ·
         simp only [Act.put, List.setIfInBounds_toArray, List.set_cons_zero, List.set_cons_succ, i64_w, i32_w]
         rfl
        refine done_ (done_of HT_.out (by kernel_rfl)) ?_
        try go_wp2
        go_ret
        exact ⟨by first | rfl | (simp only [u8w, w64m]; rfl) | (simp [errW_none, errW_some] <;> rfl) | (simp [*, errW_none, errW_some] <;> rfl), bz⟩
      ·
       rw [if_neg c6] at H
       exact absurd H (by simp)
     ·
      rw [if_neg c5] at H
      exact absurd H (by simp)
    ·
     rw [if_neg c4] at H
     have c4b0 : decide (x5_1 < (l0.length : Int)) = false := decide_eq_false c4
     clear c4
     obtain rfl := Option.some.inj H
     go_wp2
     go_ret
     exact ⟨by first | rfl | (simp only [u8w, w64m]; rfl) | (simp [errW_none, errW_some] <;> rfl) | (simp [*, errW_none, errW_some] <;> rfl), bz⟩
 ·
  rw [if_neg c3] at H
  have c3b0 : ((l0.length : Int) == (l1.length : Int)) = false := beq_eq_false_iff_ne.mpr c3
  have c3b1 : ((l0.length : Int) != (l1.length : Int)) = true := bne_iff_ne.mpr c3
  have c3b2 : (l0.length == l1.length) = false := by first | simpa using c3 | (simp at c3 ⊢; omega)
  obtain rfl := Option.some.inj H
  go_enter Try.func54, Try.ntmps54
  go_wp2
  go_ret
  exact ⟨by first | rfl | (simp only [u8w, w64m]; rfl) | (simp [errW_none, errW_some] <;> rfl) | (simp [*, errW_none, errW_some] <;> rfl), bz⟩

/-! ### laws_eqCommand: function 102 -/
def laws_eqCommand.f (a0_0 : Int) (a0_1 : ByteArray) (a0_2 : Int) (a0_3 : Int) (a1_0 : Int) (a1_1 : ByteArray) (a1_2 : Int) (a1_3 : Int) : Option (Bool) := if a0_0 = a1_0 then (if a0_1.toList = a1_1.toList then (if a0_2 = a1_2 then (if a0_3 = a1_3 then (some true) else (some false)) else (some false)) else (some false)) else (some false)
set_option maxHeartbeats 8000000 in
set_option maxRecDepth 100000 in
theorem laws_eqCommand.calls (a0_0 : Int) (a0_1 : ByteArray) (a0_2 : Int) (a0_3 : Int) (a1_0 : Int) (a1_1 : ByteArray) (a1_2 : Int) (a1_3 : Int) (r : Bool) (w : World) (h : laws_eqCommand.f a0_0 a0_1 a0_2 a0_3 a1_0 a1_1 a1_2 a1_3 = some r) :
  Calls Try.prog 102 #[.agg #[.int .i64 a0_0, .string a0_1, .int .i64 a0_2, .int .i64 a0_3], .agg #[.int .i64 a1_0, .string a1_1, .int .i64 a1_2, .int .i64 a1_3]] w fun e w' => e = .returned (.bool r) ∧ Below w.heap.size w w' := by
 have hu39 := Try.underlying39
 have HB := Aside0.mk (Below.refl w.heap.size w)
 have H : (if a0_0 = a1_0 then (if a0_1.toList = a1_1.toList then (if a0_2 = a1_2 then (if a0_3 = a1_3 then (some true) else (some false)) else (some false)) else (some false)) else (some false)) = some r := h
 clear h
 by_cases c3 : a0_0 = a1_0
 ·
  rw [if_pos c3] at H
  have c3b0 : (a0_0 == a1_0) = true := beq_iff_eq.mpr c3
  have c3b1 : (a0_0 != a1_0) = false := bne_eq_false_iff_eq.mpr c3
  clear c3
  by_cases c4 : a0_1.toList = a1_1.toList
  ·
   rw [if_pos c4] at H
   have c4b0 : (a0_1.toList == a1_1.toList) = true := beq_iff_eq.mpr c4
   have c4b1 : (a0_1.toList != a1_1.toList) = false := bne_eq_false_iff_eq.mpr c4
   clear c4
   by_cases c5 : a0_2 = a1_2
   ·
    rw [if_pos c5] at H
    have c5b0 : (a0_2 == a1_2) = true := beq_iff_eq.mpr c5
    have c5b1 : (a0_2 != a1_2) = false := bne_eq_false_iff_eq.mpr c5
    clear c5
    by_cases c6 : a0_3 = a1_3
    ·
     rw [if_pos c6] at H
     have c6b0 : (a0_3 == a1_3) = true := beq_iff_eq.mpr c6
     have c6b1 : (a0_3 != a1_3) = false := bne_eq_false_iff_eq.mpr c6
     clear c6
     obtain rfl := Option.some.inj H
     go_enter Try.func102, Try.ntmps102
     go_wp2_with (first | ((with_reducible refine gate_dst (N := 2) rfl ?_); refine box_event ?hg (N := 2) ?hd (cs := #[.int .i64 a0_0, .string a0_1, .int .i64 a0_2, .int .i64 a0_3]) (t := 39) ?hr ?_; (case hd => rfl); (case hg => rfl); (case hr => first | (go_simp; done) | (go_simp; rfl)); intro gb254 hg w7 hbox hb; have n0_ := Aside0.mk (below_step (bz) hb); have n1_ := Aside0.mk (hbox); have n2_ : Aside0 (w.heap.size ≤ gb254) := bsg hg; have n3_ : Aside0 (w.heap.size ≤ gb254) := bsg hg; clear HB; have HB := n0_; have BK254 := n1_; have GW254 := n2_; have GE254 := n3_; clear n0_ n1_ n2_ n3_; clear hb hbox hg) | ((with_reducible refine gate_dst (N := 3) rfl ?_); refine box_event ?hg (N := 3) ?hd (cs := #[.int .i64 a1_0, .string a1_1, .int .i64 a1_2, .int .i64 a1_3]) (t := 39) ?hr ?_; (case hd => rfl); (case hg => rfl); (case hr => first | (go_simp; done) | (go_simp; rfl)); intro gb255 hg w8 hbox hb; have n0_ := bkb BK254 hb; have n1_ := Aside0.mk (below_step (bz) hb); have n2_ := Aside0.mk (hbox); have n3_ : Aside0 (w.heap.size ≤ gb255) := bsg hg; have n4_ : Aside0 (w.heap.size ≤ gb255) := bsg hg; have n5_ := nlt hg BK254; have n6_ := ngt hg BK254; clear BK254; clear HB; have BK254 := n0_; have HB := n1_; have BK255 := n2_; have GW255 := n3_; have GE255 := n4_; have NB254_255 := n5_; have NB255_254 := n6_; clear n0_ n1_ n2_ n3_ n4_ n5_ n6_; clear hb hbox hg; have hnb9 := NB254_255.out; have hnc9 := NB255_254.out; have hcz10_0 : w8.cell? ⟨gb254, 0, none⟩ = some (.int .i64 a0_0) := (blk_cell BK254.out 0).trans rfl; have hcz10_1 : w8.cell? ⟨gb254, 1, none⟩ = some (.string a0_1) := (blk_cell BK254.out 1).trans rfl; have hcz10_2 : w8.cell? ⟨gb254, 2, none⟩ = some (.int .i64 a0_2) := (blk_cell BK254.out 2).trans rfl; have hcz10_3 : w8.cell? ⟨gb254, 3, none⟩ = some (.int .i64 a0_3) := (blk_cell BK254.out 3).trans rfl; have hfz10_0 := blk_frozen BK254.out 0; have hfz10_1 := blk_frozen BK254.out 1; have hfz10_2 := blk_frozen BK254.out 2; have hfz10_3 := blk_frozen BK254.out 3; have hcz11_0 : w8.cell? ⟨gb255, 0, none⟩ = some (.int .i64 a1_0) := (blk_cell BK255.out 0).trans rfl; have hcz11_1 : w8.cell? ⟨gb255, 1, none⟩ = some (.string a1_1) := (blk_cell BK255.out 1).trans rfl; have hcz11_2 : w8.cell? ⟨gb255, 2, none⟩ = some (.int .i64 a1_2) := (blk_cell BK255.out 2).trans rfl; have hcz11_3 : w8.cell? ⟨gb255, 3, none⟩ = some (.int .i64 a1_3) := (blk_cell BK255.out 3).trans rfl; have hfz11_0 := blk_frozen BK255.out 0; have hfz11_1 := blk_frozen BK255.out 1; have hfz11_2 := blk_frozen BK255.out 2; have hfz11_3 := blk_frozen BK255.out 3))
     go_ret
     exact ⟨by first | rfl | (simp only [u8w, w64m]; rfl) | (simp [errW_none, errW_some] <;> rfl) | (simp [*, errW_none, errW_some] <;> rfl), bz⟩
    ·
     rw [if_neg c6] at H
     have c6b0 : (a0_3 == a1_3) = false := beq_eq_false_iff_ne.mpr c6
     have c6b1 : (a0_3 != a1_3) = true := bne_iff_ne.mpr c6
     obtain rfl := Option.some.inj H
     go_enter Try.func102, Try.ntmps102
     go_wp2_with (first | ((with_reducible refine gate_dst (N := 2) rfl ?_); refine box_event ?hg (N := 2) ?hd (cs := #[.int .i64 a0_0, .string a0_1, .int .i64 a0_2, .int .i64 a0_3]) (t := 39) ?hr ?_; (case hd => rfl); (case hg => rfl); (case hr => first | (go_simp; done) | (go_simp; rfl)); intro gb254 hg w12 hbox hb; have n0_ := Aside0.mk (below_step (bz) hb); have n1_ := Aside0.mk (hbox); have n2_ : Aside0 (w.heap.size ≤ gb254) := bsg hg; have n3_ : Aside0 (w.heap.size ≤ gb254) := bsg hg; clear HB; have HB := n0_; have BK254 := n1_; have GW254 := n2_; have GE254 := n3_; clear n0_ n1_ n2_ n3_; clear hb hbox hg) | ((with_reducible refine gate_dst (N := 3) rfl ?_); refine box_event ?hg (N := 3) ?hd (cs := #[.int .i64 a1_0, .string a1_1, .int .i64 a1_2, .int .i64 a1_3]) (t := 39) ?hr ?_; (case hd => rfl); (case hg => rfl); (case hr => first | (go_simp; done) | (go_simp; rfl)); intro gb255 hg w13 hbox hb; have n0_ := bkb BK254 hb; have n1_ := Aside0.mk (below_step (bz) hb); have n2_ := Aside0.mk (hbox); have n3_ : Aside0 (w.heap.size ≤ gb255) := bsg hg; have n4_ : Aside0 (w.heap.size ≤ gb255) := bsg hg; have n5_ := nlt hg BK254; have n6_ := ngt hg BK254; clear BK254; clear HB; have BK254 := n0_; have HB := n1_; have BK255 := n2_; have GW255 := n3_; have GE255 := n4_; have NB254_255 := n5_; have NB255_254 := n6_; clear n0_ n1_ n2_ n3_ n4_ n5_ n6_; clear hb hbox hg; have hnb14 := NB254_255.out; have hnc14 := NB255_254.out; have hcz15_0 : w13.cell? ⟨gb254, 0, none⟩ = some (.int .i64 a0_0) := (blk_cell BK254.out 0).trans rfl; have hcz15_1 : w13.cell? ⟨gb254, 1, none⟩ = some (.string a0_1) := (blk_cell BK254.out 1).trans rfl; have hcz15_2 : w13.cell? ⟨gb254, 2, none⟩ = some (.int .i64 a0_2) := (blk_cell BK254.out 2).trans rfl; have hcz15_3 : w13.cell? ⟨gb254, 3, none⟩ = some (.int .i64 a0_3) := (blk_cell BK254.out 3).trans rfl; have hfz15_0 := blk_frozen BK254.out 0; have hfz15_1 := blk_frozen BK254.out 1; have hfz15_2 := blk_frozen BK254.out 2; have hfz15_3 := blk_frozen BK254.out 3; have hcz16_0 : w13.cell? ⟨gb255, 0, none⟩ = some (.int .i64 a1_0) := (blk_cell BK255.out 0).trans rfl; have hcz16_1 : w13.cell? ⟨gb255, 1, none⟩ = some (.string a1_1) := (blk_cell BK255.out 1).trans rfl; have hcz16_2 : w13.cell? ⟨gb255, 2, none⟩ = some (.int .i64 a1_2) := (blk_cell BK255.out 2).trans rfl; have hcz16_3 : w13.cell? ⟨gb255, 3, none⟩ = some (.int .i64 a1_3) := (blk_cell BK255.out 3).trans rfl; have hfz16_0 := blk_frozen BK255.out 0; have hfz16_1 := blk_frozen BK255.out 1; have hfz16_2 := blk_frozen BK255.out 2; have hfz16_3 := blk_frozen BK255.out 3))
     go_ret
     exact ⟨by first | rfl | (simp only [u8w, w64m]; rfl) | (simp [errW_none, errW_some] <;> rfl) | (simp [*, errW_none, errW_some] <;> rfl), bz⟩
   ·
    rw [if_neg c5] at H
    have c5b0 : (a0_2 == a1_2) = false := beq_eq_false_iff_ne.mpr c5
    have c5b1 : (a0_2 != a1_2) = true := bne_iff_ne.mpr c5
    obtain rfl := Option.some.inj H
    go_enter Try.func102, Try.ntmps102
    go_wp2_with (first | ((with_reducible refine gate_dst (N := 2) rfl ?_); refine box_event ?hg (N := 2) ?hd (cs := #[.int .i64 a0_0, .string a0_1, .int .i64 a0_2, .int .i64 a0_3]) (t := 39) ?hr ?_; (case hd => rfl); (case hg => rfl); (case hr => first | (go_simp; done) | (go_simp; rfl)); intro gb254 hg w17 hbox hb; have n0_ := Aside0.mk (below_step (bz) hb); have n1_ := Aside0.mk (hbox); have n2_ : Aside0 (w.heap.size ≤ gb254) := bsg hg; have n3_ : Aside0 (w.heap.size ≤ gb254) := bsg hg; clear HB; have HB := n0_; have BK254 := n1_; have GW254 := n2_; have GE254 := n3_; clear n0_ n1_ n2_ n3_; clear hb hbox hg) | ((with_reducible refine gate_dst (N := 3) rfl ?_); refine box_event ?hg (N := 3) ?hd (cs := #[.int .i64 a1_0, .string a1_1, .int .i64 a1_2, .int .i64 a1_3]) (t := 39) ?hr ?_; (case hd => rfl); (case hg => rfl); (case hr => first | (go_simp; done) | (go_simp; rfl)); intro gb255 hg w18 hbox hb; have n0_ := bkb BK254 hb; have n1_ := Aside0.mk (below_step (bz) hb); have n2_ := Aside0.mk (hbox); have n3_ : Aside0 (w.heap.size ≤ gb255) := bsg hg; have n4_ : Aside0 (w.heap.size ≤ gb255) := bsg hg; have n5_ := nlt hg BK254; have n6_ := ngt hg BK254; clear BK254; clear HB; have BK254 := n0_; have HB := n1_; have BK255 := n2_; have GW255 := n3_; have GE255 := n4_; have NB254_255 := n5_; have NB255_254 := n6_; clear n0_ n1_ n2_ n3_ n4_ n5_ n6_; clear hb hbox hg; have hnb19 := NB254_255.out; have hnc19 := NB255_254.out; have hcz20_0 : w18.cell? ⟨gb254, 0, none⟩ = some (.int .i64 a0_0) := (blk_cell BK254.out 0).trans rfl; have hcz20_1 : w18.cell? ⟨gb254, 1, none⟩ = some (.string a0_1) := (blk_cell BK254.out 1).trans rfl; have hcz20_2 : w18.cell? ⟨gb254, 2, none⟩ = some (.int .i64 a0_2) := (blk_cell BK254.out 2).trans rfl; have hcz20_3 : w18.cell? ⟨gb254, 3, none⟩ = some (.int .i64 a0_3) := (blk_cell BK254.out 3).trans rfl; have hfz20_0 := blk_frozen BK254.out 0; have hfz20_1 := blk_frozen BK254.out 1; have hfz20_2 := blk_frozen BK254.out 2; have hfz20_3 := blk_frozen BK254.out 3; have hcz21_0 : w18.cell? ⟨gb255, 0, none⟩ = some (.int .i64 a1_0) := (blk_cell BK255.out 0).trans rfl; have hcz21_1 : w18.cell? ⟨gb255, 1, none⟩ = some (.string a1_1) := (blk_cell BK255.out 1).trans rfl; have hcz21_2 : w18.cell? ⟨gb255, 2, none⟩ = some (.int .i64 a1_2) := (blk_cell BK255.out 2).trans rfl; have hcz21_3 : w18.cell? ⟨gb255, 3, none⟩ = some (.int .i64 a1_3) := (blk_cell BK255.out 3).trans rfl; have hfz21_0 := blk_frozen BK255.out 0; have hfz21_1 := blk_frozen BK255.out 1; have hfz21_2 := blk_frozen BK255.out 2; have hfz21_3 := blk_frozen BK255.out 3))
    go_ret
    exact ⟨by first | rfl | (simp only [u8w, w64m]; rfl) | (simp [errW_none, errW_some] <;> rfl) | (simp [*, errW_none, errW_some] <;> rfl), bz⟩
  ·
   rw [if_neg c4] at H
   have c4b0 : (a0_1.toList == a1_1.toList) = false := beq_eq_false_iff_ne.mpr c4
   have c4b1 : (a0_1.toList != a1_1.toList) = true := bne_iff_ne.mpr c4
   obtain rfl := Option.some.inj H
   go_enter Try.func102, Try.ntmps102
   go_wp2_with (first | ((with_reducible refine gate_dst (N := 2) rfl ?_); refine box_event ?hg (N := 2) ?hd (cs := #[.int .i64 a0_0, .string a0_1, .int .i64 a0_2, .int .i64 a0_3]) (t := 39) ?hr ?_; (case hd => rfl); (case hg => rfl); (case hr => first | (go_simp; done) | (go_simp; rfl)); intro gb254 hg w22 hbox hb; have n0_ := Aside0.mk (below_step (bz) hb); have n1_ := Aside0.mk (hbox); have n2_ : Aside0 (w.heap.size ≤ gb254) := bsg hg; have n3_ : Aside0 (w.heap.size ≤ gb254) := bsg hg; clear HB; have HB := n0_; have BK254 := n1_; have GW254 := n2_; have GE254 := n3_; clear n0_ n1_ n2_ n3_; clear hb hbox hg) | ((with_reducible refine gate_dst (N := 3) rfl ?_); refine box_event ?hg (N := 3) ?hd (cs := #[.int .i64 a1_0, .string a1_1, .int .i64 a1_2, .int .i64 a1_3]) (t := 39) ?hr ?_; (case hd => rfl); (case hg => rfl); (case hr => first | (go_simp; done) | (go_simp; rfl)); intro gb255 hg w23 hbox hb; have n0_ := bkb BK254 hb; have n1_ := Aside0.mk (below_step (bz) hb); have n2_ := Aside0.mk (hbox); have n3_ : Aside0 (w.heap.size ≤ gb255) := bsg hg; have n4_ : Aside0 (w.heap.size ≤ gb255) := bsg hg; have n5_ := nlt hg BK254; have n6_ := ngt hg BK254; clear BK254; clear HB; have BK254 := n0_; have HB := n1_; have BK255 := n2_; have GW255 := n3_; have GE255 := n4_; have NB254_255 := n5_; have NB255_254 := n6_; clear n0_ n1_ n2_ n3_ n4_ n5_ n6_; clear hb hbox hg; have hnb24 := NB254_255.out; have hnc24 := NB255_254.out; have hcz25_0 : w23.cell? ⟨gb254, 0, none⟩ = some (.int .i64 a0_0) := (blk_cell BK254.out 0).trans rfl; have hcz25_1 : w23.cell? ⟨gb254, 1, none⟩ = some (.string a0_1) := (blk_cell BK254.out 1).trans rfl; have hcz25_2 : w23.cell? ⟨gb254, 2, none⟩ = some (.int .i64 a0_2) := (blk_cell BK254.out 2).trans rfl; have hcz25_3 : w23.cell? ⟨gb254, 3, none⟩ = some (.int .i64 a0_3) := (blk_cell BK254.out 3).trans rfl; have hfz25_0 := blk_frozen BK254.out 0; have hfz25_1 := blk_frozen BK254.out 1; have hfz25_2 := blk_frozen BK254.out 2; have hfz25_3 := blk_frozen BK254.out 3; have hcz26_0 : w23.cell? ⟨gb255, 0, none⟩ = some (.int .i64 a1_0) := (blk_cell BK255.out 0).trans rfl; have hcz26_1 : w23.cell? ⟨gb255, 1, none⟩ = some (.string a1_1) := (blk_cell BK255.out 1).trans rfl; have hcz26_2 : w23.cell? ⟨gb255, 2, none⟩ = some (.int .i64 a1_2) := (blk_cell BK255.out 2).trans rfl; have hcz26_3 : w23.cell? ⟨gb255, 3, none⟩ = some (.int .i64 a1_3) := (blk_cell BK255.out 3).trans rfl; have hfz26_0 := blk_frozen BK255.out 0; have hfz26_1 := blk_frozen BK255.out 1; have hfz26_2 := blk_frozen BK255.out 2; have hfz26_3 := blk_frozen BK255.out 3))
   go_ret
   exact ⟨by first | rfl | (simp only [u8w, w64m]; rfl) | (simp [errW_none, errW_some] <;> rfl) | (simp [*, errW_none, errW_some] <;> rfl), bz⟩
 ·
  rw [if_neg c3] at H
  have c3b0 : (a0_0 == a1_0) = false := beq_eq_false_iff_ne.mpr c3
  have c3b1 : (a0_0 != a1_0) = true := bne_iff_ne.mpr c3
  obtain rfl := Option.some.inj H
  go_enter Try.func102, Try.ntmps102
  go_wp2_with (first | ((with_reducible refine gate_dst (N := 2) rfl ?_); refine box_event ?hg (N := 2) ?hd (cs := #[.int .i64 a0_0, .string a0_1, .int .i64 a0_2, .int .i64 a0_3]) (t := 39) ?hr ?_; (case hd => rfl); (case hg => rfl); (case hr => first | (go_simp; done) | (go_simp; rfl)); intro gb254 hg w27 hbox hb; have n0_ := Aside0.mk (below_step (bz) hb); have n1_ := Aside0.mk (hbox); have n2_ : Aside0 (w.heap.size ≤ gb254) := bsg hg; have n3_ : Aside0 (w.heap.size ≤ gb254) := bsg hg; clear HB; have HB := n0_; have BK254 := n1_; have GW254 := n2_; have GE254 := n3_; clear n0_ n1_ n2_ n3_; clear hb hbox hg) | ((with_reducible refine gate_dst (N := 3) rfl ?_); refine box_event ?hg (N := 3) ?hd (cs := #[.int .i64 a1_0, .string a1_1, .int .i64 a1_2, .int .i64 a1_3]) (t := 39) ?hr ?_; (case hd => rfl); (case hg => rfl); (case hr => first | (go_simp; done) | (go_simp; rfl)); intro gb255 hg w28 hbox hb; have n0_ := bkb BK254 hb; have n1_ := Aside0.mk (below_step (bz) hb); have n2_ := Aside0.mk (hbox); have n3_ : Aside0 (w.heap.size ≤ gb255) := bsg hg; have n4_ : Aside0 (w.heap.size ≤ gb255) := bsg hg; have n5_ := nlt hg BK254; have n6_ := ngt hg BK254; clear BK254; clear HB; have BK254 := n0_; have HB := n1_; have BK255 := n2_; have GW255 := n3_; have GE255 := n4_; have NB254_255 := n5_; have NB255_254 := n6_; clear n0_ n1_ n2_ n3_ n4_ n5_ n6_; clear hb hbox hg; have hnb29 := NB254_255.out; have hnc29 := NB255_254.out; have hcz30_0 : w28.cell? ⟨gb254, 0, none⟩ = some (.int .i64 a0_0) := (blk_cell BK254.out 0).trans rfl; have hcz30_1 : w28.cell? ⟨gb254, 1, none⟩ = some (.string a0_1) := (blk_cell BK254.out 1).trans rfl; have hcz30_2 : w28.cell? ⟨gb254, 2, none⟩ = some (.int .i64 a0_2) := (blk_cell BK254.out 2).trans rfl; have hcz30_3 : w28.cell? ⟨gb254, 3, none⟩ = some (.int .i64 a0_3) := (blk_cell BK254.out 3).trans rfl; have hfz30_0 := blk_frozen BK254.out 0; have hfz30_1 := blk_frozen BK254.out 1; have hfz30_2 := blk_frozen BK254.out 2; have hfz30_3 := blk_frozen BK254.out 3; have hcz31_0 : w28.cell? ⟨gb255, 0, none⟩ = some (.int .i64 a1_0) := (blk_cell BK255.out 0).trans rfl; have hcz31_1 : w28.cell? ⟨gb255, 1, none⟩ = some (.string a1_1) := (blk_cell BK255.out 1).trans rfl; have hcz31_2 : w28.cell? ⟨gb255, 2, none⟩ = some (.int .i64 a1_2) := (blk_cell BK255.out 2).trans rfl; have hcz31_3 : w28.cell? ⟨gb255, 3, none⟩ = some (.int .i64 a1_3) := (blk_cell BK255.out 3).trans rfl; have hfz31_0 := blk_frozen BK255.out 0; have hfz31_1 := blk_frozen BK255.out 1; have hfz31_2 := blk_frozen BK255.out 2; have hfz31_3 := blk_frozen BK255.out 3))
  go_ret
  exact ⟨by first | rfl | (simp only [u8w, w64m]; rfl) | (simp [errW_none, errW_some] <;> rfl) | (simp [*, errW_none, errW_some] <;> rfl), bz⟩

/-! ### laws_eqCaller: function 39 -/
def laws_eqCaller.f (k : Nat) (l0_0 : List (S35)) (a0_1 : Int) (a0_2 : Bool) (a0_3 : Int) (a0_4 : ByteArray) (a0_5 : Int) (a0_6 : Int) (a0_7 : Int) (l1_0 : List (S35)) (a1_1 : Int) (a1_2 : Bool) (a1_3 : Int) (a1_4 : ByteArray) (a1_5 : Int) (a1_6 : Int) (a1_7 : Int) : Option (Bool) := (laws_eqRouteS.f k l0_0 l1_0).bind fun t258 => (if t258 = true then (if a0_1 = a1_1 then (if (a0_2 != a1_2) = true then (some false) else ((laws_eqCommand.f a0_3 a0_4 a0_5 a0_6 a1_3 a1_4 a1_5 a1_6).bind fun t259 => (if t259 = true then (if a0_7 = a1_7 then (some true) else (some false)) else (some false)))) else (some false)) else (some false))
theorem laws_eqCaller.mono : ∀ a0 a1 a2 a3 a4 a5 a6 a7 a8 a9 a10 a11 a12 a13 a14 a15 k, LeO (laws_eqCaller.f k a0 a1 a2 a3 a4 a5 a6 a7 a8 a9 a10 a11 a12 a13 a14 a15) (laws_eqCaller.f (k + 1) a0 a1 a2 a3 a4 a5 a6 a7 a8 a9 a10 a11 a12 a13 a14 a15) := by
 intro a0 a1 a2 a3 a4 a5 a6 a7 a8 a9 a10 a11 a12 a13 a14 a15 k
 unfold laws_eqCaller.f
 repeat' first
   | (with_reducible exact laws_eqRouteS.mono _ _ _)
   | (with_reducible exact LeO.refl _)
   | (with_reducible exact LeO.none _)
   | (with_reducible refine LeO.ite ?_ ?_)
   | (with_reducible refine LeO.bind ?_ (fun _ => ?_))
   | exact laws_eqRouteS.mono _ _ _
   | exact LeO.none _
   | refine LeO.ite ?_ ?_
   | refine LeO.bind ?_ (fun _ => ?_)
set_option maxHeartbeats 8000000 in
set_option maxRecDepth 100000 in
theorem laws_eqCaller.calls (k : Nat) (A0_0 : Option Addr) (c0_0 : Nat) (l0_0 : List (S35)) (a0_1 : Int) (a0_2 : Bool) (a0_3 : Int) (a0_4 : ByteArray) (a0_5 : Int) (a0_6 : Int) (a0_7 : Int) (A1_0 : Option Addr) (c1_0 : Nat) (l1_0 : List (S35)) (a1_1 : Int) (a1_2 : Bool) (a1_3 : Int) (a1_4 : ByteArray) (a1_5 : Int) (a1_6 : Int) (a1_7 : Int) (r : Bool) (w : World) (hr0_0 : Kd.C k35 w A0_0 l0_0.length l0_0) (hc0_0 : l0_0.length ≤ c0_0) (hr1_0 : Kd.C k35 w A1_0 l1_0.length l1_0) (hc1_0 : l1_0.length ≤ c1_0) (h : laws_eqCaller.f k l0_0 a0_1 a0_2 a0_3 a0_4 a0_5 a0_6 a0_7 l1_0 a1_1 a1_2 a1_3 a1_4 a1_5 a1_6 a1_7 = some r) :
  Calls Try.prog 39 #[.agg #[.slice A0_0 l0_0.length c0_0, .int .i64 a0_1, .bool a0_2, .int .i64 a0_3, .string a0_4, .int .i64 a0_5, .int .i64 a0_6, .int .i64 a0_7], .agg #[.slice A1_0 l1_0.length c1_0, .int .i64 a1_1, .bool a1_2, .int .i64 a1_3, .string a1_4, .int .i64 a1_5, .int .i64 a1_6, .int .i64 a1_7]] w fun e w' => e = .returned (.bool r) ∧ Below w.heap.size w w' := by
 have hu41 := Try.underlying41
 have hu39 := Try.underlying39
 have HR0_0 := Aside0.mk hr0_0
 have HC0_0 := Aside0.mk hc0_0
 clear hr0_0 hc0_0
 have HR1_0 := Aside0.mk hr1_0
 have HC1_0 := Aside0.mk hc1_0
 clear hr1_0 hc1_0
 have HB := Aside0.mk (Below.refl w.heap.size w)
 have H : ((laws_eqRouteS.f k l0_0 l1_0).bind fun t258 => (if t258 = true then (if a0_1 = a1_1 then (if (a0_2 != a1_2) = true then (some false) else ((laws_eqCommand.f a0_3 a0_4 a0_5 a0_6 a1_3 a1_4 a1_5 a1_6).bind fun t259 => (if t259 = true then (if a0_7 = a1_7 then (some true) else (some false)) else (some false)))) else (some false)) else (some false))) = some r := h
 clear h
 replace H := Option.bind_eq_some_iff.mp H
 obtain ⟨t258, A30, H⟩ := H
 try dsimp only at H
 have A3 := Aside0.mk A30
 clear A30
 by_cases c4 : t258 = true
 ·
  subst c4
  rw [if_pos rfl] at H
  by_cases c5 : a0_1 = a1_1
  ·
   rw [if_pos c5] at H
   have c5b0 : (a0_1 == a1_1) = true := beq_iff_eq.mpr c5
   have c5b1 : (a0_1 != a1_1) = false := bne_eq_false_iff_eq.mpr c5
   clear c5
   by_cases c6 : (a0_2 != a1_2) = true
   ·
    rw [if_pos c6] at H
    have c6b0 : (a0_2 != a1_2) = true := c6
    (try (have c6b1 : decide (a0_2 = a1_2) = false := by simpa using c6))
    (try (have c6b2 : (a0_2 == a1_2) = false := by simpa using c6))
    (try (have c6b3 : ¬ (a0_2 = a1_2) := by simpa using c6))
    clear c6
    obtain rfl := Option.some.inj H
    go_enter Try.func39, Try.ntmps39
    go_wp2_with (first | ((with_reducible refine gate_dst (N := 2) rfl ?_); refine box_event ?hg (N := 2) ?hd (cs := #[.slice A0_0 l0_0.length c0_0, .int .i64 a0_1, .bool a0_2, .int .i64 a0_3, .string a0_4, .int .i64 a0_5, .int .i64 a0_6, .int .i64 a0_7]) (t := 41) ?hr ?_; (case hd => rfl); (case hg => rfl); (case hr => first | (go_simp; done) | (go_simp; rfl)); intro gb256 hg w7 hbox hb; have n0_ := Aside0.mk (below_step (bz) hb); have n1_ := Aside0.mk (hbox); have n2_ : Aside0 (w.heap.size ≤ gb256) := bsg hg; have n3_ : Aside0 (w.heap.size ≤ gb256) := bsg hg; clear HB; have HB := n0_; have BK256 := n1_; have GW256 := n2_; have GE256 := n3_; clear n0_ n1_ n2_ n3_; clear hb hbox hg) | ((with_reducible refine gate_dst (N := 3) rfl ?_); refine box_event ?hg (N := 3) ?hd (cs := #[.slice A1_0 l1_0.length c1_0, .int .i64 a1_1, .bool a1_2, .int .i64 a1_3, .string a1_4, .int .i64 a1_5, .int .i64 a1_6, .int .i64 a1_7]) (t := 41) ?hr ?_; (case hd => rfl); (case hg => rfl); (case hr => first | (go_simp; done) | (go_simp; rfl)); intro gb257 hg w8 hbox hb; have n0_ := bkb BK256 hb; have n1_ := Aside0.mk (below_step (bz) hb); have n2_ := Aside0.mk (hbox); have n3_ : Aside0 (w.heap.size ≤ gb257) := bsg hg; have n4_ : Aside0 (w.heap.size ≤ gb257) := bsg hg; have n5_ := nlt hg BK256; have n6_ := ngt hg BK256; clear BK256; clear HB; have BK256 := n0_; have HB := n1_; have BK257 := n2_; have GW257 := n3_; have GE257 := n4_; have NB256_257 := n5_; have NB257_256 := n6_; clear n0_ n1_ n2_ n3_ n4_ n5_ n6_; clear hb hbox hg; have hnb9 := NB256_257.out; have hnc9 := NB257_256.out; have hcz10_0 : w8.cell? ⟨gb256, 0, none⟩ = some (.slice A0_0 l0_0.length c0_0) := (blk_cell BK256.out 0).trans rfl; have hcz10_1 : w8.cell? ⟨gb256, 1, none⟩ = some (.int .i64 a0_1) := (blk_cell BK256.out 1).trans rfl; have hcz10_2 : w8.cell? ⟨gb256, 2, none⟩ = some (.bool a0_2) := (blk_cell BK256.out 2).trans rfl; have hcz10_3 : w8.cell? ⟨gb256, 3, none⟩ = some (.int .i64 a0_3) := (blk_cell BK256.out 3).trans rfl; have hcz10_4 : w8.cell? ⟨gb256, 4, none⟩ = some (.string a0_4) := (blk_cell BK256.out 4).trans rfl; have hcz10_5 : w8.cell? ⟨gb256, 5, none⟩ = some (.int .i64 a0_5) := (blk_cell BK256.out 5).trans rfl; have hcz10_6 : w8.cell? ⟨gb256, 6, none⟩ = some (.int .i64 a0_6) := (blk_cell BK256.out 6).trans rfl; have hcz10_7 : w8.cell? ⟨gb256, 7, none⟩ = some (.int .i64 a0_7) := (blk_cell BK256.out 7).trans rfl; have hfz10_0 := blk_frozen BK256.out 0; have hfz10_1 := blk_frozen BK256.out 1; have hfz10_2 := blk_frozen BK256.out 2; have hfz10_3 := blk_frozen BK256.out 3; have hfz10_4 := blk_frozen BK256.out 4; have hfz10_5 := blk_frozen BK256.out 5; have hfz10_6 := blk_frozen BK256.out 6; have hfz10_7 := blk_frozen BK256.out 7; have hcz11_0 : w8.cell? ⟨gb257, 0, none⟩ = some (.slice A1_0 l1_0.length c1_0) := (blk_cell BK257.out 0).trans rfl; have hcz11_1 : w8.cell? ⟨gb257, 1, none⟩ = some (.int .i64 a1_1) := (blk_cell BK257.out 1).trans rfl; have hcz11_2 : w8.cell? ⟨gb257, 2, none⟩ = some (.bool a1_2) := (blk_cell BK257.out 2).trans rfl; have hcz11_3 : w8.cell? ⟨gb257, 3, none⟩ = some (.int .i64 a1_3) := (blk_cell BK257.out 3).trans rfl; have hcz11_4 : w8.cell? ⟨gb257, 4, none⟩ = some (.string a1_4) := (blk_cell BK257.out 4).trans rfl; have hcz11_5 : w8.cell? ⟨gb257, 5, none⟩ = some (.int .i64 a1_5) := (blk_cell BK257.out 5).trans rfl; have hcz11_6 : w8.cell? ⟨gb257, 6, none⟩ = some (.int .i64 a1_6) := (blk_cell BK257.out 6).trans rfl; have hcz11_7 : w8.cell? ⟨gb257, 7, none⟩ = some (.int .i64 a1_7) := (blk_cell BK257.out 7).trans rfl; have hfz11_0 := blk_frozen BK257.out 0; have hfz11_1 := blk_frozen BK257.out 1; have hfz11_2 := blk_frozen BK257.out 2; have hfz11_3 := blk_frozen BK257.out 3; have hfz11_4 := blk_frozen BK257.out 4; have hfz11_5 := blk_frozen BK257.out 5; have hfz11_6 := blk_frozen BK257.out 6; have hfz11_7 := blk_frozen BK257.out 7) | ((with_reducible refine gate_callee (f := 54) rfl ?_); refine goesL_ (some 9) rfl rfl Try.func54 (by kernel_rfl) rfl #[.slice A0_0 l0_0.length c0_0, .slice A1_0 l1_0.length c1_0] rfl (by (try simp only [List.map_toArray, List.map_cons, List.map_nil]); first | done | rfl | (simp only [List.length_drop, List.length_take]; rfl)) ?_; (with_reducible refine (laws_eqRouteS.calls k _ _ l0_0 _ _ l1_0 true _ ?side1 ?side2 ?side3 ?side4 A3.out).mono ?_); (case side1 => repeat (first | exact (Kd.C_below HR0_0.out HB.out) | (with_reducible refine Kd.C_alloc ?_ _) | (with_reducible refine Kd.C_drewN ?_ _) | (with_reducible refine Kd.C_drew ?_))); (case side2 => exact HC0_0.out); (case side3 => repeat (first | exact (Kd.C_below HR1_0.out HB.out) | (with_reducible refine Kd.C_alloc ?_ _) | (with_reducible refine Kd.C_drewN ?_ _) | (with_reducible refine Kd.C_drew ?_))); (case side4 => exact HC1_0.out); rintro e w12 ⟨rfl, hb⟩; refine ⟨_, rfl, ?_⟩; have n0_ := bkb BK256 hb; have n1_ := bkb BK257 hb; have n2_ := Aside0.mk (below_step (bz) hb); clear BK256; clear BK257; clear HB; have BK256 := n0_; have BK257 := n1_; have HB := n2_; clear n0_ n1_ n2_; (try clear hb); (try clear hb2); (try clear hk); (try clear hi); have hcz13_0 : w12.cell? ⟨gb256, 0, none⟩ = some (.slice A0_0 l0_0.length c0_0) := (blk_cell BK256.out 0).trans rfl; have hcz13_1 : w12.cell? ⟨gb256, 1, none⟩ = some (.int .i64 a0_1) := (blk_cell BK256.out 1).trans rfl; have hcz13_2 : w12.cell? ⟨gb256, 2, none⟩ = some (.bool a0_2) := (blk_cell BK256.out 2).trans rfl; have hcz13_3 : w12.cell? ⟨gb256, 3, none⟩ = some (.int .i64 a0_3) := (blk_cell BK256.out 3).trans rfl; have hcz13_4 : w12.cell? ⟨gb256, 4, none⟩ = some (.string a0_4) := (blk_cell BK256.out 4).trans rfl; have hcz13_5 : w12.cell? ⟨gb256, 5, none⟩ = some (.int .i64 a0_5) := (blk_cell BK256.out 5).trans rfl; have hcz13_6 : w12.cell? ⟨gb256, 6, none⟩ = some (.int .i64 a0_6) := (blk_cell BK256.out 6).trans rfl; have hcz13_7 : w12.cell? ⟨gb256, 7, none⟩ = some (.int .i64 a0_7) := (blk_cell BK256.out 7).trans rfl; have hfz13_0 := blk_frozen BK256.out 0; have hfz13_1 := blk_frozen BK256.out 1; have hfz13_2 := blk_frozen BK256.out 2; have hfz13_3 := blk_frozen BK256.out 3; have hfz13_4 := blk_frozen BK256.out 4; have hfz13_5 := blk_frozen BK256.out 5; have hfz13_6 := blk_frozen BK256.out 6; have hfz13_7 := blk_frozen BK256.out 7; have hcz14_0 : w12.cell? ⟨gb257, 0, none⟩ = some (.slice A1_0 l1_0.length c1_0) := (blk_cell BK257.out 0).trans rfl; have hcz14_1 : w12.cell? ⟨gb257, 1, none⟩ = some (.int .i64 a1_1) := (blk_cell BK257.out 1).trans rfl; have hcz14_2 : w12.cell? ⟨gb257, 2, none⟩ = some (.bool a1_2) := (blk_cell BK257.out 2).trans rfl; have hcz14_3 : w12.cell? ⟨gb257, 3, none⟩ = some (.int .i64 a1_3) := (blk_cell BK257.out 3).trans rfl; have hcz14_4 : w12.cell? ⟨gb257, 4, none⟩ = some (.string a1_4) := (blk_cell BK257.out 4).trans rfl; have hcz14_5 : w12.cell? ⟨gb257, 5, none⟩ = some (.int .i64 a1_5) := (blk_cell BK257.out 5).trans rfl; have hcz14_6 : w12.cell? ⟨gb257, 6, none⟩ = some (.int .i64 a1_6) := (blk_cell BK257.out 6).trans rfl; have hcz14_7 : w12.cell? ⟨gb257, 7, none⟩ = some (.int .i64 a1_7) := (blk_cell BK257.out 7).trans rfl; have hfz14_0 := blk_frozen BK257.out 0; have hfz14_1 := blk_frozen BK257.out 1; have hfz14_2 := blk_frozen BK257.out 2; have hfz14_3 := blk_frozen BK257.out 3; have hfz14_4 := blk_frozen BK257.out 4; have hfz14_5 := blk_frozen BK257.out 5; have hfz14_6 := blk_frozen BK257.out 6; have hfz14_7 := blk_frozen BK257.out 7))
    go_ret
    exact ⟨by first | rfl | (simp only [u8w, w64m]; rfl) | (simp [errW_none, errW_some] <;> rfl) | (simp [*, errW_none, errW_some] <;> rfl), bz⟩
   ·
    rw [if_neg c6] at H
    have c6b0 : (a0_2 != a1_2) = false := by simpa using c6
    (try (have c6b1 : decide (a0_2 = a1_2) = true := by simpa using c6))
    (try (have c6b2 : (a0_2 == a1_2) = true := by simpa using c6))
    clear c6
    replace H := Option.bind_eq_some_iff.mp H
    obtain ⟨t259, A150, H⟩ := H
    try dsimp only at H
    have A15 := Aside0.mk A150
    clear A150
    by_cases c16 : t259 = true
    ·
     subst c16
     rw [if_pos rfl] at H
     by_cases c17 : a0_7 = a1_7
     ·
      rw [if_pos c17] at H
      have c17b0 : (a0_7 == a1_7) = true := beq_iff_eq.mpr c17
      have c17b1 : (a0_7 != a1_7) = false := bne_eq_false_iff_eq.mpr c17
      clear c17
      obtain rfl := Option.some.inj H
      go_enter Try.func39, Try.ntmps39
      go_wp2_with (first | ((with_reducible refine gate_dst (N := 2) rfl ?_); refine box_event ?hg (N := 2) ?hd (cs := #[.slice A0_0 l0_0.length c0_0, .int .i64 a0_1, .bool a0_2, .int .i64 a0_3, .string a0_4, .int .i64 a0_5, .int .i64 a0_6, .int .i64 a0_7]) (t := 41) ?hr ?_; (case hd => rfl); (case hg => rfl); (case hr => first | (go_simp; done) | (go_simp; rfl)); intro gb256 hg w18 hbox hb; have n0_ := Aside0.mk (below_step (bz) hb); have n1_ := Aside0.mk (hbox); have n2_ : Aside0 (w.heap.size ≤ gb256) := bsg hg; have n3_ : Aside0 (w.heap.size ≤ gb256) := bsg hg; clear HB; have HB := n0_; have BK256 := n1_; have GW256 := n2_; have GE256 := n3_; clear n0_ n1_ n2_ n3_; clear hb hbox hg) | ((with_reducible refine gate_dst (N := 3) rfl ?_); refine box_event ?hg (N := 3) ?hd (cs := #[.slice A1_0 l1_0.length c1_0, .int .i64 a1_1, .bool a1_2, .int .i64 a1_3, .string a1_4, .int .i64 a1_5, .int .i64 a1_6, .int .i64 a1_7]) (t := 41) ?hr ?_; (case hd => rfl); (case hg => rfl); (case hr => first | (go_simp; done) | (go_simp; rfl)); intro gb257 hg w19 hbox hb; have n0_ := bkb BK256 hb; have n1_ := Aside0.mk (below_step (bz) hb); have n2_ := Aside0.mk (hbox); have n3_ : Aside0 (w.heap.size ≤ gb257) := bsg hg; have n4_ : Aside0 (w.heap.size ≤ gb257) := bsg hg; have n5_ := nlt hg BK256; have n6_ := ngt hg BK256; clear BK256; clear HB; have BK256 := n0_; have HB := n1_; have BK257 := n2_; have GW257 := n3_; have GE257 := n4_; have NB256_257 := n5_; have NB257_256 := n6_; clear n0_ n1_ n2_ n3_ n4_ n5_ n6_; clear hb hbox hg; have hnb20 := NB256_257.out; have hnc20 := NB257_256.out; have hcz21_0 : w19.cell? ⟨gb256, 0, none⟩ = some (.slice A0_0 l0_0.length c0_0) := (blk_cell BK256.out 0).trans rfl; have hcz21_1 : w19.cell? ⟨gb256, 1, none⟩ = some (.int .i64 a0_1) := (blk_cell BK256.out 1).trans rfl; have hcz21_2 : w19.cell? ⟨gb256, 2, none⟩ = some (.bool a0_2) := (blk_cell BK256.out 2).trans rfl; have hcz21_3 : w19.cell? ⟨gb256, 3, none⟩ = some (.int .i64 a0_3) := (blk_cell BK256.out 3).trans rfl; have hcz21_4 : w19.cell? ⟨gb256, 4, none⟩ = some (.string a0_4) := (blk_cell BK256.out 4).trans rfl; have hcz21_5 : w19.cell? ⟨gb256, 5, none⟩ = some (.int .i64 a0_5) := (blk_cell BK256.out 5).trans rfl; have hcz21_6 : w19.cell? ⟨gb256, 6, none⟩ = some (.int .i64 a0_6) := (blk_cell BK256.out 6).trans rfl; have hcz21_7 : w19.cell? ⟨gb256, 7, none⟩ = some (.int .i64 a0_7) := (blk_cell BK256.out 7).trans rfl; have hfz21_0 := blk_frozen BK256.out 0; have hfz21_1 := blk_frozen BK256.out 1; have hfz21_2 := blk_frozen BK256.out 2; have hfz21_3 := blk_frozen BK256.out 3; have hfz21_4 := blk_frozen BK256.out 4; have hfz21_5 := blk_frozen BK256.out 5; have hfz21_6 := blk_frozen BK256.out 6; have hfz21_7 := blk_frozen BK256.out 7; have hcz22_0 : w19.cell? ⟨gb257, 0, none⟩ = some (.slice A1_0 l1_0.length c1_0) := (blk_cell BK257.out 0).trans rfl; have hcz22_1 : w19.cell? ⟨gb257, 1, none⟩ = some (.int .i64 a1_1) := (blk_cell BK257.out 1).trans rfl; have hcz22_2 : w19.cell? ⟨gb257, 2, none⟩ = some (.bool a1_2) := (blk_cell BK257.out 2).trans rfl; have hcz22_3 : w19.cell? ⟨gb257, 3, none⟩ = some (.int .i64 a1_3) := (blk_cell BK257.out 3).trans rfl; have hcz22_4 : w19.cell? ⟨gb257, 4, none⟩ = some (.string a1_4) := (blk_cell BK257.out 4).trans rfl; have hcz22_5 : w19.cell? ⟨gb257, 5, none⟩ = some (.int .i64 a1_5) := (blk_cell BK257.out 5).trans rfl; have hcz22_6 : w19.cell? ⟨gb257, 6, none⟩ = some (.int .i64 a1_6) := (blk_cell BK257.out 6).trans rfl; have hcz22_7 : w19.cell? ⟨gb257, 7, none⟩ = some (.int .i64 a1_7) := (blk_cell BK257.out 7).trans rfl; have hfz22_0 := blk_frozen BK257.out 0; have hfz22_1 := blk_frozen BK257.out 1; have hfz22_2 := blk_frozen BK257.out 2; have hfz22_3 := blk_frozen BK257.out 3; have hfz22_4 := blk_frozen BK257.out 4; have hfz22_5 := blk_frozen BK257.out 5; have hfz22_6 := blk_frozen BK257.out 6; have hfz22_7 := blk_frozen BK257.out 7) | ((with_reducible refine gate_callee (f := 54) rfl ?_); refine goesL_ (some 9) rfl rfl Try.func54 (by kernel_rfl) rfl #[.slice A0_0 l0_0.length c0_0, .slice A1_0 l1_0.length c1_0] rfl (by (try simp only [List.map_toArray, List.map_cons, List.map_nil]); first | done | rfl | (simp only [List.length_drop, List.length_take]; rfl)) ?_; (with_reducible refine (laws_eqRouteS.calls k _ _ l0_0 _ _ l1_0 true _ ?side1 ?side2 ?side3 ?side4 A3.out).mono ?_); (case side1 => repeat (first | exact (Kd.C_below HR0_0.out HB.out) | (with_reducible refine Kd.C_alloc ?_ _) | (with_reducible refine Kd.C_drewN ?_ _) | (with_reducible refine Kd.C_drew ?_))); (case side2 => exact HC0_0.out); (case side3 => repeat (first | exact (Kd.C_below HR1_0.out HB.out) | (with_reducible refine Kd.C_alloc ?_ _) | (with_reducible refine Kd.C_drewN ?_ _) | (with_reducible refine Kd.C_drew ?_))); (case side4 => exact HC1_0.out); rintro e w23 ⟨rfl, hb⟩; refine ⟨_, rfl, ?_⟩; have n0_ := bkb BK256 hb; have n1_ := bkb BK257 hb; have n2_ := Aside0.mk (below_step (bz) hb); clear BK256; clear BK257; clear HB; have BK256 := n0_; have BK257 := n1_; have HB := n2_; clear n0_ n1_ n2_; (try clear hb); (try clear hb2); (try clear hk); (try clear hi); have hcz24_0 : w23.cell? ⟨gb256, 0, none⟩ = some (.slice A0_0 l0_0.length c0_0) := (blk_cell BK256.out 0).trans rfl; have hcz24_1 : w23.cell? ⟨gb256, 1, none⟩ = some (.int .i64 a0_1) := (blk_cell BK256.out 1).trans rfl; have hcz24_2 : w23.cell? ⟨gb256, 2, none⟩ = some (.bool a0_2) := (blk_cell BK256.out 2).trans rfl; have hcz24_3 : w23.cell? ⟨gb256, 3, none⟩ = some (.int .i64 a0_3) := (blk_cell BK256.out 3).trans rfl; have hcz24_4 : w23.cell? ⟨gb256, 4, none⟩ = some (.string a0_4) := (blk_cell BK256.out 4).trans rfl; have hcz24_5 : w23.cell? ⟨gb256, 5, none⟩ = some (.int .i64 a0_5) := (blk_cell BK256.out 5).trans rfl; have hcz24_6 : w23.cell? ⟨gb256, 6, none⟩ = some (.int .i64 a0_6) := (blk_cell BK256.out 6).trans rfl; have hcz24_7 : w23.cell? ⟨gb256, 7, none⟩ = some (.int .i64 a0_7) := (blk_cell BK256.out 7).trans rfl; have hfz24_0 := blk_frozen BK256.out 0; have hfz24_1 := blk_frozen BK256.out 1; have hfz24_2 := blk_frozen BK256.out 2; have hfz24_3 := blk_frozen BK256.out 3; have hfz24_4 := blk_frozen BK256.out 4; have hfz24_5 := blk_frozen BK256.out 5; have hfz24_6 := blk_frozen BK256.out 6; have hfz24_7 := blk_frozen BK256.out 7; have hcz25_0 : w23.cell? ⟨gb257, 0, none⟩ = some (.slice A1_0 l1_0.length c1_0) := (blk_cell BK257.out 0).trans rfl; have hcz25_1 : w23.cell? ⟨gb257, 1, none⟩ = some (.int .i64 a1_1) := (blk_cell BK257.out 1).trans rfl; have hcz25_2 : w23.cell? ⟨gb257, 2, none⟩ = some (.bool a1_2) := (blk_cell BK257.out 2).trans rfl; have hcz25_3 : w23.cell? ⟨gb257, 3, none⟩ = some (.int .i64 a1_3) := (blk_cell BK257.out 3).trans rfl; have hcz25_4 : w23.cell? ⟨gb257, 4, none⟩ = some (.string a1_4) := (blk_cell BK257.out 4).trans rfl; have hcz25_5 : w23.cell? ⟨gb257, 5, none⟩ = some (.int .i64 a1_5) := (blk_cell BK257.out 5).trans rfl; have hcz25_6 : w23.cell? ⟨gb257, 6, none⟩ = some (.int .i64 a1_6) := (blk_cell BK257.out 6).trans rfl; have hcz25_7 : w23.cell? ⟨gb257, 7, none⟩ = some (.int .i64 a1_7) := (blk_cell BK257.out 7).trans rfl; have hfz25_0 := blk_frozen BK257.out 0; have hfz25_1 := blk_frozen BK257.out 1; have hfz25_2 := blk_frozen BK257.out 2; have hfz25_3 := blk_frozen BK257.out 3; have hfz25_4 := blk_frozen BK257.out 4; have hfz25_5 := blk_frozen BK257.out 5; have hfz25_6 := blk_frozen BK257.out 6; have hfz25_7 := blk_frozen BK257.out 7) | ((with_reducible refine gate_callee (f := 102) rfl ?_); refine goesL_ (some 25) rfl rfl Try.func102 (by kernel_rfl) rfl #[.agg #[.int .i64 a0_3, .string a0_4, .int .i64 a0_5, .int .i64 a0_6], .agg #[.int .i64 a1_3, .string a1_4, .int .i64 a1_5, .int .i64 a1_6]] rfl (by (try simp only [List.map_toArray, List.map_cons, List.map_nil]); first | done | rfl | (simp only [List.length_drop, List.length_take]; rfl)) ?_; (with_reducible refine (laws_eqCommand.calls a0_3 a0_4 a0_5 a0_6 a1_3 a1_4 a1_5 a1_6 true _ A15.out).mono ?_); rintro e w26 ⟨rfl, hb⟩; refine ⟨_, rfl, ?_⟩; have n0_ := bkb BK256 hb; have n1_ := bkb BK257 hb; have n2_ := Aside0.mk (below_step (bz) hb); clear BK256; clear BK257; clear HB; have BK256 := n0_; have BK257 := n1_; have HB := n2_; clear n0_ n1_ n2_; (try clear hb); (try clear hb2); (try clear hk); (try clear hi); have hcz27_0 : w26.cell? ⟨gb256, 0, none⟩ = some (.slice A0_0 l0_0.length c0_0) := (blk_cell BK256.out 0).trans rfl; have hcz27_1 : w26.cell? ⟨gb256, 1, none⟩ = some (.int .i64 a0_1) := (blk_cell BK256.out 1).trans rfl; have hcz27_2 : w26.cell? ⟨gb256, 2, none⟩ = some (.bool a0_2) := (blk_cell BK256.out 2).trans rfl; have hcz27_3 : w26.cell? ⟨gb256, 3, none⟩ = some (.int .i64 a0_3) := (blk_cell BK256.out 3).trans rfl; have hcz27_4 : w26.cell? ⟨gb256, 4, none⟩ = some (.string a0_4) := (blk_cell BK256.out 4).trans rfl; have hcz27_5 : w26.cell? ⟨gb256, 5, none⟩ = some (.int .i64 a0_5) := (blk_cell BK256.out 5).trans rfl; have hcz27_6 : w26.cell? ⟨gb256, 6, none⟩ = some (.int .i64 a0_6) := (blk_cell BK256.out 6).trans rfl; have hcz27_7 : w26.cell? ⟨gb256, 7, none⟩ = some (.int .i64 a0_7) := (blk_cell BK256.out 7).trans rfl; have hfz27_0 := blk_frozen BK256.out 0; have hfz27_1 := blk_frozen BK256.out 1; have hfz27_2 := blk_frozen BK256.out 2; have hfz27_3 := blk_frozen BK256.out 3; have hfz27_4 := blk_frozen BK256.out 4; have hfz27_5 := blk_frozen BK256.out 5; have hfz27_6 := blk_frozen BK256.out 6; have hfz27_7 := blk_frozen BK256.out 7; have hcz28_0 : w26.cell? ⟨gb257, 0, none⟩ = some (.slice A1_0 l1_0.length c1_0) := (blk_cell BK257.out 0).trans rfl; have hcz28_1 : w26.cell? ⟨gb257, 1, none⟩ = some (.int .i64 a1_1) := (blk_cell BK257.out 1).trans rfl; have hcz28_2 : w26.cell? ⟨gb257, 2, none⟩ = some (.bool a1_2) := (blk_cell BK257.out 2).trans rfl; have hcz28_3 : w26.cell? ⟨gb257, 3, none⟩ = some (.int .i64 a1_3) := (blk_cell BK257.out 3).trans rfl; have hcz28_4 : w26.cell? ⟨gb257, 4, none⟩ = some (.string a1_4) := (blk_cell BK257.out 4).trans rfl; have hcz28_5 : w26.cell? ⟨gb257, 5, none⟩ = some (.int .i64 a1_5) := (blk_cell BK257.out 5).trans rfl; have hcz28_6 : w26.cell? ⟨gb257, 6, none⟩ = some (.int .i64 a1_6) := (blk_cell BK257.out 6).trans rfl; have hcz28_7 : w26.cell? ⟨gb257, 7, none⟩ = some (.int .i64 a1_7) := (blk_cell BK257.out 7).trans rfl; have hfz28_0 := blk_frozen BK257.out 0; have hfz28_1 := blk_frozen BK257.out 1; have hfz28_2 := blk_frozen BK257.out 2; have hfz28_3 := blk_frozen BK257.out 3; have hfz28_4 := blk_frozen BK257.out 4; have hfz28_5 := blk_frozen BK257.out 5; have hfz28_6 := blk_frozen BK257.out 6; have hfz28_7 := blk_frozen BK257.out 7))
      go_ret
      exact ⟨by first | rfl | (simp only [u8w, w64m]; rfl) | (simp [errW_none, errW_some] <;> rfl) | (simp [*, errW_none, errW_some] <;> rfl), bz⟩
     ·
      rw [if_neg c17] at H
      have c17b0 : (a0_7 == a1_7) = false := beq_eq_false_iff_ne.mpr c17
      have c17b1 : (a0_7 != a1_7) = true := bne_iff_ne.mpr c17
      obtain rfl := Option.some.inj H
      go_enter Try.func39, Try.ntmps39
      go_wp2_with (first | ((with_reducible refine gate_dst (N := 2) rfl ?_); refine box_event ?hg (N := 2) ?hd (cs := #[.slice A0_0 l0_0.length c0_0, .int .i64 a0_1, .bool a0_2, .int .i64 a0_3, .string a0_4, .int .i64 a0_5, .int .i64 a0_6, .int .i64 a0_7]) (t := 41) ?hr ?_; (case hd => rfl); (case hg => rfl); (case hr => first | (go_simp; done) | (go_simp; rfl)); intro gb256 hg w29 hbox hb; have n0_ := Aside0.mk (below_step (bz) hb); have n1_ := Aside0.mk (hbox); have n2_ : Aside0 (w.heap.size ≤ gb256) := bsg hg; have n3_ : Aside0 (w.heap.size ≤ gb256) := bsg hg; clear HB; have HB := n0_; have BK256 := n1_; have GW256 := n2_; have GE256 := n3_; clear n0_ n1_ n2_ n3_; clear hb hbox hg) | ((with_reducible refine gate_dst (N := 3) rfl ?_); refine box_event ?hg (N := 3) ?hd (cs := #[.slice A1_0 l1_0.length c1_0, .int .i64 a1_1, .bool a1_2, .int .i64 a1_3, .string a1_4, .int .i64 a1_5, .int .i64 a1_6, .int .i64 a1_7]) (t := 41) ?hr ?_; (case hd => rfl); (case hg => rfl); (case hr => first | (go_simp; done) | (go_simp; rfl)); intro gb257 hg w30 hbox hb; have n0_ := bkb BK256 hb; have n1_ := Aside0.mk (below_step (bz) hb); have n2_ := Aside0.mk (hbox); have n3_ : Aside0 (w.heap.size ≤ gb257) := bsg hg; have n4_ : Aside0 (w.heap.size ≤ gb257) := bsg hg; have n5_ := nlt hg BK256; have n6_ := ngt hg BK256; clear BK256; clear HB; have BK256 := n0_; have HB := n1_; have BK257 := n2_; have GW257 := n3_; have GE257 := n4_; have NB256_257 := n5_; have NB257_256 := n6_; clear n0_ n1_ n2_ n3_ n4_ n5_ n6_; clear hb hbox hg; have hnb31 := NB256_257.out; have hnc31 := NB257_256.out; have hcz32_0 : w30.cell? ⟨gb256, 0, none⟩ = some (.slice A0_0 l0_0.length c0_0) := (blk_cell BK256.out 0).trans rfl; have hcz32_1 : w30.cell? ⟨gb256, 1, none⟩ = some (.int .i64 a0_1) := (blk_cell BK256.out 1).trans rfl; have hcz32_2 : w30.cell? ⟨gb256, 2, none⟩ = some (.bool a0_2) := (blk_cell BK256.out 2).trans rfl; have hcz32_3 : w30.cell? ⟨gb256, 3, none⟩ = some (.int .i64 a0_3) := (blk_cell BK256.out 3).trans rfl; have hcz32_4 : w30.cell? ⟨gb256, 4, none⟩ = some (.string a0_4) := (blk_cell BK256.out 4).trans rfl; have hcz32_5 : w30.cell? ⟨gb256, 5, none⟩ = some (.int .i64 a0_5) := (blk_cell BK256.out 5).trans rfl; have hcz32_6 : w30.cell? ⟨gb256, 6, none⟩ = some (.int .i64 a0_6) := (blk_cell BK256.out 6).trans rfl; have hcz32_7 : w30.cell? ⟨gb256, 7, none⟩ = some (.int .i64 a0_7) := (blk_cell BK256.out 7).trans rfl; have hfz32_0 := blk_frozen BK256.out 0; have hfz32_1 := blk_frozen BK256.out 1; have hfz32_2 := blk_frozen BK256.out 2; have hfz32_3 := blk_frozen BK256.out 3; have hfz32_4 := blk_frozen BK256.out 4; have hfz32_5 := blk_frozen BK256.out 5; have hfz32_6 := blk_frozen BK256.out 6; have hfz32_7 := blk_frozen BK256.out 7; have hcz33_0 : w30.cell? ⟨gb257, 0, none⟩ = some (.slice A1_0 l1_0.length c1_0) := (blk_cell BK257.out 0).trans rfl; have hcz33_1 : w30.cell? ⟨gb257, 1, none⟩ = some (.int .i64 a1_1) := (blk_cell BK257.out 1).trans rfl; have hcz33_2 : w30.cell? ⟨gb257, 2, none⟩ = some (.bool a1_2) := (blk_cell BK257.out 2).trans rfl; have hcz33_3 : w30.cell? ⟨gb257, 3, none⟩ = some (.int .i64 a1_3) := (blk_cell BK257.out 3).trans rfl; have hcz33_4 : w30.cell? ⟨gb257, 4, none⟩ = some (.string a1_4) := (blk_cell BK257.out 4).trans rfl; have hcz33_5 : w30.cell? ⟨gb257, 5, none⟩ = some (.int .i64 a1_5) := (blk_cell BK257.out 5).trans rfl; have hcz33_6 : w30.cell? ⟨gb257, 6, none⟩ = some (.int .i64 a1_6) := (blk_cell BK257.out 6).trans rfl; have hcz33_7 : w30.cell? ⟨gb257, 7, none⟩ = some (.int .i64 a1_7) := (blk_cell BK257.out 7).trans rfl; have hfz33_0 := blk_frozen BK257.out 0; have hfz33_1 := blk_frozen BK257.out 1; have hfz33_2 := blk_frozen BK257.out 2; have hfz33_3 := blk_frozen BK257.out 3; have hfz33_4 := blk_frozen BK257.out 4; have hfz33_5 := blk_frozen BK257.out 5; have hfz33_6 := blk_frozen BK257.out 6; have hfz33_7 := blk_frozen BK257.out 7) | ((with_reducible refine gate_callee (f := 54) rfl ?_); refine goesL_ (some 9) rfl rfl Try.func54 (by kernel_rfl) rfl #[.slice A0_0 l0_0.length c0_0, .slice A1_0 l1_0.length c1_0] rfl (by (try simp only [List.map_toArray, List.map_cons, List.map_nil]); first | done | rfl | (simp only [List.length_drop, List.length_take]; rfl)) ?_; (with_reducible refine (laws_eqRouteS.calls k _ _ l0_0 _ _ l1_0 true _ ?side1 ?side2 ?side3 ?side4 A3.out).mono ?_); (case side1 => repeat (first | exact (Kd.C_below HR0_0.out HB.out) | (with_reducible refine Kd.C_alloc ?_ _) | (with_reducible refine Kd.C_drewN ?_ _) | (with_reducible refine Kd.C_drew ?_))); (case side2 => exact HC0_0.out); (case side3 => repeat (first | exact (Kd.C_below HR1_0.out HB.out) | (with_reducible refine Kd.C_alloc ?_ _) | (with_reducible refine Kd.C_drewN ?_ _) | (with_reducible refine Kd.C_drew ?_))); (case side4 => exact HC1_0.out); rintro e w34 ⟨rfl, hb⟩; refine ⟨_, rfl, ?_⟩; have n0_ := bkb BK256 hb; have n1_ := bkb BK257 hb; have n2_ := Aside0.mk (below_step (bz) hb); clear BK256; clear BK257; clear HB; have BK256 := n0_; have BK257 := n1_; have HB := n2_; clear n0_ n1_ n2_; (try clear hb); (try clear hb2); (try clear hk); (try clear hi); have hcz35_0 : w34.cell? ⟨gb256, 0, none⟩ = some (.slice A0_0 l0_0.length c0_0) := (blk_cell BK256.out 0).trans rfl; have hcz35_1 : w34.cell? ⟨gb256, 1, none⟩ = some (.int .i64 a0_1) := (blk_cell BK256.out 1).trans rfl; have hcz35_2 : w34.cell? ⟨gb256, 2, none⟩ = some (.bool a0_2) := (blk_cell BK256.out 2).trans rfl; have hcz35_3 : w34.cell? ⟨gb256, 3, none⟩ = some (.int .i64 a0_3) := (blk_cell BK256.out 3).trans rfl; have hcz35_4 : w34.cell? ⟨gb256, 4, none⟩ = some (.string a0_4) := (blk_cell BK256.out 4).trans rfl; have hcz35_5 : w34.cell? ⟨gb256, 5, none⟩ = some (.int .i64 a0_5) := (blk_cell BK256.out 5).trans rfl; have hcz35_6 : w34.cell? ⟨gb256, 6, none⟩ = some (.int .i64 a0_6) := (blk_cell BK256.out 6).trans rfl; have hcz35_7 : w34.cell? ⟨gb256, 7, none⟩ = some (.int .i64 a0_7) := (blk_cell BK256.out 7).trans rfl; have hfz35_0 := blk_frozen BK256.out 0; have hfz35_1 := blk_frozen BK256.out 1; have hfz35_2 := blk_frozen BK256.out 2; have hfz35_3 := blk_frozen BK256.out 3; have hfz35_4 := blk_frozen BK256.out 4; have hfz35_5 := blk_frozen BK256.out 5; have hfz35_6 := blk_frozen BK256.out 6; have hfz35_7 := blk_frozen BK256.out 7; have hcz36_0 : w34.cell? ⟨gb257, 0, none⟩ = some (.slice A1_0 l1_0.length c1_0) := (blk_cell BK257.out 0).trans rfl; have hcz36_1 : w34.cell? ⟨gb257, 1, none⟩ = some (.int .i64 a1_1) := (blk_cell BK257.out 1).trans rfl; have hcz36_2 : w34.cell? ⟨gb257, 2, none⟩ = some (.bool a1_2) := (blk_cell BK257.out 2).trans rfl; have hcz36_3 : w34.cell? ⟨gb257, 3, none⟩ = some (.int .i64 a1_3) := (blk_cell BK257.out 3).trans rfl; have hcz36_4 : w34.cell? ⟨gb257, 4, none⟩ = some (.string a1_4) := (blk_cell BK257.out 4).trans rfl; have hcz36_5 : w34.cell? ⟨gb257, 5, none⟩ = some (.int .i64 a1_5) := (blk_cell BK257.out 5).trans rfl; have hcz36_6 : w34.cell? ⟨gb257, 6, none⟩ = some (.int .i64 a1_6) := (blk_cell BK257.out 6).trans rfl; have hcz36_7 : w34.cell? ⟨gb257, 7, none⟩ = some (.int .i64 a1_7) := (blk_cell BK257.out 7).trans rfl; have hfz36_0 := blk_frozen BK257.out 0; have hfz36_1 := blk_frozen BK257.out 1; have hfz36_2 := blk_frozen BK257.out 2; have hfz36_3 := blk_frozen BK257.out 3; have hfz36_4 := blk_frozen BK257.out 4; have hfz36_5 := blk_frozen BK257.out 5; have hfz36_6 := blk_frozen BK257.out 6; have hfz36_7 := blk_frozen BK257.out 7) | ((with_reducible refine gate_callee (f := 102) rfl ?_); refine goesL_ (some 25) rfl rfl Try.func102 (by kernel_rfl) rfl #[.agg #[.int .i64 a0_3, .string a0_4, .int .i64 a0_5, .int .i64 a0_6], .agg #[.int .i64 a1_3, .string a1_4, .int .i64 a1_5, .int .i64 a1_6]] rfl (by (try simp only [List.map_toArray, List.map_cons, List.map_nil]); first | done | rfl | (simp only [List.length_drop, List.length_take]; rfl)) ?_; (with_reducible refine (laws_eqCommand.calls a0_3 a0_4 a0_5 a0_6 a1_3 a1_4 a1_5 a1_6 true _ A15.out).mono ?_); rintro e w37 ⟨rfl, hb⟩; refine ⟨_, rfl, ?_⟩; have n0_ := bkb BK256 hb; have n1_ := bkb BK257 hb; have n2_ := Aside0.mk (below_step (bz) hb); clear BK256; clear BK257; clear HB; have BK256 := n0_; have BK257 := n1_; have HB := n2_; clear n0_ n1_ n2_; (try clear hb); (try clear hb2); (try clear hk); (try clear hi); have hcz38_0 : w37.cell? ⟨gb256, 0, none⟩ = some (.slice A0_0 l0_0.length c0_0) := (blk_cell BK256.out 0).trans rfl; have hcz38_1 : w37.cell? ⟨gb256, 1, none⟩ = some (.int .i64 a0_1) := (blk_cell BK256.out 1).trans rfl; have hcz38_2 : w37.cell? ⟨gb256, 2, none⟩ = some (.bool a0_2) := (blk_cell BK256.out 2).trans rfl; have hcz38_3 : w37.cell? ⟨gb256, 3, none⟩ = some (.int .i64 a0_3) := (blk_cell BK256.out 3).trans rfl; have hcz38_4 : w37.cell? ⟨gb256, 4, none⟩ = some (.string a0_4) := (blk_cell BK256.out 4).trans rfl; have hcz38_5 : w37.cell? ⟨gb256, 5, none⟩ = some (.int .i64 a0_5) := (blk_cell BK256.out 5).trans rfl; have hcz38_6 : w37.cell? ⟨gb256, 6, none⟩ = some (.int .i64 a0_6) := (blk_cell BK256.out 6).trans rfl; have hcz38_7 : w37.cell? ⟨gb256, 7, none⟩ = some (.int .i64 a0_7) := (blk_cell BK256.out 7).trans rfl; have hfz38_0 := blk_frozen BK256.out 0; have hfz38_1 := blk_frozen BK256.out 1; have hfz38_2 := blk_frozen BK256.out 2; have hfz38_3 := blk_frozen BK256.out 3; have hfz38_4 := blk_frozen BK256.out 4; have hfz38_5 := blk_frozen BK256.out 5; have hfz38_6 := blk_frozen BK256.out 6; have hfz38_7 := blk_frozen BK256.out 7; have hcz39_0 : w37.cell? ⟨gb257, 0, none⟩ = some (.slice A1_0 l1_0.length c1_0) := (blk_cell BK257.out 0).trans rfl; have hcz39_1 : w37.cell? ⟨gb257, 1, none⟩ = some (.int .i64 a1_1) := (blk_cell BK257.out 1).trans rfl; have hcz39_2 : w37.cell? ⟨gb257, 2, none⟩ = some (.bool a1_2) := (blk_cell BK257.out 2).trans rfl; have hcz39_3 : w37.cell? ⟨gb257, 3, none⟩ = some (.int .i64 a1_3) := (blk_cell BK257.out 3).trans rfl; have hcz39_4 : w37.cell? ⟨gb257, 4, none⟩ = some (.string a1_4) := (blk_cell BK257.out 4).trans rfl; have hcz39_5 : w37.cell? ⟨gb257, 5, none⟩ = some (.int .i64 a1_5) := (blk_cell BK257.out 5).trans rfl; have hcz39_6 : w37.cell? ⟨gb257, 6, none⟩ = some (.int .i64 a1_6) := (blk_cell BK257.out 6).trans rfl; have hcz39_7 : w37.cell? ⟨gb257, 7, none⟩ = some (.int .i64 a1_7) := (blk_cell BK257.out 7).trans rfl; have hfz39_0 := blk_frozen BK257.out 0; have hfz39_1 := blk_frozen BK257.out 1; have hfz39_2 := blk_frozen BK257.out 2; have hfz39_3 := blk_frozen BK257.out 3; have hfz39_4 := blk_frozen BK257.out 4; have hfz39_5 := blk_frozen BK257.out 5; have hfz39_6 := blk_frozen BK257.out 6; have hfz39_7 := blk_frozen BK257.out 7))
      go_ret
      exact ⟨by first | rfl | (simp only [u8w, w64m]; rfl) | (simp [errW_none, errW_some] <;> rfl) | (simp [*, errW_none, errW_some] <;> rfl), bz⟩
    ·
     replace c16 := Bool.eq_false_iff.mpr c16
     subst c16
     rw [if_neg (show ¬ (false = true) by decide)] at H
     obtain rfl := Option.some.inj H
     go_enter Try.func39, Try.ntmps39
     go_wp2_with (first | ((with_reducible refine gate_dst (N := 2) rfl ?_); refine box_event ?hg (N := 2) ?hd (cs := #[.slice A0_0 l0_0.length c0_0, .int .i64 a0_1, .bool a0_2, .int .i64 a0_3, .string a0_4, .int .i64 a0_5, .int .i64 a0_6, .int .i64 a0_7]) (t := 41) ?hr ?_; (case hd => rfl); (case hg => rfl); (case hr => first | (go_simp; done) | (go_simp; rfl)); intro gb256 hg w40 hbox hb; have n0_ := Aside0.mk (below_step (bz) hb); have n1_ := Aside0.mk (hbox); have n2_ : Aside0 (w.heap.size ≤ gb256) := bsg hg; have n3_ : Aside0 (w.heap.size ≤ gb256) := bsg hg; clear HB; have HB := n0_; have BK256 := n1_; have GW256 := n2_; have GE256 := n3_; clear n0_ n1_ n2_ n3_; clear hb hbox hg) | ((with_reducible refine gate_dst (N := 3) rfl ?_); refine box_event ?hg (N := 3) ?hd (cs := #[.slice A1_0 l1_0.length c1_0, .int .i64 a1_1, .bool a1_2, .int .i64 a1_3, .string a1_4, .int .i64 a1_5, .int .i64 a1_6, .int .i64 a1_7]) (t := 41) ?hr ?_; (case hd => rfl); (case hg => rfl); (case hr => first | (go_simp; done) | (go_simp; rfl)); intro gb257 hg w41 hbox hb; have n0_ := bkb BK256 hb; have n1_ := Aside0.mk (below_step (bz) hb); have n2_ := Aside0.mk (hbox); have n3_ : Aside0 (w.heap.size ≤ gb257) := bsg hg; have n4_ : Aside0 (w.heap.size ≤ gb257) := bsg hg; have n5_ := nlt hg BK256; have n6_ := ngt hg BK256; clear BK256; clear HB; have BK256 := n0_; have HB := n1_; have BK257 := n2_; have GW257 := n3_; have GE257 := n4_; have NB256_257 := n5_; have NB257_256 := n6_; clear n0_ n1_ n2_ n3_ n4_ n5_ n6_; clear hb hbox hg; have hnb42 := NB256_257.out; have hnc42 := NB257_256.out; have hcz43_0 : w41.cell? ⟨gb256, 0, none⟩ = some (.slice A0_0 l0_0.length c0_0) := (blk_cell BK256.out 0).trans rfl; have hcz43_1 : w41.cell? ⟨gb256, 1, none⟩ = some (.int .i64 a0_1) := (blk_cell BK256.out 1).trans rfl; have hcz43_2 : w41.cell? ⟨gb256, 2, none⟩ = some (.bool a0_2) := (blk_cell BK256.out 2).trans rfl; have hcz43_3 : w41.cell? ⟨gb256, 3, none⟩ = some (.int .i64 a0_3) := (blk_cell BK256.out 3).trans rfl; have hcz43_4 : w41.cell? ⟨gb256, 4, none⟩ = some (.string a0_4) := (blk_cell BK256.out 4).trans rfl; have hcz43_5 : w41.cell? ⟨gb256, 5, none⟩ = some (.int .i64 a0_5) := (blk_cell BK256.out 5).trans rfl; have hcz43_6 : w41.cell? ⟨gb256, 6, none⟩ = some (.int .i64 a0_6) := (blk_cell BK256.out 6).trans rfl; have hcz43_7 : w41.cell? ⟨gb256, 7, none⟩ = some (.int .i64 a0_7) := (blk_cell BK256.out 7).trans rfl; have hfz43_0 := blk_frozen BK256.out 0; have hfz43_1 := blk_frozen BK256.out 1; have hfz43_2 := blk_frozen BK256.out 2; have hfz43_3 := blk_frozen BK256.out 3; have hfz43_4 := blk_frozen BK256.out 4; have hfz43_5 := blk_frozen BK256.out 5; have hfz43_6 := blk_frozen BK256.out 6; have hfz43_7 := blk_frozen BK256.out 7; have hcz44_0 : w41.cell? ⟨gb257, 0, none⟩ = some (.slice A1_0 l1_0.length c1_0) := (blk_cell BK257.out 0).trans rfl; have hcz44_1 : w41.cell? ⟨gb257, 1, none⟩ = some (.int .i64 a1_1) := (blk_cell BK257.out 1).trans rfl; have hcz44_2 : w41.cell? ⟨gb257, 2, none⟩ = some (.bool a1_2) := (blk_cell BK257.out 2).trans rfl; have hcz44_3 : w41.cell? ⟨gb257, 3, none⟩ = some (.int .i64 a1_3) := (blk_cell BK257.out 3).trans rfl; have hcz44_4 : w41.cell? ⟨gb257, 4, none⟩ = some (.string a1_4) := (blk_cell BK257.out 4).trans rfl; have hcz44_5 : w41.cell? ⟨gb257, 5, none⟩ = some (.int .i64 a1_5) := (blk_cell BK257.out 5).trans rfl; have hcz44_6 : w41.cell? ⟨gb257, 6, none⟩ = some (.int .i64 a1_6) := (blk_cell BK257.out 6).trans rfl; have hcz44_7 : w41.cell? ⟨gb257, 7, none⟩ = some (.int .i64 a1_7) := (blk_cell BK257.out 7).trans rfl; have hfz44_0 := blk_frozen BK257.out 0; have hfz44_1 := blk_frozen BK257.out 1; have hfz44_2 := blk_frozen BK257.out 2; have hfz44_3 := blk_frozen BK257.out 3; have hfz44_4 := blk_frozen BK257.out 4; have hfz44_5 := blk_frozen BK257.out 5; have hfz44_6 := blk_frozen BK257.out 6; have hfz44_7 := blk_frozen BK257.out 7) | ((with_reducible refine gate_callee (f := 54) rfl ?_); refine goesL_ (some 9) rfl rfl Try.func54 (by kernel_rfl) rfl #[.slice A0_0 l0_0.length c0_0, .slice A1_0 l1_0.length c1_0] rfl (by (try simp only [List.map_toArray, List.map_cons, List.map_nil]); first | done | rfl | (simp only [List.length_drop, List.length_take]; rfl)) ?_; (with_reducible refine (laws_eqRouteS.calls k _ _ l0_0 _ _ l1_0 true _ ?side1 ?side2 ?side3 ?side4 A3.out).mono ?_); (case side1 => repeat (first | exact (Kd.C_below HR0_0.out HB.out) | (with_reducible refine Kd.C_alloc ?_ _) | (with_reducible refine Kd.C_drewN ?_ _) | (with_reducible refine Kd.C_drew ?_))); (case side2 => exact HC0_0.out); (case side3 => repeat (first | exact (Kd.C_below HR1_0.out HB.out) | (with_reducible refine Kd.C_alloc ?_ _) | (with_reducible refine Kd.C_drewN ?_ _) | (with_reducible refine Kd.C_drew ?_))); (case side4 => exact HC1_0.out); rintro e w45 ⟨rfl, hb⟩; refine ⟨_, rfl, ?_⟩; have n0_ := bkb BK256 hb; have n1_ := bkb BK257 hb; have n2_ := Aside0.mk (below_step (bz) hb); clear BK256; clear BK257; clear HB; have BK256 := n0_; have BK257 := n1_; have HB := n2_; clear n0_ n1_ n2_; (try clear hb); (try clear hb2); (try clear hk); (try clear hi); have hcz46_0 : w45.cell? ⟨gb256, 0, none⟩ = some (.slice A0_0 l0_0.length c0_0) := (blk_cell BK256.out 0).trans rfl; have hcz46_1 : w45.cell? ⟨gb256, 1, none⟩ = some (.int .i64 a0_1) := (blk_cell BK256.out 1).trans rfl; have hcz46_2 : w45.cell? ⟨gb256, 2, none⟩ = some (.bool a0_2) := (blk_cell BK256.out 2).trans rfl; have hcz46_3 : w45.cell? ⟨gb256, 3, none⟩ = some (.int .i64 a0_3) := (blk_cell BK256.out 3).trans rfl; have hcz46_4 : w45.cell? ⟨gb256, 4, none⟩ = some (.string a0_4) := (blk_cell BK256.out 4).trans rfl; have hcz46_5 : w45.cell? ⟨gb256, 5, none⟩ = some (.int .i64 a0_5) := (blk_cell BK256.out 5).trans rfl; have hcz46_6 : w45.cell? ⟨gb256, 6, none⟩ = some (.int .i64 a0_6) := (blk_cell BK256.out 6).trans rfl; have hcz46_7 : w45.cell? ⟨gb256, 7, none⟩ = some (.int .i64 a0_7) := (blk_cell BK256.out 7).trans rfl; have hfz46_0 := blk_frozen BK256.out 0; have hfz46_1 := blk_frozen BK256.out 1; have hfz46_2 := blk_frozen BK256.out 2; have hfz46_3 := blk_frozen BK256.out 3; have hfz46_4 := blk_frozen BK256.out 4; have hfz46_5 := blk_frozen BK256.out 5; have hfz46_6 := blk_frozen BK256.out 6; have hfz46_7 := blk_frozen BK256.out 7; have hcz47_0 : w45.cell? ⟨gb257, 0, none⟩ = some (.slice A1_0 l1_0.length c1_0) := (blk_cell BK257.out 0).trans rfl; have hcz47_1 : w45.cell? ⟨gb257, 1, none⟩ = some (.int .i64 a1_1) := (blk_cell BK257.out 1).trans rfl; have hcz47_2 : w45.cell? ⟨gb257, 2, none⟩ = some (.bool a1_2) := (blk_cell BK257.out 2).trans rfl; have hcz47_3 : w45.cell? ⟨gb257, 3, none⟩ = some (.int .i64 a1_3) := (blk_cell BK257.out 3).trans rfl; have hcz47_4 : w45.cell? ⟨gb257, 4, none⟩ = some (.string a1_4) := (blk_cell BK257.out 4).trans rfl; have hcz47_5 : w45.cell? ⟨gb257, 5, none⟩ = some (.int .i64 a1_5) := (blk_cell BK257.out 5).trans rfl; have hcz47_6 : w45.cell? ⟨gb257, 6, none⟩ = some (.int .i64 a1_6) := (blk_cell BK257.out 6).trans rfl; have hcz47_7 : w45.cell? ⟨gb257, 7, none⟩ = some (.int .i64 a1_7) := (blk_cell BK257.out 7).trans rfl; have hfz47_0 := blk_frozen BK257.out 0; have hfz47_1 := blk_frozen BK257.out 1; have hfz47_2 := blk_frozen BK257.out 2; have hfz47_3 := blk_frozen BK257.out 3; have hfz47_4 := blk_frozen BK257.out 4; have hfz47_5 := blk_frozen BK257.out 5; have hfz47_6 := blk_frozen BK257.out 6; have hfz47_7 := blk_frozen BK257.out 7) | ((with_reducible refine gate_callee (f := 102) rfl ?_); refine goesL_ (some 25) rfl rfl Try.func102 (by kernel_rfl) rfl #[.agg #[.int .i64 a0_3, .string a0_4, .int .i64 a0_5, .int .i64 a0_6], .agg #[.int .i64 a1_3, .string a1_4, .int .i64 a1_5, .int .i64 a1_6]] rfl (by (try simp only [List.map_toArray, List.map_cons, List.map_nil]); first | done | rfl | (simp only [List.length_drop, List.length_take]; rfl)) ?_; (with_reducible refine (laws_eqCommand.calls a0_3 a0_4 a0_5 a0_6 a1_3 a1_4 a1_5 a1_6 false _ A15.out).mono ?_); rintro e w48 ⟨rfl, hb⟩; refine ⟨_, rfl, ?_⟩; have n0_ := bkb BK256 hb; have n1_ := bkb BK257 hb; have n2_ := Aside0.mk (below_step (bz) hb); clear BK256; clear BK257; clear HB; have BK256 := n0_; have BK257 := n1_; have HB := n2_; clear n0_ n1_ n2_; (try clear hb); (try clear hb2); (try clear hk); (try clear hi)))
     go_ret
     exact ⟨by first | rfl | (simp only [u8w, w64m]; rfl) | (simp [errW_none, errW_some] <;> rfl) | (simp [*, errW_none, errW_some] <;> rfl), bz⟩
  ·
   rw [if_neg c5] at H
   have c5b0 : (a0_1 == a1_1) = false := beq_eq_false_iff_ne.mpr c5
   have c5b1 : (a0_1 != a1_1) = true := bne_iff_ne.mpr c5
   obtain rfl := Option.some.inj H
   go_enter Try.func39, Try.ntmps39
   go_wp2_with (first | ((with_reducible refine gate_dst (N := 2) rfl ?_); refine box_event ?hg (N := 2) ?hd (cs := #[.slice A0_0 l0_0.length c0_0, .int .i64 a0_1, .bool a0_2, .int .i64 a0_3, .string a0_4, .int .i64 a0_5, .int .i64 a0_6, .int .i64 a0_7]) (t := 41) ?hr ?_; (case hd => rfl); (case hg => rfl); (case hr => first | (go_simp; done) | (go_simp; rfl)); intro gb256 hg w49 hbox hb; have n0_ := Aside0.mk (below_step (bz) hb); have n1_ := Aside0.mk (hbox); have n2_ : Aside0 (w.heap.size ≤ gb256) := bsg hg; have n3_ : Aside0 (w.heap.size ≤ gb256) := bsg hg; clear HB; have HB := n0_; have BK256 := n1_; have GW256 := n2_; have GE256 := n3_; clear n0_ n1_ n2_ n3_; clear hb hbox hg) | ((with_reducible refine gate_dst (N := 3) rfl ?_); refine box_event ?hg (N := 3) ?hd (cs := #[.slice A1_0 l1_0.length c1_0, .int .i64 a1_1, .bool a1_2, .int .i64 a1_3, .string a1_4, .int .i64 a1_5, .int .i64 a1_6, .int .i64 a1_7]) (t := 41) ?hr ?_; (case hd => rfl); (case hg => rfl); (case hr => first | (go_simp; done) | (go_simp; rfl)); intro gb257 hg w50 hbox hb; have n0_ := bkb BK256 hb; have n1_ := Aside0.mk (below_step (bz) hb); have n2_ := Aside0.mk (hbox); have n3_ : Aside0 (w.heap.size ≤ gb257) := bsg hg; have n4_ : Aside0 (w.heap.size ≤ gb257) := bsg hg; have n5_ := nlt hg BK256; have n6_ := ngt hg BK256; clear BK256; clear HB; have BK256 := n0_; have HB := n1_; have BK257 := n2_; have GW257 := n3_; have GE257 := n4_; have NB256_257 := n5_; have NB257_256 := n6_; clear n0_ n1_ n2_ n3_ n4_ n5_ n6_; clear hb hbox hg; have hnb51 := NB256_257.out; have hnc51 := NB257_256.out; have hcz52_0 : w50.cell? ⟨gb256, 0, none⟩ = some (.slice A0_0 l0_0.length c0_0) := (blk_cell BK256.out 0).trans rfl; have hcz52_1 : w50.cell? ⟨gb256, 1, none⟩ = some (.int .i64 a0_1) := (blk_cell BK256.out 1).trans rfl; have hcz52_2 : w50.cell? ⟨gb256, 2, none⟩ = some (.bool a0_2) := (blk_cell BK256.out 2).trans rfl; have hcz52_3 : w50.cell? ⟨gb256, 3, none⟩ = some (.int .i64 a0_3) := (blk_cell BK256.out 3).trans rfl; have hcz52_4 : w50.cell? ⟨gb256, 4, none⟩ = some (.string a0_4) := (blk_cell BK256.out 4).trans rfl; have hcz52_5 : w50.cell? ⟨gb256, 5, none⟩ = some (.int .i64 a0_5) := (blk_cell BK256.out 5).trans rfl; have hcz52_6 : w50.cell? ⟨gb256, 6, none⟩ = some (.int .i64 a0_6) := (blk_cell BK256.out 6).trans rfl; have hcz52_7 : w50.cell? ⟨gb256, 7, none⟩ = some (.int .i64 a0_7) := (blk_cell BK256.out 7).trans rfl; have hfz52_0 := blk_frozen BK256.out 0; have hfz52_1 := blk_frozen BK256.out 1; have hfz52_2 := blk_frozen BK256.out 2; have hfz52_3 := blk_frozen BK256.out 3; have hfz52_4 := blk_frozen BK256.out 4; have hfz52_5 := blk_frozen BK256.out 5; have hfz52_6 := blk_frozen BK256.out 6; have hfz52_7 := blk_frozen BK256.out 7; have hcz53_0 : w50.cell? ⟨gb257, 0, none⟩ = some (.slice A1_0 l1_0.length c1_0) := (blk_cell BK257.out 0).trans rfl; have hcz53_1 : w50.cell? ⟨gb257, 1, none⟩ = some (.int .i64 a1_1) := (blk_cell BK257.out 1).trans rfl; have hcz53_2 : w50.cell? ⟨gb257, 2, none⟩ = some (.bool a1_2) := (blk_cell BK257.out 2).trans rfl; have hcz53_3 : w50.cell? ⟨gb257, 3, none⟩ = some (.int .i64 a1_3) := (blk_cell BK257.out 3).trans rfl; have hcz53_4 : w50.cell? ⟨gb257, 4, none⟩ = some (.string a1_4) := (blk_cell BK257.out 4).trans rfl; have hcz53_5 : w50.cell? ⟨gb257, 5, none⟩ = some (.int .i64 a1_5) := (blk_cell BK257.out 5).trans rfl; have hcz53_6 : w50.cell? ⟨gb257, 6, none⟩ = some (.int .i64 a1_6) := (blk_cell BK257.out 6).trans rfl; have hcz53_7 : w50.cell? ⟨gb257, 7, none⟩ = some (.int .i64 a1_7) := (blk_cell BK257.out 7).trans rfl; have hfz53_0 := blk_frozen BK257.out 0; have hfz53_1 := blk_frozen BK257.out 1; have hfz53_2 := blk_frozen BK257.out 2; have hfz53_3 := blk_frozen BK257.out 3; have hfz53_4 := blk_frozen BK257.out 4; have hfz53_5 := blk_frozen BK257.out 5; have hfz53_6 := blk_frozen BK257.out 6; have hfz53_7 := blk_frozen BK257.out 7) | ((with_reducible refine gate_callee (f := 54) rfl ?_); refine goesL_ (some 9) rfl rfl Try.func54 (by kernel_rfl) rfl #[.slice A0_0 l0_0.length c0_0, .slice A1_0 l1_0.length c1_0] rfl (by (try simp only [List.map_toArray, List.map_cons, List.map_nil]); first | done | rfl | (simp only [List.length_drop, List.length_take]; rfl)) ?_; (with_reducible refine (laws_eqRouteS.calls k _ _ l0_0 _ _ l1_0 true _ ?side1 ?side2 ?side3 ?side4 A3.out).mono ?_); (case side1 => repeat (first | exact (Kd.C_below HR0_0.out HB.out) | (with_reducible refine Kd.C_alloc ?_ _) | (with_reducible refine Kd.C_drewN ?_ _) | (with_reducible refine Kd.C_drew ?_))); (case side2 => exact HC0_0.out); (case side3 => repeat (first | exact (Kd.C_below HR1_0.out HB.out) | (with_reducible refine Kd.C_alloc ?_ _) | (with_reducible refine Kd.C_drewN ?_ _) | (with_reducible refine Kd.C_drew ?_))); (case side4 => exact HC1_0.out); rintro e w54 ⟨rfl, hb⟩; refine ⟨_, rfl, ?_⟩; have n0_ := bkb BK256 hb; have n1_ := bkb BK257 hb; have n2_ := Aside0.mk (below_step (bz) hb); clear BK256; clear BK257; clear HB; have BK256 := n0_; have BK257 := n1_; have HB := n2_; clear n0_ n1_ n2_; (try clear hb); (try clear hb2); (try clear hk); (try clear hi); have hcz55_0 : w54.cell? ⟨gb256, 0, none⟩ = some (.slice A0_0 l0_0.length c0_0) := (blk_cell BK256.out 0).trans rfl; have hcz55_1 : w54.cell? ⟨gb256, 1, none⟩ = some (.int .i64 a0_1) := (blk_cell BK256.out 1).trans rfl; have hcz55_2 : w54.cell? ⟨gb256, 2, none⟩ = some (.bool a0_2) := (blk_cell BK256.out 2).trans rfl; have hcz55_3 : w54.cell? ⟨gb256, 3, none⟩ = some (.int .i64 a0_3) := (blk_cell BK256.out 3).trans rfl; have hcz55_4 : w54.cell? ⟨gb256, 4, none⟩ = some (.string a0_4) := (blk_cell BK256.out 4).trans rfl; have hcz55_5 : w54.cell? ⟨gb256, 5, none⟩ = some (.int .i64 a0_5) := (blk_cell BK256.out 5).trans rfl; have hcz55_6 : w54.cell? ⟨gb256, 6, none⟩ = some (.int .i64 a0_6) := (blk_cell BK256.out 6).trans rfl; have hcz55_7 : w54.cell? ⟨gb256, 7, none⟩ = some (.int .i64 a0_7) := (blk_cell BK256.out 7).trans rfl; have hfz55_0 := blk_frozen BK256.out 0; have hfz55_1 := blk_frozen BK256.out 1; have hfz55_2 := blk_frozen BK256.out 2; have hfz55_3 := blk_frozen BK256.out 3; have hfz55_4 := blk_frozen BK256.out 4; have hfz55_5 := blk_frozen BK256.out 5; have hfz55_6 := blk_frozen BK256.out 6; have hfz55_7 := blk_frozen BK256.out 7; have hcz56_0 : w54.cell? ⟨gb257, 0, none⟩ = some (.slice A1_0 l1_0.length c1_0) := (blk_cell BK257.out 0).trans rfl; have hcz56_1 : w54.cell? ⟨gb257, 1, none⟩ = some (.int .i64 a1_1) := (blk_cell BK257.out 1).trans rfl; have hcz56_2 : w54.cell? ⟨gb257, 2, none⟩ = some (.bool a1_2) := (blk_cell BK257.out 2).trans rfl; have hcz56_3 : w54.cell? ⟨gb257, 3, none⟩ = some (.int .i64 a1_3) := (blk_cell BK257.out 3).trans rfl; have hcz56_4 : w54.cell? ⟨gb257, 4, none⟩ = some (.string a1_4) := (blk_cell BK257.out 4).trans rfl; have hcz56_5 : w54.cell? ⟨gb257, 5, none⟩ = some (.int .i64 a1_5) := (blk_cell BK257.out 5).trans rfl; have hcz56_6 : w54.cell? ⟨gb257, 6, none⟩ = some (.int .i64 a1_6) := (blk_cell BK257.out 6).trans rfl; have hcz56_7 : w54.cell? ⟨gb257, 7, none⟩ = some (.int .i64 a1_7) := (blk_cell BK257.out 7).trans rfl; have hfz56_0 := blk_frozen BK257.out 0; have hfz56_1 := blk_frozen BK257.out 1; have hfz56_2 := blk_frozen BK257.out 2; have hfz56_3 := blk_frozen BK257.out 3; have hfz56_4 := blk_frozen BK257.out 4; have hfz56_5 := blk_frozen BK257.out 5; have hfz56_6 := blk_frozen BK257.out 6; have hfz56_7 := blk_frozen BK257.out 7))
   go_ret
   exact ⟨by first | rfl | (simp only [u8w, w64m]; rfl) | (simp [errW_none, errW_some] <;> rfl) | (simp [*, errW_none, errW_some] <;> rfl), bz⟩
 ·
  replace c4 := Bool.eq_false_iff.mpr c4
  subst c4
  rw [if_neg (show ¬ (false = true) by decide)] at H
  obtain rfl := Option.some.inj H
  go_enter Try.func39, Try.ntmps39
  go_wp2_with (first | ((with_reducible refine gate_dst (N := 2) rfl ?_); refine box_event ?hg (N := 2) ?hd (cs := #[.slice A0_0 l0_0.length c0_0, .int .i64 a0_1, .bool a0_2, .int .i64 a0_3, .string a0_4, .int .i64 a0_5, .int .i64 a0_6, .int .i64 a0_7]) (t := 41) ?hr ?_; (case hd => rfl); (case hg => rfl); (case hr => first | (go_simp; done) | (go_simp; rfl)); intro gb256 hg w57 hbox hb; have n0_ := Aside0.mk (below_step (bz) hb); have n1_ := Aside0.mk (hbox); have n2_ : Aside0 (w.heap.size ≤ gb256) := bsg hg; have n3_ : Aside0 (w.heap.size ≤ gb256) := bsg hg; clear HB; have HB := n0_; have BK256 := n1_; have GW256 := n2_; have GE256 := n3_; clear n0_ n1_ n2_ n3_; clear hb hbox hg) | ((with_reducible refine gate_dst (N := 3) rfl ?_); refine box_event ?hg (N := 3) ?hd (cs := #[.slice A1_0 l1_0.length c1_0, .int .i64 a1_1, .bool a1_2, .int .i64 a1_3, .string a1_4, .int .i64 a1_5, .int .i64 a1_6, .int .i64 a1_7]) (t := 41) ?hr ?_; (case hd => rfl); (case hg => rfl); (case hr => first | (go_simp; done) | (go_simp; rfl)); intro gb257 hg w58 hbox hb; have n0_ := bkb BK256 hb; have n1_ := Aside0.mk (below_step (bz) hb); have n2_ := Aside0.mk (hbox); have n3_ : Aside0 (w.heap.size ≤ gb257) := bsg hg; have n4_ : Aside0 (w.heap.size ≤ gb257) := bsg hg; have n5_ := nlt hg BK256; have n6_ := ngt hg BK256; clear BK256; clear HB; have BK256 := n0_; have HB := n1_; have BK257 := n2_; have GW257 := n3_; have GE257 := n4_; have NB256_257 := n5_; have NB257_256 := n6_; clear n0_ n1_ n2_ n3_ n4_ n5_ n6_; clear hb hbox hg; have hnb59 := NB256_257.out; have hnc59 := NB257_256.out; have hcz60_0 : w58.cell? ⟨gb256, 0, none⟩ = some (.slice A0_0 l0_0.length c0_0) := (blk_cell BK256.out 0).trans rfl; have hcz60_1 : w58.cell? ⟨gb256, 1, none⟩ = some (.int .i64 a0_1) := (blk_cell BK256.out 1).trans rfl; have hcz60_2 : w58.cell? ⟨gb256, 2, none⟩ = some (.bool a0_2) := (blk_cell BK256.out 2).trans rfl; have hcz60_3 : w58.cell? ⟨gb256, 3, none⟩ = some (.int .i64 a0_3) := (blk_cell BK256.out 3).trans rfl; have hcz60_4 : w58.cell? ⟨gb256, 4, none⟩ = some (.string a0_4) := (blk_cell BK256.out 4).trans rfl; have hcz60_5 : w58.cell? ⟨gb256, 5, none⟩ = some (.int .i64 a0_5) := (blk_cell BK256.out 5).trans rfl; have hcz60_6 : w58.cell? ⟨gb256, 6, none⟩ = some (.int .i64 a0_6) := (blk_cell BK256.out 6).trans rfl; have hcz60_7 : w58.cell? ⟨gb256, 7, none⟩ = some (.int .i64 a0_7) := (blk_cell BK256.out 7).trans rfl; have hfz60_0 := blk_frozen BK256.out 0; have hfz60_1 := blk_frozen BK256.out 1; have hfz60_2 := blk_frozen BK256.out 2; have hfz60_3 := blk_frozen BK256.out 3; have hfz60_4 := blk_frozen BK256.out 4; have hfz60_5 := blk_frozen BK256.out 5; have hfz60_6 := blk_frozen BK256.out 6; have hfz60_7 := blk_frozen BK256.out 7; have hcz61_0 : w58.cell? ⟨gb257, 0, none⟩ = some (.slice A1_0 l1_0.length c1_0) := (blk_cell BK257.out 0).trans rfl; have hcz61_1 : w58.cell? ⟨gb257, 1, none⟩ = some (.int .i64 a1_1) := (blk_cell BK257.out 1).trans rfl; have hcz61_2 : w58.cell? ⟨gb257, 2, none⟩ = some (.bool a1_2) := (blk_cell BK257.out 2).trans rfl; have hcz61_3 : w58.cell? ⟨gb257, 3, none⟩ = some (.int .i64 a1_3) := (blk_cell BK257.out 3).trans rfl; have hcz61_4 : w58.cell? ⟨gb257, 4, none⟩ = some (.string a1_4) := (blk_cell BK257.out 4).trans rfl; have hcz61_5 : w58.cell? ⟨gb257, 5, none⟩ = some (.int .i64 a1_5) := (blk_cell BK257.out 5).trans rfl; have hcz61_6 : w58.cell? ⟨gb257, 6, none⟩ = some (.int .i64 a1_6) := (blk_cell BK257.out 6).trans rfl; have hcz61_7 : w58.cell? ⟨gb257, 7, none⟩ = some (.int .i64 a1_7) := (blk_cell BK257.out 7).trans rfl; have hfz61_0 := blk_frozen BK257.out 0; have hfz61_1 := blk_frozen BK257.out 1; have hfz61_2 := blk_frozen BK257.out 2; have hfz61_3 := blk_frozen BK257.out 3; have hfz61_4 := blk_frozen BK257.out 4; have hfz61_5 := blk_frozen BK257.out 5; have hfz61_6 := blk_frozen BK257.out 6; have hfz61_7 := blk_frozen BK257.out 7) | ((with_reducible refine gate_callee (f := 54) rfl ?_); refine goesL_ (some 9) rfl rfl Try.func54 (by kernel_rfl) rfl #[.slice A0_0 l0_0.length c0_0, .slice A1_0 l1_0.length c1_0] rfl (by (try simp only [List.map_toArray, List.map_cons, List.map_nil]); first | done | rfl | (simp only [List.length_drop, List.length_take]; rfl)) ?_; (with_reducible refine (laws_eqRouteS.calls k _ _ l0_0 _ _ l1_0 false _ ?side1 ?side2 ?side3 ?side4 A3.out).mono ?_); (case side1 => repeat (first | exact (Kd.C_below HR0_0.out HB.out) | (with_reducible refine Kd.C_alloc ?_ _) | (with_reducible refine Kd.C_drewN ?_ _) | (with_reducible refine Kd.C_drew ?_))); (case side2 => exact HC0_0.out); (case side3 => repeat (first | exact (Kd.C_below HR1_0.out HB.out) | (with_reducible refine Kd.C_alloc ?_ _) | (with_reducible refine Kd.C_drewN ?_ _) | (with_reducible refine Kd.C_drew ?_))); (case side4 => exact HC1_0.out); rintro e w62 ⟨rfl, hb⟩; refine ⟨_, rfl, ?_⟩; have n0_ := bkb BK256 hb; have n1_ := bkb BK257 hb; have n2_ := Aside0.mk (below_step (bz) hb); clear BK256; clear BK257; clear HB; have BK256 := n0_; have BK257 := n1_; have HB := n2_; clear n0_ n1_ n2_; (try clear hb); (try clear hb2); (try clear hk); (try clear hi)))
  go_ret
  exact ⟨by first | rfl | (simp only [u8w, w64m]; rfl) | (simp [errW_none, errW_some] <;> rfl) | (simp [*, errW_none, errW_some] <;> rfl), bz⟩

/-! ### laws_markText: function 111 -/
def laws_markText.l0 : Nat → Int → ByteArray → Option (ByteArray)
 | 0, _, _ => none
 | k + 1, x0, x3 => if x0 > 0 then ((some (([(wrap64 (48 + (Int.tmod x0 10))) % 256] : List Int) : List Int)).bind fun y260 => (if (strOfNums y260).size + x3.size ≤ 9223372036854775807 then (laws_markText.l0 k (wrap64 (Int.tdiv x0 10)) ((strOfNums y260) ++ x3)) else (none))) else (if 1 + x3.size ≤ 9223372036854775807 then (some ((⟨#[109]⟩ : ByteArray) ++ x3)) else (none))
def laws_markText.f (k : Nat) (a0 : Int) : Option (ByteArray) := if a0 ≤ 0 then (some (⟨#[109, 48]⟩ : ByteArray)) else (laws_markText.l0 k a0 (⟨#[]⟩ : ByteArray))
theorem laws_markText.mono_l : ∀ k, (∀ y0 y1, LeO (laws_markText.l0 k y0 y1) (laws_markText.l0 (k + 1) y0 y1))
 | 0 => fun _ _ r h => by simp [laws_markText.l0] at h
 | k + 1 => by
  have ih0 := laws_markText.mono_l k
  ·
   intro y0 y1
   unfold laws_markText.l0
   repeat' first
   | (with_reducible exact ih0 _ _)
   | (with_reducible exact LeO.refl _)
   | (with_reducible exact LeO.none _)
   | (with_reducible refine LeO.ite ?_ ?_)
   | (with_reducible refine LeO.bind ?_ (fun _ => ?_))
   | exact ih0 _ _
   | exact LeO.none _
   | refine LeO.ite ?_ ?_
   | refine LeO.bind ?_ (fun _ => ?_)
theorem laws_markText.mono : ∀ a0 k, LeO (laws_markText.f k a0) (laws_markText.f (k + 1) a0) := by
 intro a0 k
 have ih0 := laws_markText.mono_l k
 unfold laws_markText.f
 repeat' first
   | (with_reducible exact ih0 _ _)
   | (with_reducible exact LeO.refl _)
   | (with_reducible exact LeO.none _)
   | (with_reducible refine LeO.ite ?_ ?_)
   | (with_reducible refine LeO.bind ?_ (fun _ => ?_))
   | exact ih0 _ _
   | exact LeO.none _
   | refine LeO.ite ?_ ?_
   | refine LeO.bind ?_ (fun _ => ?_)
set_option maxHeartbeats 8000000 in
set_option maxRecDepth 100000 in
theorem laws_markText.calls (k : Nat) (a0 : Int) (r : ByteArray) (w : World) (h : laws_markText.f k a0 = some r) :
  Calls Try.prog 111 #[.int .i64 a0] w fun e w' => e = .returned (.string r) ∧ Below w.heap.size w w' := by
 have HB := Aside0.mk (Below.refl w.heap.size w)
 have H : (if a0 ≤ 0 then (some (⟨#[109, 48]⟩ : ByteArray)) else (laws_markText.l0 k a0 (⟨#[]⟩ : ByteArray))) = some r := h
 clear h
 by_cases c2 : a0 ≤ 0
 ·
  rw [if_pos c2] at H
  have c2b0 : decide (a0 ≤ 0) = true := decide_eq_true c2
  clear c2
  obtain rfl := Option.some.inj H
  go_enter Try.func111, Try.ntmps111
  go_wp2
  go_ret
  exact ⟨by first | rfl | (simp only [u8w, w64m]; rfl) | (simp [errW_none, errW_some] <;> rfl) | (simp [*, errW_none, errW_some] <;> rfl), bz⟩
 ·
  rw [if_neg c2] at H
  have c2b0 : decide (a0 ≤ 0) = false := decide_eq_false c2
  clear c2
  have H' := Aside0.mk H
  clear H
  go_enter Try.func111, Try.ntmps111
  go_wp2
  go_loopg [0, 3] k (fun kq v0 v3 w' => ∃ (x0_1 : Int) (x3_1 : ByteArray), v0 = .int .i64 x0_1 ∧ v3 = .string x3_1 ∧ Aside0 (laws_markText.l0 kq x0_1 x3_1 = some r) ∧ Aside0 (kq ≤ k) ∧ Aside0 (Below w.heap.size w w'))
  case atStart => exact ⟨(a0), ((⟨#[]⟩ : ByteArray)), (by first | rfl | (simp; done) | exact congrArg Value.bool (ne_nil_b _) | exact congrArg Value.bool (eq_nil_b _) | (simp [*]; done)), (by first | rfl | (simp; done) | exact congrArg Value.bool (ne_nil_b _) | exact congrArg Value.bool (eq_nil_b _) | (simp [*]; done)), H', ⟨Nat.le_refl _⟩, ⟨bz⟩⟩
  case round =>
   clear H'
   try clear c1
   try clear c2
   try clear c2b0
   try clear p2
   obtain ⟨x0_1, x3_1, rfl, rfl, HA, HK1, HB⟩ := hrel
   cases gk with
   | zero => exact absurd HA.out (by simp [laws_markText.l0])
   | succ k1 =>
    have H := HA.out
    clear HA
    simp only [laws_markText.l0] at H
    by_cases c3 : x0_1 > 0
    ·
     rw [if_pos c3] at H
     have c3b0 : decide (0 < x0_1) = true := decide_eq_true c3
     clear c3
     obtain ⟨y260, hy260⟩ : ∃ y_ : List Int, y_ = (([(wrap64 (48 + (Int.tmod x0_1 10))) % 256] : List Int)) := ⟨_, rfl⟩
     replace H : (if (strOfNums y260).size + x3_1.size ≤ 9223372036854775807 then (laws_markText.l0 k1 (wrap64 (Int.tdiv x0_1 10)) ((strOfNums y260) ++ x3_1)) else (none)) = some r := by first | (rw [hy260]; with_reducible exact H) | (have H2_ := (Option.bind_some _ _).symm.trans H; rw [hy260]; with_reducible exact H2_) | (have H2_ := (Option.bind_some _ _).symm.trans H; with_reducible exact H2_) | with_reducible exact H | (rw [hy260]; exact H) | exact H
     have Ny260 := Aside0.mk hy260
     clear hy260
     by_cases c4 : (strOfNums y260).size + x3_1.size ≤ 9223372036854775807
     ·
      rw [if_pos c4] at H
      have c4b0 := eq_true c4
      have c4b1 : decide ((strOfNums y260).size + x3_1.size ≤ 9223372036854775807) = true := decide_eq_true c4
      try have c4b2 : (9223372036854775807 < (strOfNums y260).size + x3_1.size) = False := eq_false (Nat.not_lt.2 c4)
      have H' := Aside0.mk H
      clear H
      go_wp2_with (first | ((with_reducible refine gate_dst (N := 12) rfl ?_); refine Kd.R_lit (Kd.int .u8) _ 5 ?hg (N := 12) ?hd (xs := ([(wrap64 (48 + (Int.tmod x0_1 10))) % 256] : List Int)) (inner := [.int .u8 ((wrap64 (48 + (Int.tmod x0_1 10))) % 256)]) (ok := fun _ => True) (okp := fun _ => True) ?hr ?hp (fun _ hk => hk) trivial (Below.refl _ _) (Nat.le_refl _) (by simp) ?_; (case hd => rfl); (case hg => rfl); (case hr => first | (go_simp; done) | (go_simp; rfl)); (case hp => exact (Reps.one (show Kd.M (Kd.int .u8) _ _ _ ((wrap64 (48 + (Int.tmod x0_1 10))) % 256) [.int .u8 ((wrap64 (48 + (Int.tmod x0_1 10))) % 256)] from rfl) (Reps.none _ _))); intro v261 w5 ho6 hb hg_ hnew_; clear hg_ hnew_; (first | rw [← Ny260.out] at ho6 | (simp only [Int.reduceToNat] at ho6; rw [← Ny260.out] at ho6)); have n0_ := Aside0.mk (Kd.R_lower ho6 (below_size (bz))); have n1_ := Aside0.mk (below_step (bz) hb); clear HB; have HO262 := n0_; have HB := n1_; clear n0_ n1_; clear hb ho6; have hcv7 := own_string (P := Try.prog) Try.underlying22 Try.underlying5 Try.underlying9 (Kd.own_of_R HO262.out)))
      go_roundg k1
      case measure => have := HK1.out; omega
      case rel => exact ⟨(wrap64 (Int.tdiv x0_1 10)), ((strOfNums y260) ++ x3_1), (by first | rfl | (simp; done) | exact congrArg Value.bool (ne_nil_b _) | exact congrArg Value.bool (eq_nil_b _) | (simp [*]; done)), (by first | rfl | (simp; done) | exact congrArg Value.bool (ne_nil_b _) | exact congrArg Value.bool (eq_nil_b _) | (simp [*]; done)), H', ⟨by have := HK1.out; omega⟩, ⟨bz⟩⟩
     ·
      rw [if_neg c4] at H
      exact absurd H (by simp)
    ·
     rw [if_neg c3] at H
     have c3b0 : decide (0 < x0_1) = false := decide_eq_false c3
     clear c3
     by_cases c8 : 1 + x3_1.size ≤ 9223372036854775807
     ·
      rw [if_pos c8] at H
      have c8b0 := eq_true c8
      have c8b1 : decide (1 + x3_1.size ≤ 9223372036854775807) = true := decide_eq_true c8
      try have c8b2 : (9223372036854775807 < 1 + x3_1.size) = False := eq_false (Nat.not_lt.2 c8)
      obtain rfl := Option.some.inj H
      go_wp2
      go_ret
      exact ⟨by first | rfl | (simp only [u8w, w64m]; rfl) | (simp [errW_none, errW_some] <;> rfl) | (simp [*, errW_none, errW_some] <;> rfl), bz⟩
     ·
      rw [if_neg c8] at H
      exact absurd H (by simp)

/-! ### laws_markRouteS: function 55 -/
def laws_markRouteS.l0 : Nat → List (S35) → Int → Int → Option (Int × (List (S35)))
 | 0, _, _, _ => none
 | k + 1, x0, x1, x5 => if x5 < (x0.length : Int) then (if 0 ≤ x5 then ((some (x0.set (x5 : Int).toNat (⟨x1, (⟨(rd_T35 x0 x5).f1.f0, (rd_T35 x0 x5).f1.f1⟩ : S31)⟩ : S35) : List (S35))).bind fun y263 => ((laws_markText.f k (wrap64 (x1 + 1))).bind fun t264 => ((some (y263.set (x5 : Int).toNat (⟨(rd_T35 y263 x5).f0, (⟨t264, (rd_T35 y263 x5).f1.f1⟩ : S31)⟩ : S35) : List (S35))).bind fun y265 => ((laws_markText.f k (wrap64 ((wrap64 (x1 + 1)) + 1))).bind fun t266 => (laws_markRouteS.l0 k (y265.set (x5 : Int).toNat (⟨(rd_T35 y265 x5).f0, (⟨(rd_T35 y265 x5).f1.f0, t266⟩ : S31)⟩ : S35)) (wrap64 ((wrap64 ((wrap64 (x1 + 1)) + 1)) + 1)) (wrap64 (x5 + 1))))))) else (none)) else (some (x1, x0))
def laws_markRouteS.f (k : Nat) (l0 : List (S35)) (a1 : Int) : Option (Int × (List (S35))) := laws_markRouteS.l0 k l0 a1 0
theorem laws_markRouteS.mono_l : ∀ k, (∀ y0 y1 y2, LeO (laws_markRouteS.l0 k y0 y1 y2) (laws_markRouteS.l0 (k + 1) y0 y1 y2))
 | 0 => fun _ _ _ r h => by simp [laws_markRouteS.l0] at h
 | k + 1 => by
  have ih0 := laws_markRouteS.mono_l k
  ·
   intro y0 y1 y2
   unfold laws_markRouteS.l0
   repeat' first
   | (with_reducible exact ih0 _ _ _)
   | (with_reducible exact laws_markText.mono _ _)
   | (with_reducible exact LeO.refl _)
   | (with_reducible exact LeO.none _)
   | (with_reducible refine LeO.ite ?_ ?_)
   | (with_reducible refine LeO.bind ?_ (fun _ => ?_))
   | exact ih0 _ _ _
   | exact laws_markText.mono _ _
   | exact LeO.none _
   | refine LeO.ite ?_ ?_
   | refine LeO.bind ?_ (fun _ => ?_)
theorem laws_markRouteS.mono : ∀ a0 a1 k, LeO (laws_markRouteS.f k a0 a1) (laws_markRouteS.f (k + 1) a0 a1) := by
 intro a0 a1 k
 have ih0 := laws_markRouteS.mono_l k
 unfold laws_markRouteS.f
 repeat' first
   | (with_reducible exact ih0 _ _ _)
   | (with_reducible exact laws_markText.mono _ _)
   | (with_reducible exact LeO.refl _)
   | (with_reducible exact LeO.none _)
   | (with_reducible refine LeO.ite ?_ ?_)
   | (with_reducible refine LeO.bind ?_ (fun _ => ?_))
   | exact ih0 _ _ _
   | exact laws_markText.mono _ _
   | exact LeO.none _
   | refine LeO.ite ?_ ?_
   | refine LeO.bind ?_ (fun _ => ?_)
set_option maxHeartbeats 8000000 in
set_option maxRecDepth 100000 in
theorem laws_markRouteS.calls (k : Nat) (P0_ : Nat → Prop) (u9000_ : Value) (l0 : List (S35)) (a1 : Int) (r1 : Int) (r2 : List (S35)) (w0 w : World) (hB : Below w0.heap.size w0 w) (ho0 : Kd.R k35 35 w w0.heap.size P0_ u9000_ l0) (h : laws_markRouteS.f k l0 a1 = some (r1, r2)) :
  Calls Try.prog 55 #[u9000_, .int .i64 a1] w fun e w' => e = .returned (.int .i64 r1) ∧ Kd.R k35 35 w' w0.heap.size (fun k_ => (P0_ k_ ∨ w.heap.size ≤ k_)) u9000_ r2 ∧ Below w0.heap.size w0 w' ∧ Kept w w' (fun k_ => P0_ k_) := by
 have HO0 := Aside0.mk (show Kd.R k35 35 w w0.heap.size (fun k_ => (P0_ k_ ∨ w.heap.size ≤ k_)) u9000_ l0 from Kd.R_mono ho0 (fun k_ hk => (.inl hk)))
 have HK := Aside0.mk (Kept.refl w (fun k_ => P0_ k_))
 have HW0 := Aside0.mk hB.size
 have HB := Aside0.mk hB
 clear hB
 have H : (laws_markRouteS.l0 k l0 a1 0) = some (r1, r2) := h
 clear h
 have H' := Aside0.mk H
 clear H
 go_enter Try.func55, Try.ntmps55
 go_wp2
 go_loopg [1, 5] k (fun kq v1 v5 w' => ∃ (x0_1 : List (S35)) (x1_1 : Int) (x5_1 : Int), v1 = .int .i64 x1_1 ∧ v5 = .int .i64 x5_1 ∧ Aside0 (laws_markRouteS.l0 kq x0_1 x1_1 x5_1 = some (r1, r2)) ∧ Aside0 (kq ≤ k) ∧ Aside0 (Kd.R k35 35 w' w0.heap.size (fun k_ => (P0_ k_ ∨ w.heap.size ≤ k_)) u9000_ x0_1) ∧ Aside0 (Kept w w' (fun k_ => P0_ k_)) ∧ Aside0 (Below w0.heap.size w0 w'))
 case atStart => exact ⟨(l0), (a1), (0), (by first | rfl | (simp; done) | exact congrArg Value.bool (ne_nil_b _) | exact congrArg Value.bool (eq_nil_b _) | (simp [*]; done)), (by first | rfl | (simp; done) | exact congrArg Value.bool (ne_nil_b _) | exact congrArg Value.bool (eq_nil_b _) | (simp [*]; done)), H', ⟨Nat.le_refl _⟩, ⟨by (with_reducible repeat (first | apply Kd.R_alloc | apply Kd.R_drewN | apply Kd.R_drew)); exact HO0.out⟩, ⟨by repeat (first | (with_reducible first | exact HK.out | apply Kept.alloc | apply Kept.drewN | apply Kept.drew) | exact HK.out)⟩, ⟨bz⟩⟩
 case round =>
  clear H'
  try clear p2
  obtain ⟨x0_1, x1_1, x5_1, rfl, rfl, HA, HK1, HO_0, HK, HB⟩ := hrel
  cases gk with
  | zero => exact absurd HA.out (by simp [laws_markRouteS.l0])
  | succ k1 =>
   have H := HA.out
   clear HA
   simp only [laws_markRouteS.l0] at H
   by_cases c3 : x5_1 < (x0_1.length : Int)
   ·
    rw [if_pos c3] at H
    have c3b0 : decide (x5_1 < (x0_1.length : Int)) = true := decide_eq_true c3
    clear c3
    by_cases c4 : 0 ≤ x5_1
    ·
     rw [if_pos c4] at H
     have c4b0 : decide (0 ≤ x5_1) = true := decide_eq_true c4
     clear c4
     obtain ⟨y263, hy263⟩ : ∃ y_ : List (S35), y_ = (x0_1.set (x5_1 : Int).toNat (⟨x1_1, (⟨(rd_T35 x0_1 x5_1).f1.f0, (rd_T35 x0_1 x5_1).f1.f1⟩ : S31)⟩ : S35)) := ⟨_, rfl⟩
     replace H : ((laws_markText.f k1 (wrap64 (x1_1 + 1))).bind fun t264 => ((some (y263.set (x5_1 : Int).toNat (⟨(rd_T35 y263 x5_1).f0, (⟨t264, (rd_T35 y263 x5_1).f1.f1⟩ : S31)⟩ : S35) : List (S35))).bind fun y265 => ((laws_markText.f k1 (wrap64 ((wrap64 (x1_1 + 1)) + 1))).bind fun t266 => (laws_markRouteS.l0 k1 (y265.set (x5_1 : Int).toNat (⟨(rd_T35 y265 x5_1).f0, (⟨(rd_T35 y265 x5_1).f1.f0, t266⟩ : S31)⟩ : S35)) (wrap64 ((wrap64 ((wrap64 (x1_1 + 1)) + 1)) + 1)) (wrap64 (x5_1 + 1)))))) = some (r1, r2) := by first | (rw [hy263]; with_reducible exact H) | (have H2_ := (Option.bind_some _ _).symm.trans H; rw [hy263]; with_reducible exact H2_) | (have H2_ := (Option.bind_some _ _).symm.trans H; with_reducible exact H2_) | with_reducible exact H | (rw [hy263]; exact H) | exact H
     have Ny263 := Aside0.mk hy263
     clear hy263
     replace H := Option.bind_eq_some_iff.mp H
     obtain ⟨t264, A60, H⟩ := H
     try dsimp only at H
     have A6 := Aside0.mk A60
     clear A60
     obtain ⟨y265, hy265⟩ : ∃ y_ : List (S35), y_ = (y263.set (x5_1 : Int).toNat (⟨(rd_T35 y263 x5_1).f0, (⟨t264, (rd_T35 y263 x5_1).f1.f1⟩ : S31)⟩ : S35)) := ⟨_, rfl⟩
     replace H : ((laws_markText.f k1 (wrap64 ((wrap64 (x1_1 + 1)) + 1))).bind fun t266 => (laws_markRouteS.l0 k1 (y265.set (x5_1 : Int).toNat (⟨(rd_T35 y265 x5_1).f0, (⟨(rd_T35 y265 x5_1).f1.f0, t266⟩ : S31)⟩ : S35)) (wrap64 ((wrap64 ((wrap64 (x1_1 + 1)) + 1)) + 1)) (wrap64 (x5_1 + 1)))) = some (r1, r2) := by first | (rw [hy265]; with_reducible exact H) | (have H2_ := (Option.bind_some _ _).symm.trans H; rw [hy265]; with_reducible exact H2_) | (have H2_ := (Option.bind_some _ _).symm.trans H; with_reducible exact H2_) | with_reducible exact H | (rw [hy265]; exact H) | exact H
     have Ny265 := Aside0.mk hy265
     clear hy265
     replace H := Option.bind_eq_some_iff.mp H
     obtain ⟨t266, A80, H⟩ := H
     try dsimp only at H
     have A8 := Aside0.mk A80
     clear A80
     obtain ⟨y267, hy267⟩ : ∃ y_ : List (S35), y_ = (y265.set (x5_1 : Int).toNat (⟨(rd_T35 y265 x5_1).f0, (⟨(rd_T35 y265 x5_1).f1.f0, t266⟩ : S31)⟩ : S35)) := ⟨_, rfl⟩
     replace H : (laws_markRouteS.l0 k1 y267 (wrap64 ((wrap64 ((wrap64 (x1_1 + 1)) + 1)) + 1)) (wrap64 (x5_1 + 1))) = some (r1, r2) := by first | (rw [hy267]; with_reducible exact H) | (have H2_ := (Option.bind_some _ _).symm.trans H; rw [hy267]; with_reducible exact H2_) | (have H2_ := (Option.bind_some _ _).symm.trans H; with_reducible exact H2_) | with_reducible exact H | (rw [hy267]; exact H) | exact H
     have Ny267 := Aside0.mk hy267
     clear hy267
     have H' := Aside0.mk H
     clear H
     obtain ⟨Ao10, co10, eo10⟩ := Kd.R_slice HO_0.out
     subst eo10
     have p5 : 0 ≤ (x5_1 : Int) := of_decide_eq_true (by first | (with_reducible assumption) | assumption)
     have q5 : (x5_1 : Int) < ((x0_1.length : Int) : Int) := of_decide_eq_true (by first | (with_reducible assumption) | assumption)
     obtain ⟨go5, co5, eo5, gb5, gl5, cl5, HG5⟩ := Kd.R_form HO_0.out (by omega)
     (first | cases eo5 | (injection eo5 with ea_ en_ ec_; (first | subst ea_ | (injection ea_ with ea_; subst ea_)); subst ec_; clear en_))
     have GB5 := Aside0.mk gb5
     have GG5 := Aside0.mk HG5
     clear gb5 gl5 HG5
     have HMgo5 := Aside0.mk (show (P0_ go5 ∨ w.heap.size ≤ go5) from (HO_0.out.1 _ rfl))
     obtain ⟨ce5, hcl5, hM5, hcc5, hfr5⟩ := Kd.R_elem HO_0.out z35 (x5_1 : Int) p5 q5
     obtain rfl := k35_openM hM5
     have hx5_0 : wr.cell? ⟨go5, (x5_1 : Int).toNat * 3, none⟩ = some (.int .i64 ((rd_T35 x0_1 x5_1).f0)) := hcc5 0 _ rfl
     have hx5_1 : wr.cell? ⟨go5, (x5_1 : Int).toNat * 3 + 1, none⟩ = some (.string ((rd_T35 x0_1 x5_1).f1.f0)) := hcc5 1 _ rfl
     have hx5_2 : wr.cell? ⟨go5, (x5_1 : Int).toNat * 3 + 2, none⟩ = some (.string ((rd_T35 x0_1 x5_1).f1.f1)) := hcc5 2 _ rfl
     have hf5_0 : wr.frozen? ⟨go5, (x5_1 : Int).toNat * 3, none⟩ = false := hfr5 0
     have hf5_1 : wr.frozen? ⟨go5, (x5_1 : Int).toNat * 3 + 1, none⟩ = false := hfr5 1
     have hf5_2 : wr.frozen? ⟨go5, (x5_1 : Int).toNat * 3 + 2, none⟩ = false := hfr5 2
     clear hcl5 hcc5 hfr5 hM5
     replace p5 := eq_true p5
     replace q5 := eq_true q5
     have HX11 := Aside0.mk (show Kd.R k35 35 wr w0.heap.size (fun k_ => (P0_ k_ ∨ w.heap.size ≤ k_)) (.slice (some ⟨go5, 0, none⟩) x0_1.length co10) x0_1 from (by (with_reducible repeat (first | apply Kd.R_alloc | apply Kd.R_drewN | apply Kd.R_drew)); exact HO_0.out))
     obtain ⟨ce11, hcl11, hM11, hcc11, hfr11⟩ := Kd.R_elem HX11.out z35 (x5_1 : Int) (of_decide_eq_true (by first | (with_reducible assumption) | assumption)) (by have h_ : (x5_1 : Int) < ((x0_1.length : Int) : Int) := of_decide_eq_true (by first | (with_reducible assumption) | assumption); first | exact h_ | (have e_ := (Kd.R_reads' HO_0.out).1; omega) | simpa using h_)
     obtain rfl := k35_openM hM11
     have HP11 := Kd.R_seg HX11.out (x5_1 : Int) (of_decide_eq_true (by first | (with_reducible assumption) | assumption)) (by have h_ : (x5_1 : Int) < ((x0_1.length : Int) : Int) := of_decide_eq_true (by first | (with_reducible assumption) | assumption); first | exact h_ | (have e_ := (Kd.R_reads' HO_0.out).1; omega) | simpa using h_) (seg := [.int .i64 x1_1]) (j := 0) hcl11 hcc11 (show 1 ≤ 3 from by decide) (x' := (⟨x1_1, (⟨(rd_T35 x0_1 x5_1).f1.f0, (rd_T35 x0_1 x5_1).f1.f1⟩ : S31)⟩ : S35)) (k35_mkM _ _ _ (⟨x1_1, (⟨(rd_T35 x0_1 x5_1).f1.f0, (rd_T35 x0_1 x5_1).f1.f1⟩ : S31)⟩ : S35) ) (fun _ hk => hk)
     have hx11_0 := hcc11 0 _ rfl
     (try simp only [show (k35).sz = 3 from rfl, Nat.mul_one, Nat.add_zero] at hx11_0)
     have hf11_0 := hfr11 0
     (try simp only [show (k35).sz = 3 from rfl, Nat.mul_one, Nat.add_zero] at hf11_0)
     clear hcl11 hcc11 hfr11 hM11
     go_wp2_with (first | ((with_reducible refine gate_store (t := 3) (p := 16) rfl ?_); refine store_event (t := 3) (p := 16) (v := ?vo_w12) (w1 := (wr.setCell ⟨go5, (x5_1 : Int).toNat * 3, none⟩ (.int .i64 x1_1))) ?hg ?ho ?hn ?hr ?_; (case ho => rfl); (case hg => rfl); (case hn => rfl); (case hr => first | (go_simp; done) | (go_simp; rfl)); intro w12 hw; have hg : wr.grownBy w12 (some go5) := (by rw [hw]; exact HP11.2); have hp_ : Kd.R k35 35 w12 w0.heap.size (fun k_ => (P0_ k_ ∨ w.heap.size ≤ k_)) (.slice (some ⟨go5, 0, none⟩) x0_1.length co10) y263 := (by rw [hw, Ny263.out]; exact HP11.1); clear HP11; have n0_ := Aside0.mk (hp_); have n1_ := Aside0.mk ((by rw [hw]; exact below_set (HB.out) GB5.out : Below w0.heap.size w0 w12)); have n2_ := Aside0.mk (Kept.of_grown (S := (fun k_ => P0_ k_)) hg (by repeat (first | (with_reducible first | exact HK.out | apply Kept.alloc | apply Kept.drewN | apply Kept.drew) | exact HK.out)) (fun k_ e_ => (HO_0.out.1 k_ e_))); clear HO_0; clear HB; clear HK; have HO_0 := n0_; have HB := n1_; have HK := n2_; clear n0_ n1_ n2_; clear hg hw hp_) | ((with_reducible refine gate_callee (f := 111) rfl ?_); refine goesL_ (some 22) rfl rfl Try.func111 (by kernel_rfl) rfl #[.int .i64 (wrap64 (x1_1 + 1))] rfl (by (try simp only [List.map_toArray, List.map_cons, List.map_nil]); first | done | rfl | (simp only [List.length_drop, List.length_take]; rfl)) ?_; (with_reducible refine (laws_markText.calls k1 (wrap64 (x1_1 + 1)) t264 _ A6.out).mono ?_); rintro e w13 ⟨rfl, hb⟩; refine ⟨_, rfl, ?_⟩; have n0_ := Aside0.mk (Kd.R_below (by (with_reducible repeat (first | apply Kd.R_alloc | apply Kd.R_drewN | apply Kd.R_drew)); exact HO_0.out) hb); have n1_ := Aside0.mk (Kept.below (S := (fun k_ => P0_ k_)) (by repeat (first | (with_reducible first | exact HK.out | apply Kept.alloc | apply Kept.drewN | apply Kept.drew) | exact HK.out)) hb); have n2_ := Aside0.mk (below_step (bz) hb); clear HO_0; clear HK; clear HB; have HO_0 := n0_; have HK := n1_; have HB := n2_; clear n0_ n1_ n2_; (try clear hb); (try clear hb2); (try clear hk); (try clear hi); have p7 : 0 ≤ (x5_1 : Int) := of_decide_eq_true (by first | (with_reducible assumption) | assumption); have q7 : (x5_1 : Int) < ((x0_1.length : Int) : Int) := of_decide_eq_true (by first | (with_reducible assumption) | assumption); obtain ⟨ce7, hcl7, hM7, hcc7, hfr7⟩ := Kd.R_elem HO_0.out z35 (x5_1 : Int) p7 q7; obtain rfl := k35_openM hM7; have hx7_0 : w13.cell? ⟨go5, (x5_1 : Int).toNat * 3, none⟩ = some (.int .i64 ((rd_T35 y263 x5_1).f0)) := hcc7 0 _ rfl; have hx7_1 : w13.cell? ⟨go5, (x5_1 : Int).toNat * 3 + 1, none⟩ = some (.string ((rd_T35 y263 x5_1).f1.f0)) := hcc7 1 _ rfl; have hx7_2 : w13.cell? ⟨go5, (x5_1 : Int).toNat * 3 + 2, none⟩ = some (.string ((rd_T35 y263 x5_1).f1.f1)) := hcc7 2 _ rfl; have hf7_0 : w13.frozen? ⟨go5, (x5_1 : Int).toNat * 3, none⟩ = false := hfr7 0; have hf7_1 : w13.frozen? ⟨go5, (x5_1 : Int).toNat * 3 + 1, none⟩ = false := hfr7 1; have hf7_2 : w13.frozen? ⟨go5, (x5_1 : Int).toNat * 3 + 2, none⟩ = false := hfr7 2; clear hcl7 hcc7 hfr7 hM7; replace p7 := eq_true p7; replace q7 := eq_true q7; have HX14 := Aside0.mk (show Kd.R k35 35 w13 w0.heap.size (fun k_ => (P0_ k_ ∨ w.heap.size ≤ k_)) (.slice (some ⟨go5, 0, none⟩) x0_1.length co10) y263 from (by (with_reducible repeat (first | apply Kd.R_alloc | apply Kd.R_drewN | apply Kd.R_drew)); exact HO_0.out)); obtain ⟨ce14, hcl14, hM14, hcc14, hfr14⟩ := Kd.R_elem HX14.out z35 (x5_1 : Int) (of_decide_eq_true (by first | (with_reducible assumption) | assumption)) (by have h_ : (x5_1 : Int) < ((x0_1.length : Int) : Int) := of_decide_eq_true (by first | (with_reducible assumption) | assumption); first | exact h_ | (have e_ := (Kd.R_reads' HO_0.out).1; omega) | simpa using h_); obtain rfl := k35_openM hM14; have HP14 := Kd.R_seg HX14.out (x5_1 : Int) (of_decide_eq_true (by first | (with_reducible assumption) | assumption)) (by have h_ : (x5_1 : Int) < ((x0_1.length : Int) : Int) := of_decide_eq_true (by first | (with_reducible assumption) | assumption); first | exact h_ | (have e_ := (Kd.R_reads' HO_0.out).1; omega) | simpa using h_) (seg := [.string t264]) (j := 1) hcl14 hcc14 (show 2 ≤ 3 from by decide) (x' := (⟨(rd_T35 y263 x5_1).f0, (⟨t264, (rd_T35 y263 x5_1).f1.f1⟩ : S31)⟩ : S35)) (k35_mkM _ _ _ (⟨(rd_T35 y263 x5_1).f0, (⟨t264, (rd_T35 y263 x5_1).f1.f1⟩ : S31)⟩ : S35) ) (fun _ hk => hk); have hx14_1 := hcc14 1 _ rfl; (try simp only [show (k35).sz = 3 from rfl, Nat.mul_one, Nat.add_zero] at hx14_1); have hf14_1 := hfr14 1; (try simp only [show (k35).sz = 3 from rfl, Nat.mul_one, Nat.add_zero] at hf14_1); clear hcl14 hcc14 hfr14 hM14) | ((with_reducible refine gate_store (t := 9) (p := 25) rfl ?_); refine store_event (t := 9) (p := 25) (v := ?vo_w15) (w1 := (w13.setCell ⟨go5, (x5_1 : Int).toNat * 3 + 1, none⟩ (.string t264))) ?hg ?ho ?hn ?hr ?_; (case ho => rfl); (case hg => rfl); (case hn => rfl); (case hr => first | (go_simp; done) | (go_simp; rfl)); intro w15 hw; have hg : w13.grownBy w15 (some go5) := (by rw [hw]; exact HP14.2); have hp_ : Kd.R k35 35 w15 w0.heap.size (fun k_ => (P0_ k_ ∨ w.heap.size ≤ k_)) (.slice (some ⟨go5, 0, none⟩) x0_1.length co10) y265 := (by rw [hw, Ny265.out]; exact HP14.1); clear HP14; have n0_ := Aside0.mk (hp_); have n1_ := Aside0.mk ((by rw [hw]; exact below_set (HB.out) GB5.out : Below w0.heap.size w0 w15)); have n2_ := Aside0.mk (Kept.of_grown (S := (fun k_ => P0_ k_)) hg (by repeat (first | (with_reducible first | exact HK.out | apply Kept.alloc | apply Kept.drewN | apply Kept.drew) | exact HK.out)) (fun k_ e_ => (HO_0.out.1 k_ e_))); clear HO_0; clear HB; clear HK; have HO_0 := n0_; have HB := n1_; have HK := n2_; clear n0_ n1_ n2_; clear hg hw hp_) | ((with_reducible refine gate_callee (f := 111) rfl ?_); refine goesL_ (some 31) rfl rfl Try.func111 (by kernel_rfl) rfl #[.int .i64 (wrap64 ((wrap64 (x1_1 + 1)) + 1))] rfl (by (try simp only [List.map_toArray, List.map_cons, List.map_nil]); first | done | rfl | (simp only [List.length_drop, List.length_take]; rfl)) ?_; (with_reducible refine (laws_markText.calls k1 (wrap64 ((wrap64 (x1_1 + 1)) + 1)) t266 _ A8.out).mono ?_); rintro e w16 ⟨rfl, hb⟩; refine ⟨_, rfl, ?_⟩; have n0_ := Aside0.mk (Kd.R_below (by (with_reducible repeat (first | apply Kd.R_alloc | apply Kd.R_drewN | apply Kd.R_drew)); exact HO_0.out) hb); have n1_ := Aside0.mk (Kept.below (S := (fun k_ => P0_ k_)) (by repeat (first | (with_reducible first | exact HK.out | apply Kept.alloc | apply Kept.drewN | apply Kept.drew) | exact HK.out)) hb); have n2_ := Aside0.mk (below_step (bz) hb); clear HO_0; clear HK; clear HB; have HO_0 := n0_; have HK := n1_; have HB := n2_; clear n0_ n1_ n2_; (try clear hb); (try clear hb2); (try clear hk); (try clear hi); have p9 : 0 ≤ (x5_1 : Int) := of_decide_eq_true (by first | (with_reducible assumption) | assumption); have q9 : (x5_1 : Int) < ((x0_1.length : Int) : Int) := of_decide_eq_true (by first | (with_reducible assumption) | assumption); obtain ⟨ce9, hcl9, hM9, hcc9, hfr9⟩ := Kd.R_elem HO_0.out z35 (x5_1 : Int) p9 q9; obtain rfl := k35_openM hM9; have hx9_0 : w16.cell? ⟨go5, (x5_1 : Int).toNat * 3, none⟩ = some (.int .i64 ((rd_T35 y265 x5_1).f0)) := hcc9 0 _ rfl; have hx9_1 : w16.cell? ⟨go5, (x5_1 : Int).toNat * 3 + 1, none⟩ = some (.string ((rd_T35 y265 x5_1).f1.f0)) := hcc9 1 _ rfl; have hx9_2 : w16.cell? ⟨go5, (x5_1 : Int).toNat * 3 + 2, none⟩ = some (.string ((rd_T35 y265 x5_1).f1.f1)) := hcc9 2 _ rfl; have hf9_0 : w16.frozen? ⟨go5, (x5_1 : Int).toNat * 3, none⟩ = false := hfr9 0; have hf9_1 : w16.frozen? ⟨go5, (x5_1 : Int).toNat * 3 + 1, none⟩ = false := hfr9 1; have hf9_2 : w16.frozen? ⟨go5, (x5_1 : Int).toNat * 3 + 2, none⟩ = false := hfr9 2; clear hcl9 hcc9 hfr9 hM9; replace p9 := eq_true p9; replace q9 := eq_true q9; have HX17 := Aside0.mk (show Kd.R k35 35 w16 w0.heap.size (fun k_ => (P0_ k_ ∨ w.heap.size ≤ k_)) (.slice (some ⟨go5, 0, none⟩) x0_1.length co10) y265 from (by (with_reducible repeat (first | apply Kd.R_alloc | apply Kd.R_drewN | apply Kd.R_drew)); exact HO_0.out)); obtain ⟨ce17, hcl17, hM17, hcc17, hfr17⟩ := Kd.R_elem HX17.out z35 (x5_1 : Int) (of_decide_eq_true (by first | (with_reducible assumption) | assumption)) (by have h_ : (x5_1 : Int) < ((x0_1.length : Int) : Int) := of_decide_eq_true (by first | (with_reducible assumption) | assumption); first | exact h_ | (have e_ := (Kd.R_reads' HO_0.out).1; omega) | simpa using h_); obtain rfl := k35_openM hM17; have HP17 := Kd.R_seg HX17.out (x5_1 : Int) (of_decide_eq_true (by first | (with_reducible assumption) | assumption)) (by have h_ : (x5_1 : Int) < ((x0_1.length : Int) : Int) := of_decide_eq_true (by first | (with_reducible assumption) | assumption); first | exact h_ | (have e_ := (Kd.R_reads' HO_0.out).1; omega) | simpa using h_) (seg := [.string t266]) (j := 2) hcl17 hcc17 (show 3 ≤ 3 from by decide) (x' := (⟨(rd_T35 y265 x5_1).f0, (⟨(rd_T35 y265 x5_1).f1.f0, t266⟩ : S31)⟩ : S35)) (k35_mkM _ _ _ (⟨(rd_T35 y265 x5_1).f0, (⟨(rd_T35 y265 x5_1).f1.f0, t266⟩ : S31)⟩ : S35) ) (fun _ hk => hk); have hx17_2 := hcc17 2 _ rfl; (try simp only [show (k35).sz = 3 from rfl, Nat.mul_one, Nat.add_zero] at hx17_2); have hf17_2 := hfr17 2; (try simp only [show (k35).sz = 3 from rfl, Nat.mul_one, Nat.add_zero] at hf17_2); clear hcl17 hcc17 hfr17 hM17) | ((with_reducible refine gate_store (t := 9) (p := 34) rfl ?_); refine store_event (t := 9) (p := 34) (v := ?vo_w18) (w1 := (w16.setCell ⟨go5, (x5_1 : Int).toNat * 3 + 2, none⟩ (.string t266))) ?hg ?ho ?hn ?hr ?_; (case ho => rfl); (case hg => rfl); (case hn => rfl); (case hr => first | (go_simp; done) | (go_simp; rfl)); intro w18 hw; have hg : w16.grownBy w18 (some go5) := (by rw [hw]; exact HP17.2); have hp_ : Kd.R k35 35 w18 w0.heap.size (fun k_ => (P0_ k_ ∨ w.heap.size ≤ k_)) (.slice (some ⟨go5, 0, none⟩) x0_1.length co10) y267 := (by rw [hw, Ny267.out]; exact HP17.1); clear HP17; have n0_ := Aside0.mk (hp_); have n1_ := Aside0.mk ((by rw [hw]; exact below_set (HB.out) GB5.out : Below w0.heap.size w0 w18)); have n2_ := Aside0.mk (Kept.of_grown (S := (fun k_ => P0_ k_)) hg (by repeat (first | (with_reducible first | exact HK.out | apply Kept.alloc | apply Kept.drewN | apply Kept.drew) | exact HK.out)) (fun k_ e_ => (HO_0.out.1 k_ e_))); clear HO_0; clear HB; clear HK; have HO_0 := n0_; have HB := n1_; have HK := n2_; clear n0_ n1_ n2_; clear hg hw hp_))
     go_roundg k1
     case measure => have := HK1.out; omega
     case rel => exact ⟨(y267), (wrap64 ((wrap64 ((wrap64 (x1_1 + 1)) + 1)) + 1)), (wrap64 (x5_1 + 1)), (by first | rfl | (simp; done) | exact congrArg Value.bool (ne_nil_b _) | exact congrArg Value.bool (eq_nil_b _) | (simp [*]; done)), (by first | rfl | (simp; done) | exact congrArg Value.bool (ne_nil_b _) | exact congrArg Value.bool (eq_nil_b _) | (simp [*]; done)), H', ⟨by have := HK1.out; omega⟩, ⟨by (with_reducible repeat (first | apply Kd.R_alloc | apply Kd.R_drewN | apply Kd.R_drew)); exact HO_0.out⟩, ⟨by repeat (first | (with_reducible first | exact HK.out | apply Kept.alloc | apply Kept.drewN | apply Kept.drew) | exact HK.out)⟩, ⟨bz⟩⟩
    ·
     rw [if_neg c4] at H
     exact absurd H (by simp)
   ·
    rw [if_neg c3] at H
    have c3b0 : decide (x5_1 < (x0_1.length : Int)) = false := decide_eq_false c3
    clear c3
    simp only [Option.some.injEq, Prod.mk.injEq] at H
    obtain ⟨rfl, rfl⟩ := H
    obtain ⟨Ao19, co19, eo19⟩ := Kd.R_slice HO_0.out
    subst eo19
    go_wp2
    go_ret
    exact ⟨by first | rfl | (simp only [u8w, w64m]; rfl) | (simp [errW_none, errW_some] <;> rfl) | (simp [*, errW_none, errW_some] <;> rfl), by (with_reducible repeat (first | apply Kd.R_alloc | apply Kd.R_drewN | apply Kd.R_drew)); exact HO_0.out, bz, by repeat (first | (with_reducible first | exact HK.out | apply Kept.alloc | apply Kept.drewN | apply Kept.drew) | exact HK.out)⟩

end Go.Proofs.Ytkjkokljgbpbbaa.PFnExactGiveUp
