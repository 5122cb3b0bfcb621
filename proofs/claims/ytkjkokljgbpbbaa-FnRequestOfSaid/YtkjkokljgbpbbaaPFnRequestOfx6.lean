/- Go functions as plain Lean functions, and for each a proof that its call comes to what the function says; under the conditions that each theorem names. Written by a program of this session. -/
import Derived.Test.YtkjkokljgbpbbaaPFnRequestOfx0
import Derived.Test.YtkjkokljgbpbbaaPFnRequestOfx5
namespace Go.Proofs.Ytkjkokljgbpbbaa.PFnRequestOf
open Go.RowKit Go.Proofs.YtkjkokljgbpbbaaW.PrintWords Go.Proofs.YtkjkokljgbpbbaaW.PrintLast Go.Proofs.YtkjkokljgbpbbaaW.PrintMore
attribute [local go_sem high] str_gtr str_leq str_geq
attribute [local go_sem] max2_int min2_int max_two min_two max_three min_three max_four min_four   -- for this text's walks alone
set_option linter.unusedVariables false
set_option linter.unusedSimpArgs false

/-! ### spec_CacheValid: function 88 -/
mutual
def spec_CacheValid.l0 : Nat → List (S35) → Int → Option (Bool)
 | 0, _, _ => none
 | k + 1, x0, x3 => if x3 < (x0.length : Int) then (if 0 ≤ x3 then ((spec_IntervalValid.f k ((rd_T35 x0 x3).f1.f0) ((rd_T35 x0 x3).f1.f1)).bind fun t190 => (if t190 = true then ((spec_l1In.f ((rd_T35 x0 x3).f0) 0 7).bind fun t192 => (spec_CacheValid.j1 k x0 x3 (!t192))) else (spec_CacheValid.j1 k x0 x3 true))) else (none)) else (some true)
def spec_CacheValid.j1 : Nat → List (S35) → Int → Bool → Option (Bool)
 | 0, _, _, _ => none
 | k + 1, x0, x3, x26 => if x26 = true then (some false) else (spec_CacheValid.l1 k x0 x3 0)
def spec_CacheValid.l1 : Nat → List (S35) → Int → Int → Option (Bool)
 | 0, _, _, _ => none
 | k + 1, x0, x3, x4 => if x4 < x3 then (if 0 ≤ x4 then (if x4 < (x0.length : Int) then (if 0 ≤ x3 then (if x3 < (x0.length : Int) then (if ((rd_T35 x0 x4).f0) = ((rd_T35 x0 x3).f0) then (some false) else (spec_CacheValid.l1 k x0 x3 (wrap64 (x4 + 1)))) else (none)) else (none)) else (none)) else (none)) else (if x3 > 0 then (if 0 ≤ (wrap64 (x3 - 1)) then (if (wrap64 (x3 - 1)) < (x0.length : Int) then (if ((rd_T35 x0 (wrap64 (x3 - 1))).f1.f1).toList = ([] : List UInt8) then (some false) else (if 0 ≤ x3 then (if x3 < (x0.length : Int) then (if (Op.bytesLess (((rd_T35 x0 x3).f1.f0).toList) (((rd_T35 x0 (wrap64 (x3 - 1))).f1.f1).toList)) = true then (some false) else (spec_CacheValid.l0 k x0 (wrap64 (x3 + 1)))) else (none)) else (none))) else (none)) else (none)) else (spec_CacheValid.l0 k x0 (wrap64 (x3 + 1))))
end
def spec_CacheValid.f (k : Nat) (l0 : List (S35)) : Option (Bool) := spec_CacheValid.l0 k l0 0
theorem spec_CacheValid.mono_l : ∀ k, (∀ y0 y1, LeO (spec_CacheValid.l0 k y0 y1) (spec_CacheValid.l0 (k + 1) y0 y1)) ∧ (∀ y0 y1 y2, LeO (spec_CacheValid.j1 k y0 y1 y2) (spec_CacheValid.j1 (k + 1) y0 y1 y2)) ∧ (∀ y0 y1 y2, LeO (spec_CacheValid.l1 k y0 y1 y2) (spec_CacheValid.l1 (k + 1) y0 y1 y2))
 | 0 => ⟨fun _ _ r h => by simp [spec_CacheValid.l0] at h, fun _ _ _ r h => by simp [spec_CacheValid.j1] at h, fun _ _ _ r h => by simp [spec_CacheValid.l1] at h⟩
 | k + 1 => by
  obtain ⟨ih0, ih1, ih2⟩ := spec_CacheValid.mono_l k
  refine ⟨?_, ?_, ?_⟩
  ·
   intro y0 y1
   unfold spec_CacheValid.l0
   repeat' first
   | (with_reducible exact ih0 _ _)
   | (with_reducible exact ih1 _ _ _)
   | (with_reducible exact ih2 _ _ _)
   | (with_reducible exact spec_IntervalValid.mono _ _ _)
   | (with_reducible exact LeO.refl _)
   | (with_reducible exact LeO.none _)
   | (with_reducible refine LeO.ite ?_ ?_)
   | (with_reducible refine LeO.bind ?_ (fun _ => ?_))
   | exact ih0 _ _
   | exact ih1 _ _ _
   | exact ih2 _ _ _
   | exact spec_IntervalValid.mono _ _ _
   | exact LeO.none _
   | refine LeO.ite ?_ ?_
   | refine LeO.bind ?_ (fun _ => ?_)
  ·
   intro y0 y1 y2
   unfold spec_CacheValid.j1
   repeat' first
   | (with_reducible exact ih0 _ _)
   | (with_reducible exact ih1 _ _ _)
   | (with_reducible exact ih2 _ _ _)
   | (with_reducible exact spec_IntervalValid.mono _ _ _)
   | (with_reducible exact LeO.refl _)
   | (with_reducible exact LeO.none _)
   | (with_reducible refine LeO.ite ?_ ?_)
   | (with_reducible refine LeO.bind ?_ (fun _ => ?_))
   | exact ih0 _ _
   | exact ih1 _ _ _
   | exact ih2 _ _ _
   | exact spec_IntervalValid.mono _ _ _
   | exact LeO.none _
   | refine LeO.ite ?_ ?_
   | refine LeO.bind ?_ (fun _ => ?_)
  ·
   intro y0 y1 y2
   unfold spec_CacheValid.l1
   repeat' first
   | (with_reducible exact ih0 _ _)
   | (with_reducible exact ih1 _ _ _)
   | (with_reducible exact ih2 _ _ _)
   | (with_reducible exact spec_IntervalValid.mono _ _ _)
   | (with_reducible exact LeO.refl _)
   | (with_reducible exact LeO.none _)
   | (with_reducible refine LeO.ite ?_ ?_)
   | (with_reducible refine LeO.bind ?_ (fun _ => ?_))
   | exact ih0 _ _
   | exact ih1 _ _ _
   | exact ih2 _ _ _
   | exact spec_IntervalValid.mono _ _ _
   | exact LeO.none _
   | refine LeO.ite ?_ ?_
   | refine LeO.bind ?_ (fun _ => ?_)
theorem spec_CacheValid.mono : ∀ a0 k, LeO (spec_CacheValid.f k a0) (spec_CacheValid.f (k + 1) a0) := by
 intro a0 k
 obtain ⟨ih0, ih1, ih2⟩ := spec_CacheValid.mono_l k
 unfold spec_CacheValid.f
 repeat' first
   | (with_reducible exact ih0 _ _)
   | (with_reducible exact ih1 _ _ _)
   | (with_reducible exact ih2 _ _ _)
   | (with_reducible exact spec_IntervalValid.mono _ _ _)
   | (with_reducible exact LeO.refl _)
   | (with_reducible exact LeO.none _)
   | (with_reducible refine LeO.ite ?_ ?_)
   | (with_reducible refine LeO.bind ?_ (fun _ => ?_))
   | exact ih0 _ _
   | exact ih1 _ _ _
   | exact ih2 _ _ _
   | exact spec_IntervalValid.mono _ _ _
   | exact LeO.none _
   | refine LeO.ite ?_ ?_
   | refine LeO.bind ?_ (fun _ => ?_)
set_option maxHeartbeats 8000000 in
set_option maxRecDepth 100000 in
theorem spec_CacheValid.calls (k : Nat) (A0 : Option Addr) (c0 : Nat) (l0 : List (S35)) (r : Bool) (w : World) (hr0 : Kd.C k35 w A0 l0.length l0) (hc0 : l0.length ≤ c0) (h : spec_CacheValid.f k l0 = some r) :
  Calls Try.prog 88 #[.slice A0 l0.length c0] w fun e w' => e = .returned (.bool r) ∧ Below w.heap.size w w' := by
 have hu31 := Try.underlying31
 have HR0 := Aside0.mk hr0
 have HC0 := Aside0.mk hc0
 clear hr0 hc0
 have HB := Aside0.mk (Below.refl w.heap.size w)
 have H : (spec_CacheValid.l0 k l0 0) = some r := h
 clear h
 have H' := Aside0.mk H
 clear H
 go_enter Try.func88, Try.ntmps88
 go_wp2
 repeat (go_quiet (fail); try go_wp2)
 go_loopg [3] k (fun kq v3 w' => ∃ (x3_1 : Int), v3 = .int .i64 x3_1 ∧ Aside0 (spec_CacheValid.l0 kq l0 x3_1 = some r) ∧ Aside0 (kq ≤ k) ∧ Aside0 (Below w.heap.size w w'))
 case atStart => exact ⟨(0), (by first | rfl | (simp; done) | exact congrArg Value.bool (ne_nil_b _) | exact congrArg Value.bool (eq_nil_b _) | (simp [*]; done)), H', ⟨Nat.le_refl _⟩, ⟨bz⟩⟩
 case round =>
  clear H'
  obtain ⟨x3_1, rfl, HA, HK1, HB⟩ := hrel
  cases gk with
  | zero => exact absurd HA.out (by simp [spec_CacheValid.l0])
  | succ k1 =>
   have H := HA.out
   clear HA
   simp only [spec_CacheValid.l0] at H
   by_cases c2 : x3_1 < (l0.length : Int)
   ·
    rw [if_pos c2] at H
    have c2b0 : decide (x3_1 < (l0.length : Int)) = true := decide_eq_true c2
    clear c2
    have HC3 := Aside0.mk H
    clear H
    go_upto_region 4 with (fail)
    repeat (go_quiet (fail); go_upto_region 4 with (fail))
    go_cut [26] (fun v26 wc => ∃ (kq : Nat) (x26_2 : Bool), v26 = .bool x26_2 ∧ Aside0 (spec_CacheValid.j1 kq l0 x3_1 x26_2 = some r) ∧ Aside0 (kq ≤ k1) ∧ Aside0 (Below w.heap.size w wc))
    case first =>
     have H := HC3.out
     clear HC3
     by_cases c4 : 0 ≤ x3_1
     ·
      rw [if_pos c4] at H
      have c4b0 : decide (0 ≤ x3_1) = true := decide_eq_true c4
      clear c4
      (first | rw [c4b0] | (simp only [i64_w, i32_w]; rw [c4b0]) | skip)
      replace H := Option.bind_eq_some_iff.mp H
      obtain ⟨t190, A50, H⟩ := H
      try dsimp only at H
      have A5 := Aside0.mk A50
      clear A50
      by_cases c6 : t190 = true
      ·
       subst c6
       rw [if_pos rfl] at H
       replace H := Option.bind_eq_some_iff.mp H
       obtain ⟨t192, A70, H⟩ := H
       try dsimp only at H
       have A7 := Aside0.mk A70
       clear A70
       have H' := Aside0.mk H
       clear H
       have p189 : 0 ≤ (x3_1 : Int) := of_decide_eq_true (by first | (with_reducible assumption) | assumption)
       have q189 : x3_1 < (l0.length : Int) := of_decide_eq_true (by first | (with_reducible assumption) | assumption)
       obtain ⟨ad189, e189, hx189_0, hx189_1, hx189_2⟩ := at_T35 HR0.out x3_1 p189 q189
       cases e189
       replace hx189_0 := (HB.out.cell (World.block_lt_of_cell? w _ hx189_0)).trans hx189_0
       replace hx189_1 := (HB.out.cell (World.block_lt_of_cell? w _ hx189_1)).trans hx189_1
       replace hx189_2 := (HB.out.cell (World.block_lt_of_cell? w _ hx189_2)).trans hx189_2
       replace p189 := eq_true p189
       replace q189 := eq_true q189
       go_wp2_with (first | (go_at_call 128; (with_reducible refine (spec_IntervalValid.calls k1 ((rd_T35 l0 x3_1).f1.f0) ((rd_T35 l0 x3_1).f1.f1) true _ A5.out).mono ?_); rintro e w8 ⟨rfl, hb⟩; have n0_ := Aside0.mk (below_step (bz) hb); clear HB; have HB := n0_; clear n0_; (try clear hb); (try clear hb2); (try clear hk); (try clear hi); have p191 : 0 ≤ (x3_1 : Int) := of_decide_eq_true (by first | (with_reducible assumption) | assumption); have q191 : x3_1 < (l0.length : Int) := of_decide_eq_true (by first | (with_reducible assumption) | assumption); obtain ⟨ad191, e191, hx191_0, hx191_1, hx191_2⟩ := at_T35 HR0.out x3_1 p191 q191; obtain rfl : ad189 = ad191 := (by injection e191); replace hx191_0 := (HB.out.cell (World.block_lt_of_cell? w _ hx191_0)).trans hx191_0; replace hx191_1 := (HB.out.cell (World.block_lt_of_cell? w _ hx191_1)).trans hx191_1; replace hx191_2 := (HB.out.cell (World.block_lt_of_cell? w _ hx191_2)).trans hx191_2; replace p191 := eq_true p191; replace q191 := eq_true q191) | (go_at_call 89; (with_reducible refine (spec_l1In.calls ((rd_T35 l0 x3_1).f0) 0 7 t192 _ A7.out).mono ?_); rintro e w' ⟨rfl, ⟨nd, rfl⟩⟩; (try first | exact ⟨rfl, _, World.drewN_drewN _ _ _⟩ | exact ⟨rfl, _, Eq.trans (World.drewN_drewN _ _ _) (congrArg (World.drewN _) (Nat.add_assoc _ _ _))⟩)))
       repeat (go_quiet (first | (go_at_call 128; (with_reducible refine (spec_IntervalValid.calls k1 ((rd_T35 l0 x3_1).f1.f0) ((rd_T35 l0 x3_1).f1.f1) true _ A5.out).mono ?_); rintro e w8 ⟨rfl, hb⟩; have n0_ := Aside0.mk (below_step (bz) hb); clear HB; have HB := n0_; clear n0_; (try clear hb); (try clear hb2); (try clear hk); (try clear hi); have p191 : 0 ≤ (x3_1 : Int) := of_decide_eq_true (by first | (with_reducible assumption) | assumption); have q191 : x3_1 < (l0.length : Int) := of_decide_eq_true (by first | (with_reducible assumption) | assumption); obtain ⟨ad191, e191, hx191_0, hx191_1, hx191_2⟩ := at_T35 HR0.out x3_1 p191 q191; obtain rfl : ad189 = ad191 := (by injection e191); replace hx191_0 := (HB.out.cell (World.block_lt_of_cell? w _ hx191_0)).trans hx191_0; replace hx191_1 := (HB.out.cell (World.block_lt_of_cell? w _ hx191_1)).trans hx191_1; replace hx191_2 := (HB.out.cell (World.block_lt_of_cell? w _ hx191_2)).trans hx191_2; replace p191 := eq_true p191; replace q191 := eq_true q191) | (go_at_call 89; (with_reducible refine (spec_l1In.calls ((rd_T35 l0 x3_1).f0) 0 7 t192 _ A7.out).mono ?_); rintro e w' ⟨rfl, ⟨nd, rfl⟩⟩; (try first | exact ⟨rfl, _, World.drewN_drewN _ _ _⟩ | exact ⟨rfl, _, Eq.trans (World.drewN_drewN _ _ _) (congrArg (World.drewN _) (Nat.add_assoc _ _ _))⟩))); try go_wp2_with (first | (go_at_call 128; (with_reducible refine (spec_IntervalValid.calls k1 ((rd_T35 l0 x3_1).f1.f0) ((rd_T35 l0 x3_1).f1.f1) true _ A5.out).mono ?_); rintro e w8 ⟨rfl, hb⟩; have n0_ := Aside0.mk (below_step (bz) hb); clear HB; have HB := n0_; clear n0_; (try clear hb); (try clear hb2); (try clear hk); (try clear hi); have p191 : 0 ≤ (x3_1 : Int) := of_decide_eq_true (by first | (with_reducible assumption) | assumption); have q191 : x3_1 < (l0.length : Int) := of_decide_eq_true (by first | (with_reducible assumption) | assumption); obtain ⟨ad191, e191, hx191_0, hx191_1, hx191_2⟩ := at_T35 HR0.out x3_1 p191 q191; obtain rfl : ad189 = ad191 := (by injection e191); replace hx191_0 := (HB.out.cell (World.block_lt_of_cell? w _ hx191_0)).trans hx191_0; replace hx191_1 := (HB.out.cell (World.block_lt_of_cell? w _ hx191_1)).trans hx191_1; replace hx191_2 := (HB.out.cell (World.block_lt_of_cell? w _ hx191_2)).trans hx191_2; replace p191 := eq_true p191; replace q191 := eq_true q191) | (go_at_call 89; (with_reducible refine (spec_l1In.calls ((rd_T35 l0 x3_1).f0) 0 7 t192 _ A7.out).mono ?_); rintro e w' ⟨rfl, ⟨nd, rfl⟩⟩; (try first | exact ⟨rfl, _, World.drewN_drewN _ _ _⟩ | exact ⟨rfl, _, Eq.trans (World.drewN_drewN _ _ _) (congrArg (World.drewN _) (Nat.add_assoc _ _ _))⟩))))
       go_meet
       case rel => exact ⟨_, (!t192), (by first | rfl | (simp; done) | exact congrArg Value.bool (ne_nil_b _) | exact congrArg Value.bool (eq_nil_b _) | (simp [*]; done)), H', ⟨by have := HK1.out; first | omega | exact Nat.le_refl _⟩, ⟨bz⟩⟩
      ·
       replace c6 := Bool.eq_false_iff.mpr c6
       subst c6
       rw [if_neg (show ¬ (false = true) by decide)] at H
       have H' := Aside0.mk H
       clear H
       have p189 : 0 ≤ (x3_1 : Int) := of_decide_eq_true (by first | (with_reducible assumption) | assumption)
       have q189 : x3_1 < (l0.length : Int) := of_decide_eq_true (by first | (with_reducible assumption) | assumption)
       obtain ⟨ad189, e189, hx189_0, hx189_1, hx189_2⟩ := at_T35 HR0.out x3_1 p189 q189
       cases e189
       replace hx189_0 := (HB.out.cell (World.block_lt_of_cell? w _ hx189_0)).trans hx189_0
       replace hx189_1 := (HB.out.cell (World.block_lt_of_cell? w _ hx189_1)).trans hx189_1
       replace hx189_2 := (HB.out.cell (World.block_lt_of_cell? w _ hx189_2)).trans hx189_2
       replace p189 := eq_true p189
       replace q189 := eq_true q189
       go_wp2_with (first | (go_at_call 128; (with_reducible refine (spec_IntervalValid.calls k1 ((rd_T35 l0 x3_1).f1.f0) ((rd_T35 l0 x3_1).f1.f1) false _ A5.out).mono ?_); rintro e w9 ⟨rfl, hb⟩; have n0_ := Aside0.mk (below_step (bz) hb); clear HB; have HB := n0_; clear n0_; (try clear hb); (try clear hb2); (try clear hk); (try clear hi)))
       repeat (go_quiet (first | (go_at_call 128; (with_reducible refine (spec_IntervalValid.calls k1 ((rd_T35 l0 x3_1).f1.f0) ((rd_T35 l0 x3_1).f1.f1) false _ A5.out).mono ?_); rintro e w9 ⟨rfl, hb⟩; have n0_ := Aside0.mk (below_step (bz) hb); clear HB; have HB := n0_; clear n0_; (try clear hb); (try clear hb2); (try clear hk); (try clear hi))); try go_wp2_with (first | (go_at_call 128; (with_reducible refine (spec_IntervalValid.calls k1 ((rd_T35 l0 x3_1).f1.f0) ((rd_T35 l0 x3_1).f1.f1) false _ A5.out).mono ?_); rintro e w9 ⟨rfl, hb⟩; have n0_ := Aside0.mk (below_step (bz) hb); clear HB; have HB := n0_; clear n0_; (try clear hb); (try clear hb2); (try clear hk); (try clear hi))))
       go_meet
       case rel => exact ⟨_, (true), (by first | rfl | (simp; done) | exact congrArg Value.bool (ne_nil_b _) | exact congrArg Value.bool (eq_nil_b _) | (simp [*]; done)), H', ⟨by have := HK1.out; first | omega | exact Nat.le_refl _⟩, ⟨bz⟩⟩
     ·
      rw [if_neg c4] at H
      exact absurd H (by simp)
    case rest =>
     clear HC3
     try clear p1
     try clear q1
     try clear hx1
     try clear c2
     try clear c2b0
     try clear p2
     try clear c4
     try clear c4b0
     try clear c6
     try clear c8
     try clear hx189_0
     try clear hx189_1
     try clear hx189_2
     try clear hx191_0
     try clear hx191_1
     try clear hx191_2
     try clear p189
     try clear p191
     try clear q189
     try clear q191
     obtain ⟨kq, x26_2, rfl, HA, HJ2, HB⟩ := hcut
     cases kq with
     | zero => exact absurd HA.out (by simp [spec_CacheValid.j1])
     | succ kj2 =>
      have H := HA.out
      clear HA
      simp only [spec_CacheValid.j1] at H
      by_cases c10 : x26_2 = true
      ·
       subst c10
       rw [if_pos rfl] at H
       obtain rfl := Option.some.inj H
       go_wp2
       repeat (go_quiet (fail); try go_wp2)
       go_ret
       exact ⟨by first | rfl | (simp only [u8w, w64m]; rfl) | (simp [errW_none, errW_some] <;> rfl) | (simp [*, errW_none, errW_some] <;> rfl), bz⟩
      ·
       replace c10 := Bool.eq_false_iff.mpr c10
       subst c10
       rw [if_neg (show ¬ (false = true) by decide)] at H
       have H' := Aside0.mk H
       clear H
       go_wp2
       repeat (go_quiet (fail); try go_wp2)
       go_loopg [4] kj2 (fun kq v4 w' => ∃ (x4_3 : Int), v4 = .int .i64 x4_3 ∧ Aside0 (spec_CacheValid.l1 kq l0 x3_1 x4_3 = some r) ∧ Aside0 (kq ≤ kj2) ∧ Aside0 (Below w.heap.size w w'))
       case atStart => exact ⟨(0), (by first | rfl | (simp; done) | exact congrArg Value.bool (ne_nil_b _) | exact congrArg Value.bool (eq_nil_b _) | (simp [*]; done)), H', ⟨Nat.le_refl _⟩, ⟨bz⟩⟩
       case round =>
        clear H'
        try clear c1
        try clear p1
        try clear q1
        try clear hx1
        try clear c2
        try clear c2b0
        try clear p2
        try clear c4
        try clear c4b0
        try clear c6
        try clear c8
        try clear c10
        try clear hx189_0
        try clear hx189_1
        try clear hx189_2
        try clear hx191_0
        try clear hx191_1
        try clear hx191_2
        try clear p1
        try clear p189
        try clear p191
        try clear p2
        try clear q1
        try clear q189
        try clear q191
        obtain ⟨x4_3, rfl, HA, HK3, HB⟩ := hrel
        cases gk with
        | zero => exact absurd HA.out (by simp [spec_CacheValid.l1])
        | succ k3 =>
         have H := HA.out
         clear HA
         simp only [spec_CacheValid.l1] at H
         by_cases c11 : x4_3 < x3_1
         ·
          rw [if_pos c11] at H
          have c11b0 : decide (x4_3 < x3_1) = true := decide_eq_true c11
          clear c11
          by_cases c12 : 0 ≤ x4_3
          ·
           rw [if_pos c12] at H
           have c12b0 : decide (0 ≤ x4_3) = true := decide_eq_true c12
           clear c12
           by_cases c13 : x4_3 < (l0.length : Int)
           ·
            rw [if_pos c13] at H
            have c13b0 : decide (x4_3 < (l0.length : Int)) = true := decide_eq_true c13
            clear c13
            by_cases c14 : 0 ≤ x3_1
            ·
             rw [if_pos c14] at H
             have c14b0 : decide (0 ≤ x3_1) = true := decide_eq_true c14
             clear c14
             by_cases c15 : x3_1 < (l0.length : Int)
             ·
              rw [if_pos c15] at H
              have c15b0 : decide (x3_1 < (l0.length : Int)) = true := decide_eq_true c15
              clear c15
              by_cases c16 : ((rd_T35 l0 x4_3).f0) = ((rd_T35 l0 x3_1).f0)
              ·
               rw [if_pos c16] at H
               have c16b0 : (((rd_T35 l0 x4_3).f0) == ((rd_T35 l0 x3_1).f0)) = true := beq_iff_eq.mpr c16
               have c16b1 : (((rd_T35 l0 x4_3).f0) != ((rd_T35 l0 x3_1).f0)) = false := bne_eq_false_iff_eq.mpr c16
               clear c16
               obtain rfl := Option.some.inj H
               have p193 : 0 ≤ (x4_3 : Int) := of_decide_eq_true (by first | (with_reducible assumption) | assumption)
               have q193 : x4_3 < (l0.length : Int) := of_decide_eq_true (by first | (with_reducible assumption) | assumption)
               obtain ⟨ad193, e193, hx193_0, hx193_1, hx193_2⟩ := at_T35 HR0.out x4_3 p193 q193
               cases e193
               replace hx193_0 := (HB.out.cell (World.block_lt_of_cell? w _ hx193_0)).trans hx193_0
               replace hx193_1 := (HB.out.cell (World.block_lt_of_cell? w _ hx193_1)).trans hx193_1
               replace hx193_2 := (HB.out.cell (World.block_lt_of_cell? w _ hx193_2)).trans hx193_2
               replace p193 := eq_true p193
               replace q193 := eq_true q193
               have p194 : 0 ≤ (x3_1 : Int) := of_decide_eq_true (by first | (with_reducible assumption) | assumption)
               have q194 : x3_1 < (l0.length : Int) := of_decide_eq_true (by first | (with_reducible assumption) | assumption)
               obtain ⟨ad194, e194, hx194_0, hx194_1, hx194_2⟩ := at_T35 HR0.out x3_1 p194 q194
               obtain rfl : ad193 = ad194 := (by injection e194)
               replace hx194_0 := (HB.out.cell (World.block_lt_of_cell? w _ hx194_0)).trans hx194_0
               replace hx194_1 := (HB.out.cell (World.block_lt_of_cell? w _ hx194_1)).trans hx194_1
               replace hx194_2 := (HB.out.cell (World.block_lt_of_cell? w _ hx194_2)).trans hx194_2
               replace p194 := eq_true p194
               replace q194 := eq_true q194
               go_wp2
               repeat (go_quiet (fail); try go_wp2)
               go_ret
               exact ⟨by first | rfl | (simp only [u8w, w64m]; rfl) | (simp [errW_none, errW_some] <;> rfl) | (simp [*, errW_none, errW_some] <;> rfl), bz⟩
              ·
               rw [if_neg c16] at H
               have c16b0 : (((rd_T35 l0 x4_3).f0) == ((rd_T35 l0 x3_1).f0)) = false := beq_eq_false_iff_ne.mpr c16
               have c16b1 : (((rd_T35 l0 x4_3).f0) != ((rd_T35 l0 x3_1).f0)) = true := bne_iff_ne.mpr c16
               have H' := Aside0.mk H
               clear H
               have p193 : 0 ≤ (x4_3 : Int) := of_decide_eq_true (by first | (with_reducible assumption) | assumption)
               have q193 : x4_3 < (l0.length : Int) := of_decide_eq_true (by first | (with_reducible assumption) | assumption)
               obtain ⟨ad193, e193, hx193_0, hx193_1, hx193_2⟩ := at_T35 HR0.out x4_3 p193 q193
               cases e193
               replace hx193_0 := (HB.out.cell (World.block_lt_of_cell? w _ hx193_0)).trans hx193_0
               replace hx193_1 := (HB.out.cell (World.block_lt_of_cell? w _ hx193_1)).trans hx193_1
               replace hx193_2 := (HB.out.cell (World.block_lt_of_cell? w _ hx193_2)).trans hx193_2
               replace p193 := eq_true p193
               replace q193 := eq_true q193
               have p194 : 0 ≤ (x3_1 : Int) := of_decide_eq_true (by first | (with_reducible assumption) | assumption)
               have q194 : x3_1 < (l0.length : Int) := of_decide_eq_true (by first | (with_reducible assumption) | assumption)
               obtain ⟨ad194, e194, hx194_0, hx194_1, hx194_2⟩ := at_T35 HR0.out x3_1 p194 q194
               obtain rfl : ad193 = ad194 := (by injection e194)
               replace hx194_0 := (HB.out.cell (World.block_lt_of_cell? w _ hx194_0)).trans hx194_0
               replace hx194_1 := (HB.out.cell (World.block_lt_of_cell? w _ hx194_1)).trans hx194_1
               replace hx194_2 := (HB.out.cell (World.block_lt_of_cell? w _ hx194_2)).trans hx194_2
               replace p194 := eq_true p194
               replace q194 := eq_true q194
               go_wp2
               repeat (go_quiet (fail); try go_wp2)
               go_roundg k3
               case measure => have := HK1.out; have := HJ2.out; have := HK3.out; omega
               case rel => exact ⟨(wrap64 (x4_3 + 1)), (by first | rfl | (simp; done) | exact congrArg Value.bool (ne_nil_b _) | exact congrArg Value.bool (eq_nil_b _) | (simp [*]; done)), H', ⟨by have := HK1.out; have := HJ2.out; have := HK3.out; omega⟩, ⟨bz⟩⟩
             ·
              rw [if_neg c15] at H
              exact absurd H (by simp)
            ·
             rw [if_neg c14] at H
             exact absurd H (by simp)
           ·
            rw [if_neg c13] at H
            exact absurd H (by simp)
          ·
           rw [if_neg c12] at H
           exact absurd H (by simp)
         ·
          rw [if_neg c11] at H
          have c11b0 : decide (x4_3 < x3_1) = false := decide_eq_false c11
          clear c11
          by_cases c17 : x3_1 > 0
          ·
           rw [if_pos c17] at H
           have c17b0 : decide (0 < x3_1) = true := decide_eq_true c17
           clear c17
           obtain ⟨ji18, hji18⟩ : ∃ j_ : Int, (wrap64 (x3_1 - 1)) = j_ := ⟨_, rfl⟩
           replace H : (if 0 ≤ (ji18) then (if (ji18) < (l0.length : Int) then (if ((rd_T35 l0 (ji18)).f1.f1).toList = ([] : List UInt8) then (some false) else (if 0 ≤ x3_1 then (if x3_1 < (l0.length : Int) then (if (Op.bytesLess (((rd_T35 l0 x3_1).f1.f0).toList) (((rd_T35 l0 (ji18)).f1.f1).toList)) = true then (some false) else (spec_CacheValid.l0 k3 l0 (wrap64 (x3_1 + 1)))) else (none)) else (none))) else (none)) else (none)) = some r := by first | (rw [hji18] at H; exact H) | (simp only [hji18] at H ⊢; exact H)
           have hji18w : (IntKind.i64.wrap (x3_1 - 1)) = ji18 := (i64_w _).trans hji18
           by_cases c19 : 0 ≤ (ji18)
           ·
            rw [if_pos c19] at H
            have c19b0 : decide (0 ≤ (ji18)) = true := decide_eq_true c19
            clear c19
            by_cases c20 : (ji18) < (l0.length : Int)
            ·
             rw [if_pos c20] at H
             have c20b0 : decide ((ji18) < (l0.length : Int)) = true := decide_eq_true c20
             clear c20
             by_cases c21 : ((rd_T35 l0 (ji18)).f1.f1).toList = ([] : List UInt8)
             ·
              rw [if_pos c21] at H
              have c21b0 : (((rd_T35 l0 (ji18)).f1.f1).toList == ([] : List UInt8)) = true := beq_iff_eq.mpr c21
              have c21b1 : (((rd_T35 l0 (ji18)).f1.f1).toList != ([] : List UInt8)) = false := bne_eq_false_iff_eq.mpr c21
              clear c21
              obtain rfl := Option.some.inj H
              have p195 : 0 ≤ ((ji18) : Int) := of_decide_eq_true (by first | (with_reducible assumption) | assumption)
              have q195 : (ji18) < (l0.length : Int) := of_decide_eq_true (by first | (with_reducible assumption) | assumption)
              obtain ⟨ad195, e195, hx195_0, hx195_1, hx195_2⟩ := at_T35 HR0.out (ji18) p195 q195
              cases e195
              replace hx195_0 := (HB.out.cell (World.block_lt_of_cell? w _ hx195_0)).trans hx195_0
              replace hx195_1 := (HB.out.cell (World.block_lt_of_cell? w _ hx195_1)).trans hx195_1
              replace hx195_2 := (HB.out.cell (World.block_lt_of_cell? w _ hx195_2)).trans hx195_2
              replace p195 := eq_true p195
              replace q195 := eq_true q195
              go_wp2
              repeat (go_quiet (fail); try go_wp2)
              go_ret
              exact ⟨by first | rfl | (simp only [u8w, w64m]; rfl) | (simp [errW_none, errW_some] <;> rfl) | (simp only [← hji18]; first | rfl | (simp [errW_none, errW_some] <;> rfl)) | (simp [*, errW_none, errW_some] <;> rfl), bz⟩
             ·
              rw [if_neg c21] at H
              have c21b0 : (((rd_T35 l0 (ji18)).f1.f1).toList == ([] : List UInt8)) = false := beq_eq_false_iff_ne.mpr c21
              have c21b1 : (((rd_T35 l0 (ji18)).f1.f1).toList != ([] : List UInt8)) = true := bne_iff_ne.mpr c21
              by_cases c22 : 0 ≤ x3_1
              ·
               rw [if_pos c22] at H
               have c22b0 : decide (0 ≤ x3_1) = true := decide_eq_true c22
               clear c22
               by_cases c23 : x3_1 < (l0.length : Int)
               ·
                rw [if_pos c23] at H
                have c23b0 : decide (x3_1 < (l0.length : Int)) = true := decide_eq_true c23
                clear c23
                by_cases c24 : (Op.bytesLess (((rd_T35 l0 x3_1).f1.f0).toList) (((rd_T35 l0 (ji18)).f1.f1).toList)) = true
                ·
                 rw [if_pos c24] at H
                 have c24b0 : (Op.bytesLess (((rd_T35 l0 x3_1).f1.f0).toList) (((rd_T35 l0 (ji18)).f1.f1).toList)) = true := c24
                 clear c24
                 obtain rfl := Option.some.inj H
                 have p195 : 0 ≤ ((ji18) : Int) := of_decide_eq_true (by first | (with_reducible assumption) | assumption)
                 have q195 : (ji18) < (l0.length : Int) := of_decide_eq_true (by first | (with_reducible assumption) | assumption)
                 obtain ⟨ad195, e195, hx195_0, hx195_1, hx195_2⟩ := at_T35 HR0.out (ji18) p195 q195
                 cases e195
                 replace hx195_0 := (HB.out.cell (World.block_lt_of_cell? w _ hx195_0)).trans hx195_0
                 replace hx195_1 := (HB.out.cell (World.block_lt_of_cell? w _ hx195_1)).trans hx195_1
                 replace hx195_2 := (HB.out.cell (World.block_lt_of_cell? w _ hx195_2)).trans hx195_2
                 replace p195 := eq_true p195
                 replace q195 := eq_true q195
                 have p196 : 0 ≤ ((ji18) : Int) := of_decide_eq_true (by first | (with_reducible assumption) | assumption)
                 have q196 : (ji18) < (l0.length : Int) := of_decide_eq_true (by first | (with_reducible assumption) | assumption)
                 obtain ⟨ad196, e196, hx196_0, hx196_1, hx196_2⟩ := at_T35 HR0.out (ji18) p196 q196
                 obtain rfl : ad195 = ad196 := (by injection e196)
                 replace hx196_0 := (HB.out.cell (World.block_lt_of_cell? w _ hx196_0)).trans hx196_0
                 replace hx196_1 := (HB.out.cell (World.block_lt_of_cell? w _ hx196_1)).trans hx196_1
                 replace hx196_2 := (HB.out.cell (World.block_lt_of_cell? w _ hx196_2)).trans hx196_2
                 replace p196 := eq_true p196
                 replace q196 := eq_true q196
                 have p197 : 0 ≤ (x3_1 : Int) := of_decide_eq_true (by first | (with_reducible assumption) | assumption)
                 have q197 : x3_1 < (l0.length : Int) := of_decide_eq_true (by first | (with_reducible assumption) | assumption)
                 obtain ⟨ad197, e197, hx197_0, hx197_1, hx197_2⟩ := at_T35 HR0.out x3_1 p197 q197
                 obtain rfl : ad195 = ad197 := (by injection e197)
                 replace hx197_0 := (HB.out.cell (World.block_lt_of_cell? w _ hx197_0)).trans hx197_0
                 replace hx197_1 := (HB.out.cell (World.block_lt_of_cell? w _ hx197_1)).trans hx197_1
                 replace hx197_2 := (HB.out.cell (World.block_lt_of_cell? w _ hx197_2)).trans hx197_2
                 replace p197 := eq_true p197
                 replace q197 := eq_true q197
                 go_wp2
                 repeat (go_quiet (fail); try go_wp2)
                 go_ret
                 exact ⟨by first | rfl | (simp only [u8w, w64m]; rfl) | (simp [errW_none, errW_some] <;> rfl) | (simp only [← hji18]; first | rfl | (simp [errW_none, errW_some] <;> rfl)) | (simp [*, errW_none, errW_some] <;> rfl), bz⟩
                ·
                 rw [if_neg c24] at H
                 have c24b0 : (Op.bytesLess (((rd_T35 l0 x3_1).f1.f0).toList) (((rd_T35 l0 (ji18)).f1.f1).toList)) = false := by simpa using c24
                 clear c24
                 have H' := Aside0.mk H
                 clear H
                 have p195 : 0 ≤ ((ji18) : Int) := of_decide_eq_true (by first | (with_reducible assumption) | assumption)
                 have q195 : (ji18) < (l0.length : Int) := of_decide_eq_true (by first | (with_reducible assumption) | assumption)
                 obtain ⟨ad195, e195, hx195_0, hx195_1, hx195_2⟩ := at_T35 HR0.out (ji18) p195 q195
                 cases e195
                 replace hx195_0 := (HB.out.cell (World.block_lt_of_cell? w _ hx195_0)).trans hx195_0
                 replace hx195_1 := (HB.out.cell (World.block_lt_of_cell? w _ hx195_1)).trans hx195_1
                 replace hx195_2 := (HB.out.cell (World.block_lt_of_cell? w _ hx195_2)).trans hx195_2
                 replace p195 := eq_true p195
                 replace q195 := eq_true q195
                 have p196 : 0 ≤ ((ji18) : Int) := of_decide_eq_true (by first | (with_reducible assumption) | assumption)
                 have q196 : (ji18) < (l0.length : Int) := of_decide_eq_true (by first | (with_reducible assumption) | assumption)
                 obtain ⟨ad196, e196, hx196_0, hx196_1, hx196_2⟩ := at_T35 HR0.out (ji18) p196 q196
                 obtain rfl : ad195 = ad196 := (by injection e196)
                 replace hx196_0 := (HB.out.cell (World.block_lt_of_cell? w _ hx196_0)).trans hx196_0
                 replace hx196_1 := (HB.out.cell (World.block_lt_of_cell? w _ hx196_1)).trans hx196_1
                 replace hx196_2 := (HB.out.cell (World.block_lt_of_cell? w _ hx196_2)).trans hx196_2
                 replace p196 := eq_true p196
                 replace q196 := eq_true q196
                 have p197 : 0 ≤ (x3_1 : Int) := of_decide_eq_true (by first | (with_reducible assumption) | assumption)
                 have q197 : x3_1 < (l0.length : Int) := of_decide_eq_true (by first | (with_reducible assumption) | assumption)
                 obtain ⟨ad197, e197, hx197_0, hx197_1, hx197_2⟩ := at_T35 HR0.out x3_1 p197 q197
                 obtain rfl : ad195 = ad197 := (by injection e197)
                 replace hx197_0 := (HB.out.cell (World.block_lt_of_cell? w _ hx197_0)).trans hx197_0
                 replace hx197_1 := (HB.out.cell (World.block_lt_of_cell? w _ hx197_1)).trans hx197_1
                 replace hx197_2 := (HB.out.cell (World.block_lt_of_cell? w _ hx197_2)).trans hx197_2
                 replace p197 := eq_true p197
                 replace q197 := eq_true q197
                 go_wp2
                 repeat (go_quiet (fail); try go_wp2)
                 go_roundg k3
                 case measure => have := HK1.out; have := HJ2.out; have := HK3.out; omega
                 case rel => exact ⟨(wrap64 (x3_1 + 1)), (by first | rfl | (simp; done) | exact congrArg Value.bool (ne_nil_b _) | exact congrArg Value.bool (eq_nil_b _) | (simp [*]; done)), H', ⟨by have := HK1.out; have := HJ2.out; have := HK3.out; omega⟩, ⟨bz⟩⟩
               ·
                rw [if_neg c23] at H
                exact absurd H (by simp)
              ·
               rw [if_neg c22] at H
               exact absurd H (by simp)
            ·
             rw [if_neg c20] at H
             exact absurd H (by simp)
           ·
            rw [if_neg c19] at H
            exact absurd H (by simp)
          ·
           rw [if_neg c17] at H
           have c17b0 : decide (0 < x3_1) = false := decide_eq_false c17
           clear c17
           have H' := Aside0.mk H
           clear H
           go_wp2
           repeat (go_quiet (fail); try go_wp2)
           go_roundg k3
           case measure => have := HK1.out; have := HJ2.out; have := HK3.out; omega
           case rel => exact ⟨(wrap64 (x3_1 + 1)), (by first | rfl | (simp; done) | exact congrArg Value.bool (ne_nil_b _) | exact congrArg Value.bool (eq_nil_b _) | (simp [*]; done)), H', ⟨by have := HK1.out; have := HJ2.out; have := HK3.out; omega⟩, ⟨bz⟩⟩
   ·
    rw [if_neg c2] at H
    have c2b0 : decide (x3_1 < (l0.length : Int)) = false := decide_eq_false c2
    clear c2
    obtain rfl := Option.some.inj H
    go_wp2
    repeat (go_quiet (fail); try go_wp2)
    go_ret
    exact ⟨by first | rfl | (simp only [u8w, w64m]; rfl) | (simp [errW_none, errW_some] <;> rfl) | (simp [*, errW_none, errW_some] <;> rfl), bz⟩

end Go.Proofs.Ytkjkokljgbpbbaa.PFnRequestOf
