/- Go functions as plain Lean functions, and for each a proof that its call comes to what the function says; under the conditions that each theorem names. Written by a program of this session. -/
import Derived.Test.YtoajkkfnblpnlaaPFnExactCacheFindx0
import Derived.Test.YtoajkkfnblpnlaaPFnExactCacheFindx2
namespace Go.Proofs.Ytoajkkfnblpnlaa.PFnExactCacheFind
open Go.RowKit Go.Proofs.YtoajkkfnblpnlaaW.PrintWords Go.Proofs.YtoajkkfnblpnlaaW.PrintLast Go.Proofs.YtoajkkfnblpnlaaW.PrintMore
attribute [local go_sem high] str_gtr str_leq str_geq
attribute [local go_sem] max2_int min2_int max_two min_two max_three min_three max_four min_four   -- for this text's walks alone
set_option linter.unusedVariables false
set_option linter.unusedSimpArgs false

/-! ### spec_CacheValid: function 34 -/
mutual
def spec_CacheValid.l0 : Nat → List (S75) → Int → Option (Bool)
 | 0, _, _ => none
 | k + 1, x0, x3 => if x3 < (x0.length : Int) then (if 0 ≤ x3 then ((spec_IntervalValid.f k ((rd_T75 x0 x3).f1.f0) ((rd_T75 x0 x3).f1.f1)).bind fun t136 => (if t136 = true then ((spec_l1In.f ((rd_T75 x0 x3).f0) 0 7).bind fun t138 => (spec_CacheValid.j1 k x0 x3 (!t138))) else (spec_CacheValid.j1 k x0 x3 true))) else (none)) else (some true)
def spec_CacheValid.j1 : Nat → List (S75) → Int → Bool → Option (Bool)
 | 0, _, _, _ => none
 | k + 1, x0, x3, x26 => if x26 = true then (some false) else (spec_CacheValid.l1 k x0 x3 0)
def spec_CacheValid.l1 : Nat → List (S75) → Int → Int → Option (Bool)
 | 0, _, _, _ => none
 | k + 1, x0, x3, x4 => if x4 < x3 then (if 0 ≤ x4 then (if x4 < (x0.length : Int) then (if 0 ≤ x3 then (if x3 < (x0.length : Int) then (if ((rd_T75 x0 x4).f0) = ((rd_T75 x0 x3).f0) then (some false) else (spec_CacheValid.l1 k x0 x3 (wrap64 (x4 + 1)))) else (none)) else (none)) else (none)) else (none)) else (if x3 > 0 then (if 0 ≤ (wrap64 (x3 - 1)) then (if (wrap64 (x3 - 1)) < (x0.length : Int) then (if ((rd_T75 x0 (wrap64 (x3 - 1))).f1.f1).toList = ([] : List UInt8) then (some false) else (if 0 ≤ x3 then (if x3 < (x0.length : Int) then (if (Op.bytesLess (((rd_T75 x0 x3).f1.f0).toList) (((rd_T75 x0 (wrap64 (x3 - 1))).f1.f1).toList)) = true then (some false) else (spec_CacheValid.l0 k x0 (wrap64 (x3 + 1)))) else (none)) else (none))) else (none)) else (none)) else (spec_CacheValid.l0 k x0 (wrap64 (x3 + 1))))
end
def spec_CacheValid.f (k : Nat) (l0 : List (S75)) : Option (Bool) := spec_CacheValid.l0 k l0 0
theorem spec_CacheValid.mono_l : ∀ k, (∀ y0 y1, LeO (spec_CacheValid.l0 k y0 y1) (spec_CacheValid.l0 (k + 1) y0 y1)) ∧ (∀ y0 y1 y2, LeO (spec_CacheValid.j1 k y0 y1 y2) (spec_CacheValid.j1 (k + 1) y0 y1 y2)) ∧ (∀ y0 y1 y2, LeO (spec_CacheValid.l1 k y0 y1 y2) (spec_CacheValid.l1 (k + 1) y0 y1 y2))
 | 0 => ⟨fun _ _ r h => by simp [spec_CacheValid.l0] at h, fun _ _ _ r h => by simp [spec_CacheValid.j1] at h, fun _ _ _ r h => by simp [spec_CacheValid.l1] at h⟩
 | k + 1 => by
  obtain ⟨ih0, ih1, ih2⟩ := spec_CacheValid.mono_l k
  refine ⟨?_, ?_, ?_⟩
  ·
   intro y0 y1
   unfold spec_CacheValid.l0
   repeat' first
   | (with_reducible exact ih0 _ _)
   | (with_reducible exact ih1 _ _ _)
   | (with_reducible exact ih2 _ _ _)
   | (with_reducible exact spec_IntervalValid.mono _ _ _)
   | (with_reducible exact LeO.refl _)
   | (with_reducible exact LeO.none _)
   | (with_reducible refine LeO.ite ?_ ?_)
   | (with_reducible refine LeO.bind ?_ (fun _ => ?_))
   | exact ih0 _ _
   | exact ih1 _ _ _
   | exact ih2 _ _ _
   | exact spec_IntervalValid.mono _ _ _
   | exact LeO.none _
   | refine LeO.ite ?_ ?_
   | refine LeO.bind ?_ (fun _ => ?_)
  ·
   intro y0 y1 y2
   unfold spec_CacheValid.j1
   repeat' first
   | (with_reducible exact ih0 _ _)
   | (with_reducible exact ih1 _ _ _)
   | (with_reducible exact ih2 _ _ _)
   | (with_reducible exact spec_IntervalValid.mono _ _ _)
   | (with_reducible exact LeO.refl _)
   | (with_reducible exact LeO.none _)
   | (with_reducible refine LeO.ite ?_ ?_)
   | (with_reducible refine LeO.bind ?_ (fun _ => ?_))
   | exact ih0 _ _
   | exact ih1 _ _ _
   | exact ih2 _ _ _
   | exact spec_IntervalValid.mono _ _ _
   | exact LeO.none _
   | refine LeO.ite ?_ ?_
   | refine LeO.bind ?_ (fun _ => ?_)
  ·
   intro y0 y1 y2
   unfold spec_CacheValid.l1
   repeat' first
   | (with_reducible exact ih0 _ _)
   | (with_reducible exact ih1 _ _ _)
   | (with_reducible exact ih2 _ _ _)
   | (with_reducible exact spec_IntervalValid.mono _ _ _)
   | (with_reducible exact LeO.refl _)
   | (with_reducible exact LeO.none _)
   | (with_reducible refine LeO.ite ?_ ?_)
   | (with_reducible refine LeO.bind ?_ (fun _ => ?_))
   | exact ih0 _ _
   | exact ih1 _ _ _
   | exact ih2 _ _ _
   | exact spec_IntervalValid.mono _ _ _
   | exact LeO.none _
   | refine LeO.ite ?_ ?_
   | refine LeO.bind ?_ (fun _ => ?_)
theorem spec_CacheValid.mono : ∀ a0 k, LeO (spec_CacheValid.f k a0) (spec_CacheValid.f (k + 1) a0) := by
 intro a0 k
 obtain ⟨ih0, ih1, ih2⟩ := spec_CacheValid.mono_l k
 unfold spec_CacheValid.f
 repeat' first
   | (with_reducible exact ih0 _ _)
   | (with_reducible exact ih1 _ _ _)
   | (with_reducible exact ih2 _ _ _)
   | (with_reducible exact spec_IntervalValid.mono _ _ _)
   | (with_reducible exact LeO.refl _)
   | (with_reducible exact LeO.none _)
   | (with_reducible refine LeO.ite ?_ ?_)
   | (with_reducible refine LeO.bind ?_ (fun _ => ?_))
   | exact ih0 _ _
   | exact ih1 _ _ _
   | exact ih2 _ _ _
   | exact spec_IntervalValid.mono _ _ _
   | exact LeO.none _
   | refine LeO.ite ?_ ?_
   | refine LeO.bind ?_ (fun _ => ?_)
set_option maxHeartbeats 8000000 in
set_option maxRecDepth 100000 in
theorem spec_CacheValid.calls (k : Nat) (A0 : Option Addr) (c0 : Nat) (l0 : List (S75)) (r : Bool) (w : World) (hr0 : Kd.C k75 w A0 l0.length l0) (hc0 : l0.length ≤ c0) (h : spec_CacheValid.f k l0 = some r) :
  Calls Try.prog 34 #[.slice A0 l0.length c0] w fun e w' => e = .returned (.bool r) ∧ Below w.heap.size w w' := by
 have hu73 := Try.underlying73
 have HR0 := Aside0.mk hr0
 have HC0 := Aside0.mk hc0
 clear hr0 hc0
 have HB := Aside0.mk (Below.refl w.heap.size w)
 have H : (spec_CacheValid.l0 k l0 0) = some r := h
 clear h
 have H' := Aside0.mk H
 clear H
 go_enter Try.func34, Try.ntmps34
 go_wp2
 repeat (go_quiet (fail); try go_wp2)
 go_loopg [3] k (fun kq v3 w' => ∃ (x3_1 : Int), v3 = .int .i64 x3_1 ∧ Aside0 (spec_CacheValid.l0 kq l0 x3_1 = some r) ∧ Aside0 (kq ≤ k) ∧ Aside0 (Below w.heap.size w w'))
 case atStart => exact ⟨(0), (by first | rfl | (simp; done) | exact congrArg Value.bool (ne_nil_b _) | exact congrArg Value.bool (eq_nil_b _) | (simp [*]; done)), H', ⟨Nat.le_refl _⟩, ⟨bz⟩⟩
 case round =>
  clear H'
  obtain ⟨x3_1, rfl, HA, HK1, HB⟩ := hrel
  cases gk with
  | zero => exact absurd HA.out (by simp [spec_CacheValid.l0])
  | succ k1 =>
   have H := HA.out
   clear HA
   simp only [spec_CacheValid.l0] at H
   by_cases c2 : x3_1 < (l0.length : Int)
   ·
    rw [if_pos c2] at H
    have c2b0 : decide (x3_1 < (l0.length : Int)) = true := decide_eq_true c2
    clear c2
    have HC3 := Aside0.mk H
    clear H
    go_upto_region 4 with (fail)
    repeat (go_quiet (fail); go_upto_region 4 with (fail))
    go_cut [26] (fun v26 wc => ∃ (kq : Nat) (x26_2 : Bool), v26 = .bool x26_2 ∧ Aside0 (spec_CacheValid.j1 kq l0 x3_1 x26_2 = some r) ∧ Aside0 (kq ≤ k1) ∧ Aside0 (Below w.heap.size w wc))
    case first =>
     have H := HC3.out
     clear HC3
     by_cases c4 : 0 ≤ x3_1
     ·
      rw [if_pos c4] at H
      have c4b0 : decide (0 ≤ x3_1) = true := decide_eq_true c4
      clear c4
      (first | rw [c4b0] | (simp only [i64_w, i32_w]; rw [c4b0]) | skip)
      replace H := Option.bind_eq_some_iff.mp H
      obtain ⟨t136, A50, H⟩ := H
      try dsimp only at H
      have A5 := Aside0.mk A50
      clear A50
      by_cases c6 : t136 = true
      ·
       subst c6
       rw [if_pos rfl] at H
       replace H := Option.bind_eq_some_iff.mp H
       obtain ⟨t138, A70, H⟩ := H
       try dsimp only at H
       have A7 := Aside0.mk A70
       clear A70
       have H' := Aside0.mk H
       clear H
       have p135 : 0 ≤ (x3_1 : Int) := of_decide_eq_true (by first | (with_reducible assumption) | assumption)
       have q135 : x3_1 < (l0.length : Int) := of_decide_eq_true (by first | (with_reducible assumption) | assumption)
       obtain ⟨ad135, e135, hx135_0, hx135_1, hx135_2⟩ := at_T75 HR0.out x3_1 p135 q135
       cases e135
       replace hx135_0 := (HB.out.cell (World.block_lt_of_cell? w _ hx135_0)).trans hx135_0
       replace hx135_1 := (HB.out.cell (World.block_lt_of_cell? w _ hx135_1)).trans hx135_1
       replace hx135_2 := (HB.out.cell (World.block_lt_of_cell? w _ hx135_2)).trans hx135_2
       replace p135 := eq_true p135
       replace q135 := eq_true q135
       go_wp2_with (first | (go_at_call 69; (with_reducible refine (spec_IntervalValid.calls k1 ((rd_T75 l0 x3_1).f1.f0) ((rd_T75 l0 x3_1).f1.f1) true _ A5.out).mono ?_); rintro e w8 ⟨rfl, hb⟩; have n0_ := Aside0.mk (below_step (bz) hb); clear HB; have HB := n0_; clear n0_; (try clear hb); (try clear hb2); (try clear hk); (try clear hi); have p137 : 0 ≤ (x3_1 : Int) := of_decide_eq_true (by first | (with_reducible assumption) | assumption); have q137 : x3_1 < (l0.length : Int) := of_decide_eq_true (by first | (with_reducible assumption) | assumption); obtain ⟨ad137, e137, hx137_0, hx137_1, hx137_2⟩ := at_T75 HR0.out x3_1 p137 q137; obtain rfl : ad135 = ad137 := (by injection e137); replace hx137_0 := (HB.out.cell (World.block_lt_of_cell? w _ hx137_0)).trans hx137_0; replace hx137_1 := (HB.out.cell (World.block_lt_of_cell? w _ hx137_1)).trans hx137_1; replace hx137_2 := (HB.out.cell (World.block_lt_of_cell? w _ hx137_2)).trans hx137_2; replace p137 := eq_true p137; replace q137 := eq_true q137) | (go_at_call 48; (with_reducible refine (spec_l1In.calls ((rd_T75 l0 x3_1).f0) 0 7 t138 _ A7.out).mono ?_); rintro e w' ⟨rfl, ⟨nd, rfl⟩⟩; (try first | exact ⟨rfl, _, World.drewN_drewN _ _ _⟩ | exact ⟨rfl, _, Eq.trans (World.drewN_drewN _ _ _) (congrArg (World.drewN _) (Nat.add_assoc _ _ _))⟩)))
       repeat (go_quiet (first | (go_at_call 69; (with_reducible refine (spec_IntervalValid.calls k1 ((rd_T75 l0 x3_1).f1.f0) ((rd_T75 l0 x3_1).f1.f1) true _ A5.out).mono ?_); rintro e w8 ⟨rfl, hb⟩; have n0_ := Aside0.mk (below_step (bz) hb); clear HB; have HB := n0_; clear n0_; (try clear hb); (try clear hb2); (try clear hk); (try clear hi); have p137 : 0 ≤ (x3_1 : Int) := of_decide_eq_true (by first | (with_reducible assumption) | assumption); have q137 : x3_1 < (l0.length : Int) := of_decide_eq_true (by first | (with_reducible assumption) | assumption); obtain ⟨ad137, e137, hx137_0, hx137_1, hx137_2⟩ := at_T75 HR0.out x3_1 p137 q137; obtain rfl : ad135 = ad137 := (by injection e137); replace hx137_0 := (HB.out.cell (World.block_lt_of_cell? w _ hx137_0)).trans hx137_0; replace hx137_1 := (HB.out.cell (World.block_lt_of_cell? w _ hx137_1)).trans hx137_1; replace hx137_2 := (HB.out.cell (World.block_lt_of_cell? w _ hx137_2)).trans hx137_2; replace p137 := eq_true p137; replace q137 := eq_true q137) | (go_at_call 48; (with_reducible refine (spec_l1In.calls ((rd_T75 l0 x3_1).f0) 0 7 t138 _ A7.out).mono ?_); rintro e w' ⟨rfl, ⟨nd, rfl⟩⟩; (try first | exact ⟨rfl, _, World.drewN_drewN _ _ _⟩ | exact ⟨rfl, _, Eq.trans (World.drewN_drewN _ _ _) (congrArg (World.drewN _) (Nat.add_assoc _ _ _))⟩))); try go_wp2_with (first | (go_at_call 69; (with_reducible refine (spec_IntervalValid.calls k1 ((rd_T75 l0 x3_1).f1.f0) ((rd_T75 l0 x3_1).f1.f1) true _ A5.out).mono ?_); rintro e w8 ⟨rfl, hb⟩; have n0_ := Aside0.mk (below_step (bz) hb); clear HB; have HB := n0_; clear n0_; (try clear hb); (try clear hb2); (try clear hk); (try clear hi); have p137 : 0 ≤ (x3_1 : Int) := of_decide_eq_true (by first | (with_reducible assumption) | assumption); have q137 : x3_1 < (l0.length : Int) := of_decide_eq_true (by first | (with_reducible assumption) | assumption); obtain ⟨ad137, e137, hx137_0, hx137_1, hx137_2⟩ := at_T75 HR0.out x3_1 p137 q137; obtain rfl : ad135 = ad137 := (by injection e137); replace hx137_0 := (HB.out.cell (World.block_lt_of_cell? w _ hx137_0)).trans hx137_0; replace hx137_1 := (HB.out.cell (World.block_lt_of_cell? w _ hx137_1)).trans hx137_1; replace hx137_2 := (HB.out.cell (World.block_lt_of_cell? w _ hx137_2)).trans hx137_2; replace p137 := eq_true p137; replace q137 := eq_true q137) | (go_at_call 48; (with_reducible refine (spec_l1In.calls ((rd_T75 l0 x3_1).f0) 0 7 t138 _ A7.out).mono ?_); rintro e w' ⟨rfl, ⟨nd, rfl⟩⟩; (try first | exact ⟨rfl, _, World.drewN_drewN _ _ _⟩ | exact ⟨rfl, _, Eq.trans (World.drewN_drewN _ _ _) (congrArg (World.drewN _) (Nat.add_assoc _ _ _))⟩))))
       go_meet
       case rel => exact ⟨_, (!t138), (by first | rfl | (simp; done) | exact congrArg Value.bool (ne_nil_b _) | exact congrArg Value.bool (eq_nil_b _) | (simp [*]; done)), H', ⟨by have := HK1.out; first | omega | exact Nat.le_refl _⟩, ⟨bz⟩⟩
      ·
       replace c6 := Bool.eq_false_iff.mpr c6
       subst c6
       rw [if_neg (show ¬ (false = true) by decide)] at H
       have H' := Aside0.mk H
       clear H
       have p135 : 0 ≤ (x3_1 : Int) := of_decide_eq_true (by first | (with_reducible assumption) | assumption)
       have q135 : x3_1 < (l0.length : Int) := of_decide_eq_true (by first | (with_reducible assumption) | assumption)
       obtain ⟨ad135, e135, hx135_0, hx135_1, hx135_2⟩ := at_T75 HR0.out x3_1 p135 q135
       cases e135
       replace hx135_0 := (HB.out.cell (World.block_lt_of_cell? w _ hx135_0)).trans hx135_0
       replace hx135_1 := (HB.out.cell (World.block_lt_of_cell? w _ hx135_1)).trans hx135_1
       replace hx135_2 := (HB.out.cell (World.block_lt_of_cell? w _ hx135_2)).trans hx135_2
       replace p135 := eq_true p135
       replace q135 := eq_true q135
       go_wp2_with (first | (go_at_call 69; (with_reducible refine (spec_IntervalValid.calls k1 ((rd_T75 l0 x3_1).f1.f0) ((rd_T75 l0 x3_1).f1.f1) false _ A5.out).mono ?_); rintro e w9 ⟨rfl, hb⟩; have n0_ := Aside0.mk (below_step (bz) hb); clear HB; have HB := n0_; clear n0_; (try clear hb); (try clear hb2); (try clear hk); (try clear hi)))
       repeat (go_quiet (first | (go_at_call 69; (with_reducible refine (spec_IntervalValid.calls k1 ((rd_T75 l0 x3_1).f1.f0) ((rd_T75 l0 x3_1).f1.f1) false _ A5.out).mono ?_); rintro e w9 ⟨rfl, hb⟩; have n0_ := Aside0.mk (below_step (bz) hb); clear HB; have HB := n0_; clear n0_; (try clear hb); (try clear hb2); (try clear hk); (try clear hi))); try go_wp2_with (first | (go_at_call 69; (with_reducible refine (spec_IntervalValid.calls k1 ((rd_T75 l0 x3_1).f1.f0) ((rd_T75 l0 x3_1).f1.f1) false _ A5.out).mono ?_); rintro e w9 ⟨rfl, hb⟩; have n0_ := Aside0.mk (below_step (bz) hb); clear HB; have HB := n0_; clear n0_; (try clear hb); (try clear hb2); (try clear hk); (try clear hi))))
       go_meet
       case rel => exact ⟨_, (true), (by first | rfl | (simp; done) | exact congrArg Value.bool (ne_nil_b _) | exact congrArg Value.bool (eq_nil_b _) | (simp [*]; done)), H', ⟨by have := HK1.out; first | omega | exact Nat.le_refl _⟩, ⟨bz⟩⟩
     ·
      rw [if_neg c4] at H
      exact absurd H (by simp)
    case rest =>
     clear HC3
     try clear p1
     try clear q1
     try clear hx1
     try clear c2
     try clear c2b0
     try clear p2
     try clear c3
     try clear c4
     try clear c4b0
     try clear c6
     try clear hx135_0
     try clear hx135_1
     try clear hx135_2
     try clear hx137_0
     try clear hx137_1
     try clear hx137_2
     try clear p135
     try clear p137
     try clear q135
     try clear q137
     obtain ⟨kq, x26_2, rfl, HA, HJ2, HB⟩ := hcut
     cases kq with
     | zero => exact absurd HA.out (by simp [spec_CacheValid.j1])
     | succ kj2 =>
      have H := HA.out
      clear HA
      simp only [spec_CacheValid.j1] at H
      by_cases c10 : x26_2 = true
      ·
       subst c10
       rw [if_pos rfl] at H
       obtain rfl := Option.some.inj H
       go_wp2
       repeat (go_quiet (fail); try go_wp2)
       go_ret
       exact ⟨by first | rfl | (simp only [u8w, w64m]; rfl) | (simp [errW_none, errW_some] <;> rfl) | (simp [*, errW_none, errW_some] <;> rfl), bz⟩
      ·
       replace c10 := Bool.eq_false_iff.mpr c10
       subst c10
       rw [if_neg (show ¬ (false = true) by decide)] at H
       have H' := Aside0.mk H
       clear H
       go_wp2
       repeat (go_quiet (fail); try go_wp2)
       go_loopg [4] kj2 (fun kq v4 w' => ∃ (x4_3 : Int), v4 = .int .i64 x4_3 ∧ Aside0 (spec_CacheValid.l1 kq l0 x3_1 x4_3 = some r) ∧ Aside0 (kq ≤ kj2) ∧ Aside0 (Below w.heap.size w w'))
       case atStart => exact ⟨(0), (by first | rfl | (simp; done) | exact congrArg Value.bool (ne_nil_b _) | exact congrArg Value.bool (eq_nil_b _) | (simp [*]; done)), H', ⟨Nat.le_refl _⟩, ⟨bz⟩⟩
       case round =>
        clear H'
        try clear c1
        try clear p1
        try clear q1
        try clear hx1
        try clear c2
        try clear c2b0
        try clear p2
        try clear c3
        try clear c4
        try clear c4b0
        try clear c6
        try clear c10
        try clear hx135_0
        try clear hx135_1
        try clear hx135_2
        try clear hx137_0
        try clear hx137_1
        try clear hx137_2
        try clear p1
        try clear p135
        try clear p137
        try clear p2
        try clear q1
        try clear q135
        try clear q137
        obtain ⟨x4_3, rfl, HA, HK3, HB⟩ := hrel
        cases gk with
        | zero => exact absurd HA.out (by simp [spec_CacheValid.l1])
        | succ k3 =>
         have H := HA.out
         clear HA
         simp only [spec_CacheValid.l1] at H
         by_cases c11 : x4_3 < x3_1
         ·
          rw [if_pos c11] at H
          have c11b0 : decide (x4_3 < x3_1) = true := decide_eq_true c11
          clear c11
          by_cases c12 : 0 ≤ x4_3
          ·
           rw [if_pos c12] at H
           have c12b0 : decide (0 ≤ x4_3) = true := decide_eq_true c12
           clear c12
           by_cases c13 : x4_3 < (l0.length : Int)
           ·
            rw [if_pos c13] at H
            have c13b0 : decide (x4_3 < (l0.length : Int)) = true := decide_eq_true c13
            clear c13
            by_cases c14 : 0 ≤ x3_1
            ·
             rw [if_pos c14] at H
             have c14b0 : decide (0 ≤ x3_1) = true := decide_eq_true c14
             clear c14
             by_cases c15 : x3_1 < (l0.length : Int)
             ·
              rw [if_pos c15] at H
              have c15b0 : decide (x3_1 < (l0.length : Int)) = true := decide_eq_true c15
              clear c15
              by_cases c16 : ((rd_T75 l0 x4_3).f0) = ((rd_T75 l0 x3_1).f0)
              ·
               rw [if_pos c16] at H
               have c16b0 : (((rd_T75 l0 x4_3).f0) == ((rd_T75 l0 x3_1).f0)) = true := beq_iff_eq.mpr c16
               have c16b1 : (((rd_T75 l0 x4_3).f0) != ((rd_T75 l0 x3_1).f0)) = false := bne_eq_false_iff_eq.mpr c16
               clear c16
               obtain rfl := Option.some.inj H
               have p139 : 0 ≤ (x4_3 : Int) := of_decide_eq_true (by first | (with_reducible assumption) | assumption)
               have q139 : x4_3 < (l0.length : Int) := of_decide_eq_true (by first | (with_reducible assumption) | assumption)
               obtain ⟨ad139, e139, hx139_0, hx139_1, hx139_2⟩ := at_T75 HR0.out x4_3 p139 q139
               cases e139
               replace hx139_0 := (HB.out.cell (World.block_lt_of_cell? w _ hx139_0)).trans hx139_0
               replace hx139_1 := (HB.out.cell (World.block_lt_of_cell? w _ hx139_1)).trans hx139_1
               replace hx139_2 := (HB.out.cell (World.block_lt_of_cell? w _ hx139_2)).trans hx139_2
               replace p139 := eq_true p139
               replace q139 := eq_true q139
               have p140 : 0 ≤ (x3_1 : Int) := of_decide_eq_true (by first | (with_reducible assumption) | assumption)
               have q140 : x3_1 < (l0.length : Int) := of_decide_eq_true (by first | (with_reducible assumption) | assumption)
               obtain ⟨ad140, e140, hx140_0, hx140_1, hx140_2⟩ := at_T75 HR0.out x3_1 p140 q140
               obtain rfl : ad139 = ad140 := (by injection e140)
               replace hx140_0 := (HB.out.cell (World.block_lt_of_cell? w _ hx140_0)).trans hx140_0
               replace hx140_1 := (HB.out.cell (World.block_lt_of_cell? w _ hx140_1)).trans hx140_1
               replace hx140_2 := (HB.out.cell (World.block_lt_of_cell? w _ hx140_2)).trans hx140_2
               replace p140 := eq_true p140
               replace q140 := eq_true q140
               go_wp2
               repeat (go_quiet (fail); try go_wp2)
               go_ret
               exact ⟨by first | rfl | (simp only [u8w, w64m]; rfl) | (simp [errW_none, errW_some] <;> rfl) | (simp [*, errW_none, errW_some] <;> rfl), bz⟩
              ·
               rw [if_neg c16] at H
               have c16b0 : (((rd_T75 l0 x4_3).f0) == ((rd_T75 l0 x3_1).f0)) = false := beq_eq_false_iff_ne.mpr c16
               have c16b1 : (((rd_T75 l0 x4_3).f0) != ((rd_T75 l0 x3_1).f0)) = true := bne_iff_ne.mpr c16
               have H' := Aside0.mk H
               clear H
               have p139 : 0 ≤ (x4_3 : Int) := of_decide_eq_true (by first | (with_reducible assumption) | assumption)
               have q139 : x4_3 < (l0.length : Int) := of_decide_eq_true (by first | (with_reducible assumption) | assumption)
               obtain ⟨ad139, e139, hx139_0, hx139_1, hx139_2⟩ := at_T75 HR0.out x4_3 p139 q139
               cases e139
               replace hx139_0 := (HB.out.cell (World.block_lt_of_cell? w _ hx139_0)).trans hx139_0
               replace hx139_1 := (HB.out.cell (World.block_lt_of_cell? w _ hx139_1)).trans hx139_1
               replace hx139_2 := (HB.out.cell (World.block_lt_of_cell? w _ hx139_2)).trans hx139_2
               replace p139 := eq_true p139
               replace q139 := eq_true q139
               have p140 : 0 ≤ (x3_1 : Int) := of_decide_eq_true (by first | (with_reducible assumption) | assumption)
               have q140 : x3_1 < (l0.length : Int) := of_decide_eq_true (by first | (with_reducible assumption) | assumption)
               obtain ⟨ad140, e140, hx140_0, hx140_1, hx140_2⟩ := at_T75 HR0.out x3_1 p140 q140
               obtain rfl : ad139 = ad140 := (by injection e140)
               replace hx140_0 := (HB.out.cell (World.block_lt_of_cell? w _ hx140_0)).trans hx140_0
               replace hx140_1 := (HB.out.cell (World.block_lt_of_cell? w _ hx140_1)).trans hx140_1
               replace hx140_2 := (HB.out.cell (World.block_lt_of_cell? w _ hx140_2)).trans hx140_2
               replace p140 := eq_true p140
               replace q140 := eq_true q140
               go_wp2
               repeat (go_quiet (fail); try go_wp2)
               go_roundg k3
               case measure => have := HK1.out; have := HJ2.out; have := HK3.out; omega
               case rel => exact ⟨(wrap64 (x4_3 + 1)), (by first | rfl | (simp; done) | exact congrArg Value.bool (ne_nil_b _) | exact congrArg Value.bool (eq_nil_b _) | (simp [*]; done)), H', ⟨by have := HK1.out; have := HJ2.out; have := HK3.out; omega⟩, ⟨bz⟩⟩
             ·
              rw [if_neg c15] at H
              exact absurd H (by simp)
            ·
             rw [if_neg c14] at H
             exact absurd H (by simp)
           ·
            rw [if_neg c13] at H
            exact absurd H (by simp)
          ·
           rw [if_neg c12] at H
           exact absurd H (by simp)
         ·
          rw [if_neg c11] at H
          have c11b0 : decide (x4_3 < x3_1) = false := decide_eq_false c11
          clear c11
          by_cases c17 : x3_1 > 0
          ·
           rw [if_pos c17] at H
           have c17b0 : decide (0 < x3_1) = true := decide_eq_true c17
           clear c17
           obtain ⟨ji18, hji18⟩ : ∃ j_ : Int, (wrap64 (x3_1 - 1)) = j_ := ⟨_, rfl⟩
           replace H : (if 0 ≤ (ji18) then (if (ji18) < (l0.length : Int) then (if ((rd_T75 l0 (ji18)).f1.f1).toList = ([] : List UInt8) then (some false) else (if 0 ≤ x3_1 then (if x3_1 < (l0.length : Int) then (if (Op.bytesLess (((rd_T75 l0 x3_1).f1.f0).toList) (((rd_T75 l0 (ji18)).f1.f1).toList)) = true then (some false) else (spec_CacheValid.l0 k3 l0 (wrap64 (x3_1 + 1)))) else (none)) else (none))) else (none)) else (none)) = some r := by first | (rw [hji18] at H; exact H) | (simp only [hji18] at H ⊢; exact H)
           have hji18w : (IntKind.i64.wrap (x3_1 - 1)) = ji18 := (i64_w _).trans hji18
           by_cases c19 : 0 ≤ (ji18)
           ·
            rw [if_pos c19] at H
            have c19b0 : decide (0 ≤ (ji18)) = true := decide_eq_true c19
            clear c19
            by_cases c20 : (ji18) < (l0.length : Int)
            ·
             rw [if_pos c20] at H
             have c20b0 : decide ((ji18) < (l0.length : Int)) = true := decide_eq_true c20
             clear c20
             by_cases c21 : ((rd_T75 l0 (ji18)).f1.f1).toList = ([] : List UInt8)
             ·
              rw [if_pos c21] at H
              have c21b0 : (((rd_T75 l0 (ji18)).f1.f1).toList == ([] : List UInt8)) = true := beq_iff_eq.mpr c21
              have c21b1 : (((rd_T75 l0 (ji18)).f1.f1).toList != ([] : List UInt8)) = false := bne_eq_false_iff_eq.mpr c21
              clear c21
              obtain rfl := Option.some.inj H
              have p141 : 0 ≤ ((ji18) : Int) := of_decide_eq_true (by first | (with_reducible assumption) | assumption)
              have q141 : (ji18) < (l0.length : Int) := of_decide_eq_true (by first | (with_reducible assumption) | assumption)
              obtain ⟨ad141, e141, hx141_0, hx141_1, hx141_2⟩ := at_T75 HR0.out (ji18) p141 q141
              cases e141
              replace hx141_0 := (HB.out.cell (World.block_lt_of_cell? w _ hx141_0)).trans hx141_0
              replace hx141_1 := (HB.out.cell (World.block_lt_of_cell? w _ hx141_1)).trans hx141_1
              replace hx141_2 := (HB.out.cell (World.block_lt_of_cell? w _ hx141_2)).trans hx141_2
              replace p141 := eq_true p141
              replace q141 := eq_true q141
              go_wp2
              repeat (go_quiet (fail); try go_wp2)
              go_ret
              exact ⟨by first | rfl | (simp only [u8w, w64m]; rfl) | (simp [errW_none, errW_some] <;> rfl) | (simp only [← hji18]; first | rfl | (simp [errW_none, errW_some] <;> rfl)) | (simp [*, errW_none, errW_some] <;> rfl), bz⟩
             ·
              rw [if_neg c21] at H
              have c21b0 : (((rd_T75 l0 (ji18)).f1.f1).toList == ([] : List UInt8)) = false := beq_eq_false_iff_ne.mpr c21
              have c21b1 : (((rd_T75 l0 (ji18)).f1.f1).toList != ([] : List UInt8)) = true := bne_iff_ne.mpr c21
              by_cases c22 : 0 ≤ x3_1
              ·
               rw [if_pos c22] at H
               have c22b0 : decide (0 ≤ x3_1) = true := decide_eq_true c22
               clear c22
               by_cases c23 : x3_1 < (l0.length : Int)
               ·
                rw [if_pos c23] at H
                have c23b0 : decide (x3_1 < (l0.length : Int)) = true := decide_eq_true c23
                clear c23
                by_cases c24 : (Op.bytesLess (((rd_T75 l0 x3_1).f1.f0).toList) (((rd_T75 l0 (ji18)).f1.f1).toList)) = true
                ·
                 rw [if_pos c24] at H
                 have c24b0 : (Op.bytesLess (((rd_T75 l0 x3_1).f1.f0).toList) (((rd_T75 l0 (ji18)).f1.f1).toList)) = true := c24
                 clear c24
                 obtain rfl := Option.some.inj H
                 have p141 : 0 ≤ ((ji18) : Int) := of_decide_eq_true (by first | (with_reducible assumption) | assumption)
                 have q141 : (ji18) < (l0.length : Int) := of_decide_eq_true (by first | (with_reducible assumption) | assumption)
                 obtain ⟨ad141, e141, hx141_0, hx141_1, hx141_2⟩ := at_T75 HR0.out (ji18) p141 q141
                 cases e141
                 replace hx141_0 := (HB.out.cell (World.block_lt_of_cell? w _ hx141_0)).trans hx141_0
                 replace hx141_1 := (HB.out.cell (World.block_lt_of_cell? w _ hx141_1)).trans hx141_1
                 replace hx141_2 := (HB.out.cell (World.block_lt_of_cell? w _ hx141_2)).trans hx141_2
                 replace p141 := eq_true p141
                 replace q141 := eq_true q141
                 have p142 : 0 ≤ ((ji18) : Int) := of_decide_eq_true (by first | (with_reducible assumption) | assumption)
                 have q142 : (ji18) < (l0.length : Int) := of_decide_eq_true (by first | (with_reducible assumption) | assumption)
                 obtain ⟨ad142, e142, hx142_0, hx142_1, hx142_2⟩ := at_T75 HR0.out (ji18) p142 q142
                 obtain rfl : ad141 = ad142 := (by injection e142)
                 replace hx142_0 := (HB.out.cell (World.block_lt_of_cell? w _ hx142_0)).trans hx142_0
                 replace hx142_1 := (HB.out.cell (World.block_lt_of_cell? w _ hx142_1)).trans hx142_1
                 replace hx142_2 := (HB.out.cell (World.block_lt_of_cell? w _ hx142_2)).trans hx142_2
                 replace p142 := eq_true p142
                 replace q142 := eq_true q142
                 have p143 : 0 ≤ (x3_1 : Int) := of_decide_eq_true (by first | (with_reducible assumption) | assumption)
                 have q143 : x3_1 < (l0.length : Int) := of_decide_eq_true (by first | (with_reducible assumption) | assumption)
                 obtain ⟨ad143, e143, hx143_0, hx143_1, hx143_2⟩ := at_T75 HR0.out x3_1 p143 q143
                 obtain rfl : ad141 = ad143 := (by injection e143)
                 replace hx143_0 := (HB.out.cell (World.block_lt_of_cell? w _ hx143_0)).trans hx143_0
                 replace hx143_1 := (HB.out.cell (World.block_lt_of_cell? w _ hx143_1)).trans hx143_1
                 replace hx143_2 := (HB.out.cell (World.block_lt_of_cell? w _ hx143_2)).trans hx143_2
                 replace p143 := eq_true p143
                 replace q143 := eq_true q143
                 go_wp2
                 repeat (go_quiet (fail); try go_wp2)
                 go_ret
                 exact ⟨by first | rfl | (simp only [u8w, w64m]; rfl) | (simp [errW_none, errW_some] <;> rfl) | (simp only [← hji18]; first | rfl | (simp [errW_none, errW_some] <;> rfl)) | (simp [*, errW_none, errW_some] <;> rfl), bz⟩
                ·
                 rw [if_neg c24] at H
                 have c24b0 : (Op.bytesLess (((rd_T75 l0 x3_1).f1.f0).toList) (((rd_T75 l0 (ji18)).f1.f1).toList)) = false := by simpa using c24
                 clear c24
                 have H' := Aside0.mk H
                 clear H
                 have p141 : 0 ≤ ((ji18) : Int) := of_decide_eq_true (by first | (with_reducible assumption) | assumption)
                 have q141 : (ji18) < (l0.length : Int) := of_decide_eq_true (by first | (with_reducible assumption) | assumption)
                 obtain ⟨ad141, e141, hx141_0, hx141_1, hx141_2⟩ := at_T75 HR0.out (ji18) p141 q141
                 cases e141
                 replace hx141_0 := (HB.out.cell (World.block_lt_of_cell? w _ hx141_0)).trans hx141_0
                 replace hx141_1 := (HB.out.cell (World.block_lt_of_cell? w _ hx141_1)).trans hx141_1
                 replace hx141_2 := (HB.out.cell (World.block_lt_of_cell? w _ hx141_2)).trans hx141_2
                 replace p141 := eq_true p141
                 replace q141 := eq_true q141
                 have p142 : 0 ≤ ((ji18) : Int) := of_decide_eq_true (by first | (with_reducible assumption) | assumption)
                 have q142 : (ji18) < (l0.length : Int) := of_decide_eq_true (by first | (with_reducible assumption) | assumption)
                 obtain ⟨ad142, e142, hx142_0, hx142_1, hx142_2⟩ := at_T75 HR0.out (ji18) p142 q142
                 obtain rfl : ad141 = ad142 := (by injection e142)
                 replace hx142_0 := (HB.out.cell (World.block_lt_of_cell? w _ hx142_0)).trans hx142_0
                 replace hx142_1 := (HB.out.cell (World.block_lt_of_cell? w _ hx142_1)).trans hx142_1
                 replace hx142_2 := (HB.out.cell (World.block_lt_of_cell? w _ hx142_2)).trans hx142_2
                 replace p142 := eq_true p142
                 replace q142 := eq_true q142
                 have p143 : 0 ≤ (x3_1 : Int) := of_decide_eq_true (by first | (with_reducible assumption) | assumption)
                 have q143 : x3_1 < (l0.length : Int) := of_decide_eq_true (by first | (with_reducible assumption) | assumption)
                 obtain ⟨ad143, e143, hx143_0, hx143_1, hx143_2⟩ := at_T75 HR0.out x3_1 p143 q143
                 obtain rfl : ad141 = ad143 := (by injection e143)
                 replace hx143_0 := (HB.out.cell (World.block_lt_of_cell? w _ hx143_0)).trans hx143_0
                 replace hx143_1 := (HB.out.cell (World.block_lt_of_cell? w _ hx143_1)).trans hx143_1
                 replace hx143_2 := (HB.out.cell (World.block_lt_of_cell? w _ hx143_2)).trans hx143_2
                 replace p143 := eq_true p143
                 replace q143 := eq_true q143
                 go_wp2
                 repeat (go_quiet (fail); try go_wp2)
                 go_roundg k3
                 case measure => have := HK1.out; have := HJ2.out; have := HK3.out; omega
                 case rel => exact ⟨(wrap64 (x3_1 + 1)), (by first | rfl | (simp; done) | exact congrArg Value.bool (ne_nil_b _) | exact congrArg Value.bool (eq_nil_b _) | (simp [*]; done)), H', ⟨by have := HK1.out; have := HJ2.out; have := HK3.out; omega⟩, ⟨bz⟩⟩
               ·
                rw [if_neg c23] at H
                exact absurd H (by simp)
              ·
               rw [if_neg c22] at H
               exact absurd H (by simp)
            ·
             rw [if_neg c20] at H
             exact absurd H (by simp)
           ·
            rw [if_neg c19] at H
            exact absurd H (by simp)
          ·
           rw [if_neg c17] at H
           have c17b0 : decide (0 < x3_1) = false := decide_eq_false c17
           clear c17
           have H' := Aside0.mk H
           clear H
           go_wp2
           repeat (go_quiet (fail); try go_wp2)
           go_roundg k3
           case measure => have := HK1.out; have := HJ2.out; have := HK3.out; omega
           case rel => exact ⟨(wrap64 (x3_1 + 1)), (by first | rfl | (simp; done) | exact congrArg Value.bool (ne_nil_b _) | exact congrArg Value.bool (eq_nil_b _) | (simp [*]; done)), H', ⟨by have := HK1.out; have := HJ2.out; have := HK3.out; omega⟩, ⟨bz⟩⟩
   ·
    rw [if_neg c2] at H
    have c2b0 : decide (x3_1 < (l0.length : Int)) = false := decide_eq_false c2
    clear c2
    obtain rfl := Option.some.inj H
    go_wp2
    repeat (go_quiet (fail); try go_wp2)
    go_ret
    exact ⟨by first | rfl | (simp only [u8w, w64m]; rfl) | (simp [errW_none, errW_some] <;> rfl) | (simp [*, errW_none, errW_some] <;> rfl), bz⟩

/-! ### spec_IntervalHas: function 81 -/
def spec_IntervalHas.f (k : Nat) (a0_0 : ByteArray) (a0_1 : ByteArray) (a1 : ByteArray) : Option (Bool) := (spec_IntervalValid.f k a0_0 a0_1).bind fun t145 => (if t145 = true then ((spec_KeyValid.f k a1).bind fun t146 => (if t146 = true then (if ((Op.bytesLess a1.toList a0_0.toList) = true) then (some false) else (if a0_1.toList = ([] : List UInt8) then (some true) else (some (Op.bytesLess a1.toList a0_1.toList)))) else (some false))) else (some false))
theorem spec_IntervalHas.mono : ∀ a0 a1 a2 k, LeO (spec_IntervalHas.f k a0 a1 a2) (spec_IntervalHas.f (k + 1) a0 a1 a2) := by
 intro a0 a1 a2 k
 unfold spec_IntervalHas.f
 repeat' first
   | (with_reducible exact spec_IntervalValid.mono _ _ _)
   | (with_reducible exact spec_KeyValid.mono _ _)
   | (with_reducible exact LeO.refl _)
   | (with_reducible exact LeO.none _)
   | (with_reducible refine LeO.ite ?_ ?_)
   | (with_reducible refine LeO.bind ?_ (fun _ => ?_))
   | exact spec_IntervalValid.mono _ _ _
   | exact spec_KeyValid.mono _ _
   | exact LeO.none _
   | refine LeO.ite ?_ ?_
   | refine LeO.bind ?_ (fun _ => ?_)
set_option maxHeartbeats 8000000 in
set_option maxRecDepth 100000 in
theorem spec_IntervalHas.calls (k : Nat) (a0_0 : ByteArray) (a0_1 : ByteArray) (a1 : ByteArray) (r : Bool) (w : World) (h : spec_IntervalHas.f k a0_0 a0_1 a1 = some r) :
  Calls Try.prog 81 #[.agg #[.string a0_0, .string a0_1], .string a1] w fun e w' => e = .returned (.bool r) ∧ Below w.heap.size w w' := by
 have hu73 := Try.underlying73
 have HB := Aside0.mk (Below.refl w.heap.size w)
 have H : ((spec_IntervalValid.f k a0_0 a0_1).bind fun t145 => (if t145 = true then ((spec_KeyValid.f k a1).bind fun t146 => (if t146 = true then (if ((Op.bytesLess a1.toList a0_0.toList) = true) then (some false) else (if a0_1.toList = ([] : List UInt8) then (some true) else (some (Op.bytesLess a1.toList a0_1.toList)))) else (some false))) else (some false))) = some r := h
 clear h
 replace H := Option.bind_eq_some_iff.mp H
 obtain ⟨t145, A30, H⟩ := H
 try dsimp only at H
 have A3 := Aside0.mk A30
 clear A30
 by_cases c4 : t145 = true
 ·
  subst c4
  rw [if_pos rfl] at H
  replace H := Option.bind_eq_some_iff.mp H
  obtain ⟨t146, A50, H⟩ := H
  try dsimp only at H
  have A5 := Aside0.mk A50
  clear A50
  by_cases c6 : t146 = true
  ·
   subst c6
   rw [if_pos rfl] at H
   by_cases c7 : ((Op.bytesLess a1.toList a0_0.toList) = true)
   ·
    rw [if_pos c7] at H
    have c7b0 : (Op.bytesLess a1.toList a0_0.toList) = true := c7
    clear c7
    obtain rfl := Option.some.inj H
    go_enter Try.func81, Try.ntmps81
    go_wp2_with (first | ((with_reducible refine gate_dst (N := 2) rfl ?_); refine box_event ?hg (N := 2) ?hd (cs := #[.string a0_0, .string a0_1]) (t := 73) ?hr ?_; (case hd => rfl); (case hg => rfl); (case hr => first | (go_simp; done) | (go_simp; rfl)); intro gb144 hg w8 hbox hb; have n0_ := Aside0.mk (below_step (bz) hb); have n1_ := Aside0.mk (hbox); have n2_ : Aside0 (w.heap.size ≤ gb144) := bsg hg; have n3_ : Aside0 (w.heap.size ≤ gb144) := bsg hg; clear HB; have HB := n0_; have BK144 := n1_; have GW144 := n2_; have GE144 := n3_; clear n0_ n1_ n2_ n3_; clear hb hbox hg; have hcz9_0 : w8.cell? ⟨gb144, 0, none⟩ = some (.string a0_0) := (blk_cell BK144.out 0).trans rfl; have hcz9_1 : w8.cell? ⟨gb144, 1, none⟩ = some (.string a0_1) := (blk_cell BK144.out 1).trans rfl; have hfz9_0 := blk_frozen BK144.out 0; have hfz9_1 := blk_frozen BK144.out 1) | ((with_reducible refine gate_callee (f := 69) rfl ?_); refine goesL_ (some 6) rfl rfl Try.func69 (by kernel_rfl) rfl #[.agg #[.string a0_0, .string a0_1]] rfl (by (try simp only [List.map_toArray, List.map_cons, List.map_nil]); first | done | rfl | (simp only [List.length_drop, List.length_take]; rfl)) ?_; (with_reducible refine (spec_IntervalValid.calls k a0_0 a0_1 true _ A3.out).mono ?_); rintro e w10 ⟨rfl, hb⟩; refine ⟨_, rfl, ?_⟩; have n0_ := bkb BK144 hb; have n1_ := Aside0.mk (below_step (bz) hb); clear BK144; clear HB; have BK144 := n0_; have HB := n1_; clear n0_ n1_; (try clear hb); (try clear hb2); (try clear hk); (try clear hi)) | (go_at_call 49; (with_reducible refine (spec_KeyValid.calls k a1 true _ A5.out).mono ?_); rintro e w' ⟨rfl, ⟨nd, rfl⟩⟩; have hcz11_0 : w10.cell? ⟨gb144, 0, none⟩ = some (.string a0_0) := (blk_cell BK144.out 0).trans rfl; have hcz11_1 : w10.cell? ⟨gb144, 1, none⟩ = some (.string a0_1) := (blk_cell BK144.out 1).trans rfl; have hfz11_0 := blk_frozen BK144.out 0; have hfz11_1 := blk_frozen BK144.out 1))
    go_ret
    exact ⟨by first | rfl | (simp only [u8w, w64m]; rfl) | (simp [errW_none, errW_some] <;> rfl) | (simp [*, errW_none, errW_some] <;> rfl), bz⟩
   ·
    rw [if_neg c7] at H
    have c7b0 : (Op.bytesLess a1.toList a0_0.toList) = false := by simpa using c7
    clear c7
    by_cases c12 : a0_1.toList = ([] : List UInt8)
    ·
     rw [if_pos c12] at H
     have c12b0 : (a0_1.toList == ([] : List UInt8)) = true := beq_iff_eq.mpr c12
     have c12b1 : (a0_1.toList != ([] : List UInt8)) = false := bne_eq_false_iff_eq.mpr c12
     clear c12
     obtain rfl := Option.some.inj H
     go_enter Try.func81, Try.ntmps81
     go_wp2_with (first | ((with_reducible refine gate_dst (N := 2) rfl ?_); refine box_event ?hg (N := 2) ?hd (cs := #[.string a0_0, .string a0_1]) (t := 73) ?hr ?_; (case hd => rfl); (case hg => rfl); (case hr => first | (go_simp; done) | (go_simp; rfl)); intro gb144 hg w13 hbox hb; have n0_ := Aside0.mk (below_step (bz) hb); have n1_ := Aside0.mk (hbox); have n2_ : Aside0 (w.heap.size ≤ gb144) := bsg hg; have n3_ : Aside0 (w.heap.size ≤ gb144) := bsg hg; clear HB; have HB := n0_; have BK144 := n1_; have GW144 := n2_; have GE144 := n3_; clear n0_ n1_ n2_ n3_; clear hb hbox hg; have hcz14_0 : w13.cell? ⟨gb144, 0, none⟩ = some (.string a0_0) := (blk_cell BK144.out 0).trans rfl; have hcz14_1 : w13.cell? ⟨gb144, 1, none⟩ = some (.string a0_1) := (blk_cell BK144.out 1).trans rfl; have hfz14_0 := blk_frozen BK144.out 0; have hfz14_1 := blk_frozen BK144.out 1) | ((with_reducible refine gate_callee (f := 69) rfl ?_); refine goesL_ (some 6) rfl rfl Try.func69 (by kernel_rfl) rfl #[.agg #[.string a0_0, .string a0_1]] rfl (by (try simp only [List.map_toArray, List.map_cons, List.map_nil]); first | done | rfl | (simp only [List.length_drop, List.length_take]; rfl)) ?_; (with_reducible refine (spec_IntervalValid.calls k a0_0 a0_1 true _ A3.out).mono ?_); rintro e w15 ⟨rfl, hb⟩; refine ⟨_, rfl, ?_⟩; have n0_ := bkb BK144 hb; have n1_ := Aside0.mk (below_step (bz) hb); clear BK144; clear HB; have BK144 := n0_; have HB := n1_; clear n0_ n1_; (try clear hb); (try clear hb2); (try clear hk); (try clear hi)) | (go_at_call 49; (with_reducible refine (spec_KeyValid.calls k a1 true _ A5.out).mono ?_); rintro e w' ⟨rfl, ⟨nd, rfl⟩⟩; have hcz16_0 : w15.cell? ⟨gb144, 0, none⟩ = some (.string a0_0) := (blk_cell BK144.out 0).trans rfl; have hcz16_1 : w15.cell? ⟨gb144, 1, none⟩ = some (.string a0_1) := (blk_cell BK144.out 1).trans rfl; have hfz16_0 := blk_frozen BK144.out 0; have hfz16_1 := blk_frozen BK144.out 1))
     go_ret
     exact ⟨by first | rfl | (simp only [u8w, w64m]; rfl) | (simp [errW_none, errW_some] <;> rfl) | (simp [*, errW_none, errW_some] <;> rfl), bz⟩
    ·
     rw [if_neg c12] at H
     have c12b0 : (a0_1.toList == ([] : List UInt8)) = false := beq_eq_false_iff_ne.mpr c12
     have c12b1 : (a0_1.toList != ([] : List UInt8)) = true := bne_iff_ne.mpr c12
     obtain rfl := Option.some.inj H
     go_enter Try.func81, Try.ntmps81
     go_wp2_with (first | ((with_reducible refine gate_dst (N := 2) rfl ?_); refine box_event ?hg (N := 2) ?hd (cs := #[.string a0_0, .string a0_1]) (t := 73) ?hr ?_; (case hd => rfl); (case hg => rfl); (case hr => first | (go_simp; done) | (go_simp; rfl)); intro gb144 hg w17 hbox hb; have n0_ := Aside0.mk (below_step (bz) hb); have n1_ := Aside0.mk (hbox); have n2_ : Aside0 (w.heap.size ≤ gb144) := bsg hg; have n3_ : Aside0 (w.heap.size ≤ gb144) := bsg hg; clear HB; have HB := n0_; have BK144 := n1_; have GW144 := n2_; have GE144 := n3_; clear n0_ n1_ n2_ n3_; clear hb hbox hg; have hcz18_0 : w17.cell? ⟨gb144, 0, none⟩ = some (.string a0_0) := (blk_cell BK144.out 0).trans rfl; have hcz18_1 : w17.cell? ⟨gb144, 1, none⟩ = some (.string a0_1) := (blk_cell BK144.out 1).trans rfl; have hfz18_0 := blk_frozen BK144.out 0; have hfz18_1 := blk_frozen BK144.out 1) | ((with_reducible refine gate_callee (f := 69) rfl ?_); refine goesL_ (some 6) rfl rfl Try.func69 (by kernel_rfl) rfl #[.agg #[.string a0_0, .string a0_1]] rfl (by (try simp only [List.map_toArray, List.map_cons, List.map_nil]); first | done | rfl | (simp only [List.length_drop, List.length_take]; rfl)) ?_; (with_reducible refine (spec_IntervalValid.calls k a0_0 a0_1 true _ A3.out).mono ?_); rintro e w19 ⟨rfl, hb⟩; refine ⟨_, rfl, ?_⟩; have n0_ := bkb BK144 hb; have n1_ := Aside0.mk (below_step (bz) hb); clear BK144; clear HB; have BK144 := n0_; have HB := n1_; clear n0_ n1_; (try clear hb); (try clear hb2); (try clear hk); (try clear hi)) | (go_at_call 49; (with_reducible refine (spec_KeyValid.calls k a1 true _ A5.out).mono ?_); rintro e w' ⟨rfl, ⟨nd, rfl⟩⟩; have hcz20_0 : w19.cell? ⟨gb144, 0, none⟩ = some (.string a0_0) := (blk_cell BK144.out 0).trans rfl; have hcz20_1 : w19.cell? ⟨gb144, 1, none⟩ = some (.string a0_1) := (blk_cell BK144.out 1).trans rfl; have hfz20_0 := blk_frozen BK144.out 0; have hfz20_1 := blk_frozen BK144.out 1))
     go_ret
     exact ⟨by first | rfl | (simp only [u8w, w64m]; rfl) | (simp [errW_none, errW_some] <;> rfl) | (simp [*, errW_none, errW_some] <;> rfl), bz⟩
  ·
   replace c6 := Bool.eq_false_iff.mpr c6
   subst c6
   rw [if_neg (show ¬ (false = true) by decide)] at H
   obtain rfl := Option.some.inj H
   go_enter Try.func81, Try.ntmps81
   go_wp2_with (first | ((with_reducible refine gate_dst (N := 2) rfl ?_); refine box_event ?hg (N := 2) ?hd (cs := #[.string a0_0, .string a0_1]) (t := 73) ?hr ?_; (case hd => rfl); (case hg => rfl); (case hr => first | (go_simp; done) | (go_simp; rfl)); intro gb144 hg w21 hbox hb; have n0_ := Aside0.mk (below_step (bz) hb); have n1_ := Aside0.mk (hbox); have n2_ : Aside0 (w.heap.size ≤ gb144) := bsg hg; have n3_ : Aside0 (w.heap.size ≤ gb144) := bsg hg; clear HB; have HB := n0_; have BK144 := n1_; have GW144 := n2_; have GE144 := n3_; clear n0_ n1_ n2_ n3_; clear hb hbox hg; have hcz22_0 : w21.cell? ⟨gb144, 0, none⟩ = some (.string a0_0) := (blk_cell BK144.out 0).trans rfl; have hcz22_1 : w21.cell? ⟨gb144, 1, none⟩ = some (.string a0_1) := (blk_cell BK144.out 1).trans rfl; have hfz22_0 := blk_frozen BK144.out 0; have hfz22_1 := blk_frozen BK144.out 1) | ((with_reducible refine gate_callee (f := 69) rfl ?_); refine goesL_ (some 6) rfl rfl Try.func69 (by kernel_rfl) rfl #[.agg #[.string a0_0, .string a0_1]] rfl (by (try simp only [List.map_toArray, List.map_cons, List.map_nil]); first | done | rfl | (simp only [List.length_drop, List.length_take]; rfl)) ?_; (with_reducible refine (spec_IntervalValid.calls k a0_0 a0_1 true _ A3.out).mono ?_); rintro e w23 ⟨rfl, hb⟩; refine ⟨_, rfl, ?_⟩; have n0_ := bkb BK144 hb; have n1_ := Aside0.mk (below_step (bz) hb); clear BK144; clear HB; have BK144 := n0_; have HB := n1_; clear n0_ n1_; (try clear hb); (try clear hb2); (try clear hk); (try clear hi)) | (go_at_call 49; (with_reducible refine (spec_KeyValid.calls k a1 false _ A5.out).mono ?_); rintro e w' ⟨rfl, ⟨nd, rfl⟩⟩))
   go_ret
   exact ⟨by first | rfl | (simp only [u8w, w64m]; rfl) | (simp [errW_none, errW_some] <;> rfl) | (simp [*, errW_none, errW_some] <;> rfl), bz⟩
 ·
  replace c4 := Bool.eq_false_iff.mpr c4
  subst c4
  rw [if_neg (show ¬ (false = true) by decide)] at H
  obtain rfl := Option.some.inj H
  go_enter Try.func81, Try.ntmps81
  go_wp2_with (first | ((with_reducible refine gate_dst (N := 2) rfl ?_); refine box_event ?hg (N := 2) ?hd (cs := #[.string a0_0, .string a0_1]) (t := 73) ?hr ?_; (case hd => rfl); (case hg => rfl); (case hr => first | (go_simp; done) | (go_simp; rfl)); intro gb144 hg w24 hbox hb; have n0_ := Aside0.mk (below_step (bz) hb); have n1_ := Aside0.mk (hbox); have n2_ : Aside0 (w.heap.size ≤ gb144) := bsg hg; have n3_ : Aside0 (w.heap.size ≤ gb144) := bsg hg; clear HB; have HB := n0_; have BK144 := n1_; have GW144 := n2_; have GE144 := n3_; clear n0_ n1_ n2_ n3_; clear hb hbox hg; have hcz25_0 : w24.cell? ⟨gb144, 0, none⟩ = some (.string a0_0) := (blk_cell BK144.out 0).trans rfl; have hcz25_1 : w24.cell? ⟨gb144, 1, none⟩ = some (.string a0_1) := (blk_cell BK144.out 1).trans rfl; have hfz25_0 := blk_frozen BK144.out 0; have hfz25_1 := blk_frozen BK144.out 1) | ((with_reducible refine gate_callee (f := 69) rfl ?_); refine goesL_ (some 6) rfl rfl Try.func69 (by kernel_rfl) rfl #[.agg #[.string a0_0, .string a0_1]] rfl (by (try simp only [List.map_toArray, List.map_cons, List.map_nil]); first | done | rfl | (simp only [List.length_drop, List.length_take]; rfl)) ?_; (with_reducible refine (spec_IntervalValid.calls k a0_0 a0_1 false _ A3.out).mono ?_); rintro e w26 ⟨rfl, hb⟩; refine ⟨_, rfl, ?_⟩; have n0_ := bkb BK144 hb; have n1_ := Aside0.mk (below_step (bz) hb); clear BK144; clear HB; have BK144 := n0_; have HB := n1_; clear n0_ n1_; (try clear hb); (try clear hb2); (try clear hk); (try clear hi)))
  go_ret
  exact ⟨by first | rfl | (simp only [u8w, w64m]; rfl) | (simp [errW_none, errW_some] <;> rfl) | (simp [*, errW_none, errW_some] <;> rfl), bz⟩

/-! ### spec_CacheFind: function 43 -/
def spec_CacheFind.l0 : Nat → List (S75) → ByteArray → Int → Option (Int)
 | 0, _, _, _ => none
 | k + 1, x0, x1, x5 => if x5 < (x0.length : Int) then (if 0 ≤ x5 then ((spec_IntervalHas.f k ((rd_T75 x0 x5).f1.f0) ((rd_T75 x0 x5).f1.f1) x1).bind fun t149 => (if t149 = true then (some ((rd_T75 x0 x5).f0)) else (spec_CacheFind.l0 k x0 x1 (wrap64 (x5 + 1))))) else (none)) else (some (-1))
def spec_CacheFind.f (k : Nat) (l0 : List (S75)) (a1 : ByteArray) : Option (Int) := (spec_CacheValid.f k l0).bind fun t147 => (if t147 = true then (spec_CacheFind.l0 k l0 a1 0) else (some (-1)))
theorem spec_CacheFind.mono_l : ∀ k, (∀ y0 y1 y2, LeO (spec_CacheFind.l0 k y0 y1 y2) (spec_CacheFind.l0 (k + 1) y0 y1 y2))
 | 0 => fun _ _ _ r h => by simp [spec_CacheFind.l0] at h
 | k + 1 => by
  have ih0 := spec_CacheFind.mono_l k
  ·
   intro y0 y1 y2
   unfold spec_CacheFind.l0
   repeat' first
   | (with_reducible exact ih0 _ _ _)
   | (with_reducible exact spec_CacheValid.mono _ _)
   | (with_reducible exact spec_IntervalHas.mono _ _ _ _)
   | (with_reducible exact LeO.refl _)
   | (with_reducible exact LeO.none _)
   | (with_reducible refine LeO.ite ?_ ?_)
   | (with_reducible refine LeO.bind ?_ (fun _ => ?_))
   | exact ih0 _ _ _
   | exact spec_CacheValid.mono _ _
   | exact spec_IntervalHas.mono _ _ _ _
   | exact LeO.none _
   | refine LeO.ite ?_ ?_
   | refine LeO.bind ?_ (fun _ => ?_)
theorem spec_CacheFind.mono : ∀ a0 a1 k, LeO (spec_CacheFind.f k a0 a1) (spec_CacheFind.f (k + 1) a0 a1) := by
 intro a0 a1 k
 have ih0 := spec_CacheFind.mono_l k
 unfold spec_CacheFind.f
 repeat' first
   | (with_reducible exact ih0 _ _ _)
   | (with_reducible exact spec_CacheValid.mono _ _)
   | (with_reducible exact spec_IntervalHas.mono _ _ _ _)
   | (with_reducible exact LeO.refl _)
   | (with_reducible exact LeO.none _)
   | (with_reducible refine LeO.ite ?_ ?_)
   | (with_reducible refine LeO.bind ?_ (fun _ => ?_))
   | exact ih0 _ _ _
   | exact spec_CacheValid.mono _ _
   | exact spec_IntervalHas.mono _ _ _ _
   | exact LeO.none _
   | refine LeO.ite ?_ ?_
   | refine LeO.bind ?_ (fun _ => ?_)
set_option maxHeartbeats 8000000 in
set_option maxRecDepth 100000 in
theorem spec_CacheFind.calls (k : Nat) (A0 : Option Addr) (c0 : Nat) (l0 : List (S75)) (a1 : ByteArray) (r : Int) (w : World) (hr0 : Kd.C k75 w A0 l0.length l0) (hc0 : l0.length ≤ c0) (h : spec_CacheFind.f k l0 a1 = some r) :
  Calls Try.prog 43 #[.slice A0 l0.length c0, .string a1] w fun e w' => e = .returned (.int .i64 r) ∧ Below w.heap.size w w' := by
 have hu73 := Try.underlying73
 have HR0 := Aside0.mk hr0
 have HC0 := Aside0.mk hc0
 clear hr0 hc0
 have HB := Aside0.mk (Below.refl w.heap.size w)
 have H : ((spec_CacheValid.f k l0).bind fun t147 => (if t147 = true then (spec_CacheFind.l0 k l0 a1 0) else (some (-1)))) = some r := h
 clear h
 replace H := Option.bind_eq_some_iff.mp H
 obtain ⟨t147, A30, H⟩ := H
 try dsimp only at H
 have A3 := Aside0.mk A30
 clear A30
 by_cases c4 : t147 = true
 ·
  subst c4
  rw [if_pos rfl] at H
  have H' := Aside0.mk H
  clear H
  go_enter Try.func43, Try.ntmps43
  go_wp2_with (first | ((with_reducible refine gate_callee (f := 34) rfl ?_); refine goesL_ (some 7) rfl rfl Try.func34 (by kernel_rfl) rfl #[.slice A0 l0.length c0] rfl (by (try simp only [List.map_toArray, List.map_cons, List.map_nil]); first | done | rfl | (simp only [List.length_drop, List.length_take]; rfl)) ?_; (with_reducible refine (spec_CacheValid.calls k _ _ l0 true _ ?side1 ?side2 A3.out).mono ?_); (case side1 => repeat (first | exact HR0.out | (with_reducible refine Kd.C_alloc ?_ _) | (with_reducible refine Kd.C_drewN ?_ _) | (with_reducible refine Kd.C_drew ?_))); (case side2 => exact HC0.out); rintro e w5 ⟨rfl, hb⟩; refine ⟨_, rfl, ?_⟩; have n0_ := Aside0.mk (below_step (bz) hb); clear HB; have HB := n0_; clear n0_; (try clear hb); (try clear hb2); (try clear hk); (try clear hi)))
  go_loopg [5] k (fun kq v5 w' => ∃ (x5_1 : Int), v5 = .int .i64 x5_1 ∧ Aside0 (spec_CacheFind.l0 kq l0 a1 x5_1 = some r) ∧ Aside0 (kq ≤ k) ∧ Aside0 (Below w.heap.size w w'))
  case atStart => exact ⟨(0), (by first | rfl | (simp; done) | exact congrArg Value.bool (ne_nil_b _) | exact congrArg Value.bool (eq_nil_b _) | (simp [*]; done)), H', ⟨Nat.le_refl _⟩, ⟨bz⟩⟩
  case round =>
   clear H'
   try clear p2
   try clear c3
   try clear c4
   obtain ⟨x5_1, rfl, HA, HK1, HB⟩ := hrel
   cases gk with
   | zero => exact absurd HA.out (by simp [spec_CacheFind.l0])
   | succ k1 =>
    have H := HA.out
    clear HA
    simp only [spec_CacheFind.l0] at H
    by_cases c6 : x5_1 < (l0.length : Int)
    ·
     rw [if_pos c6] at H
     have c6b0 : decide (x5_1 < (l0.length : Int)) = true := decide_eq_true c6
     clear c6
     by_cases c7 : 0 ≤ x5_1
     ·
      rw [if_pos c7] at H
      have c7b0 : decide (0 ≤ x5_1) = true := decide_eq_true c7
      clear c7
      replace H := Option.bind_eq_some_iff.mp H
      obtain ⟨t149, A80, H⟩ := H
      try dsimp only at H
      have A8 := Aside0.mk A80
      clear A80
      by_cases c9 : t149 = true
      ·
       subst c9
       rw [if_pos rfl] at H
       obtain rfl := Option.some.inj H
       have p148 : 0 ≤ (x5_1 : Int) := of_decide_eq_true (by first | (with_reducible assumption) | assumption)
       have q148 : x5_1 < (l0.length : Int) := of_decide_eq_true (by first | (with_reducible assumption) | assumption)
       obtain ⟨ad148, e148, hx148_0, hx148_1, hx148_2⟩ := at_T75 HR0.out x5_1 p148 q148
       cases e148
       replace hx148_0 := (HB.out.cell (World.block_lt_of_cell? w _ hx148_0)).trans hx148_0
       replace hx148_1 := (HB.out.cell (World.block_lt_of_cell? w _ hx148_1)).trans hx148_1
       replace hx148_2 := (HB.out.cell (World.block_lt_of_cell? w _ hx148_2)).trans hx148_2
       replace p148 := eq_true p148
       replace q148 := eq_true q148
       go_wp2_with (first | ((with_reducible refine gate_callee (f := 81) rfl ?_); refine goesL_ (some 21) rfl rfl Try.func81 (by kernel_rfl) rfl #[.agg #[.string ((rd_T75 l0 x5_1).f1.f0), .string ((rd_T75 l0 x5_1).f1.f1)], .string a1] rfl (by (try simp only [List.map_toArray, List.map_cons, List.map_nil]); first | done | rfl | (simp only [List.length_drop, List.length_take]; rfl)) ?_; (with_reducible refine (spec_IntervalHas.calls k1 ((rd_T75 l0 x5_1).f1.f0) ((rd_T75 l0 x5_1).f1.f1) a1 true _ A8.out).mono ?_); rintro e w10 ⟨rfl, hb⟩; refine ⟨_, rfl, ?_⟩; have n0_ := Aside0.mk (below_step (bz) hb); clear HB; have HB := n0_; clear n0_; (try clear hb); (try clear hb2); (try clear hk); (try clear hi); have p150 : 0 ≤ (x5_1 : Int) := of_decide_eq_true (by first | (with_reducible assumption) | assumption); have q150 : x5_1 < (l0.length : Int) := of_decide_eq_true (by first | (with_reducible assumption) | assumption); obtain ⟨ad150, e150, hx150_0, hx150_1, hx150_2⟩ := at_T75 HR0.out x5_1 p150 q150; obtain rfl : ad148 = ad150 := (by injection e150); replace hx150_0 := (HB.out.cell (World.block_lt_of_cell? w _ hx150_0)).trans hx150_0; replace hx150_1 := (HB.out.cell (World.block_lt_of_cell? w _ hx150_1)).trans hx150_1; replace hx150_2 := (HB.out.cell (World.block_lt_of_cell? w _ hx150_2)).trans hx150_2; replace p150 := eq_true p150; replace q150 := eq_true q150))
       go_ret
       exact ⟨by first | rfl | (simp only [u8w, w64m]; rfl) | (simp [errW_none, errW_some] <;> rfl) | (simp [*, errW_none, errW_some] <;> rfl), bz⟩
      ·
       replace c9 := Bool.eq_false_iff.mpr c9
       subst c9
       rw [if_neg (show ¬ (false = true) by decide)] at H
       have H' := Aside0.mk H
       clear H
       have p148 : 0 ≤ (x5_1 : Int) := of_decide_eq_true (by first | (with_reducible assumption) | assumption)
       have q148 : x5_1 < (l0.length : Int) := of_decide_eq_true (by first | (with_reducible assumption) | assumption)
       obtain ⟨ad148, e148, hx148_0, hx148_1, hx148_2⟩ := at_T75 HR0.out x5_1 p148 q148
       cases e148
       replace hx148_0 := (HB.out.cell (World.block_lt_of_cell? w _ hx148_0)).trans hx148_0
       replace hx148_1 := (HB.out.cell (World.block_lt_of_cell? w _ hx148_1)).trans hx148_1
       replace hx148_2 := (HB.out.cell (World.block_lt_of_cell? w _ hx148_2)).trans hx148_2
       replace p148 := eq_true p148
       replace q148 := eq_true q148
       go_wp2_with (first | ((with_reducible refine gate_callee (f := 81) rfl ?_); refine goesL_ (some 21) rfl rfl Try.func81 (by kernel_rfl) rfl #[.agg #[.string ((rd_T75 l0 x5_1).f1.f0), .string ((rd_T75 l0 x5_1).f1.f1)], .string a1] rfl (by (try simp only [List.map_toArray, List.map_cons, List.map_nil]); first | done | rfl | (simp only [List.length_drop, List.length_take]; rfl)) ?_; (with_reducible refine (spec_IntervalHas.calls k1 ((rd_T75 l0 x5_1).f1.f0) ((rd_T75 l0 x5_1).f1.f1) a1 false _ A8.out).mono ?_); rintro e w11 ⟨rfl, hb⟩; refine ⟨_, rfl, ?_⟩; have n0_ := Aside0.mk (below_step (bz) hb); clear HB; have HB := n0_; clear n0_; (try clear hb); (try clear hb2); (try clear hk); (try clear hi)))
       go_roundg k1
       case measure => have := HK1.out; omega
       case rel => exact ⟨(wrap64 (x5_1 + 1)), (by first | rfl | (simp; done) | exact congrArg Value.bool (ne_nil_b _) | exact congrArg Value.bool (eq_nil_b _) | (simp [*]; done)), H', ⟨by have := HK1.out; omega⟩, ⟨bz⟩⟩
     ·
      rw [if_neg c7] at H
      exact absurd H (by simp)
    ·
     rw [if_neg c6] at H
     have c6b0 : decide (x5_1 < (l0.length : Int)) = false := decide_eq_false c6
     clear c6
     obtain rfl := Option.some.inj H
     go_wp2
     go_ret
     exact ⟨by first | rfl | (simp only [u8w, w64m]; rfl) | (simp [errW_none, errW_some] <;> rfl) | (simp [*, errW_none, errW_some] <;> rfl), bz⟩
 ·
  replace c4 := Bool.eq_false_iff.mpr c4
  subst c4
  rw [if_neg (show ¬ (false = true) by decide)] at H
  obtain rfl := Option.some.inj H
  go_enter Try.func43, Try.ntmps43
  go_wp2_with (first | ((with_reducible refine gate_callee (f := 34) rfl ?_); refine goesL_ (some 7) rfl rfl Try.func34 (by kernel_rfl) rfl #[.slice A0 l0.length c0] rfl (by (try simp only [List.map_toArray, List.map_cons, List.map_nil]); first | done | rfl | (simp only [List.length_drop, List.length_take]; rfl)) ?_; (with_reducible refine (spec_CacheValid.calls k _ _ l0 false _ ?side1 ?side2 A3.out).mono ?_); (case side1 => repeat (first | exact HR0.out | (with_reducible refine Kd.C_alloc ?_ _) | (with_reducible refine Kd.C_drewN ?_ _) | (with_reducible refine Kd.C_drew ?_))); (case side2 => exact HC0.out); rintro e w12 ⟨rfl, hb⟩; refine ⟨_, rfl, ?_⟩; have n0_ := Aside0.mk (below_step (bz) hb); clear HB; have HB := n0_; clear n0_; (try clear hb); (try clear hb2); (try clear hk); (try clear hi)))
  go_ret
  exact ⟨by first | rfl | (simp only [u8w, w64m]; rfl) | (simp [errW_none, errW_some] <;> rfl) | (simp [*, errW_none, errW_some] <;> rfl), bz⟩

/-! ### impl_shardNumber: function 50 -/
def impl_shardNumber.f (a0 : Int) : Option (Bool) := if a0 ≥ 0 then (some (decide (a0 < 8))) else (some false)
set_option maxHeartbeats 8000000 in
set_option maxRecDepth 100000 in
theorem impl_shardNumber.calls (a0 : Int) (r : Bool) (w : World) (h : impl_shardNumber.f a0 = some r) :
  Calls Try.prog 50 #[.int .i64 a0] w fun e w' => e = .returned (.bool r) ∧ Drawn0 w w' := by
 have H : (if a0 ≥ 0 then (some (decide (a0 < 8))) else (some false)) = some r := h
 clear h
 by_cases c2 : a0 ≥ 0
 ·
  rw [if_pos c2] at H
  have c2b0 : decide (0 ≤ a0) = true := decide_eq_true c2
  clear c2
  obtain rfl := Option.some.inj H
  go_enter Try.func50, Try.ntmps50
  go_wp2
  go_ret
  exact ⟨by first | rfl | (simp; done) | exact congrArg Value.bool (ne_nil_b _) | exact congrArg Value.bool (eq_nil_b _) | (simp [*]; done), by repeat (first | exact Drawn0.refl _ | apply Drawn0.step)⟩
 ·
  rw [if_neg c2] at H
  have c2b0 : decide (0 ≤ a0) = false := decide_eq_false c2
  clear c2
  obtain rfl := Option.some.inj H
  go_enter Try.func50, Try.ntmps50
  go_wp2
  go_ret
  exact ⟨by first | rfl | (simp; done) | exact congrArg Value.bool (ne_nil_b _) | exact congrArg Value.bool (eq_nil_b _) | (simp [*]; done), by repeat (first | exact Drawn0.refl _ | apply Drawn0.step)⟩

end Go.Proofs.Ytoajkkfnblpnlaa.PFnExactCacheFind
