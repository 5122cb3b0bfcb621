/- Go functions as plain Lean functions, and for each a proof that its call comes to what the function says; under the conditions that each theorem names. Written by a program of this session. -/
import Derived.Test.YtkjkokljgbpbbaaPFnGiveUpx0
import Derived.Test.YtkjkokljgbpbbaaPFnGiveUpx8
import Derived.Test.YtkjkokljgbpbbaaPFnGiveUpx11
namespace Go.Proofs.Ytkjkokljgbpbbaa.PFnGiveUp
open Go.RowKit Go.Proofs.YtkjkokljgbpbbaaW.PrintWords Go.Proofs.YtkjkokljgbpbbaaW.PrintLast Go.Proofs.YtkjkokljgbpbbaaW.PrintMore
attribute [local go_sem high] str_gtr str_leq str_geq
attribute [local go_sem] max2_int min2_int max_two min_two max_three min_three max_four min_four   -- for this text's walks alone
set_option linter.unusedVariables false
set_option linter.unusedSimpArgs false

/-! ### spec_CacheLearn: function 50 -/
mutual
def spec_CacheLearn.j0 : Nat → List (S35) → List (S35) → Bool → Int → ByteArray → ByteArray → Option ((List (S35)))
 | 0, _, _, _, _, _, _ => none
 | k + 1, x0, x5, x19, x300000, x300001, x300002 => if x19 = true then (some x5) else (spec_CacheLearn.l0 k x0 x5 false 0 x300000 x300001 x300002)
def spec_CacheLearn.l0 : Nat → List (S35) → List (S35) → Bool → Int → Int → ByteArray → ByteArray → Option ((List (S35)))
 | 0, _, _, _, _, _, _, _ => none
 | k + 1, x0, x5, x6, x7, x300000, x300001, x300002 => if x7 < (x0.length : Int) then (if 0 ≤ x7 then ((spec_IntervalMeet.f k ((rd_T35 x0 x7).f1.f0) ((rd_T35 x0 x7).f1.f1) x300001 x300002).bind fun bt312 => (if bt312.2.2 = true then (spec_CacheLearn.j2 k x0 x5 x6 x7 true x300000 x300001 x300002) else (spec_CacheLearn.j2 k x0 x5 x6 x7 (((rd_T35 x0 x7).f0) == x300000) x300000 x300001 x300002))) else (none)) else (if x6 = true then (some x5) else (if x5.length < 3518437208883 then (some (x5 ++ [(⟨x300000, (⟨x300001, x300002⟩ : S31)⟩ : S35)])) else (none)))
def spec_CacheLearn.j2 : Nat → List (S35) → List (S35) → Bool → Int → Bool → Int → ByteArray → ByteArray → Option ((List (S35)))
 | 0, _, _, _, _, _, _, _, _ => none
 | k + 1, x0, x5, x6, x7, x48, x300000, x300001, x300002 => if x48 = true then (spec_CacheLearn.l0 k x0 x5 x6 (wrap64 (x7 + 1)) x300000 x300001 x300002) else (if x6 = true then (if 0 ≤ x7 then (if x7 < (x0.length : Int) then (if x5.length < 3518437208883 then (spec_CacheLearn.l0 k x0 (x5 ++ [(⟨(rd_T35 x0 x7).f0, (⟨(rd_T35 x0 x7).f1.f0, (rd_T35 x0 x7).f1.f1⟩ : S31)⟩ : S35)]) x6 (wrap64 (x7 + 1)) x300000 x300001 x300002) else (none)) else (none)) else (none)) else (if 0 ≤ x7 then (if x7 < (x0.length : Int) then (if (Op.bytesLess x300001.toList (((rd_T35 x0 x7).f1.f0).toList)) = true then (if x5.length < 3518437208883 then ((some (x5 ++ [(⟨x300000, (⟨x300001, x300002⟩ : S31)⟩ : S35)] : List (S35))).bind fun y322 => (if y322.length < 3518437208883 then (spec_CacheLearn.l0 k x0 (y322 ++ [(⟨(rd_T35 x0 x7).f0, (⟨(rd_T35 x0 x7).f1.f0, (rd_T35 x0 x7).f1.f1⟩ : S31)⟩ : S35)]) true (wrap64 (x7 + 1)) x300000 x300001 x300002) else (none))) else (none)) else (if x5.length < 3518437208883 then (spec_CacheLearn.l0 k x0 (x5 ++ [(⟨(rd_T35 x0 x7).f0, (⟨(rd_T35 x0 x7).f1.f0, (rd_T35 x0 x7).f1.f1⟩ : S31)⟩ : S35)]) x6 (wrap64 (x7 + 1)) x300000 x300001 x300002) else (none))) else (none)) else (none)))
end
def spec_CacheLearn.f (k : Nat) (l0 : List (S35)) (a1_0 : Int) (a1_1 : ByteArray) (a1_2 : ByteArray) : Option ((List (S35))) := (some (([] : List (S35)) : List (S35))).bind fun y300 => ((spec_CacheValid.f k l0).bind fun t303 => (if t303 = true then ((spec_CacheValid.f k (([(⟨a1_0, (⟨a1_1, a1_2⟩ : S31)⟩ : S35)] : List (S35)))).bind fun t307 => (spec_CacheLearn.j0 k l0 y300 (!t307) a1_0 a1_1 a1_2)) else (spec_CacheLearn.j0 k l0 y300 true a1_0 a1_1 a1_2)))
theorem spec_CacheLearn.mono_l : ∀ k, (∀ y0 y1 y2 y3 y4 y5, LeO (spec_CacheLearn.j0 k y0 y1 y2 y3 y4 y5) (spec_CacheLearn.j0 (k + 1) y0 y1 y2 y3 y4 y5)) ∧ (∀ y0 y1 y2 y3 y4 y5 y6, LeO (spec_CacheLearn.l0 k y0 y1 y2 y3 y4 y5 y6) (spec_CacheLearn.l0 (k + 1) y0 y1 y2 y3 y4 y5 y6)) ∧ (∀ y0 y1 y2 y3 y4 y5 y6 y7, LeO (spec_CacheLearn.j2 k y0 y1 y2 y3 y4 y5 y6 y7) (spec_CacheLearn.j2 (k + 1) y0 y1 y2 y3 y4 y5 y6 y7))
 | 0 => ⟨fun _ _ _ _ _ _ r h => by simp [spec_CacheLearn.j0] at h, fun _ _ _ _ _ _ _ r h => by simp [spec_CacheLearn.l0] at h, fun _ _ _ _ _ _ _ _ r h => by simp [spec_CacheLearn.j2] at h⟩
 | k + 1 => by
  obtain ⟨ih0, ih1, ih2⟩ := spec_CacheLearn.mono_l k
  refine ⟨?_, ?_, ?_⟩
  ·
   intro y0 y1 y2 y3 y4 y5
   unfold spec_CacheLearn.j0
   repeat' first
   | (with_reducible exact ih0 _ _ _ _ _ _)
   | (with_reducible exact ih1 _ _ _ _ _ _ _)
   | (with_reducible exact ih2 _ _ _ _ _ _ _ _)
   | (with_reducible exact spec_CacheValid.mono _ _)
   | (with_reducible exact spec_IntervalMeet.mono _ _ _ _ _)
   | (with_reducible exact LeO.refl _)
   | (with_reducible exact LeO.none _)
   | (with_reducible refine LeO.ite ?_ ?_)
   | (with_reducible refine LeO.bind ?_ (fun _ => ?_))
   | exact ih0 _ _ _ _ _ _
   | exact ih1 _ _ _ _ _ _ _
   | exact ih2 _ _ _ _ _ _ _ _
   | exact spec_CacheValid.mono _ _
   | exact spec_IntervalMeet.mono _ _ _ _ _
   | exact LeO.none _
   | refine LeO.ite ?_ ?_
   | refine LeO.bind ?_ (fun _ => ?_)
  ·
   intro y0 y1 y2 y3 y4 y5 y6
   unfold spec_CacheLearn.l0
   repeat' first
   | (with_reducible exact ih0 _ _ _ _ _ _)
   | (with_reducible exact ih1 _ _ _ _ _ _ _)
   | (with_reducible exact ih2 _ _ _ _ _ _ _ _)
   | (with_reducible exact spec_CacheValid.mono _ _)
   | (with_reducible exact spec_IntervalMeet.mono _ _ _ _ _)
   | (with_reducible exact LeO.refl _)
   | (with_reducible exact LeO.none _)
   | (with_reducible refine LeO.ite ?_ ?_)
   | (with_reducible refine LeO.bind ?_ (fun _ => ?_))
   | exact ih0 _ _ _ _ _ _
   | exact ih1 _ _ _ _ _ _ _
   | exact ih2 _ _ _ _ _ _ _ _
   | exact spec_CacheValid.mono _ _
   | exact spec_IntervalMeet.mono _ _ _ _ _
   | exact LeO.none _
   | refine LeO.ite ?_ ?_
   | refine LeO.bind ?_ (fun _ => ?_)
  ·
   intro y0 y1 y2 y3 y4 y5 y6 y7
   unfold spec_CacheLearn.j2
   repeat' first
   | (with_reducible exact ih0 _ _ _ _ _ _)
   | (with_reducible exact ih1 _ _ _ _ _ _ _)
   | (with_reducible exact ih2 _ _ _ _ _ _ _ _)
   | (with_reducible exact spec_CacheValid.mono _ _)
   | (with_reducible exact spec_IntervalMeet.mono _ _ _ _ _)
   | (with_reducible exact LeO.refl _)
   | (with_reducible exact LeO.none _)
   | (with_reducible refine LeO.ite ?_ ?_)
   | (with_reducible refine LeO.bind ?_ (fun _ => ?_))
   | exact ih0 _ _ _ _ _ _
   | exact ih1 _ _ _ _ _ _ _
   | exact ih2 _ _ _ _ _ _ _ _
   | exact spec_CacheValid.mono _ _
   | exact spec_IntervalMeet.mono _ _ _ _ _
   | exact LeO.none _
   | refine LeO.ite ?_ ?_
   | refine LeO.bind ?_ (fun _ => ?_)
theorem spec_CacheLearn.mono : ∀ a0 a1 a2 a3 k, LeO (spec_CacheLearn.f k a0 a1 a2 a3) (spec_CacheLearn.f (k + 1) a0 a1 a2 a3) := by
 intro a0 a1 a2 a3 k
 obtain ⟨ih0, ih1, ih2⟩ := spec_CacheLearn.mono_l k
 unfold spec_CacheLearn.f
 repeat' first
   | (with_reducible exact ih0 _ _ _ _ _ _)
   | (with_reducible exact ih1 _ _ _ _ _ _ _)
   | (with_reducible exact ih2 _ _ _ _ _ _ _ _)
   | (with_reducible exact spec_CacheValid.mono _ _)
   | (with_reducible exact spec_IntervalMeet.mono _ _ _ _ _)
   | (with_reducible exact LeO.refl _)
   | (with_reducible exact LeO.none _)
   | (with_reducible refine LeO.ite ?_ ?_)
   | (with_reducible refine LeO.bind ?_ (fun _ => ?_))
   | exact ih0 _ _ _ _ _ _
   | exact ih1 _ _ _ _ _ _ _
   | exact ih2 _ _ _ _ _ _ _ _
   | exact spec_CacheValid.mono _ _
   | exact spec_IntervalMeet.mono _ _ _ _ _
   | exact LeO.none _
   | refine LeO.ite ?_ ?_
   | refine LeO.bind ?_ (fun _ => ?_)
def spec_CacheLearn.T8 : Bool × List (List Nat × List Nat) := (true, [([], []), ([], []), ([0, 1], [0, 1]), ([2], [2]), ([3], [3]), ([], []), ([5], [5]), ([4, 6], [4, 6]), ([7], [7]), ([8], [8]), ([8], [8]), ([], []), ([11, 9, 7, 0, 1, 2, 3, 4, 5, 6, 7, 8, 9, 11], [9, 11]), ([10, 12, 0, 1, 2, 3, 4, 5, 6, 7, 8, 9, 10, 11, 12], [10])])
def spec_CacheLearn.B8 : List Nat := [0, 0, 3, 7, 15, 0, 32, 127, 255, 511, 511, 0, 3071, 8191]
theorem spec_CacheLearn.tab8 : rtab .any (opsOf Try.f50 8) = spec_CacheLearn.T8 := by kernel_rfl
theorem spec_CacheLearn.bits8 : waitsOk spec_CacheLearn.T8.2 spec_CacheLearn.B8 = true := by kernel_rfl
def spec_CacheLearn.T9 : Bool × List (List Nat × List Nat) := (true, [([], []), ([0], [0]), ([1], [1]), ([1], [1]), ([2, 3, 1], [1, 2, 3]), ([4, 1], [1, 4]), ([5, 1], [1, 5]), ([1], [1]), ([7, 1], [1, 7]), ([6, 8, 1], [1, 6, 8]), ([1, 9], [1, 9])])
def spec_CacheLearn.B9 : List Nat := [0, 1, 3, 3, 15, 31, 63, 3, 131, 511, 1023]
theorem spec_CacheLearn.tab9 : rtab .any (opsOf Try.f50 9) = spec_CacheLearn.T9 := by kernel_rfl
theorem spec_CacheLearn.bits9 : waitsOk spec_CacheLearn.T9.2 spec_CacheLearn.B9 = true := by kernel_rfl
def spec_CacheLearn.T10 : Bool × List (List Nat × List Nat) := (true, [([], []), ([0], [0]), ([1], [1]), ([2], [2]), ([2], [2]), ([3, 4, 2], [2, 3, 4]), ([5, 2], [2, 5]), ([6, 2], [2, 6]), ([7, 2], [2, 7]), ([2], [2]), ([9, 2], [2, 9]), ([10, 2], [2, 10]), ([8, 11, 2], [2, 8, 11]), ([2, 12], [2, 12])])
def spec_CacheLearn.B10 : List Nat := [0, 1, 3, 7, 7, 31, 63, 127, 255, 7, 519, 1543, 4095, 8191]
theorem spec_CacheLearn.tab10 : rtab .any (opsOf Try.f50 10) = spec_CacheLearn.T10 := by kernel_rfl
theorem spec_CacheLearn.bits10 : waitsOk spec_CacheLearn.T10.2 spec_CacheLearn.B10 = true := by kernel_rfl
set_option maxHeartbeats 8000000 in
set_option maxRecDepth 100000 in
theorem spec_CacheLearn.calls (k : Nat) (A0 : Option Addr) (c0 : Nat) (l0 : List (S35)) (a1_0 : Int) (a1_1 : ByteArray) (a1_2 : ByteArray) (r : List (S35)) (w : World) (hr0 : Kd.C k35 w A0 l0.length l0) (hc0 : l0.length ≤ c0) (h : spec_CacheLearn.f k l0 a1_0 a1_1 a1_2 = some r) :
  Calls Try.prog 50 #[.slice A0 l0.length c0, .agg #[.int .i64 a1_0, .string a1_1, .string a1_2]] w fun e w' => ∃ v0_ : Value, e = .returned (v0_) ∧ Kd.R k35 35 w' w.heap.size (fun _ => True) v0_ r ∧ Below w.heap.size w w' := by
 have hu35 := Try.underlying35
 have hu31 := Try.underlying31
 have HR0 := Aside0.mk hr0
 have HC0 := Aside0.mk hc0
 clear hr0 hc0
 have HB := Aside0.mk (Below.refl w.heap.size w)
 have H : ((some (([] : List (S35)) : List (S35))).bind fun y300 => ((spec_CacheValid.f k l0).bind fun t303 => (if t303 = true then ((spec_CacheValid.f k (([(⟨a1_0, (⟨a1_1, a1_2⟩ : S31)⟩ : S35)] : List (S35)))).bind fun t307 => (spec_CacheLearn.j0 k l0 y300 (!t307) a1_0 a1_1 a1_2)) else (spec_CacheLearn.j0 k l0 y300 true a1_0 a1_1 a1_2)))) = some r := h
 clear h
 obtain ⟨y300, hy300⟩ : ∃ y_ : List (S35), y_ = (([] : List (S35))) := ⟨_, rfl⟩
 replace H : ((spec_CacheValid.f k l0).bind fun t303 => (if t303 = true then ((spec_CacheValid.f k (([(⟨a1_0, (⟨a1_1, a1_2⟩ : S31)⟩ : S35)] : List (S35)))).bind fun t307 => (spec_CacheLearn.j0 k l0 y300 (!t307) a1_0 a1_1 a1_2)) else (spec_CacheLearn.j0 k l0 y300 true a1_0 a1_1 a1_2))) = some r := by first | (rw [hy300]; with_reducible exact H) | (have H2_ := (Option.bind_some _ _).symm.trans H; rw [hy300]; with_reducible exact H2_) | (have H2_ := (Option.bind_some _ _).symm.trans H; with_reducible exact H2_) | with_reducible exact H | (rw [hy300]; exact H) | exact H
 have Ny300 := Aside0.mk hy300
 clear hy300
 have HC3 := Aside0.mk H
 clear H
 go_enter Try.func50, Try.ntmps50
 go_upto_region 2 with (first | ((with_reducible refine gate_dst (N := 3) rfl ?_); (try (refine gate_guard (by rfl) ?_; dsimp only)); refine box_event ?hg (N := 3) ?hd (cs := #[.int .i64 a1_0, .string a1_1, .string a1_2]) (t := 35) ?hr ?_; (case hd => rfl); (case hg => rfl); (case hr => first | (go_simp; done) | (go_simp; rfl)); intro gb299 hg w4 hbox hb; have n0_ := Aside0.mk (below_step (bz) hb); have n1_ := Aside0.mk (hbox); have n2_ : Aside0 (w.heap.size ≤ gb299) := bsg hg; have n3_ : Aside0 (w.heap.size ≤ gb299) := bsg hg; clear HB; have HB := n0_; have BK299 := n1_; have GW299 := n2_; have GE299 := n3_; clear n0_ n1_ n2_ n3_; clear hb hbox hg) | ((with_reducible refine gate_dst (N := 10) rfl ?_); (try (refine gate_guard (by rfl) ?_; dsimp only)); refine Kd.R_lit k35 _ 35 ?hg (N := 10) ?hd (xs := ([] : List (S35))) (inner := []) (ok := fun _ => True) (okp := fun _ => True) ?hr ?hp (fun _ hk => hk) trivial (Below.refl _ _) (Nat.le_refl _) (by simp) ?_; (case hd => rfl); (case hg => rfl); (case hr => first | (go_simp; done) | (go_simp; rfl)); (case hp => exact (Reps.none _ _)); intro v301 w5 ho6 hb hg_ hnew_; clear hg_ hnew_; (first | rw [← Ny300.out] at ho6 | (simp only [Int.reduceToNat] at ho6; rw [← Ny300.out] at ho6)); have n0_ := Aside0.mk (Kd.R_lower (Kd.R_newB ho6 (g := gb299) (o := .cells #[.int .i64 a1_0, .string a1_1, .string a1_2] 35 (0, 0)) (bq BK299)) (below_size (bz))); have n1_ := bkb BK299 hb; have n2_ := Aside0.mk (below_step (bz) hb); clear BK299 HB; have HO302 := n0_; have BK299 := n1_; have HB := n2_; clear n0_ n1_ n2_; clear hb ho6))
 (try simp only [Act.put, List.setIfInBounds_toArray, List.set_cons_zero, List.set_cons_succ])
 go_cut [19] (fun v19 wc => ∃ (kq : Nat) (x19_2 : Bool), v19 = .bool x19_2 ∧ Aside0 (spec_CacheLearn.j0 kq l0 y300 x19_2 a1_0 a1_1 a1_2 = some r) ∧ Aside0 (kq ≤ k) ∧ Aside0 (Kd.R k35 35 wc w.heap.size (fun k_ => k_ ≠ gb299) v301 y300) ∧ Aside0 (wc.heap[gb299]? = some (.cells #[.int .i64 a1_0, .string a1_1, .string a1_2] 35 (0, 0))) ∧ Aside0 (Below w.heap.size w wc))
 case first =>
  have H := HC3.out
  clear HC3
  replace H := Option.bind_eq_some_iff.mp H
  obtain ⟨t303, A70, H⟩ := H
  try dsimp only at H
  have A7 := Aside0.mk A70
  clear A70
  by_cases c8 : t303 = true
  ·
   subst c8
   rw [if_pos rfl] at H
   obtain ⟨y304, hy304⟩ : ∃ y_ : List (S35), y_ = (([(⟨a1_0, (⟨a1_1, a1_2⟩ : S31)⟩ : S35)] : List (S35))) := ⟨_, rfl⟩
   replace H : ((spec_CacheValid.f k y304).bind fun t307 => (spec_CacheLearn.j0 k l0 y300 (!t307) a1_0 a1_1 a1_2)) = some r := by first | (rw [hy304]; with_reducible exact H) | (have H2_ := (Option.bind_some _ _).symm.trans H; rw [hy304]; with_reducible exact H2_) | (have H2_ := (Option.bind_some _ _).symm.trans H; with_reducible exact H2_) | with_reducible exact H | (rw [hy304]; exact H) | exact H
   have Ny304 := Aside0.mk hy304
   clear hy304
   replace H := Option.bind_eq_some_iff.mp H
   obtain ⟨t307, A90, H⟩ := H
   try dsimp only at H
   have A9 := Aside0.mk A90
   clear A90
   have H' := Aside0.mk H
   clear H
   go_wp2_with (first | ((with_reducible refine gate_callee (f := 88) rfl ?_); refine goesL_ (some 12) rfl rfl Try.func88 (by kernel_rfl) rfl #[.slice A0 l0.length c0] rfl ga ?_; (with_reducible refine (spec_CacheValid.calls k _ _ l0 true _ ?side1 ?side2 A7.out).mono ?_); (case side1 => repeat (first | exact (Kd.C_below HR0.out HB.out) | (with_reducible refine Kd.C_alloc ?_ _) | (with_reducible refine Kd.C_drewN ?_ _) | (with_reducible refine Kd.C_drew ?_))); (case side2 => exact HC0.out); rintro e w10 ⟨rfl, hb⟩; refine ⟨_, rfl, ?_⟩; have n0_ := rbl HO302 hb; have n1_ := bkb BK299 hb; have n2_ := Aside0.mk (below_step (bz) hb); clear HO302 BK299 HB; have HO302 := n0_; have BK299 := n1_; have HB := n2_; clear n0_ n1_ n2_; (try clear hb); (try clear hb2); (try clear hk); (try clear hi); obtain ⟨hcz11_0, hcz11_1, hcz11_2⟩ := cl3 BK299; obtain ⟨hfz11_0, hfz11_1, hfz11_2⟩ := fz3 BK299) | ((with_reducible refine gate_dst (N := 16) rfl ?_); (try (refine gate_guard (by rfl) ?_; dsimp only)); refine Kd.R_lit k35 _ 35 ?hg (N := 16) ?hd (xs := ([(⟨a1_0, (⟨a1_1, a1_2⟩ : S31)⟩ : S35)] : List (S35))) (inner := [.int .i64 a1_0, .string a1_1, .string a1_2]) (ok := fun _ => True) (okp := fun _ => True) ?hr ?hp (fun _ hk => hk) trivial (Below.refl _ _) (Nat.le_refl _) (by simp) ?_; (case hd => rfl); (case hg => rfl); (case hr => first | (go_simp; done) | (go_simp; rfl)); (case hp => exact (Reps.c3 (show Kd.M k35 _ _ _ (⟨a1_0, (⟨a1_1, a1_2⟩ : S31)⟩ : S35) [.int .i64 a1_0, .string a1_1, .string a1_2] from (k35_mkM _ _ _ (⟨a1_0, (⟨a1_1, a1_2⟩ : S31)⟩ : S35) )) (Reps.none _ _))); intro v305 w12 ho13 hb hg_ hnew_; clear hg_ hnew_; (first | rw [← Ny304.out] at ho13 | (simp only [Int.reduceToNat] at ho13; rw [← Ny304.out] at ho13)); have n0_ := Aside0.mk (Kd.R_elder' (by (with_reducible repeat (first | apply Kd.R_alloc | apply Kd.R_drewN | apply Kd.R_drew)); exact HO302.out) (Kd.R_base ho13) hb); have n1_ := Aside0.mk (Kd.R_lower (Kd.R_newB (Kd.R_new' ho13 (Kd.R_lt (by (with_reducible repeat (first | apply Kd.R_alloc | apply Kd.R_drewN | apply Kd.R_drew)); exact HO302.out))) (g := gb299) (o := .cells #[.int .i64 a1_0, .string a1_1, .string a1_2] 35 (0, 0)) (bq BK299)) (below_size (bz))); have n2_ := bkb BK299 hb; have n3_ := Aside0.mk (below_step (bz) hb); clear HO302 BK299 HB; have HO302 := n0_; have HO306 := n1_; have BK299 := n2_; have HB := n3_; clear n0_ n1_ n2_ n3_; clear hb ho13; obtain ⟨Ao14, co14, eo14⟩ := Kd.R_slice HO306.out; subst eo14) | (go_at_call 88; (with_reducible refine (spec_CacheValid.calls k _ _ y304 t307 _ ?side1 ?side2 A9.out).mono ?_); (case side1 => repeat (first | exact (Kd.R_reads' HO306.out).2.2 | (with_reducible refine Kd.C_alloc ?_ _) | (with_reducible refine Kd.C_drewN ?_ _) | (with_reducible refine Kd.C_drew ?_))); (case side2 => exact (Kd.R_reads' HO306.out).2.1); rintro e w15 ⟨rfl, hb⟩; have n0_ := rbl HO302 hb; have n1_ := rbl HO306 hb; have n2_ := bkb BK299 hb; have n3_ := Aside0.mk (below_step (bz) hb); clear HO302 HO306 BK299 HB; have HO302 := n0_; have HO306 := n1_; have BK299 := n2_; have HB := n3_; clear n0_ n1_ n2_ n3_; (try clear hb); (try clear hb2); (try clear hk); (try clear hi)))
   go_meet
   case rel => exact ⟨_, (!t307), (by first | rfl | (simp; done) | exact congrArg Value.bool (ne_nil_b _) | exact congrArg Value.bool (eq_nil_b _) | (simp [*]; done)), H', ⟨by first | omega | exact Nat.le_refl _⟩, ⟨by (with_reducible repeat (first | apply Kd.R_alloc | apply Kd.R_drewN | apply Kd.R_drew)); exact Kd.R_mono HO302.out (fun _ hk => hk.1.2)⟩, ⟨by (with_reducible repeat (first | refine blk_drewN ?_ _ | refine blk_drew ?_ | refine blk_alloc ?_ _)); exact BK299.out⟩, ⟨bz⟩⟩
  ·
   replace c8 := Bool.eq_false_iff.mpr c8
   subst c8
   rw [if_neg (show ¬ (false = true) by decide)] at H
   have H' := Aside0.mk H
   clear H
   go_wp2_with (first | ((with_reducible refine gate_callee (f := 88) rfl ?_); refine goesL_ (some 12) rfl rfl Try.func88 (by kernel_rfl) rfl #[.slice A0 l0.length c0] rfl ga ?_; (with_reducible refine (spec_CacheValid.calls k _ _ l0 false _ ?side1 ?side2 A7.out).mono ?_); (case side1 => repeat (first | exact (Kd.C_below HR0.out HB.out) | (with_reducible refine Kd.C_alloc ?_ _) | (with_reducible refine Kd.C_drewN ?_ _) | (with_reducible refine Kd.C_drew ?_))); (case side2 => exact HC0.out); rintro e w16 ⟨rfl, hb⟩; refine ⟨_, rfl, ?_⟩; have n0_ := rbl HO302 hb; have n1_ := bkb BK299 hb; have n2_ := Aside0.mk (below_step (bz) hb); clear HO302 BK299 HB; have HO302 := n0_; have BK299 := n1_; have HB := n2_; clear n0_ n1_ n2_; (try clear hb); (try clear hb2); (try clear hk); (try clear hi)))
   go_meet
   case rel => exact ⟨_, (true), (by first | rfl | (simp; done) | exact congrArg Value.bool (ne_nil_b _) | exact congrArg Value.bool (eq_nil_b _) | (simp [*]; done)), H', ⟨by first | omega | exact Nat.le_refl _⟩, ⟨by (with_reducible repeat (first | apply Kd.R_alloc | apply Kd.R_drewN | apply Kd.R_drew)); exact Kd.R_mono HO302.out (fun _ hk => hk.2)⟩, ⟨by (with_reducible repeat (first | refine blk_drewN ?_ _ | refine blk_drew ?_ | refine blk_alloc ?_ _)); exact BK299.out⟩, ⟨bz⟩⟩
 case rest =>
  clear HC3
  try clear p2
  try clear c3
  try clear c5
  try clear c8
  try clear hcz11_0 hcz11_1 hcz11_2
  try clear hfz11_0 hfz11_1 hfz11_2
  obtain ⟨kq, x19_2, rfl, HA, HJ2, HO_5, BK299, HB⟩ := hcut
  cases kq with
  | zero => exact absurd HA.out (by simp [spec_CacheLearn.j0])
  | succ kj2 =>
   have H := HA.out
   clear HA
   simp only [spec_CacheLearn.j0] at H
   by_cases c17 : x19_2 = true
   ·
    subst c17
    rw [if_pos rfl] at H
    obtain rfl := Option.some.inj H
    go_wp2
    go_ret
    exact ⟨_, by first | rfl | (simp only [u8w, w64m]; rfl) | (simp [errW_none, errW_some] <;> rfl) | (simp [*, errW_none, errW_some] <;> rfl), by (with_reducible repeat (first | apply Kd.R_alloc | apply Kd.R_drewN | apply Kd.R_drew)); exact Kd.R_mono HO_5.out (fun _ hk => trivial), bz⟩
   ·
    replace c17 := Bool.eq_false_iff.mpr c17
    subst c17
    rw [if_neg (show ¬ (false = true) by decide)] at H
    have H' := Aside0.mk H
    clear H
    go_wp2
    go_loopg [5, 6, 7] kj2 (fun kq v5 v6 v7 w' => ∃ (x5_2 : List (S35)) (x6_2 : Bool) (x7_2 : Int), v6 = .bool x6_2 ∧ v7 = .int .i64 x7_2 ∧ Aside0 (spec_CacheLearn.l0 kq l0 x5_2 x6_2 x7_2 a1_0 a1_1 a1_2 = some r) ∧ Aside0 (kq ≤ kj2) ∧ Aside0 (Kd.R k35 35 w' w.heap.size (fun k_ => k_ ≠ gb299) v5 x5_2) ∧ Aside0 (w'.heap[gb299]? = some (.cells #[.int .i64 a1_0, .string a1_1, .string a1_2] 35 (0, 0))) ∧ Aside0 (Below w.heap.size w w'))
    case atStart => exact ⟨(y300), (false), (0), (by first | rfl | (simp; done) | exact congrArg Value.bool (ne_nil_b _) | exact congrArg Value.bool (eq_nil_b _) | (simp [*]; done)), (by first | rfl | (simp; done) | exact congrArg Value.bool (ne_nil_b _) | exact congrArg Value.bool (eq_nil_b _) | (simp [*]; done)), H', ⟨Nat.le_refl _⟩, ⟨by (with_reducible repeat (first | apply Kd.R_alloc | apply Kd.R_drewN | apply Kd.R_drew)); exact HO_5.out⟩, ⟨by (with_reducible repeat (first | refine blk_drewN ?_ _ | refine blk_drew ?_ | refine blk_alloc ?_ _)); exact BK299.out⟩, ⟨bz⟩⟩
    case round =>
     clear H'
     try clear c1
     try clear p2
     try clear c3
     try clear c5
     try clear c8
     try clear c17
     try clear hcz11_0 hcz11_1 hcz11_2
     try clear hfz11_0 hfz11_1 hfz11_2
     try clear p2
     obtain ⟨x5_2, x6_2, x7_2, rfl, rfl, HA, HK2, HO_5, BK299, HB⟩ := hrel
     cases gk with
     | zero => exact absurd HA.out (by simp [spec_CacheLearn.l0])
     | succ k2 =>
      have H := HA.out
      clear HA
      simp only [spec_CacheLearn.l0] at H
      by_cases c18 : x7_2 < (l0.length : Int)
      ·
       rw [if_pos c18] at H
       have c18b0 : decide (x7_2 < (l0.length : Int)) = true := decide_eq_true c18
       clear c18
       by_cases c19 : 0 ≤ x7_2
       ·
        rw [if_pos c19] at H
        have c19b0 : decide (0 ≤ x7_2) = true := decide_eq_true c19
        clear c19
        replace H := Option.bind_eq_some_iff.mp H
        obtain ⟨⟨t312, t313, t314⟩, A200, H⟩ := H
        try dsimp only at H
        have A20 := Aside0.mk A200
        clear A200
        have HC21 := Aside0.mk H
        clear H
        try go_wp2
        have n0_ := Aside0.mk (Kd.R_drew HO_5.out)
        have n1_ := Aside0.mk (blk_drew BK299.out)
        have n2_ := Aside0.mk (below_drew1 HB.out)
        clear HO_5
        clear BK299
        clear HB
        have HO_5 := n0_
        have BK299 := n1_
        have HB := n2_
        clear n0_ n1_ n2_
        have p311 : 0 ≤ (x7_2 : Int) := of_decide_eq_true (by first | (with_reducible assumption) | assumption)
        have q311 : x7_2 < (l0.length : Int) := of_decide_eq_true (by first | (with_reducible assumption) | assumption)
        obtain ⟨ad311, e311, hx311_0, hx311_1, hx311_2⟩ := at_T35 HR0.out x7_2 p311 q311
        have hw311_2 := hx311_2
        have hw311_1 := hx311_1
        have hw311_0 := hx311_0
        cases e311
        replace hx311_0 := (HB.out.cell (World.block_lt_of_cell? w _ hx311_0)).trans hx311_0
        replace hx311_1 := (HB.out.cell (World.block_lt_of_cell? w _ hx311_1)).trans hx311_1
        replace hx311_2 := (HB.out.cell (World.block_lt_of_cell? w _ hx311_2)).trans hx311_2
        replace p311 := eq_true p311
        replace q311 := eq_true q311
        refine start_ (n := 14) (S := fun w' => w'.cell? ⟨gb299, 0, none⟩ = some (.int .i64 a1_0) ∧ w'.cell? ⟨gb299, 1, none⟩ = some (.string a1_1) ∧ w'.cell? ⟨gb299, 2, none⟩ = some (.string a1_2) ∧ w'.cell? (ad311.add ((x7_2).toNat * 3)) = some (.int .i64 ((rd_T35 l0 x7_2).f0)) ∧ w'.cell? ⟨(ad311.add ((x7_2).toNat * 3)).block, (ad311.add ((x7_2).toNat * 3)).off + 1, none⟩ = some (.string ((rd_T35 l0 x7_2).f1.f0)) ∧ w'.cell? ⟨(ad311.add ((x7_2).toNat * 3)).block, (ad311.add ((x7_2).toNat * 3)).off + 2, none⟩ = some (.string ((rd_T35 l0 x7_2).f1.f1))) (ds := []) #[false, false, false, false, false, false, false, false, false, false, false, false, false, false] (by kernel_rfl) rfl rfl ⟨(blk_cell BK299.out 0).trans rfl, (blk_cell BK299.out 1).trans rfl, (blk_cell BK299.out 2).trans rfl, ((HB.out.cell (World.block_lt_of_cell? w _ hw311_0)).trans hw311_0), ((HB.out.cell (World.block_lt_of_cell? w _ hw311_1)).trans hw311_1), ((HB.out.cell (World.block_lt_of_cell? w _ hw311_2)).trans hw311_2)⟩ (fun hHeld => ?_); refine with_tabW spec_CacheLearn.tab8 spec_CacheLearn.bits8 (fun HT_ HW_ => ?_)
        generalize wr.drew = w22 at HO_5 BK299 HB hx311_0 hx311_1 hx311_2 hHeld ⊢
        refine pure_ (i := 0) (N := some 28) (v := ?_) (a' := ?_) #[true, false, false, false, false, false, false, false, false, false, false, false, false, false] rfl rfl (any_of HT_.out (by kernel_rfl)) (fun _ _ _ h => h) (Or.inl ⟨by rfl, ?_⟩) ?_ ?_
        rotate_left
        ·
         intro w'
         go_simp
         with_reducible rfl
        rotate_left
        ·
         simp only [sx]
         rfl
        refine pure_ (i := 1) (N := some 29) (v := ?_) (a' := ?_) #[true, true, false, false, false, false, false, false, false, false, false, false, false, false] rfl rfl (any_of HT_.out (by kernel_rfl)) (fun _ _ _ h => h) (Or.inl ⟨by rfl, ?_⟩) ?_ ?_
        rotate_left
        ·
         intro w'
         go_simp
         with_reducible rfl
        rotate_left
        ·
         simp only [sx]
         rfl
        refine pure_ (i := 2) (N := some 30) (v := ?_) (a' := ?_) #[true, true, true, false, false, false, false, false, false, false, false, false, false, false] rfl rfl (any_of HT_.out (by kernel_rfl)) (fun _ _ _ h => h) (Or.inl ⟨by rfl, ?_⟩) ?_ ?_
        rotate_left
        ·
         intro w'
         go_simp
         with_reducible rfl
        rotate_left
        ·
         simp only [sx]
         rfl
        refine pure_ (i := 3) (N := some 31) (v := ?_) (a' := ?_) #[true, true, true, true, false, false, false, false, false, false, false, false, false, false] rfl rfl (any_of HT_.out (by kernel_rfl)) (fun _ _ _ h => h) (Or.inl ⟨by rfl, ?_⟩) ?_ ?_
        rotate_left
        ·
         intro w'
         go_simp
         with_reducible rfl
        rotate_left
        ·
         simp only [sx]
         rfl
        refine pure_ (i := 5) (N := some 33) (v := ?_) (a' := ?_) #[true, true, true, true, false, true, false, false, false, false, false, false, false, false] rfl rfl (any_of HT_.out (by kernel_rfl)) (fun _ _ _ h => h) (Or.inl ⟨by rfl, ?_⟩) ?_ ?_
        rotate_left
        ·
         intro w'
         go_simp
         with_reducible rfl
        rotate_left
        ·
         simp only [sx]
         rfl
        refine take_ (i := 4) (N := some 32) (v := ?_) (a' := ?_) #[true, true, true, true, true, true, false, false, false, false, false, false, false, false] rfl rfl (take_ofW HT_.out HW_.out (by kernel_rfl)) (fun _ _ _ h => h) (Or.inl ⟨by rfl, ?_⟩) hHeld ?_ ?_
        rotate_left
        ·
         rintro w' ⟨s0, s1, s2, s3, s4, s5⟩
         go_simp
         with_reducible rfl
        rotate_left
        ·
         simp only [sx]
         rfl
        refine take_ (i := 6) (N := some 34) (v := ?_) (a' := ?_) #[true, true, true, true, true, true, true, false, false, false, false, false, false, false] rfl rfl (take_ofW HT_.out HW_.out (by kernel_rfl)) (fun _ _ _ h => h) (Or.inl ⟨by rfl, ?_⟩) hHeld ?_ ?_
        rotate_left
        ·
         rintro w' ⟨s0, s1, s2, s3, s4, s5⟩
         go_simp
         with_reducible rfl
        rotate_left
        ·
         simp only [sx]
         rfl
        refine join_ (σ := Nat) 2 #[true, true, true, true, true, true, true, true, true, true, true, true, false, false] (fun s_ => [(35, .tuple #[.agg #[.string t312, .string t313], .bool t314]), (8, .pointer (some ⟨s_, 0, none⟩)), (27, .tuple #[.agg #[.string t312, .string t313], .bool t314]), (36, .agg #[.string t312, .string t313]), (37, .bool t314)]) (fun s_ w' => (w'.cell? ⟨gb299, 0, none⟩ = some (.int .i64 a1_0) ∧ w'.cell? ⟨gb299, 1, none⟩ = some (.string a1_1) ∧ w'.cell? ⟨gb299, 2, none⟩ = some (.string a1_2) ∧ w'.cell? (ad311.add ((x7_2).toNat * 3)) = some (.int .i64 ((rd_T35 l0 x7_2).f0)) ∧ w'.cell? ⟨(ad311.add ((x7_2).toNat * 3)).block, (ad311.add ((x7_2).toNat * 3)).off + 1, none⟩ = some (.string ((rd_T35 l0 x7_2).f1.f0)) ∧ w'.cell? ⟨(ad311.add ((x7_2).toNat * 3)).block, (ad311.add ((x7_2).toNat * 3)).off + 2, none⟩ = some (.string ((rd_T35 l0 x7_2).f1.f1))) ∧ (Kd.R k35 35 w' w.heap.size (fun k_ => k_ ≠ gb299) u5 x5_2) ∧ (w'.heap[gb299]? = some (.cells #[.int .i64 a1_0, .string a1_1, .string a1_2] 35 (0, 0))) ∧ (w'.heap[s_]? = some (.cells #[.string (⟨#[]⟩ : ByteArray), .string (⟨#[]⟩ : ByteArray)] 31 (0, 0))) ∧ (w.heap.size ≤ s_) ∧ (w.heap.size ≤ s_) ∧ (gb299 ≠ s_) ∧ (s_ ≠ gb299) ∧ (Below w.heap.size w w')) ?_ ?_
        rotate_left
        ·
         intro hCont
         refine two_ (i := 7) (j := 11) (Ni := some 35) (Nj := some 8) #[true, true, true, true, true, true, true, true, false, false, false, false, false, false] #[true, true, true, true, true, true, true, false, false, false, false, true, false, false] rfl rfl rfl rfl (two_of HT_.out (by kernel_rfl)) (by decide) (by decide) (fun K hK => ?_) (fun K hK => ?_)
         ·
          skip
          refine goes_ Try.func105 (by kernel_rfl) rfl #[.agg #[.string ((rd_T35 l0 x7_2).f1.f0), .string ((rd_T35 l0 x7_2).f1.f1)], .agg #[.string a1_1, .string a1_2]] (by rfl) rfl rfl ga ?_
          with_reducible refine (spec_IntervalMeet.calls k2 ((rd_T35 l0 x7_2).f1.f0) ((rd_T35 l0 x7_2).f1.f1) a1_1 a1_2 t312 t313 t314 _ A20.out).mono ?_
          rintro e w23 ⟨rfl, hb⟩
          refine ⟨_, rfl, ?_⟩
          have n0_ := rbl HO_5 hb
          have n1_ := bkb BK299 hb
          have n2_ := Aside0.mk (below_step (bz) hb)
          clear HO_5
          clear BK299
          clear HB
          have HO_5 := n0_
          have BK299 := n1_
          have HB := n2_
          clear n0_ n1_ n2_
          (try clear hb)
          (try clear hb2)
          (try clear hk)
          (try clear hi)
          refine hK.out _ _ ⟨(blk_cell BK299.out 0).trans rfl, (blk_cell BK299.out 1).trans rfl, (blk_cell BK299.out 2).trans rfl, ((HB.out.cell (World.block_lt_of_cell? w _ hw311_0)).trans hw311_0), ((HB.out.cell (World.block_lt_of_cell? w _ hw311_1)).trans hw311_1), ((HB.out.cell (World.block_lt_of_cell? w _ hw311_2)).trans hw311_2)⟩ (fun hHeld => ?_)
          clear hK K
          refine norm_ (a' := ?_) ?_ ?_
          rotate_left
          ·
           show Act.put _ (some 35) _ = _
           simp only [sx]
           rfl
          refine pure_ (i := 8) (N := some 27) (v := ?_) (a' := ?_) #[true, true, true, true, true, true, true, true, true, false, false, false, false, false] rfl rfl (any_of HT_.out (by kernel_rfl)) (fun _ _ _ h => h) (Or.inl ⟨by rfl, ?_⟩) ?_ ?_
          rotate_left
          ·
           intro w'
           go_simp
           with_reducible rfl
          rotate_left
          ·
           simp only [sx]
           rfl
          refine pure_ (i := 9) (N := some 36) (v := ?_) (a' := ?_) #[true, true, true, true, true, true, true, true, true, true, false, false, false, false] rfl rfl (any_of HT_.out (by kernel_rfl)) (fun _ _ _ h => h) (Or.inl ⟨by rfl, ?_⟩) ?_ ?_
          rotate_left
          ·
           intro w'
           go_simp
           with_reducible rfl
          rotate_left
          ·
           simp only [sx]
           rfl
          refine pure_ (i := 10) (N := some 37) (v := ?_) (a' := ?_) #[true, true, true, true, true, true, true, true, true, true, true, false, false, false] rfl rfl (any_of HT_.out (by kernel_rfl)) (fun _ _ _ h => h) (Or.inl ⟨by rfl, ?_⟩) ?_ ?_
          rotate_left
          ·
           intro w'
           go_simp
           with_reducible rfl
          rotate_left
          ·
           simp only [sx]
           rfl
          refine one_ (i := 11) (N := some 8) #[true, true, true, true, true, true, true, true, true, true, true, true, false, false] rfl rfl (one_of HT_.out (by kernel_rfl)) (by decide) (fun K hK => ?_)
          refine box_step ?hg (N := 8) ?hd (cs := #[.string (⟨#[]⟩ : ByteArray), .string (⟨#[]⟩ : ByteArray)]) (t := 31) ?hr ?_; (case hd => rfl); (case hg => rfl); (case hr => first | (go_simp; done) | (go_simp; rfl))
          intro gb315 hg w24 hbox hb
          have n0_ := rbl HO_5 hb
          have n1_ := bkb BK299 hb
          have n2_ := Aside0.mk (below_step (bz) hb)
          have n3_ := Aside0.mk (hbox)
          have n4_ : Aside0 (w.heap.size ≤ gb315) := bsg hg
          have n5_ : Aside0 (w.heap.size ≤ gb315) := bsg hg
          have n6_ := nlt hg BK299
          have n7_ := ngt hg BK299
          clear HO_5
          clear BK299
          clear HB
          have HO_5 := n0_
          have BK299 := n1_
          have HB := n2_
          have BK315 := n3_
          have GW315 := n4_
          have GE315 := n5_
          have NB299_315 := n6_
          have NB315_299 := n7_
          clear n0_ n1_ n2_ n3_ n4_ n5_ n6_ n7_
          clear hb hbox hg
          refine hK.out _ _ ⟨(blk_cell BK299.out 0).trans rfl, (blk_cell BK299.out 1).trans rfl, (blk_cell BK299.out 2).trans rfl, ((HB.out.cell (World.block_lt_of_cell? w _ hw311_0)).trans hw311_0), ((HB.out.cell (World.block_lt_of_cell? w _ hw311_1)).trans hw311_1), ((HB.out.cell (World.block_lt_of_cell? w _ hw311_2)).trans hw311_2)⟩ (fun hHeld => ?_)
          clear hK K
          refine norm_ (a' := ?_) ?_ ?_
          rotate_left
          ·
           show Act.put _ (some 8) _ = _
           simp only [sx]
           rfl
          exact norm_ (by simp only [putAll, Act.put, List.setIfInBounds_toArray, List.set_cons_zero, List.set_cons_succ]) (hCont (gb315) _ ⟨hHeld, (by (with_reducible repeat (first | apply Kd.R_alloc | apply Kd.R_drewN | apply Kd.R_drew)); exact HO_5.out), (bq BK299), (bq BK315), GW315.out, GE315.out, NB299_315.out, NB315_299.out, (bz)⟩)
         ·
          skip
          refine box_step ?hg (N := 8) ?hd (cs := #[.string (⟨#[]⟩ : ByteArray), .string (⟨#[]⟩ : ByteArray)]) (t := 31) ?hr ?_; (case hd => rfl); (case hg => rfl); (case hr => first | (go_simp; done) | (go_simp; rfl))
          intro gb315 hg w23 hbox hb
          have n0_ := rbl HO_5 hb
          have n1_ := bkb BK299 hb
          have n2_ := Aside0.mk (below_step (bz) hb)
          have n3_ := Aside0.mk (hbox)
          have n4_ : Aside0 (w.heap.size ≤ gb315) := bsg hg
          have n5_ : Aside0 (w.heap.size ≤ gb315) := bsg hg
          have n6_ := nlt hg BK299
          have n7_ := ngt hg BK299
          clear HO_5
          clear BK299
          clear HB
          have HO_5 := n0_
          have BK299 := n1_
          have HB := n2_
          have BK315 := n3_
          have GW315 := n4_
          have GE315 := n5_
          have NB299_315 := n6_
          have NB315_299 := n7_
          clear n0_ n1_ n2_ n3_ n4_ n5_ n6_ n7_
          clear hb hbox hg
          refine hK.out _ _ ⟨(blk_cell BK299.out 0).trans rfl, (blk_cell BK299.out 1).trans rfl, (blk_cell BK299.out 2).trans rfl, ((HB.out.cell (World.block_lt_of_cell? w _ hw311_0)).trans hw311_0), ((HB.out.cell (World.block_lt_of_cell? w _ hw311_1)).trans hw311_1), ((HB.out.cell (World.block_lt_of_cell? w _ hw311_2)).trans hw311_2)⟩ (fun hHeld => ?_)
          clear hK K
          refine norm_ (a' := ?_) ?_ ?_
          rotate_left
          ·
           show Act.put _ (some 8) _ = _
           simp only [sx]
           rfl
          refine one_ (i := 7) (N := some 35) #[true, true, true, true, true, true, true, true, false, false, false, true, false, false] rfl rfl (one_of HT_.out (by kernel_rfl)) (by decide) (fun K hK => ?_)
          refine goes_ Try.func105 (by kernel_rfl) rfl #[.agg #[.string ((rd_T35 l0 x7_2).f1.f0), .string ((rd_T35 l0 x7_2).f1.f1)], .agg #[.string a1_1, .string a1_2]] (by rfl) rfl rfl ga ?_
          with_reducible refine (spec_IntervalMeet.calls k2 ((rd_T35 l0 x7_2).f1.f0) ((rd_T35 l0 x7_2).f1.f1) a1_1 a1_2 t312 t313 t314 _ A20.out).mono ?_
          rintro e w24 ⟨rfl, hb⟩
          refine ⟨_, rfl, ?_⟩
          have n0_ := rbl HO_5 hb
          have n1_ := bkb BK299 hb
          have n2_ := bkb BK315 hb
          have n3_ := Aside0.mk (below_step (bz) hb)
          clear HO_5
          clear BK299
          clear BK315
          clear HB
          have HO_5 := n0_
          have BK299 := n1_
          have BK315 := n2_
          have HB := n3_
          clear n0_ n1_ n2_ n3_
          (try clear hb)
          (try clear hb2)
          (try clear hk)
          (try clear hi)
          refine hK.out _ _ ⟨(blk_cell BK299.out 0).trans rfl, (blk_cell BK299.out 1).trans rfl, (blk_cell BK299.out 2).trans rfl, ((HB.out.cell (World.block_lt_of_cell? w _ hw311_0)).trans hw311_0), ((HB.out.cell (World.block_lt_of_cell? w _ hw311_1)).trans hw311_1), ((HB.out.cell (World.block_lt_of_cell? w _ hw311_2)).trans hw311_2)⟩ (fun hHeld => ?_)
          clear hK K
          refine norm_ (a' := ?_) ?_ ?_
          rotate_left
          ·
           show Act.put _ (some 35) _ = _
           simp only [sx]
           rfl
          refine pure_ (i := 8) (N := some 27) (v := ?_) (a' := ?_) #[true, true, true, true, true, true, true, true, true, false, false, true, false, false] rfl rfl (any_of HT_.out (by kernel_rfl)) (fun _ _ _ h => h) (Or.inl ⟨by rfl, ?_⟩) ?_ ?_
          rotate_left
          ·
           intro w'
           go_simp
           with_reducible rfl
          rotate_left
          ·
           simp only [sx]
           rfl
          refine pure_ (i := 9) (N := some 36) (v := ?_) (a' := ?_) #[true, true, true, true, true, true, true, true, true, true, false, true, false, false] rfl rfl (any_of HT_.out (by kernel_rfl)) (fun _ _ _ h => h) (Or.inl ⟨by rfl, ?_⟩) ?_ ?_
          rotate_left
          ·
           intro w'
           go_simp
           with_reducible rfl
          rotate_left
          ·
           simp only [sx]
           rfl
          refine pure_ (i := 10) (N := some 37) (v := ?_) (a' := ?_) #[true, true, true, true, true, true, true, true, true, true, true, true, false, false] rfl rfl (any_of HT_.out (by kernel_rfl)) (fun _ _ _ h => h) (Or.inl ⟨by rfl, ?_⟩) ?_ ?_
          rotate_left
          ·
           intro w'
           go_simp
           with_reducible rfl
          rotate_left
          ·
           simp only [sx]
           rfl
          exact norm_ (by simp only [putAll, Act.put, List.setIfInBounds_toArray, List.set_cons_zero, List.set_cons_succ]) (hCont (gb315) _ ⟨hHeld, (by (with_reducible repeat (first | apply Kd.R_alloc | apply Kd.R_drewN | apply Kd.R_drew)); exact HO_5.out), (bq BK299), (bq BK315), GW315.out, GE315.out, NB299_315.out, NB315_299.out, (bz)⟩)
        rintro gb315 w25 ⟨hS_, h0_, h1_, h2_, h3_, h4_, h5_, h6_, h7_⟩
        have n0_ : Aside0 (Kd.R k35 35 w25 w.heap.size (fun k_ => k_ ≠ gb299) u5 x5_2) := ⟨h0_⟩
        have n1_ : Aside0 (w25.heap[gb299]? = some (.cells #[.int .i64 a1_0, .string a1_1, .string a1_2] 35 (0, 0))) := ⟨h1_⟩
        have n2_ : Aside0 (w25.heap[gb315]? = some (.cells #[.string (⟨#[]⟩ : ByteArray), .string (⟨#[]⟩ : ByteArray)] 31 (0, 0))) := ⟨h2_⟩
        have n3_ : Aside0 (w.heap.size ≤ gb315) := ⟨h3_⟩
        have n4_ : Aside0 (w.heap.size ≤ gb315) := ⟨h4_⟩
        have n5_ : Aside0 (gb299 ≠ gb315) := ⟨h5_⟩
        have n6_ : Aside0 (gb315 ≠ gb299) := ⟨h6_⟩
        have n7_ : Aside0 (Below w.heap.size w w25) := ⟨h7_⟩
        clear HO_5
        clear BK299
        clear HB
        clear h0_ h1_ h2_ h3_ h4_ h5_ h6_ h7_
        have HO_5 := n0_
        have BK299 := n1_
        have BK315 := n2_
        have GW315 := n3_
        have GE315 := n4_
        have NB299_315 := n5_
        have NB315_299 := n6_
        have HB := n7_
        clear n0_ n1_ n2_ n3_ n4_ n5_ n6_ n7_
        have hHeld : w25.cell? ⟨gb299, 0, none⟩ = some (.int .i64 a1_0) ∧ w25.cell? ⟨gb299, 1, none⟩ = some (.string a1_1) ∧ w25.cell? ⟨gb299, 2, none⟩ = some (.string a1_2) ∧ w25.cell? (ad311.add ((x7_2).toNat * 3)) = some (.int .i64 ((rd_T35 l0 x7_2).f0)) ∧ w25.cell? ⟨(ad311.add ((x7_2).toNat * 3)).block, (ad311.add ((x7_2).toNat * 3)).off + 1, none⟩ = some (.string ((rd_T35 l0 x7_2).f1.f0)) ∧ w25.cell? ⟨(ad311.add ((x7_2).toNat * 3)).block, (ad311.add ((x7_2).toNat * 3)).off + 2, none⟩ = some (.string ((rd_T35 l0 x7_2).f1.f1)) := hS_
        refine norm_ (a' := ?_) ?_ ?_
        rotate_left
        ·
         simp only [putAll, Act.put, List.setIfInBounds_toArray, List.set_cons_zero, List.set_cons_succ]
         rfl
        refine one_ (i := 12) (N := none) #[true, true, true, true, true, true, true, true, true, true, true, true, true, false] rfl rfl (one_of HT_.out (by kernel_rfl)) (by decide) (fun K hK => ?_)
        have hs26 : w25.cell? ⟨gb315, 0, none⟩ = some (.string (⟨#[]⟩ : ByteArray)) := (blk_cell BK315.out 0).trans rfl
        have hfs26 := blk_frozen BK315.out 0
        have hns26_0 := NB299_315.out
        have hms26_0 := NB315_299.out
        have hs27 : w25.cell? ⟨gb315, 1, none⟩ = some (.string (⟨#[]⟩ : ByteArray)) := (blk_cell BK315.out 1).trans rfl
        have hfs27 := blk_frozen BK315.out 1
        have hns27_0 := NB299_315.out
        have hms27_0 := NB315_299.out
        refine skip_ (w1 := ?_) (by rfl) rfl ?_ ?_
        rotate_left
        ·
         go_simp
         rfl
        refine hK.out _ _ ⟨(cf NB299_315 ((cf NB299_315 (hHeld.1)))), (cf NB299_315 ((cf NB299_315 (hHeld.2.1)))), (cf NB299_315 ((cf NB299_315 (hHeld.2.2.1)))), ((cell_far (p := ⟨gb315, _, none⟩) (by first | exact Nat.ne_of_lt (Nat.lt_of_lt_of_le (by have := World.block_lt_of_cell? _ _ hw311_0; first | rwa [add_block] at this | exact this) GW315.out) | (rw [add_block]; exact Nat.ne_of_lt (Nat.lt_of_lt_of_le (by have := World.block_lt_of_cell? _ _ hw311_0; first | rwa [add_block] at this | exact this) GW315.out)) | (show (Addr.add _ _).block ≠ _; rw [add_block]; exact Nat.ne_of_lt (Nat.lt_of_lt_of_le (by have := World.block_lt_of_cell? _ _ hw311_0; first | rwa [add_block] at this | exact this) GW315.out)) | (dsimp only; exact Nat.ne_of_lt (Nat.lt_of_lt_of_le (by have := World.block_lt_of_cell? _ _ hw311_0; first | rwa [add_block] at this | exact this) GW315.out))) _).trans (((cell_far (p := ⟨gb315, _, none⟩) (by first | exact Nat.ne_of_lt (Nat.lt_of_lt_of_le (by have := World.block_lt_of_cell? _ _ hw311_0; first | rwa [add_block] at this | exact this) GW315.out) | (rw [add_block]; exact Nat.ne_of_lt (Nat.lt_of_lt_of_le (by have := World.block_lt_of_cell? _ _ hw311_0; first | rwa [add_block] at this | exact this) GW315.out)) | (show (Addr.add _ _).block ≠ _; rw [add_block]; exact Nat.ne_of_lt (Nat.lt_of_lt_of_le (by have := World.block_lt_of_cell? _ _ hw311_0; first | rwa [add_block] at this | exact this) GW315.out)) | (dsimp only; exact Nat.ne_of_lt (Nat.lt_of_lt_of_le (by have := World.block_lt_of_cell? _ _ hw311_0; first | rwa [add_block] at this | exact this) GW315.out))) _).trans (hHeld.2.2.2.1)))), ((cell_far (p := ⟨gb315, _, none⟩) (by first | exact Nat.ne_of_lt (Nat.lt_of_lt_of_le (by have := World.block_lt_of_cell? _ _ hw311_1; first | rwa [add_block] at this | exact this) GW315.out) | (rw [add_block]; exact Nat.ne_of_lt (Nat.lt_of_lt_of_le (by have := World.block_lt_of_cell? _ _ hw311_1; first | rwa [add_block] at this | exact this) GW315.out)) | (show (Addr.add _ _).block ≠ _; rw [add_block]; exact Nat.ne_of_lt (Nat.lt_of_lt_of_le (by have := World.block_lt_of_cell? _ _ hw311_1; first | rwa [add_block] at this | exact this) GW315.out)) | (dsimp only; exact Nat.ne_of_lt (Nat.lt_of_lt_of_le (by have := World.block_lt_of_cell? _ _ hw311_1; first | rwa [add_block] at this | exact this) GW315.out))) _).trans (((cell_far (p := ⟨gb315, _, none⟩) (by first | exact Nat.ne_of_lt (Nat.lt_of_lt_of_le (by have := World.block_lt_of_cell? _ _ hw311_1; first | rwa [add_block] at this | exact this) GW315.out) | (rw [add_block]; exact Nat.ne_of_lt (Nat.lt_of_lt_of_le (by have := World.block_lt_of_cell? _ _ hw311_1; first | rwa [add_block] at this | exact this) GW315.out)) | (show (Addr.add _ _).block ≠ _; rw [add_block]; exact Nat.ne_of_lt (Nat.lt_of_lt_of_le (by have := World.block_lt_of_cell? _ _ hw311_1; first | rwa [add_block] at this | exact this) GW315.out)) | (dsimp only; exact Nat.ne_of_lt (Nat.lt_of_lt_of_le (by have := World.block_lt_of_cell? _ _ hw311_1; first | rwa [add_block] at this | exact this) GW315.out))) _).trans (hHeld.2.2.2.2.1)))), ((cell_far (p := ⟨gb315, _, none⟩) (by first | exact Nat.ne_of_lt (Nat.lt_of_lt_of_le (by have := World.block_lt_of_cell? _ _ hw311_2; first | rwa [add_block] at this | exact this) GW315.out) | (rw [add_block]; exact Nat.ne_of_lt (Nat.lt_of_lt_of_le (by have := World.block_lt_of_cell? _ _ hw311_2; first | rwa [add_block] at this | exact this) GW315.out)) | (show (Addr.add _ _).block ≠ _; rw [add_block]; exact Nat.ne_of_lt (Nat.lt_of_lt_of_le (by have := World.block_lt_of_cell? _ _ hw311_2; first | rwa [add_block] at this | exact this) GW315.out)) | (dsimp only; exact Nat.ne_of_lt (Nat.lt_of_lt_of_le (by have := World.block_lt_of_cell? _ _ hw311_2; first | rwa [add_block] at this | exact this) GW315.out))) _).trans (((cell_far (p := ⟨gb315, _, none⟩) (by first | exact Nat.ne_of_lt (Nat.lt_of_lt_of_le (by have := World.block_lt_of_cell? _ _ hw311_2; first | rwa [add_block] at this | exact this) GW315.out) | (rw [add_block]; exact Nat.ne_of_lt (Nat.lt_of_lt_of_le (by have := World.block_lt_of_cell? _ _ hw311_2; first | rwa [add_block] at this | exact this) GW315.out)) | (show (Addr.add _ _).block ≠ _; rw [add_block]; exact Nat.ne_of_lt (Nat.lt_of_lt_of_le (by have := World.block_lt_of_cell? _ _ hw311_2; first | rwa [add_block] at this | exact this) GW315.out)) | (dsimp only; exact Nat.ne_of_lt (Nat.lt_of_lt_of_le (by have := World.block_lt_of_cell? _ _ hw311_2; first | rwa [add_block] at this | exact this) GW315.out))) _).trans (hHeld.2.2.2.2.2))))⟩ (fun hHeld => ?_)
        clear hK K
        refine pure_ (i := 13) (N := some 9) (v := ?_) (a' := ?_) #[true, true, true, true, true, true, true, true, true, true, true, true, true, true] rfl rfl (any_of HT_.out (by kernel_rfl)) (fun _ _ _ h => h) (Or.inl ⟨by rfl, ?_⟩) ?_ ?_
        rotate_left
        ·
         intro w'
         go_simp
         with_reducible rfl
        rotate_left
        ·
         simp only [sx]
         rfl
        refine done_ (done_of HT_.out (by kernel_rfl)) ?_
        go_upto_region 9 with (fail)
        go_cut [48] (fun v48 wc => ∃ (kq : Nat) (x48_20 : Bool), v48 = .bool x48_20 ∧ Aside0 (spec_CacheLearn.j2 kq l0 x5_2 x6_2 x7_2 x48_20 a1_0 a1_1 a1_2 = some r) ∧ Aside0 (kq ≤ k2) ∧ Aside0 (Kd.R k35 35 wc w.heap.size (fun k_ => k_ ≠ gb299) u5 x5_2) ∧ Aside0 (wc.heap[gb299]? = some (.cells #[.int .i64 a1_0, .string a1_1, .string a1_2] 35 (0, 0))) ∧ Aside0 (wc.heap[gb315]? = some (.cells #[.string t312, .string t313] 31 (0, 0))) ∧ Aside0 (Below w.heap.size w wc))
        case first =>
         have H := HC21.out
         clear HC21
         by_cases c28 : t314 = true
         ·
          subst c28
          rw [if_pos rfl] at H
          have H' := Aside0.mk H
          clear H
          try go_wp2
          have n0_ : Aside0 (Kd.R k35 35 ((w25.setCell ⟨gb315, 0, none⟩ (.string t312)).setCell ⟨gb315, 1, none⟩ (.string t313)) w.heap.size (fun k_ => k_ ≠ gb299) u5 x5_2) := ⟨by (with_reducible repeat (first | apply Kd.R_alloc | apply Kd.R_drewN | apply Kd.R_drew)); exact Kd.R_mono (kf 1 (kf 0 (Kd.R_types HO_5.out BK315.out (by decide)) (.string t312)) (.string t313)) (fun _ hk => hk.1)⟩
          have n1_ : Aside0 (((w25.setCell ⟨gb315, 0, none⟩ (.string t312)).setCell ⟨gb315, 1, none⟩ (.string t313)).heap[gb299]? = some (.cells #[.int .i64 a1_0, .string a1_1, .string a1_2] 35 (0, 0))) := ⟨by (with_reducible repeat (first | refine blk_drewN ?_ _ | refine blk_drew ?_ | refine blk_alloc ?_ _)); refine blk_far ?_ NB299_315.out _; (with_reducible repeat (first | refine blk_drewN ?_ _ | refine blk_drew ?_ | refine blk_alloc ?_ _)); refine blk_far ?_ NB299_315.out _; (with_reducible repeat (first | refine blk_drewN ?_ _ | refine blk_drew ?_ | refine blk_alloc ?_ _)); exact BK299.out⟩
          have n2_ : Aside0 (((w25.setCell ⟨gb315, 0, none⟩ (.string t312)).setCell ⟨gb315, 1, none⟩ (.string t313)).heap[gb315]? = some (.cells #[.string t312, .string t313] 31 (0, 0))) := ⟨by (with_reducible repeat (first | refine blk_drewN ?_ _ | refine blk_drew ?_ | refine blk_alloc ?_ _)); refine blk_put (cs := #[.string t312, .string (⟨#[]⟩ : ByteArray)]) ?_ 1 _ rfl; (with_reducible repeat (first | refine blk_drewN ?_ _ | refine blk_drew ?_ | refine blk_alloc ?_ _)); refine blk_put (cs := #[.string (⟨#[]⟩ : ByteArray), .string (⟨#[]⟩ : ByteArray)]) ?_ 0 _ rfl; (with_reducible repeat (first | refine blk_drewN ?_ _ | refine blk_drew ?_ | refine blk_alloc ?_ _)); exact BK315.out⟩
          have n3_ : Aside0 (Below w.heap.size w ((w25.setCell ⟨gb315, 0, none⟩ (.string t312)).setCell ⟨gb315, 1, none⟩ (.string t313))) := ⟨bz⟩
          (try clear HO_5)
          (try clear BK299)
          (try clear BK315)
          (try clear HB)
          generalize ((w25.setCell ⟨gb315, 0, none⟩ (.string t312)).setCell ⟨gb315, 1, none⟩ (.string t313)) = w29 at n0_ n1_ n2_ n3_ ⊢
          have HO_5 := n0_
          have BK299 := n1_
          have BK315 := n2_
          have HB := n3_
          clear n0_ n1_ n2_ n3_
          have n0_ := Aside0.mk (Kd.R_drew HO_5.out)
          have n1_ := Aside0.mk (blk_drew BK299.out)
          have n2_ := Aside0.mk (blk_drew BK315.out)
          have n3_ := Aside0.mk (below_drew1 HB.out)
          clear HO_5
          clear BK299
          clear BK315
          clear HB
          have HO_5 := n0_
          have BK299 := n1_
          have BK315 := n2_
          have HB := n3_
          clear n0_ n1_ n2_ n3_
          refine start_ (n := 11) (S := fun w' => True) (ds := []) #[false, false, false, false, false, false, false, false, false, false, false] (by kernel_rfl) rfl rfl trivial (fun hHeld => ?_); refine with_tabW spec_CacheLearn.tab9 spec_CacheLearn.bits9 (fun HT_ HW_ => ?_)
          generalize w29.drew = w30 at HO_5 BK299 BK315 HB hHeld ⊢
          refine pure_ (i := 0) (N := some 38) (v := ?_) (a' := ?_) #[true, false, false, false, false, false, false, false, false, false, false] rfl rfl (any_of HT_.out (by kernel_rfl)) (fun _ _ _ h => h) (Or.inl ⟨by rfl, ?_⟩) ?_ ?_
          rotate_left
          ·
           intro w'
           go_simp
           with_reducible rfl
          rotate_left
          ·
           simp only [sx]
           rfl
          refine pure_ (i := 1) (N := some 39) (v := ?_) (a' := ?_) #[true, true, false, false, false, false, false, false, false, false, false] rfl rfl (any_of HT_.out (by kernel_rfl)) (fun _ _ _ h => h) (Or.inl ⟨by rfl, ?_⟩) ?_ ?_
          rotate_left
          ·
           intro w'
           go_simp
           with_reducible rfl
          rotate_left
          ·
           simp only [sx]
           rfl
          refine pure_ (i := 2) (N := some 40) (v := undef) (a' := ?_) #[true, true, true, false, false, false, false, false, false, false, false] rfl rfl (any_of HT_.out (by kernel_rfl)) (fun _ _ _ h => h) (Or.inr ⟨by rfl, rfl⟩) ?_ ?_
          rotate_left
          ·
           simp only [sx]
           rfl
          refine pure_ (i := 3) (N := some 41) (v := undef) (a' := ?_) #[true, true, true, true, false, false, false, false, false, false, false] rfl rfl (any_of HT_.out (by kernel_rfl)) (fun _ _ _ h => h) (Or.inr ⟨by rfl, rfl⟩) ?_ ?_
          rotate_left
          ·
           simp only [sx]
           rfl
          refine pure_ (i := 4) (N := some 42) (v := undef) (a' := ?_) #[true, true, true, true, true, false, false, false, false, false, false] rfl rfl (any_of HT_.out (by kernel_rfl)) (fun _ _ _ h => h) (Or.inr ⟨by rfl, rfl⟩) ?_ ?_
          rotate_left
          ·
           simp only [sx]
           rfl
          refine pure_ (i := 5) (N := some 43) (v := undef) (a' := ?_) #[true, true, true, true, true, true, false, false, false, false, false] rfl rfl (any_of HT_.out (by kernel_rfl)) (fun _ _ _ h => h) (Or.inr ⟨by rfl, rfl⟩) ?_ ?_
          rotate_left
          ·
           simp only [sx]
           rfl
          refine pure_ (i := 6) (N := some 44) (v := undef) (a' := ?_) #[true, true, true, true, true, true, true, false, false, false, false] rfl rfl (any_of HT_.out (by kernel_rfl)) (fun _ _ _ h => h) (Or.inr ⟨by rfl, rfl⟩) ?_ ?_
          rotate_left
          ·
           simp only [sx]
           rfl
          refine pure_ (i := 7) (N := some 45) (v := undef) (a' := ?_) #[true, true, true, true, true, true, true, true, false, false, false] rfl rfl (any_of HT_.out (by kernel_rfl)) (fun _ _ _ h => h) (Or.inr ⟨by rfl, rfl⟩) ?_ ?_
          rotate_left
          ·
           simp only [sx]
           rfl
          refine pure_ (i := 8) (N := some 46) (v := undef) (a' := ?_) #[true, true, true, true, true, true, true, true, true, false, false] rfl rfl (any_of HT_.out (by kernel_rfl)) (fun _ _ _ h => h) (Or.inr ⟨by rfl, rfl⟩) ?_ ?_
          rotate_left
          ·
           simp only [sx]
           rfl
          refine pure_ (i := 9) (N := some 47) (v := undef) (a' := ?_) #[true, true, true, true, true, true, true, true, true, true, false] rfl rfl (any_of HT_.out (by kernel_rfl)) (fun _ _ _ h => h) (Or.inr ⟨by rfl, rfl⟩) ?_ ?_
          rotate_left
          ·
           simp only [sx]
           rfl
          refine pure_ (i := 10) (N := some 48) (v := ?_) (a' := ?_) #[true, true, true, true, true, true, true, true, true, true, true] rfl rfl (any_of HT_.out (by kernel_rfl)) (fun _ _ _ h => h) (Or.inl ⟨by rfl, ?_⟩) ?_ ?_
          rotate_left
          ·
           intro w'
           go_simp
           with_reducible rfl
          rotate_left
          ·
           simp only [sx]
           rfl
          refine done_ (done_of HT_.out (by kernel_rfl)) ?_
          try go_wp2
          go_meet
          case rel => exact ⟨_, (true), (by first | rfl | (simp; done) | exact congrArg Value.bool (ne_nil_b _) | exact congrArg Value.bool (eq_nil_b _) | (simp [*]; done)), H', ⟨by have := HJ2.out; have := HK2.out; first | omega | exact Nat.le_refl _⟩, ⟨by (with_reducible repeat (first | apply Kd.R_alloc | apply Kd.R_drewN | apply Kd.R_drew)); exact HO_5.out⟩, ⟨by (with_reducible repeat (first | refine blk_drewN ?_ _ | refine blk_drew ?_ | refine blk_alloc ?_ _)); exact BK299.out⟩, ⟨by (with_reducible repeat (first | refine blk_drewN ?_ _ | refine blk_drew ?_ | refine blk_alloc ?_ _)); exact BK315.out⟩, ⟨bz⟩⟩
         ·
          replace c28 := Bool.eq_false_iff.mpr c28
          subst c28
          rw [if_neg (show ¬ (false = true) by decide)] at H
          have H' := Aside0.mk H
          clear H
          try go_wp2
          have n0_ : Aside0 (Kd.R k35 35 ((w25.setCell ⟨gb315, 0, none⟩ (.string t312)).setCell ⟨gb315, 1, none⟩ (.string t313)) w.heap.size (fun k_ => k_ ≠ gb299) u5 x5_2) := ⟨by (with_reducible repeat (first | apply Kd.R_alloc | apply Kd.R_drewN | apply Kd.R_drew)); exact Kd.R_mono (kf 1 (kf 0 (Kd.R_types HO_5.out BK315.out (by decide)) (.string t312)) (.string t313)) (fun _ hk => hk.1)⟩
          have n1_ : Aside0 (((w25.setCell ⟨gb315, 0, none⟩ (.string t312)).setCell ⟨gb315, 1, none⟩ (.string t313)).heap[gb299]? = some (.cells #[.int .i64 a1_0, .string a1_1, .string a1_2] 35 (0, 0))) := ⟨by (with_reducible repeat (first | refine blk_drewN ?_ _ | refine blk_drew ?_ | refine blk_alloc ?_ _)); refine blk_far ?_ NB299_315.out _; (with_reducible repeat (first | refine blk_drewN ?_ _ | refine blk_drew ?_ | refine blk_alloc ?_ _)); refine blk_far ?_ NB299_315.out _; (with_reducible repeat (first | refine blk_drewN ?_ _ | refine blk_drew ?_ | refine blk_alloc ?_ _)); exact BK299.out⟩
          have n2_ : Aside0 (((w25.setCell ⟨gb315, 0, none⟩ (.string t312)).setCell ⟨gb315, 1, none⟩ (.string t313)).heap[gb315]? = some (.cells #[.string t312, .string t313] 31 (0, 0))) := ⟨by (with_reducible repeat (first | refine blk_drewN ?_ _ | refine blk_drew ?_ | refine blk_alloc ?_ _)); refine blk_put (cs := #[.string t312, .string (⟨#[]⟩ : ByteArray)]) ?_ 1 _ rfl; (with_reducible repeat (first | refine blk_drewN ?_ _ | refine blk_drew ?_ | refine blk_alloc ?_ _)); refine blk_put (cs := #[.string (⟨#[]⟩ : ByteArray), .string (⟨#[]⟩ : ByteArray)]) ?_ 0 _ rfl; (with_reducible repeat (first | refine blk_drewN ?_ _ | refine blk_drew ?_ | refine blk_alloc ?_ _)); exact BK315.out⟩
          have n3_ : Aside0 (Below w.heap.size w ((w25.setCell ⟨gb315, 0, none⟩ (.string t312)).setCell ⟨gb315, 1, none⟩ (.string t313))) := ⟨bz⟩
          (try clear HO_5)
          (try clear BK299)
          (try clear BK315)
          (try clear HB)
          generalize ((w25.setCell ⟨gb315, 0, none⟩ (.string t312)).setCell ⟨gb315, 1, none⟩ (.string t313)) = w31 at n0_ n1_ n2_ n3_ ⊢
          have HO_5 := n0_
          have BK299 := n1_
          have BK315 := n2_
          have HB := n3_
          clear n0_ n1_ n2_ n3_
          have n0_ := Aside0.mk (Kd.R_drew HO_5.out)
          have n1_ := Aside0.mk (blk_drew BK299.out)
          have n2_ := Aside0.mk (blk_drew BK315.out)
          have n3_ := Aside0.mk (below_drew1 HB.out)
          clear HO_5
          clear BK299
          clear BK315
          clear HB
          have HO_5 := n0_
          have BK299 := n1_
          have BK315 := n2_
          have HB := n3_
          clear n0_ n1_ n2_ n3_
          have p316 : 0 ≤ (x7_2 : Int) := of_decide_eq_true (by first | (with_reducible assumption) | assumption)
          have q316 : x7_2 < (l0.length : Int) := of_decide_eq_true (by first | (with_reducible assumption) | assumption)
          obtain ⟨ad316, e316, hx316_0, hx316_1, hx316_2⟩ := at_T35 HR0.out x7_2 p316 q316
          have hw316_2 := hx316_2
          have hw316_1 := hx316_1
          have hw316_0 := hx316_0
          obtain rfl : ad311 = ad316 := (by injection e316)
          replace hx316_0 := (HB.out.cell (World.block_lt_of_cell? w _ hx316_0)).trans hx316_0
          replace hx316_1 := (HB.out.cell (World.block_lt_of_cell? w _ hx316_1)).trans hx316_1
          replace hx316_2 := (HB.out.cell (World.block_lt_of_cell? w _ hx316_2)).trans hx316_2
          replace p316 := eq_true p316
          replace q316 := eq_true q316
          refine start_ (n := 11) (S := fun w' => w'.cell? ⟨gb299, 0, none⟩ = some (.int .i64 a1_0) ∧ w'.cell? ⟨gb299, 1, none⟩ = some (.string a1_1) ∧ w'.cell? ⟨gb299, 2, none⟩ = some (.string a1_2) ∧ w'.cell? (ad311.add ((x7_2).toNat * 3)) = some (.int .i64 ((rd_T35 l0 x7_2).f0)) ∧ w'.cell? ⟨(ad311.add ((x7_2).toNat * 3)).block, (ad311.add ((x7_2).toNat * 3)).off + 1, none⟩ = some (.string ((rd_T35 l0 x7_2).f1.f0)) ∧ w'.cell? ⟨(ad311.add ((x7_2).toNat * 3)).block, (ad311.add ((x7_2).toNat * 3)).off + 2, none⟩ = some (.string ((rd_T35 l0 x7_2).f1.f1))) (ds := []) #[false, false, false, false, false, false, false, false, false, false, false] (by kernel_rfl) rfl rfl ⟨(blk_cell BK299.out 0).trans rfl, (blk_cell BK299.out 1).trans rfl, (blk_cell BK299.out 2).trans rfl, ((HB.out.cell (World.block_lt_of_cell? w _ hw316_0)).trans hw316_0), ((HB.out.cell (World.block_lt_of_cell? w _ hw316_1)).trans hw316_1), ((HB.out.cell (World.block_lt_of_cell? w _ hw316_2)).trans hw316_2)⟩ (fun hHeld => ?_); refine with_tabW spec_CacheLearn.tab9 spec_CacheLearn.bits9 (fun HT_ HW_ => ?_)
          generalize w31.drew = w32 at HO_5 BK299 BK315 HB hx316_0 hx316_1 hx316_2 hHeld ⊢
          refine pure_ (i := 0) (N := some 38) (v := ?_) (a' := ?_) #[true, false, false, false, false, false, false, false, false, false, false] rfl rfl (any_of HT_.out (by kernel_rfl)) (fun _ _ _ h => h) (Or.inl ⟨by rfl, ?_⟩) ?_ ?_
          rotate_left
          ·
           intro w'
           go_simp
           with_reducible rfl
          rotate_left
          ·
           simp only [sx]
           rfl
          refine pure_ (i := 1) (N := some 39) (v := ?_) (a' := ?_) #[true, true, false, false, false, false, false, false, false, false, false] rfl rfl (any_of HT_.out (by kernel_rfl)) (fun _ _ _ h => h) (Or.inl ⟨by rfl, ?_⟩) ?_ ?_
          rotate_left
          ·
           intro w'
           go_simp
           with_reducible rfl
          rotate_left
          ·
           simp only [sx]
           rfl
          refine pure_ (i := 2) (N := some 40) (v := ?_) (a' := ?_) #[true, true, true, false, false, false, false, false, false, false, false] rfl rfl (any_of HT_.out (by kernel_rfl)) (fun _ _ _ h => h) (Or.inl ⟨by rfl, ?_⟩) ?_ ?_
          rotate_left
          ·
           intro w'
           go_simp
           with_reducible rfl
          rotate_left
          ·
           simp only [sx]
           rfl
          refine pure_ (i := 3) (N := some 41) (v := ?_) (a' := ?_) #[true, true, true, true, false, false, false, false, false, false, false] rfl rfl (any_of HT_.out (by kernel_rfl)) (fun _ _ _ h => h) (Or.inl ⟨by rfl, ?_⟩) ?_ ?_
          rotate_left
          ·
           intro w'
           go_simp
           with_reducible rfl
          rotate_left
          ·
           simp only [sx]
           rfl
          refine pure_ (i := 4) (N := some 42) (v := ?_) (a' := ?_) #[true, true, true, true, true, false, false, false, false, false, false] rfl rfl (any_of HT_.out (by kernel_rfl)) (fun _ _ _ h => h) (Or.inl ⟨by rfl, ?_⟩) ?_ ?_
          rotate_left
          ·
           intro w'
           go_simp
           with_reducible rfl
          rotate_left
          ·
           simp only [sx]
           rfl
          refine pure_ (i := 5) (N := some 43) (v := ?_) (a' := ?_) #[true, true, true, true, true, true, false, false, false, false, false] rfl rfl (any_of HT_.out (by kernel_rfl)) (fun _ _ _ h => h) (Or.inl ⟨by rfl, ?_⟩) ?_ ?_
          rotate_left
          ·
           intro w'
           go_simp
           with_reducible rfl
          rotate_left
          ·
           simp only [sx]
           rfl
          refine pure_ (i := 7) (N := some 45) (v := ?_) (a' := ?_) #[true, true, true, true, true, true, false, true, false, false, false] rfl rfl (any_of HT_.out (by kernel_rfl)) (fun _ _ _ h => h) (Or.inl ⟨by rfl, ?_⟩) ?_ ?_
          rotate_left
          ·
           intro w'
           go_simp
           with_reducible rfl
          rotate_left
          ·
           simp only [sx]
           rfl
          refine take_ (i := 6) (N := some 44) (v := ?_) (a' := ?_) #[true, true, true, true, true, true, true, true, false, false, false] rfl rfl (take_ofW HT_.out HW_.out (by kernel_rfl)) (fun _ _ _ h => h) (Or.inl ⟨by rfl, ?_⟩) hHeld ?_ ?_
          rotate_left
          ·
           rintro w' ⟨s0, s1, s2, s3, s4, s5⟩
           go_simp
           with_reducible rfl
          rotate_left
          ·
           simp only [sx]
           rfl
          refine take_ (i := 8) (N := some 46) (v := ?_) (a' := ?_) #[true, true, true, true, true, true, true, true, true, false, false] rfl rfl (take_ofW HT_.out HW_.out (by kernel_rfl)) (fun _ _ _ h => h) (Or.inl ⟨by rfl, ?_⟩) hHeld ?_ ?_
          rotate_left
          ·
           rintro w' ⟨s0, s1, s2, s3, s4, s5⟩
           go_simp
           with_reducible rfl
          rotate_left
          ·
           simp only [sx]
           rfl
          refine pure_ (i := 9) (N := some 47) (v := ?_) (a' := ?_) #[true, true, true, true, true, true, true, true, true, true, false] rfl rfl (any_of HT_.out (by kernel_rfl)) (fun _ _ _ h => h) (Or.inl ⟨by rfl, ?_⟩) ?_ ?_
          rotate_left
          ·
           intro w'
           go_simp
           with_reducible rfl
          rotate_left
          ·
           simp only [sx]
           rfl
          refine pure_ (i := 10) (N := some 48) (v := ?_) (a' := ?_) #[true, true, true, true, true, true, true, true, true, true, true] rfl rfl (any_of HT_.out (by kernel_rfl)) (fun _ _ _ h => h) (Or.inl ⟨by rfl, ?_⟩) ?_ ?_
          rotate_left
          ·
           intro w'
           go_simp
           with_reducible rfl
          rotate_left
          ·
           simp only [sx]
           rfl
          refine done_ (done_of HT_.out (by kernel_rfl)) ?_
          try go_wp2
          go_meet
          case rel => exact ⟨_, ((((rd_T35 l0 x7_2).f0) == a1_0)), (by first | rfl | (simp; done) | exact congrArg Value.bool (ne_nil_b _) | exact congrArg Value.bool (eq_nil_b _) | (simp [*]; done)), H', ⟨by have := HJ2.out; have := HK2.out; first | omega | exact Nat.le_refl _⟩, ⟨by (with_reducible repeat (first | apply Kd.R_alloc | apply Kd.R_drewN | apply Kd.R_drew)); exact HO_5.out⟩, ⟨by (with_reducible repeat (first | refine blk_drewN ?_ _ | refine blk_drew ?_ | refine blk_alloc ?_ _)); exact BK299.out⟩, ⟨by (with_reducible repeat (first | refine blk_drewN ?_ _ | refine blk_drew ?_ | refine blk_alloc ?_ _)); exact BK315.out⟩, ⟨bz⟩⟩
        case rest =>
         clear HC21
         try clear c1
         try clear c2
         try clear p2
         try clear c3
         try clear p3
         try clear q3
         try clear hx3
         try clear c5
         try clear c8
         try clear c10
         try clear c17
         try clear c18
         try clear c18b0
         try clear c19
         try clear c19b0
         try clear c28
         try clear p31
         try clear q31
         try clear hx31
         try clear hcz11_0 hcz11_1 hcz11_2
         try clear hfz11_0 hfz11_1 hfz11_2
         try clear hx311_0
         try clear hx311_1
         try clear hx311_2
         try clear hx316_0
         try clear hx316_1
         try clear hx316_2
         try clear p2
         try clear p311
         try clear p316
         try clear q311
         try clear q316
         obtain ⟨kq, x48_20, rfl, HA, HJ20, HO_5, BK299, BK315, HB⟩ := hcut
         cases kq with
         | zero => exact absurd HA.out (by simp [spec_CacheLearn.j2])
         | succ kj20 =>
          have H := HA.out
          clear HA
          simp only [spec_CacheLearn.j2] at H
          by_cases c33 : x48_20 = true
          ·
           subst c33
           rw [if_pos rfl] at H
           have H' := Aside0.mk H
           clear H
           go_wp2
           go_roundg kj20
           case measure => have := HJ2.out; have := HK2.out; have := HJ20.out; omega
           case rel => exact ⟨(x5_2), (x6_2), (wrap64 (x7_2 + 1)), (by first | rfl | (simp; done) | exact congrArg Value.bool (ne_nil_b _) | exact congrArg Value.bool (eq_nil_b _) | (simp [*]; done)), (by first | rfl | (simp; done) | exact congrArg Value.bool (ne_nil_b _) | exact congrArg Value.bool (eq_nil_b _) | (simp [*]; done)), H', ⟨by have := HJ2.out; have := HK2.out; have := HJ20.out; omega⟩, ⟨by (with_reducible repeat (first | apply Kd.R_alloc | apply Kd.R_drewN | apply Kd.R_drew)); exact HO_5.out⟩, ⟨by (with_reducible repeat (first | refine blk_drewN ?_ _ | refine blk_drew ?_ | refine blk_alloc ?_ _)); exact BK299.out⟩, ⟨bz⟩⟩
          ·
           replace c33 := Bool.eq_false_iff.mpr c33
           subst c33
           rw [if_neg (show ¬ (false = true) by decide)] at H
           by_cases c34 : x6_2 = true
           ·
            subst c34
            rw [if_pos rfl] at H
            by_cases c35 : 0 ≤ x7_2
            ·
             rw [if_pos c35] at H
             have c35b0 : decide (0 ≤ x7_2) = true := decide_eq_true c35
             clear c35
             by_cases c36 : x7_2 < (l0.length : Int)
             ·
              rw [if_pos c36] at H
              have c36b0 : decide (x7_2 < (l0.length : Int)) = true := decide_eq_true c36
              clear c36
              by_cases c37 : x5_2.length < 3518437208883
              ·
               rw [if_pos c37] at H
               have LMc37 := Aside0.mk c37
               clear c37
               obtain ⟨y318, hy318⟩ : ∃ y_ : List (S35), y_ = (x5_2 ++ [(⟨(rd_T35 l0 x7_2).f0, (⟨(rd_T35 l0 x7_2).f1.f0, (rd_T35 l0 x7_2).f1.f1⟩ : S31)⟩ : S35)]) := ⟨_, rfl⟩
               replace H : (spec_CacheLearn.l0 kj20 l0 y318 true (wrap64 (x7_2 + 1)) a1_0 a1_1 a1_2) = some r := by first | (rw [hy318]; with_reducible exact H) | (have H2_ := (Option.bind_some _ _).symm.trans H; rw [hy318]; with_reducible exact H2_) | (have H2_ := (Option.bind_some _ _).symm.trans H; with_reducible exact H2_) | with_reducible exact H | (rw [hy318]; exact H) | exact H
               have Ny318 := Aside0.mk hy318
               clear hy318
               have H' := Aside0.mk H
               clear H
               try go_wp2
               have n0_ := Aside0.mk (Kd.R_drew HO_5.out)
               have n1_ := Aside0.mk (blk_drew BK299.out)
               have n2_ := Aside0.mk (blk_drew BK315.out)
               have n3_ := Aside0.mk (below_drew1 HB.out)
               clear HO_5
               clear BK299
               clear BK315
               clear HB
               have HO_5 := n0_
               have BK299 := n1_
               have BK315 := n2_
               have HB := n3_
               clear n0_ n1_ n2_ n3_
               refine start_ (n := 14) (S := fun w' => True) (ds := []) #[false, false, false, false, false, false, false, false, false, false, false, false, false, false] (by kernel_rfl) rfl rfl trivial (fun hHeld => ?_); refine with_tabW spec_CacheLearn.tab10 spec_CacheLearn.bits10 (fun HT_ HW_ => ?_)
               generalize wc.drew = w38 at HO_5 BK299 BK315 HB hHeld ⊢
               refine pure_ (i := 0) (N := some 49) (v := ?_) (a' := ?_) #[true, false, false, false, false, false, false, false, false, false, false, false, false, false] rfl rfl (any_of HT_.out (by kernel_rfl)) (fun _ _ _ h => h) (Or.inl ⟨by rfl, ?_⟩) ?_ ?_
               rotate_left
               ·
                intro w'
                go_simp
                with_reducible rfl
               rotate_left
               ·
                simp only [sx]
                rfl
               refine pure_ (i := 1) (N := some 50) (v := ?_) (a' := ?_) #[true, true, false, false, false, false, false, false, false, false, false, false, false, false] rfl rfl (any_of HT_.out (by kernel_rfl)) (fun _ _ _ h => h) (Or.inl ⟨by rfl, ?_⟩) ?_ ?_
               rotate_left
               ·
                intro w'
                go_simp
                with_reducible rfl
               rotate_left
               ·
                simp only [sx]
                rfl
               refine pure_ (i := 2) (N := some 51) (v := ?_) (a' := ?_) #[true, true, true, false, false, false, false, false, false, false, false, false, false, false] rfl rfl (any_of HT_.out (by kernel_rfl)) (fun _ _ _ h => h) (Or.inl ⟨by rfl, ?_⟩) ?_ ?_
               rotate_left
               ·
                intro w'
                go_simp
                with_reducible rfl
               rotate_left
               ·
                simp only [sx]
                rfl
               refine pure_ (i := 3) (N := some 52) (v := undef) (a' := ?_) #[true, true, true, true, false, false, false, false, false, false, false, false, false, false] rfl rfl (any_of HT_.out (by kernel_rfl)) (fun _ _ _ h => h) (Or.inr ⟨by rfl, rfl⟩) ?_ ?_
               rotate_left
               ·
                simp only [sx]
                rfl
               refine pure_ (i := 4) (N := some 53) (v := undef) (a' := ?_) #[true, true, true, true, true, false, false, false, false, false, false, false, false, false] rfl rfl (any_of HT_.out (by kernel_rfl)) (fun _ _ _ h => h) (Or.inr ⟨by rfl, rfl⟩) ?_ ?_
               rotate_left
               ·
                simp only [sx]
                rfl
               refine pure_ (i := 5) (N := some 54) (v := undef) (a' := ?_) #[true, true, true, true, true, true, false, false, false, false, false, false, false, false] rfl rfl (any_of HT_.out (by kernel_rfl)) (fun _ _ _ h => h) (Or.inr ⟨by rfl, rfl⟩) ?_ ?_
               rotate_left
               ·
                simp only [sx]
                rfl
               refine pure_ (i := 6) (N := some 55) (v := undef) (a' := ?_) #[true, true, true, true, true, true, true, false, false, false, false, false, false, false] rfl rfl (any_of HT_.out (by kernel_rfl)) (fun _ _ _ h => h) (Or.inr ⟨by rfl, rfl⟩) ?_ ?_
               rotate_left
               ·
                simp only [sx]
                rfl
               refine pure_ (i := 7) (N := some 56) (v := undef) (a' := ?_) #[true, true, true, true, true, true, true, true, false, false, false, false, false, false] rfl rfl (any_of HT_.out (by kernel_rfl)) (fun _ _ _ h => h) (Or.inr ⟨by rfl, rfl⟩) ?_ ?_
               rotate_left
               ·
                simp only [sx]
                rfl
               refine pure_ (i := 8) (N := some 57) (v := undef) (a' := ?_) #[true, true, true, true, true, true, true, true, true, false, false, false, false, false] rfl rfl (any_of HT_.out (by kernel_rfl)) (fun _ _ _ h => h) (Or.inr ⟨by rfl, rfl⟩) ?_ ?_
               rotate_left
               ·
                simp only [sx]
                rfl
               refine pure_ (i := 9) (N := some 58) (v := undef) (a' := ?_) #[true, true, true, true, true, true, true, true, true, true, false, false, false, false] rfl rfl (any_of HT_.out (by kernel_rfl)) (fun _ _ _ h => h) (Or.inr ⟨by rfl, rfl⟩) ?_ ?_
               rotate_left
               ·
                simp only [sx]
                rfl
               refine pure_ (i := 10) (N := some 59) (v := undef) (a' := ?_) #[true, true, true, true, true, true, true, true, true, true, true, false, false, false] rfl rfl (any_of HT_.out (by kernel_rfl)) (fun _ _ _ h => h) (Or.inr ⟨by rfl, rfl⟩) ?_ ?_
               rotate_left
               ·
                simp only [sx]
                rfl
               refine pure_ (i := 11) (N := some 60) (v := undef) (a' := ?_) #[true, true, true, true, true, true, true, true, true, true, true, true, false, false] rfl rfl (any_of HT_.out (by kernel_rfl)) (fun _ _ _ h => h) (Or.inr ⟨by rfl, rfl⟩) ?_ ?_
               rotate_left
               ·
                simp only [sx]
                rfl
               refine pure_ (i := 12) (N := some 61) (v := undef) (a' := ?_) #[true, true, true, true, true, true, true, true, true, true, true, true, true, false] rfl rfl (any_of HT_.out (by kernel_rfl)) (fun _ _ _ h => h) (Or.inr ⟨by rfl, rfl⟩) ?_ ?_
               rotate_left
               ·
                simp only [sx]
                rfl
               refine pure_ (i := 13) (N := some 62) (v := ?_) (a' := ?_) #[true, true, true, true, true, true, true, true, true, true, true, true, true, true] rfl rfl (any_of HT_.out (by kernel_rfl)) (fun _ _ _ h => h) (Or.inl ⟨by rfl, ?_⟩) ?_ ?_
               rotate_left
               ·
                intro w'
                go_simp
                with_reducible rfl
               rotate_left
               ·
                simp only [sx]
                rfl
               refine done_ (done_of HT_.out (by kernel_rfl)) ?_
               have p317 : 0 ≤ (x7_2 : Int) := of_decide_eq_true (by first | (with_reducible assumption) | assumption)
               have q317 : x7_2 < (l0.length : Int) := of_decide_eq_true (by first | (with_reducible assumption) | assumption)
               obtain ⟨ad317, e317, hx317_0, hx317_1, hx317_2⟩ := at_T35 HR0.out x7_2 p317 q317
               obtain rfl : ad311 = ad317 := (by injection e317)
               replace hx317_0 := (HB.out.cell (World.block_lt_of_cell? w _ hx317_0)).trans hx317_0
               replace hx317_1 := (HB.out.cell (World.block_lt_of_cell? w _ hx317_1)).trans hx317_1
               replace hx317_2 := (HB.out.cell (World.block_lt_of_cell? w _ hx317_2)).trans hx317_2
               replace p317 := eq_true p317
               replace q317 := eq_true q317
               try go_wp2_with (first | ((with_reducible refine gate_builtin (b := .append) (xs := #[.tmp 67, .tmp 72]) rfl ?_); (try (refine gate_guard (by rfl) ?_; dsimp only)); at_builtin; refine Kd.R_append k35 (w0 := w) w.heap.size rfl (.tmp 67) (.tmp 72) 23 35 (.agg #[(.int .i64 0), (.string ⟨#[]⟩), (.string ⟨#[]⟩)]) 40 rfl Try.underlying23 info35 rfl (by decide) (by omega) u5 x5_2 (⟨(rd_T35 l0 x7_2).f0, (⟨(rd_T35 l0 x7_2).f1.f0, (rd_T35 l0 x7_2).f1.f1⟩ : S31)⟩ : S35) [.int .i64 ((rd_T35 l0 x7_2).f0), .string ((rd_T35 l0 x7_2).f1.f0), .string ((rd_T35 l0 x7_2).f1.f1)] (fun k_ => k_ ≠ gb299) (fun _ => False) rfl rfl ?aP (fun _ hk => hk.elim) ?aF ?aO ?aB ?aS ?aL ?_; (case aP => exact k35_mkM _ _ _ (⟨(rd_T35 l0 x7_2).f0, (⟨(rd_T35 l0 x7_2).f1.f0, (rd_T35 l0 x7_2).f1.f1⟩ : S31)⟩ : S35)); (case aB => exact (bz)); (case aF => exact (fun k_ hk => Kd.freshB (g := gb299) (o := .cells #[.int .i64 a1_0, .string a1_1, .string a1_2] 35 (0, 0)) (bq BK299) k_ hk)); (case aO => exact (by (with_reducible repeat (first | apply Kd.R_alloc | apply Kd.R_drewN | apply Kd.R_drew)); exact HO_5.out)); (case aS => exact (below_size (bz))); (case aL => have := LMc37.out; omega); intro v319 w39 ho hb hg hat; rw [← Ny318.out] at ho; have n0_ := Aside0.mk (blk_grown (g := gb299) (o := .cells #[.int .i64 a1_0, .string a1_1, .string a1_2] 35 (0, 0)) (bq BK299) hg (Kd.R_away HO_5.out (fun _ hk => hk))); have n1_ := Aside0.mk (blk_grown (g := gb315) (o := .cells #[.string t312, .string t313] 31 (0, 0)) (bq BK315) hg (Kd.R_ne HO_5.out BK315.out (by decide))); have n2_ := Aside0.mk (hb); have n3_ := Aside0.mk (ho); clear BK299 BK315 HB HO_5; have BK299 := n0_; have BK315 := n1_; have HB := n2_; have HO320 := n3_; clear n0_ n1_ n2_ n3_; clear ho hb hg hat))
               go_roundg kj20
               case measure => have := HJ2.out; have := HK2.out; have := HJ20.out; omega
               case rel => exact ⟨(y318), (true), (wrap64 (x7_2 + 1)), (by first | rfl | (simp; done) | exact congrArg Value.bool (ne_nil_b _) | exact congrArg Value.bool (eq_nil_b _) | (simp [*]; done)), (by first | rfl | (simp; done) | exact congrArg Value.bool (ne_nil_b _) | exact congrArg Value.bool (eq_nil_b _) | (simp [*]; done)), H', ⟨by have := HJ2.out; have := HK2.out; have := HJ20.out; omega⟩, ⟨by (with_reducible repeat (first | apply Kd.R_alloc | apply Kd.R_drewN | apply Kd.R_drew)); exact HO320.out⟩, ⟨by (with_reducible repeat (first | refine blk_drewN ?_ _ | refine blk_drew ?_ | refine blk_alloc ?_ _)); exact BK299.out⟩, ⟨bz⟩⟩
              ·
               rw [if_neg c37] at H
               exact absurd H (by simp)
             ·
              rw [if_neg c36] at H
              exact absurd H (by simp)
            ·
             rw [if_neg c35] at H
             exact absurd H (by simp)
           ·
            replace c34 := Bool.eq_false_iff.mpr c34
            subst c34
            rw [if_neg (show ¬ (false = true) by decide)] at H
            by_cases c40 : 0 ≤ x7_2
            ·
             rw [if_pos c40] at H
             have c40b0 : decide (0 ≤ x7_2) = true := decide_eq_true c40
             clear c40
             by_cases c41 : x7_2 < (l0.length : Int)
             ·
              rw [if_pos c41] at H
              have c41b0 : decide (x7_2 < (l0.length : Int)) = true := decide_eq_true c41
              clear c41
              by_cases c42 : (Op.bytesLess a1_1.toList (((rd_T35 l0 x7_2).f1.f0).toList)) = true
              ·
               rw [if_pos c42] at H
               have c42b0 : (Op.bytesLess a1_1.toList (((rd_T35 l0 x7_2).f1.f0).toList)) = true := c42
               clear c42
               by_cases c43 : x5_2.length < 3518437208883
               ·
                rw [if_pos c43] at H
                have LMc43 := Aside0.mk c43
                clear c43
                obtain ⟨y322, hy322⟩ : ∃ y_ : List (S35), y_ = (x5_2 ++ [(⟨a1_0, (⟨a1_1, a1_2⟩ : S31)⟩ : S35)]) := ⟨_, rfl⟩
                replace H : (if y322.length < 3518437208883 then (spec_CacheLearn.l0 kj20 l0 (y322 ++ [(⟨(rd_T35 l0 x7_2).f0, (⟨(rd_T35 l0 x7_2).f1.f0, (rd_T35 l0 x7_2).f1.f1⟩ : S31)⟩ : S35)]) true (wrap64 (x7_2 + 1)) a1_0 a1_1 a1_2) else (none)) = some r := by first | (rw [hy322]; with_reducible exact H) | (have H2_ := (Option.bind_some _ _).symm.trans H; rw [hy322]; with_reducible exact H2_) | (have H2_ := (Option.bind_some _ _).symm.trans H; with_reducible exact H2_) | with_reducible exact H | (rw [hy322]; exact H) | exact H
                have Ny322 := Aside0.mk hy322
                clear hy322
                by_cases c44 : y322.length < 3518437208883
                ·
                 rw [if_pos c44] at H
                 have LMc44 := Aside0.mk c44
                 clear c44
                 obtain ⟨y326, hy326⟩ : ∃ y_ : List (S35), y_ = (y322 ++ [(⟨(rd_T35 l0 x7_2).f0, (⟨(rd_T35 l0 x7_2).f1.f0, (rd_T35 l0 x7_2).f1.f1⟩ : S31)⟩ : S35)]) := ⟨_, rfl⟩
                 replace H : (spec_CacheLearn.l0 kj20 l0 y326 true (wrap64 (x7_2 + 1)) a1_0 a1_1 a1_2) = some r := by first | (rw [hy326]; with_reducible exact H) | (have H2_ := (Option.bind_some _ _).symm.trans H; rw [hy326]; with_reducible exact H2_) | (have H2_ := (Option.bind_some _ _).symm.trans H; with_reducible exact H2_) | with_reducible exact H | (rw [hy326]; exact H) | exact H
                 have Ny326 := Aside0.mk hy326
                 clear hy326
                 have H' := Aside0.mk H
                 clear H
                 try go_wp2
                 have n0_ := Aside0.mk (Kd.R_drew HO_5.out)
                 have n1_ := Aside0.mk (blk_drew BK299.out)
                 have n2_ := Aside0.mk (blk_drew BK315.out)
                 have n3_ := Aside0.mk (below_drew1 HB.out)
                 clear HO_5
                 clear BK299
                 clear BK315
                 clear HB
                 have HO_5 := n0_
                 have BK299 := n1_
                 have BK315 := n2_
                 have HB := n3_
                 clear n0_ n1_ n2_ n3_
                 have p321 : 0 ≤ (x7_2 : Int) := of_decide_eq_true (by first | (with_reducible assumption) | assumption)
                 have q321 : x7_2 < (l0.length : Int) := of_decide_eq_true (by first | (with_reducible assumption) | assumption)
                 obtain ⟨ad321, e321, hx321_0, hx321_1, hx321_2⟩ := at_T35 HR0.out x7_2 p321 q321
                 have hw321_2 := hx321_2
                 have hw321_1 := hx321_1
                 have hw321_0 := hx321_0
                 obtain rfl : ad311 = ad321 := (by injection e321)
                 replace hx321_0 := (HB.out.cell (World.block_lt_of_cell? w _ hx321_0)).trans hx321_0
                 replace hx321_1 := (HB.out.cell (World.block_lt_of_cell? w _ hx321_1)).trans hx321_1
                 replace hx321_2 := (HB.out.cell (World.block_lt_of_cell? w _ hx321_2)).trans hx321_2
                 replace p321 := eq_true p321
                 replace q321 := eq_true q321
                 refine start_ (n := 14) (S := fun w' => w'.cell? ⟨gb299, 0, none⟩ = some (.int .i64 a1_0) ∧ w'.cell? ⟨gb299, 1, none⟩ = some (.string a1_1) ∧ w'.cell? ⟨gb299, 2, none⟩ = some (.string a1_2) ∧ w'.cell? (ad311.add ((x7_2).toNat * 3)) = some (.int .i64 ((rd_T35 l0 x7_2).f0)) ∧ w'.cell? ⟨(ad311.add ((x7_2).toNat * 3)).block, (ad311.add ((x7_2).toNat * 3)).off + 1, none⟩ = some (.string ((rd_T35 l0 x7_2).f1.f0)) ∧ w'.cell? ⟨(ad311.add ((x7_2).toNat * 3)).block, (ad311.add ((x7_2).toNat * 3)).off + 2, none⟩ = some (.string ((rd_T35 l0 x7_2).f1.f1))) (ds := []) #[false, false, false, false, false, false, false, false, false, false, false, false, false, false] (by kernel_rfl) rfl rfl ⟨(blk_cell BK299.out 0).trans rfl, (blk_cell BK299.out 1).trans rfl, (blk_cell BK299.out 2).trans rfl, ((HB.out.cell (World.block_lt_of_cell? w _ hw321_0)).trans hw321_0), ((HB.out.cell (World.block_lt_of_cell? w _ hw321_1)).trans hw321_1), ((HB.out.cell (World.block_lt_of_cell? w _ hw321_2)).trans hw321_2)⟩ (fun hHeld => ?_); refine with_tabW spec_CacheLearn.tab10 spec_CacheLearn.bits10 (fun HT_ HW_ => ?_)
                 generalize wc.drew = w45 at HO_5 BK299 BK315 HB hx321_0 hx321_1 hx321_2 hHeld ⊢
                 refine pure_ (i := 0) (N := some 49) (v := ?_) (a' := ?_) #[true, false, false, false, false, false, false, false, false, false, false, false, false, false] rfl rfl (any_of HT_.out (by kernel_rfl)) (fun _ _ _ h => h) (Or.inl ⟨by rfl, ?_⟩) ?_ ?_
                 rotate_left
                 ·
                  intro w'
                  go_simp
                  with_reducible rfl
                 rotate_left
                 ·
                  simp only [sx]
                  rfl
                 refine pure_ (i := 1) (N := some 50) (v := ?_) (a' := ?_) #[true, true, false, false, false, false, false, false, false, false, false, false, false, false] rfl rfl (any_of HT_.out (by kernel_rfl)) (fun _ _ _ h => h) (Or.inl ⟨by rfl, ?_⟩) ?_ ?_
                 rotate_left
                 ·
                  intro w'
                  go_simp
                  with_reducible rfl
                 rotate_left
                 ·
                  simp only [sx]
                  rfl
                 refine pure_ (i := 2) (N := some 51) (v := ?_) (a' := ?_) #[true, true, true, false, false, false, false, false, false, false, false, false, false, false] rfl rfl (any_of HT_.out (by kernel_rfl)) (fun _ _ _ h => h) (Or.inl ⟨by rfl, ?_⟩) ?_ ?_
                 rotate_left
                 ·
                  intro w'
                  go_simp
                  with_reducible rfl
                 rotate_left
                 ·
                  simp only [sx]
                  rfl
                 refine pure_ (i := 3) (N := some 52) (v := ?_) (a' := ?_) #[true, true, true, true, false, false, false, false, false, false, false, false, false, false] rfl rfl (any_of HT_.out (by kernel_rfl)) (fun _ _ _ h => h) (Or.inl ⟨by rfl, ?_⟩) ?_ ?_
                 rotate_left
                 ·
                  intro w'
                  go_simp
                  with_reducible rfl
                 rotate_left
                 ·
                  simp only [sx]
                  rfl
                 refine pure_ (i := 4) (N := some 53) (v := ?_) (a' := ?_) #[true, true, true, true, true, false, false, false, false, false, false, false, false, false] rfl rfl (any_of HT_.out (by kernel_rfl)) (fun _ _ _ h => h) (Or.inl ⟨by rfl, ?_⟩) ?_ ?_
                 rotate_left
                 ·
                  intro w'
                  go_simp
                  with_reducible rfl
                 rotate_left
                 ·
                  simp only [sx]
                  rfl
                 refine pure_ (i := 5) (N := some 54) (v := ?_) (a' := ?_) #[true, true, true, true, true, true, false, false, false, false, false, false, false, false] rfl rfl (any_of HT_.out (by kernel_rfl)) (fun _ _ _ h => h) (Or.inl ⟨by rfl, ?_⟩) ?_ ?_
                 rotate_left
                 ·
                  intro w'
                  go_simp
                  with_reducible rfl
                 rotate_left
                 ·
                  simp only [sx]
                  rfl
                 refine pure_ (i := 6) (N := some 55) (v := ?_) (a' := ?_) #[true, true, true, true, true, true, true, false, false, false, false, false, false, false] rfl rfl (any_of HT_.out (by kernel_rfl)) (fun _ _ _ h => h) (Or.inl ⟨by rfl, ?_⟩) ?_ ?_
                 rotate_left
                 ·
                  intro w'
                  go_simp
                  with_reducible rfl
                 rotate_left
                 ·
                  simp only [sx]
                  rfl
                 refine pure_ (i := 7) (N := some 56) (v := ?_) (a' := ?_) #[true, true, true, true, true, true, true, true, false, false, false, false, false, false] rfl rfl (any_of HT_.out (by kernel_rfl)) (fun _ _ _ h => h) (Or.inl ⟨by rfl, ?_⟩) ?_ ?_
                 rotate_left
                 ·
                  intro w'
                  go_simp
                  with_reducible rfl
                 rotate_left
                 ·
                  simp only [sx]
                  rfl
                 refine pure_ (i := 9) (N := some 58) (v := ?_) (a' := ?_) #[true, true, true, true, true, true, true, true, false, true, false, false, false, false] rfl rfl (any_of HT_.out (by kernel_rfl)) (fun _ _ _ h => h) (Or.inl ⟨by rfl, ?_⟩) ?_ ?_
                 rotate_left
                 ·
                  intro w'
                  go_simp
                  with_reducible rfl
                 rotate_left
                 ·
                  simp only [sx]
                  rfl
                 refine pure_ (i := 10) (N := some 59) (v := ?_) (a' := ?_) #[true, true, true, true, true, true, true, true, false, true, true, false, false, false] rfl rfl (any_of HT_.out (by kernel_rfl)) (fun _ _ _ h => h) (Or.inl ⟨by rfl, ?_⟩) ?_ ?_
                 rotate_left
                 ·
                  intro w'
                  go_simp
                  with_reducible rfl
                 rotate_left
                 ·
                  simp only [sx]
                  rfl
                 refine take_ (i := 8) (N := some 57) (v := ?_) (a' := ?_) #[true, true, true, true, true, true, true, true, true, true, true, false, false, false] rfl rfl (take_ofW HT_.out HW_.out (by kernel_rfl)) (fun _ _ _ h => h) (Or.inl ⟨by rfl, ?_⟩) hHeld ?_ ?_
                 rotate_left
                 ·
                  rintro w' ⟨s0, s1, s2, s3, s4, s5⟩
                  go_simp
                  with_reducible rfl
                 rotate_left
                 ·
                  simp only [sx]
                  rfl
                 refine take_ (i := 11) (N := some 60) (v := ?_) (a' := ?_) #[true, true, true, true, true, true, true, true, true, true, true, true, false, false] rfl rfl (take_ofW HT_.out HW_.out (by kernel_rfl)) (fun _ _ _ h => h) (Or.inl ⟨by rfl, ?_⟩) hHeld ?_ ?_
                 rotate_left
                 ·
                  rintro w' ⟨s0, s1, s2, s3, s4, s5⟩
                  go_simp
                  with_reducible rfl
                 rotate_left
                 ·
                  simp only [sx]
                  rfl
                 refine pure_ (i := 12) (N := some 61) (v := ?_) (a' := ?_) #[true, true, true, true, true, true, true, true, true, true, true, true, true, false] rfl rfl (any_of HT_.out (by kernel_rfl)) (fun _ _ _ h => h) (Or.inl ⟨by rfl, ?_⟩) ?_ ?_
                 rotate_left
                 ·
                  intro w'
                  go_simp
                  with_reducible rfl
                 rotate_left
                 ·
                  simp only [sx]
                  rfl
                 refine pure_ (i := 13) (N := some 62) (v := ?_) (a' := ?_) #[true, true, true, true, true, true, true, true, true, true, true, true, true, true] rfl rfl (any_of HT_.out (by kernel_rfl)) (fun _ _ _ h => h) (Or.inl ⟨by rfl, ?_⟩) ?_ ?_
                 rotate_left
                 ·
                  intro w'
                  go_simp
                  with_reducible rfl
                 rotate_left
                 ·
                  simp only [sx]
                  rfl
                 refine done_ (done_of HT_.out (by kernel_rfl)) ?_
                 have hnb46 := NB299_315.out
                 have hnc46 := NB315_299.out
                 obtain ⟨hcz47_0, hcz47_1, hcz47_2⟩ := cl3 BK299
                 obtain ⟨hfz47_0, hfz47_1, hfz47_2⟩ := fz3 BK299
                 try go_wp2_with (first | ((with_reducible refine gate_builtin (b := .append) (xs := #[.tmp 63, .tmp 65]) rfl ?_); (try (refine gate_guard (by rfl) ?_; dsimp only)); at_builtin; refine Kd.R_append k35 (w0 := w) w.heap.size rfl (.tmp 63) (.tmp 65) 23 35 (.agg #[(.int .i64 0), (.string ⟨#[]⟩), (.string ⟨#[]⟩)]) 40 rfl Try.underlying23 info35 rfl (by decide) (by omega) u5 x5_2 (⟨a1_0, (⟨a1_1, a1_2⟩ : S31)⟩ : S35) [.int .i64 a1_0, .string a1_1, .string a1_2] (fun k_ => k_ ≠ gb299) (fun _ => False) rfl rfl ?aP (fun _ hk => hk.elim) ?aF ?aO ?aB ?aS ?aL ?_; (case aP => exact k35_mkM _ _ _ (⟨a1_0, (⟨a1_1, a1_2⟩ : S31)⟩ : S35)); (case aB => exact (bz)); (case aF => exact (fun k_ hk => Kd.freshB (g := gb299) (o := .cells #[.int .i64 a1_0, .string a1_1, .string a1_2] 35 (0, 0)) (bq BK299) k_ hk)); (case aO => exact (by (with_reducible repeat (first | apply Kd.R_alloc | apply Kd.R_drewN | apply Kd.R_drew)); exact HO_5.out)); (case aS => exact (below_size (bz))); (case aL => have := LMc43.out; omega); intro v323 w48 ho hb hg hat; rw [← Ny322.out] at ho; have n0_ := Aside0.mk (blk_grown (g := gb299) (o := .cells #[.int .i64 a1_0, .string a1_1, .string a1_2] 35 (0, 0)) (bq BK299) hg (Kd.R_away HO_5.out (fun _ hk => hk))); have n1_ := Aside0.mk (blk_grown (g := gb315) (o := .cells #[.string t312, .string t313] 31 (0, 0)) (bq BK315) hg (Kd.R_ne HO_5.out BK315.out (by decide))); have n2_ := Aside0.mk (hb); have n3_ := Aside0.mk (ho); clear BK299 BK315 HB HO_5; have BK299 := n0_; have BK315 := n1_; have HB := n2_; have HO324 := n3_; clear n0_ n1_ n2_ n3_; clear ho hb hg hat; have p325 : 0 ≤ (x7_2 : Int) := of_decide_eq_true (by first | (with_reducible assumption) | assumption); have q325 : x7_2 < (l0.length : Int) := of_decide_eq_true (by first | (with_reducible assumption) | assumption); obtain ⟨ad325, e325, hx325_0, hx325_1, hx325_2⟩ := at_T35 HR0.out x7_2 p325 q325; obtain rfl : ad311 = ad325 := (by injection e325); replace hx325_0 := (HB.out.cell (World.block_lt_of_cell? w _ hx325_0)).trans hx325_0; replace hx325_1 := (HB.out.cell (World.block_lt_of_cell? w _ hx325_1)).trans hx325_1; replace hx325_2 := (HB.out.cell (World.block_lt_of_cell? w _ hx325_2)).trans hx325_2; replace p325 := eq_true p325; replace q325 := eq_true q325) | ((with_reducible refine gate_builtin (b := .append) (xs := #[.tmp 67, .tmp 72]) rfl ?_); (try (refine gate_guard (by rfl) ?_; dsimp only)); at_builtin; refine Kd.R_append k35 (w0 := w) w.heap.size rfl (.tmp 67) (.tmp 72) 23 35 (.agg #[(.int .i64 0), (.string ⟨#[]⟩), (.string ⟨#[]⟩)]) 40 rfl Try.underlying23 info35 rfl (by decide) (by omega) v323 y322 (⟨(rd_T35 l0 x7_2).f0, (⟨(rd_T35 l0 x7_2).f1.f0, (rd_T35 l0 x7_2).f1.f1⟩ : S31)⟩ : S35) [.int .i64 ((rd_T35 l0 x7_2).f0), .string ((rd_T35 l0 x7_2).f1.f0), .string ((rd_T35 l0 x7_2).f1.f1)] (fun k_ => k_ ≠ gb299) (fun _ => False) rfl rfl ?aP (fun _ hk => hk.elim) ?aF ?aO ?aB ?aS ?aL ?_; (case aP => exact k35_mkM _ _ _ (⟨(rd_T35 l0 x7_2).f0, (⟨(rd_T35 l0 x7_2).f1.f0, (rd_T35 l0 x7_2).f1.f1⟩ : S31)⟩ : S35)); (case aB => exact (bz)); (case aF => exact (fun k_ hk => Kd.freshB (g := gb299) (o := .cells #[.int .i64 a1_0, .string a1_1, .string a1_2] 35 (0, 0)) (bq BK299) k_ hk)); (case aO => exact (by (with_reducible repeat (first | apply Kd.R_alloc | apply Kd.R_drewN | apply Kd.R_drew)); exact HO324.out)); (case aS => exact (below_size (bz))); (case aL => have := LMc44.out; omega); intro v327 w49 ho hb hg hat; rw [← Ny326.out] at ho; have n0_ := Aside0.mk (blk_grown (g := gb299) (o := .cells #[.int .i64 a1_0, .string a1_1, .string a1_2] 35 (0, 0)) (bq BK299) hg (Kd.R_away HO324.out (fun _ hk => hk))); have n1_ := Aside0.mk (blk_grown (g := gb315) (o := .cells #[.string t312, .string t313] 31 (0, 0)) (bq BK315) hg (Kd.R_ne HO324.out BK315.out (by decide))); have n2_ := Aside0.mk (hb); have n3_ := Aside0.mk (ho); clear BK299 BK315 HB HO324; have BK299 := n0_; have BK315 := n1_; have HB := n2_; have HO328 := n3_; clear n0_ n1_ n2_ n3_; clear ho hb hg hat))
                 go_roundg kj20
                 case measure => have := HJ2.out; have := HK2.out; have := HJ20.out; omega
                 case rel => exact ⟨(y326), (true), (wrap64 (x7_2 + 1)), (by first | rfl | (simp; done) | exact congrArg Value.bool (ne_nil_b _) | exact congrArg Value.bool (eq_nil_b _) | (simp [*]; done)), (by first | rfl | (simp; done) | exact congrArg Value.bool (ne_nil_b _) | exact congrArg Value.bool (eq_nil_b _) | (simp [*]; done)), H', ⟨by have := HJ2.out; have := HK2.out; have := HJ20.out; omega⟩, ⟨by (with_reducible repeat (first | apply Kd.R_alloc | apply Kd.R_drewN | apply Kd.R_drew)); exact HO328.out⟩, ⟨by (with_reducible repeat (first | refine blk_drewN ?_ _ | refine blk_drew ?_ | refine blk_alloc ?_ _)); exact BK299.out⟩, ⟨bz⟩⟩
                ·
                 rw [if_neg c44] at H
                 exact absurd H (by simp)
               ·
                rw [if_neg c43] at H
                exact absurd H (by simp)
              ·
               rw [if_neg c42] at H
               have c42b0 : (Op.bytesLess a1_1.toList (((rd_T35 l0 x7_2).f1.f0).toList)) = false := by simpa using c42
               clear c42
               by_cases c50 : x5_2.length < 3518437208883
               ·
                rw [if_pos c50] at H
                have LMc50 := Aside0.mk c50
                clear c50
                obtain ⟨y330, hy330⟩ : ∃ y_ : List (S35), y_ = (x5_2 ++ [(⟨(rd_T35 l0 x7_2).f0, (⟨(rd_T35 l0 x7_2).f1.f0, (rd_T35 l0 x7_2).f1.f1⟩ : S31)⟩ : S35)]) := ⟨_, rfl⟩
                replace H : (spec_CacheLearn.l0 kj20 l0 y330 false (wrap64 (x7_2 + 1)) a1_0 a1_1 a1_2) = some r := by first | (rw [hy330]; with_reducible exact H) | (have H2_ := (Option.bind_some _ _).symm.trans H; rw [hy330]; with_reducible exact H2_) | (have H2_ := (Option.bind_some _ _).symm.trans H; with_reducible exact H2_) | with_reducible exact H | (rw [hy330]; exact H) | exact H
                have Ny330 := Aside0.mk hy330
                clear hy330
                have H' := Aside0.mk H
                clear H
                try go_wp2
                have n0_ := Aside0.mk (Kd.R_drew HO_5.out)
                have n1_ := Aside0.mk (blk_drew BK299.out)
                have n2_ := Aside0.mk (blk_drew BK315.out)
                have n3_ := Aside0.mk (below_drew1 HB.out)
                clear HO_5
                clear BK299
                clear BK315
                clear HB
                have HO_5 := n0_
                have BK299 := n1_
                have BK315 := n2_
                have HB := n3_
                clear n0_ n1_ n2_ n3_
                have p321 : 0 ≤ (x7_2 : Int) := of_decide_eq_true (by first | (with_reducible assumption) | assumption)
                have q321 : x7_2 < (l0.length : Int) := of_decide_eq_true (by first | (with_reducible assumption) | assumption)
                obtain ⟨ad321, e321, hx321_0, hx321_1, hx321_2⟩ := at_T35 HR0.out x7_2 p321 q321
                have hw321_2 := hx321_2
                have hw321_1 := hx321_1
                have hw321_0 := hx321_0
                obtain rfl : ad311 = ad321 := (by injection e321)
                replace hx321_0 := (HB.out.cell (World.block_lt_of_cell? w _ hx321_0)).trans hx321_0
                replace hx321_1 := (HB.out.cell (World.block_lt_of_cell? w _ hx321_1)).trans hx321_1
                replace hx321_2 := (HB.out.cell (World.block_lt_of_cell? w _ hx321_2)).trans hx321_2
                replace p321 := eq_true p321
                replace q321 := eq_true q321
                refine start_ (n := 14) (S := fun w' => w'.cell? ⟨gb299, 0, none⟩ = some (.int .i64 a1_0) ∧ w'.cell? ⟨gb299, 1, none⟩ = some (.string a1_1) ∧ w'.cell? ⟨gb299, 2, none⟩ = some (.string a1_2) ∧ w'.cell? (ad311.add ((x7_2).toNat * 3)) = some (.int .i64 ((rd_T35 l0 x7_2).f0)) ∧ w'.cell? ⟨(ad311.add ((x7_2).toNat * 3)).block, (ad311.add ((x7_2).toNat * 3)).off + 1, none⟩ = some (.string ((rd_T35 l0 x7_2).f1.f0)) ∧ w'.cell? ⟨(ad311.add ((x7_2).toNat * 3)).block, (ad311.add ((x7_2).toNat * 3)).off + 2, none⟩ = some (.string ((rd_T35 l0 x7_2).f1.f1))) (ds := []) #[false, false, false, false, false, false, false, false, false, false, false, false, false, false] (by kernel_rfl) rfl rfl ⟨(blk_cell BK299.out 0).trans rfl, (blk_cell BK299.out 1).trans rfl, (blk_cell BK299.out 2).trans rfl, ((HB.out.cell (World.block_lt_of_cell? w _ hw321_0)).trans hw321_0), ((HB.out.cell (World.block_lt_of_cell? w _ hw321_1)).trans hw321_1), ((HB.out.cell (World.block_lt_of_cell? w _ hw321_2)).trans hw321_2)⟩ (fun hHeld => ?_); refine with_tabW spec_CacheLearn.tab10 spec_CacheLearn.bits10 (fun HT_ HW_ => ?_)
                generalize wc.drew = w51 at HO_5 BK299 BK315 HB hx321_0 hx321_1 hx321_2 hHeld ⊢
                refine pure_ (i := 0) (N := some 49) (v := ?_) (a' := ?_) #[true, false, false, false, false, false, false, false, false, false, false, false, false, false] rfl rfl (any_of HT_.out (by kernel_rfl)) (fun _ _ _ h => h) (Or.inl ⟨by rfl, ?_⟩) ?_ ?_
                rotate_left
                ·
                 intro w'
                 go_simp
                 with_reducible rfl
                rotate_left
                ·
                 simp only [sx]
                 rfl
                refine pure_ (i := 1) (N := some 50) (v := ?_) (a' := ?_) #[true, true, false, false, false, false, false, false, false, false, false, false, false, false] rfl rfl (any_of HT_.out (by kernel_rfl)) (fun _ _ _ h => h) (Or.inl ⟨by rfl, ?_⟩) ?_ ?_
                rotate_left
                ·
                 intro w'
                 go_simp
                 with_reducible rfl
                rotate_left
                ·
                 simp only [sx]
                 rfl
                refine pure_ (i := 2) (N := some 51) (v := ?_) (a' := ?_) #[true, true, true, false, false, false, false, false, false, false, false, false, false, false] rfl rfl (any_of HT_.out (by kernel_rfl)) (fun _ _ _ h => h) (Or.inl ⟨by rfl, ?_⟩) ?_ ?_
                rotate_left
                ·
                 intro w'
                 go_simp
                 with_reducible rfl
                rotate_left
                ·
                 simp only [sx]
                 rfl
                refine pure_ (i := 3) (N := some 52) (v := ?_) (a' := ?_) #[true, true, true, true, false, false, false, false, false, false, false, false, false, false] rfl rfl (any_of HT_.out (by kernel_rfl)) (fun _ _ _ h => h) (Or.inl ⟨by rfl, ?_⟩) ?_ ?_
                rotate_left
                ·
                 intro w'
                 go_simp
                 with_reducible rfl
                rotate_left
                ·
                 simp only [sx]
                 rfl
                refine pure_ (i := 4) (N := some 53) (v := ?_) (a' := ?_) #[true, true, true, true, true, false, false, false, false, false, false, false, false, false] rfl rfl (any_of HT_.out (by kernel_rfl)) (fun _ _ _ h => h) (Or.inl ⟨by rfl, ?_⟩) ?_ ?_
                rotate_left
                ·
                 intro w'
                 go_simp
                 with_reducible rfl
                rotate_left
                ·
                 simp only [sx]
                 rfl
                refine pure_ (i := 5) (N := some 54) (v := ?_) (a' := ?_) #[true, true, true, true, true, true, false, false, false, false, false, false, false, false] rfl rfl (any_of HT_.out (by kernel_rfl)) (fun _ _ _ h => h) (Or.inl ⟨by rfl, ?_⟩) ?_ ?_
                rotate_left
                ·
                 intro w'
                 go_simp
                 with_reducible rfl
                rotate_left
                ·
                 simp only [sx]
                 rfl
                refine pure_ (i := 6) (N := some 55) (v := ?_) (a' := ?_) #[true, true, true, true, true, true, true, false, false, false, false, false, false, false] rfl rfl (any_of HT_.out (by kernel_rfl)) (fun _ _ _ h => h) (Or.inl ⟨by rfl, ?_⟩) ?_ ?_
                rotate_left
                ·
                 intro w'
                 go_simp
                 with_reducible rfl
                rotate_left
                ·
                 simp only [sx]
                 rfl
                refine pure_ (i := 7) (N := some 56) (v := ?_) (a' := ?_) #[true, true, true, true, true, true, true, true, false, false, false, false, false, false] rfl rfl (any_of HT_.out (by kernel_rfl)) (fun _ _ _ h => h) (Or.inl ⟨by rfl, ?_⟩) ?_ ?_
                rotate_left
                ·
                 intro w'
                 go_simp
                 with_reducible rfl
                rotate_left
                ·
                 simp only [sx]
                 rfl
                refine pure_ (i := 9) (N := some 58) (v := ?_) (a' := ?_) #[true, true, true, true, true, true, true, true, false, true, false, false, false, false] rfl rfl (any_of HT_.out (by kernel_rfl)) (fun _ _ _ h => h) (Or.inl ⟨by rfl, ?_⟩) ?_ ?_
                rotate_left
                ·
                 intro w'
                 go_simp
                 with_reducible rfl
                rotate_left
                ·
                 simp only [sx]
                 rfl
                refine pure_ (i := 10) (N := some 59) (v := ?_) (a' := ?_) #[true, true, true, true, true, true, true, true, false, true, true, false, false, false] rfl rfl (any_of HT_.out (by kernel_rfl)) (fun _ _ _ h => h) (Or.inl ⟨by rfl, ?_⟩) ?_ ?_
                rotate_left
                ·
                 intro w'
                 go_simp
                 with_reducible rfl
                rotate_left
                ·
                 simp only [sx]
                 rfl
                refine take_ (i := 8) (N := some 57) (v := ?_) (a' := ?_) #[true, true, true, true, true, true, true, true, true, true, true, false, false, false] rfl rfl (take_ofW HT_.out HW_.out (by kernel_rfl)) (fun _ _ _ h => h) (Or.inl ⟨by rfl, ?_⟩) hHeld ?_ ?_
                rotate_left
                ·
                 rintro w' ⟨s0, s1, s2, s3, s4, s5⟩
                 go_simp
                 with_reducible rfl
                rotate_left
                ·
                 simp only [sx]
                 rfl
                refine take_ (i := 11) (N := some 60) (v := ?_) (a' := ?_) #[true, true, true, true, true, true, true, true, true, true, true, true, false, false] rfl rfl (take_ofW HT_.out HW_.out (by kernel_rfl)) (fun _ _ _ h => h) (Or.inl ⟨by rfl, ?_⟩) hHeld ?_ ?_
                rotate_left
                ·
                 rintro w' ⟨s0, s1, s2, s3, s4, s5⟩
                 go_simp
                 with_reducible rfl
                rotate_left
                ·
                 simp only [sx]
                 rfl
                refine pure_ (i := 12) (N := some 61) (v := ?_) (a' := ?_) #[true, true, true, true, true, true, true, true, true, true, true, true, true, false] rfl rfl (any_of HT_.out (by kernel_rfl)) (fun _ _ _ h => h) (Or.inl ⟨by rfl, ?_⟩) ?_ ?_
                rotate_left
                ·
                 intro w'
                 go_simp
                 with_reducible rfl
                rotate_left
                ·
                 simp only [sx]
                 rfl
                refine pure_ (i := 13) (N := some 62) (v := ?_) (a' := ?_) #[true, true, true, true, true, true, true, true, true, true, true, true, true, true] rfl rfl (any_of HT_.out (by kernel_rfl)) (fun _ _ _ h => h) (Or.inl ⟨by rfl, ?_⟩) ?_ ?_
                rotate_left
                ·
                 intro w'
                 go_simp
                 with_reducible rfl
                rotate_left
                ·
                 simp only [sx]
                 rfl
                refine done_ (done_of HT_.out (by kernel_rfl)) ?_
                have p329 : 0 ≤ (x7_2 : Int) := of_decide_eq_true (by first | (with_reducible assumption) | assumption)
                have q329 : x7_2 < (l0.length : Int) := of_decide_eq_true (by first | (with_reducible assumption) | assumption)
                obtain ⟨ad329, e329, hx329_0, hx329_1, hx329_2⟩ := at_T35 HR0.out x7_2 p329 q329
                obtain rfl : ad311 = ad329 := (by injection e329)
                replace hx329_0 := (HB.out.cell (World.block_lt_of_cell? w _ hx329_0)).trans hx329_0
                replace hx329_1 := (HB.out.cell (World.block_lt_of_cell? w _ hx329_1)).trans hx329_1
                replace hx329_2 := (HB.out.cell (World.block_lt_of_cell? w _ hx329_2)).trans hx329_2
                replace p329 := eq_true p329
                replace q329 := eq_true q329
                try go_wp2_with (first | ((with_reducible refine gate_builtin (b := .append) (xs := #[.tmp 67, .tmp 72]) rfl ?_); (try (refine gate_guard (by rfl) ?_; dsimp only)); at_builtin; refine Kd.R_append k35 (w0 := w) w.heap.size rfl (.tmp 67) (.tmp 72) 23 35 (.agg #[(.int .i64 0), (.string ⟨#[]⟩), (.string ⟨#[]⟩)]) 40 rfl Try.underlying23 info35 rfl (by decide) (by omega) u5 x5_2 (⟨(rd_T35 l0 x7_2).f0, (⟨(rd_T35 l0 x7_2).f1.f0, (rd_T35 l0 x7_2).f1.f1⟩ : S31)⟩ : S35) [.int .i64 ((rd_T35 l0 x7_2).f0), .string ((rd_T35 l0 x7_2).f1.f0), .string ((rd_T35 l0 x7_2).f1.f1)] (fun k_ => k_ ≠ gb299) (fun _ => False) rfl rfl ?aP (fun _ hk => hk.elim) ?aF ?aO ?aB ?aS ?aL ?_; (case aP => exact k35_mkM _ _ _ (⟨(rd_T35 l0 x7_2).f0, (⟨(rd_T35 l0 x7_2).f1.f0, (rd_T35 l0 x7_2).f1.f1⟩ : S31)⟩ : S35)); (case aB => exact (bz)); (case aF => exact (fun k_ hk => Kd.freshB (g := gb299) (o := .cells #[.int .i64 a1_0, .string a1_1, .string a1_2] 35 (0, 0)) (bq BK299) k_ hk)); (case aO => exact (by (with_reducible repeat (first | apply Kd.R_alloc | apply Kd.R_drewN | apply Kd.R_drew)); exact HO_5.out)); (case aS => exact (below_size (bz))); (case aL => have := LMc50.out; omega); intro v331 w52 ho hb hg hat; rw [← Ny330.out] at ho; have n0_ := Aside0.mk (blk_grown (g := gb299) (o := .cells #[.int .i64 a1_0, .string a1_1, .string a1_2] 35 (0, 0)) (bq BK299) hg (Kd.R_away HO_5.out (fun _ hk => hk))); have n1_ := Aside0.mk (blk_grown (g := gb315) (o := .cells #[.string t312, .string t313] 31 (0, 0)) (bq BK315) hg (Kd.R_ne HO_5.out BK315.out (by decide))); have n2_ := Aside0.mk (hb); have n3_ := Aside0.mk (ho); clear BK299 BK315 HB HO_5; have BK299 := n0_; have BK315 := n1_; have HB := n2_; have HO332 := n3_; clear n0_ n1_ n2_ n3_; clear ho hb hg hat))
                go_roundg kj20
                case measure => have := HJ2.out; have := HK2.out; have := HJ20.out; omega
                case rel => exact ⟨(y330), (false), (wrap64 (x7_2 + 1)), (by first | rfl | (simp; done) | exact congrArg Value.bool (ne_nil_b _) | exact congrArg Value.bool (eq_nil_b _) | (simp [*]; done)), (by first | rfl | (simp; done) | exact congrArg Value.bool (ne_nil_b _) | exact congrArg Value.bool (eq_nil_b _) | (simp [*]; done)), H', ⟨by have := HJ2.out; have := HK2.out; have := HJ20.out; omega⟩, ⟨by (with_reducible repeat (first | apply Kd.R_alloc | apply Kd.R_drewN | apply Kd.R_drew)); exact HO332.out⟩, ⟨by (with_reducible repeat (first | refine blk_drewN ?_ _ | refine blk_drew ?_ | refine blk_alloc ?_ _)); exact BK299.out⟩, ⟨bz⟩⟩
               ·
                rw [if_neg c50] at H
                exact absurd H (by simp)
             ·
              rw [if_neg c41] at H
              exact absurd H (by simp)
            ·
             rw [if_neg c40] at H
             exact absurd H (by simp)
       ·
        rw [if_neg c19] at H
        exact absurd H (by simp)
      ·
       rw [if_neg c18] at H
       have c18b0 : decide (x7_2 < (l0.length : Int)) = false := decide_eq_false c18
       clear c18
       by_cases c53 : x6_2 = true
       ·
        subst c53
        rw [if_pos rfl] at H
        obtain rfl := Option.some.inj H
        go_wp2
        go_ret
        exact ⟨_, by first | rfl | (simp only [u8w, w64m]; rfl) | (simp [errW_none, errW_some] <;> rfl) | (simp [*, errW_none, errW_some] <;> rfl), by (with_reducible repeat (first | apply Kd.R_alloc | apply Kd.R_drewN | apply Kd.R_drew)); exact Kd.R_mono HO_5.out (fun _ hk => trivial), bz⟩
       ·
        replace c53 := Bool.eq_false_iff.mpr c53
        subst c53
        rw [if_neg (show ¬ (false = true) by decide)] at H
        by_cases c54 : x5_2.length < 3518437208883
        ·
         rw [if_pos c54] at H
         have LMc54 := Aside0.mk c54
         clear c54
         obtain ⟨y308, hy308⟩ : ∃ y_ : List (S35), y_ = (x5_2 ++ [(⟨a1_0, (⟨a1_1, a1_2⟩ : S31)⟩ : S35)]) := ⟨_, rfl⟩
         replace H : (some y308) = some r := by first | (rw [hy308]; with_reducible exact H) | (have H2_ := (Option.bind_some _ _).symm.trans H; rw [hy308]; with_reducible exact H2_) | (have H2_ := (Option.bind_some _ _).symm.trans H; with_reducible exact H2_) | with_reducible exact H | (rw [hy308]; exact H) | exact H
         have Ny308 := Aside0.mk hy308
         clear hy308
         obtain rfl := Option.some.inj H
         obtain ⟨hcz55_0, hcz55_1, hcz55_2⟩ := cl3 BK299
         obtain ⟨hfz55_0, hfz55_1, hfz55_2⟩ := fz3 BK299
         go_wp2_with (first | ((with_reducible refine gate_builtin (b := .append) (xs := #[.tmp 76, .tmp 78]) rfl ?_); (try (refine gate_guard (by rfl) ?_; dsimp only)); at_builtin; refine Kd.R_append k35 (w0 := w) w.heap.size rfl (.tmp 76) (.tmp 78) 23 35 (.agg #[(.int .i64 0), (.string ⟨#[]⟩), (.string ⟨#[]⟩)]) 40 rfl Try.underlying23 info35 rfl (by decide) (by omega) u5 x5_2 (⟨a1_0, (⟨a1_1, a1_2⟩ : S31)⟩ : S35) [.int .i64 a1_0, .string a1_1, .string a1_2] (fun k_ => k_ ≠ gb299) (fun _ => False) rfl rfl ?aP (fun _ hk => hk.elim) ?aF ?aO ?aB ?aS ?aL ?_; (case aP => exact k35_mkM _ _ _ (⟨a1_0, (⟨a1_1, a1_2⟩ : S31)⟩ : S35)); (case aB => exact (bz)); (case aF => exact (fun k_ hk => Kd.freshB (g := gb299) (o := .cells #[.int .i64 a1_0, .string a1_1, .string a1_2] 35 (0, 0)) (bq BK299) k_ hk)); (case aO => exact (by (with_reducible repeat (first | apply Kd.R_alloc | apply Kd.R_drewN | apply Kd.R_drew)); exact HO_5.out)); (case aS => exact (below_size (bz))); (case aL => have := LMc54.out; omega); intro v309 w56 ho hb hg hat; rw [← Ny308.out] at ho; have n0_ := Aside0.mk (blk_grown (g := gb299) (o := .cells #[.int .i64 a1_0, .string a1_1, .string a1_2] 35 (0, 0)) (bq BK299) hg (Kd.R_away HO_5.out (fun _ hk => hk))); have n1_ := Aside0.mk (hb); have n2_ := Aside0.mk (ho); clear BK299 HB HO_5; have BK299 := n0_; have HB := n1_; have HO310 := n2_; clear n0_ n1_ n2_; clear ho hb hg hat))
         go_ret
         exact ⟨_, by first | rfl | (simp only [u8w, w64m]; rfl) | (simp [errW_none, errW_some] <;> rfl) | (simp [*, errW_none, errW_some] <;> rfl), by (with_reducible repeat (first | apply Kd.R_alloc | apply Kd.R_drewN | apply Kd.R_drew)); exact Kd.R_mono HO310.out (fun _ hk => trivial), bz⟩
        ·
         rw [if_neg c54] at H
         exact absurd H (by simp)

end Go.Proofs.Ytkjkokljgbpbbaa.PFnGiveUp
