/- Go functions as plain Lean functions, and for each a proof that its call comes to what the function says; under the conditions that each theorem names. Written by a program of this session. -/
import Derived.Test.YtoajkkfnblpnlaaPFnPlanSealx0
import Derived.Test.YtoajkkfnblpnlaaPFnPlanSealx5
import Derived.Test.YtoajkkfnblpnlaaPFnPlanSealx6
namespace Go.Proofs.Ytoajkkfnblpnlaa.PFnPlanSeal
open Go.RowKit Go.Proofs.YtoajkkfnblpnlaaW.PrintWords Go.Proofs.YtoajkkfnblpnlaaW.PrintLast Go.Proofs.YtoajkkfnblpnlaaW.PrintMore
attribute [local go_sem high] str_gtr str_leq str_geq
attribute [local go_sem] max2_int min2_int max_two min_two max_three min_three max_four min_four   -- for this text's walks alone
set_option linter.unusedVariables false
set_option linter.unusedSimpArgs false

/-! ### spec_DrawPlanSeal: function 40 -/
def spec_DrawPlanSeal.f (k : Nat) (l0 : List Int) : Option (Int × Int × Int × ByteArray × Int × Int × Int × Int) := (spec_l20Open.f l0).bind fun bt200 => ((spec_l20Plan.f k bt200.1 bt200.2 8 6).bind fun bt203 => ((spec_l20Rd_pick.f k bt200.1 bt203.2.2.2.2.2.2.2 9).bind fun bt212 => ((some (([wrap64 (1 + bt212.1), 999, 1000, 0] : List Int) : List Int)).bind fun y214 => ((some (([0, 0, 0, 0, 1, 2, 3] : List Int) : List Int)).bind fun y217 => ((spec_l20Rd_pick.f k bt200.1 bt212.2 7).bind fun bt220 => (if 0 ≤ bt220.1 then (if bt220.1 < (y217.length : Int) then (if 0 ≤ (rd y217 bt220.1) then (if (rd y217 bt220.1) < (y214.length : Int) then (some (bt203.1, bt203.2.1, bt203.2.2.1, bt203.2.2.2.1, bt203.2.2.2.2.1, bt203.2.2.2.2.2.1, bt203.2.2.2.2.2.2.1, rd y214 (rd y217 bt220.1))) else (none)) else (none)) else (none)) else (none)))))))
theorem spec_DrawPlanSeal.mono : ∀ a0 k, LeO (spec_DrawPlanSeal.f k a0) (spec_DrawPlanSeal.f (k + 1) a0) := by
 intro a0 k
 unfold spec_DrawPlanSeal.f
 repeat' first
   | (with_reducible exact spec_l20Plan.mono _ _ _ _ _)
   | (with_reducible exact spec_l20Rd_pick.mono _ _ _ _)
   | (with_reducible exact LeO.refl _)
   | (with_reducible exact LeO.none _)
   | (with_reducible refine LeO.ite ?_ ?_)
   | (with_reducible refine LeO.bind ?_ (fun _ => ?_))
   | exact spec_l20Plan.mono _ _ _ _ _
   | exact spec_l20Rd_pick.mono _ _ _ _
   | exact LeO.none _
   | refine LeO.ite ?_ ?_
   | refine LeO.bind ?_ (fun _ => ?_)
def spec_DrawPlanSeal.T3 : Bool × List (List Nat × List Nat) := (true, [([], []), ([], []), ([1], [1]), ([2], [2]), ([3], [3]), ([], []), ([], []), ([6, 2], [6]), ([5, 7], [5, 7]), ([8], [8]), ([4, 9], [4, 9]), ([10], [10]), ([0, 7, 0], [0]), ([11, 12, 0, 1, 2, 3, 4, 5, 6, 7, 8, 9, 10, 11, 12], [11])])
def spec_DrawPlanSeal.B3 : List Nat := [0, 0, 2, 6, 14, 0, 0, 70, 230, 486, 1022, 2046, 199, 8191]
theorem spec_DrawPlanSeal.tab3 : rtab .any (opsOf Try.f40 3) = spec_DrawPlanSeal.T3 := by kernel_rfl
theorem spec_DrawPlanSeal.bits3 : waitsOk spec_DrawPlanSeal.T3.2 spec_DrawPlanSeal.B3 = true := by kernel_rfl
set_option maxHeartbeats 8000000 in
set_option maxRecDepth 100000 in
theorem spec_DrawPlanSeal.calls (k : Nat) (A0 : Option Addr) (c0 : Nat) (l0 : List Int) (r1 : Int) (r2 : Int) (r3 : Int) (r4 : ByteArray) (r5 : Int) (r6 : Int) (r7 : Int) (r8 : Int) (w : World) (hr0 : Kd.C (Kd.int .u8) w A0 l0.length l0) (hc0 : l0.length ≤ c0) (h : spec_DrawPlanSeal.f k l0 = some (r1, r2, r3, r4, r5, r6, r7, r8)) :
  Calls Try.prog 40 #[.slice A0 l0.length c0] w fun e w' => e = .returned (.tuple #[.agg #[.int .i64 r1, .int .i64 r2, .int .i64 r3, .string r4, .int .i64 r5, .int .i64 r6, .int .i64 r7], .int .i64 r8]) ∧ Below w.heap.size w w' := by
 have hu26 := Try.underlying26
 have HR0 := Aside0.mk hr0
 have HC0 := Aside0.mk hc0
 clear hr0 hc0
 have HB := Aside0.mk (Below.refl w.heap.size w)
 have H : ((spec_l20Open.f l0).bind fun bt200 => ((spec_l20Plan.f k bt200.1 bt200.2 8 6).bind fun bt203 => ((spec_l20Rd_pick.f k bt200.1 bt203.2.2.2.2.2.2.2 9).bind fun bt212 => ((some (([wrap64 (1 + bt212.1), 999, 1000, 0] : List Int) : List Int)).bind fun y214 => ((some (([0, 0, 0, 0, 1, 2, 3] : List Int) : List Int)).bind fun y217 => ((spec_l20Rd_pick.f k bt200.1 bt212.2 7).bind fun bt220 => (if 0 ≤ bt220.1 then (if bt220.1 < (y217.length : Int) then (if 0 ≤ (rd y217 bt220.1) then (if (rd y217 bt220.1) < (y214.length : Int) then (some (bt203.1, bt203.2.1, bt203.2.2.1, bt203.2.2.2.1, bt203.2.2.2.2.1, bt203.2.2.2.2.2.1, bt203.2.2.2.2.2.2.1, rd y214 (rd y217 bt220.1))) else (none)) else (none)) else (none)) else (none)))))))) = some (r1, r2, r3, r4, r5, r6, r7, r8) := h
 clear h
 replace H := Option.bind_eq_some_iff.mp H
 obtain ⟨⟨t200, t201⟩, A20, H⟩ := H
 try dsimp only at H
 have A2 := Aside0.mk A20
 clear A20
 replace H := Option.bind_eq_some_iff.mp H
 obtain ⟨⟨t203, t204, t205, t206, t207, t208, t209, t210⟩, A30, H⟩ := H
 try dsimp only at H
 have A3 := Aside0.mk A30
 clear A30
 replace H := Option.bind_eq_some_iff.mp H
 obtain ⟨⟨t212, t213⟩, A40, H⟩ := H
 try dsimp only at H
 have A4 := Aside0.mk A40
 clear A40
 obtain ⟨y214, hy214⟩ : ∃ y_ : List Int, y_ = (([wrap64 (1 + t212), 999, 1000, 0] : List Int)) := ⟨_, rfl⟩
 replace H : ((some (([0, 0, 0, 0, 1, 2, 3] : List Int) : List Int)).bind fun y217 => ((spec_l20Rd_pick.f k t200 t213 7).bind fun bt220 => (if 0 ≤ bt220.1 then (if bt220.1 < (y217.length : Int) then (if 0 ≤ (rd y217 bt220.1) then (if (rd y217 bt220.1) < (y214.length : Int) then (some (t203, t204, t205, t206, t207, t208, t209, rd y214 (rd y217 bt220.1))) else (none)) else (none)) else (none)) else (none)))) = some (r1, r2, r3, r4, r5, r6, r7, r8) := by first | (rw [hy214]; with_reducible exact H) | (have H2_ := (Option.bind_some _ _).symm.trans H; rw [hy214]; with_reducible exact H2_) | (have H2_ := (Option.bind_some _ _).symm.trans H; with_reducible exact H2_) | with_reducible exact H | (rw [hy214]; exact H) | exact H
 have Ny214 := Aside0.mk hy214
 clear hy214
 obtain ⟨y217, hy217⟩ : ∃ y_ : List Int, y_ = (([0, 0, 0, 0, 1, 2, 3] : List Int)) := ⟨_, rfl⟩
 replace H : ((spec_l20Rd_pick.f k t200 t213 7).bind fun bt220 => (if 0 ≤ bt220.1 then (if bt220.1 < (y217.length : Int) then (if 0 ≤ (rd y217 bt220.1) then (if (rd y217 bt220.1) < (y214.length : Int) then (some (t203, t204, t205, t206, t207, t208, t209, rd y214 (rd y217 bt220.1))) else (none)) else (none)) else (none)) else (none))) = some (r1, r2, r3, r4, r5, r6, r7, r8) := by first | (rw [hy217]; with_reducible exact H) | (have H2_ := (Option.bind_some _ _).symm.trans H; rw [hy217]; with_reducible exact H2_) | (have H2_ := (Option.bind_some _ _).symm.trans H; with_reducible exact H2_) | with_reducible exact H | (rw [hy217]; exact H) | exact H
 have Ny217 := Aside0.mk hy217
 clear hy217
 replace H := Option.bind_eq_some_iff.mp H
 obtain ⟨⟨t220, t221⟩, A50, H⟩ := H
 try dsimp only at H
 have A5 := Aside0.mk A50
 clear A50
 by_cases c6 : 0 ≤ t220
 ·
  rw [if_pos c6] at H
  have c6b0 : decide (0 ≤ t220) = true := decide_eq_true c6
  clear c6
  by_cases c7 : t220 < (y217.length : Int)
  ·
   rw [if_pos c7] at H
   have c7b0 : decide (t220 < (y217.length : Int)) = true := decide_eq_true c7
   clear c7
   by_cases c8 : 0 ≤ (rd y217 t220)
   ·
    rw [if_pos c8] at H
    have c8b0 : decide (0 ≤ (rd y217 t220)) = true := decide_eq_true c8
    clear c8
    by_cases c9 : (rd y217 t220) < (y214.length : Int)
    ·
     rw [if_pos c9] at H
     have c9b0 : decide ((rd y217 t220) < (y214.length : Int)) = true := decide_eq_true c9
     clear c9
     simp only [Option.some.injEq, Prod.mk.injEq] at H
     obtain ⟨rfl, rfl, rfl, rfl, rfl, rfl, rfl, rfl⟩ := H
     go_enter Try.func40, Try.ntmps40
     try go_wp2_with (first | ((with_reducible refine gate_dst (N := 2) rfl ?_); refine box_event ?hg (N := 2) ?hd (cs := #[.int .i64 0, .int .i64 0, .int .i64 0, .string (⟨#[]⟩ : ByteArray), .int .i64 0, .int .i64 0, .int .i64 0]) (t := 26) ?hr ?_; (case hd => rfl); (case hg => rfl); (case hr => first | (go_simp; done) | (go_simp; rfl)); intro gb199 hg w10 hbox hb; have n0_ := Aside0.mk (below_step (bz) hb); have n1_ := Aside0.mk (hbox); have n2_ : Aside0 (w.heap.size ≤ gb199) := bsg hg; have n3_ : Aside0 (w.heap.size ≤ gb199) := bsg hg; clear HB; have HB := n0_; have BK199 := n1_; have GW199 := n2_; have GE199 := n3_; clear n0_ n1_ n2_ n3_; clear hb hbox hg) | ((with_reducible refine gate_callee (f := 66) rfl ?_); refine goesL_ (some 7) rfl rfl Try.func66 (by kernel_rfl) rfl #[.slice A0 l0.length c0] rfl (by (try simp only [List.map_toArray, List.map_cons, List.map_nil]); first | done | rfl | (simp only [List.length_drop, List.length_take]; rfl)) ?_; (with_reducible refine (spec_l20Open.calls _ _ l0 t200 t201 w _ ?side1 ?side2 ?side3 A2.out).mono ?_); (case side1 => repeat (first | (with_reducible first | exact HB.out | apply below_alloc | apply pw_below_drewN | apply below_drew1 | refine below_set ?_ GE199.out) | exact HB.out)); (case side2 => exact HR0.out); (case side3 => exact HC0.out); rintro e w11 ⟨g202, rfl, hi, hb, hb2⟩; refine ⟨_, rfl, ?_⟩; have n0_ := Aside0.mk (blk_below (g := gb199) (o := .cells #[.int .i64 0, .int .i64 0, .int .i64 0, .string (⟨#[]⟩ : ByteArray), .int .i64 0, .int .i64 0, .int .i64 0] 26 (0, 0)) (bq BK199) hb2); have n1_ := Aside0.mk (hb); have n2_ := Aside0.mk (hi); have n3_ := Aside0.mk (IsS111.ne_blk hi (blk_below (g := gb199) (o := .cells #[.int .i64 0, .int .i64 0, .int .i64 0, .string (⟨#[]⟩ : ByteArray), .int .i64 0, .int .i64 0, .int .i64 0] 26 (0, 0)) (bq BK199) hb2) (by decide)); have n4_ := Aside0.mk (Ne.symm (IsS111.ne_blk hi (blk_below (g := gb199) (o := .cells #[.int .i64 0, .int .i64 0, .int .i64 0, .string (⟨#[]⟩ : ByteArray), .int .i64 0, .int .i64 0, .int .i64 0] 26 (0, 0)) (bq BK199) hb2) (by decide))); clear BK199; clear HB; have BK199 := n0_; have HB := n1_; have HI202 := n2_; have NB202_199 := n3_; have NB199_202 := n4_; clear n0_ n1_ n2_ n3_ n4_; (try clear hb); (try clear hb2); (try clear hk); (try clear hi)) | ((with_reducible refine gate_callee (f := 65) rfl ?_); refine goesL_ (some 9) rfl rfl Try.func65 (by kernel_rfl) rfl #[.pointer (some ⟨g202, 0, none⟩), .int .i64 8, .int .i64 6] rfl (by (try simp only [List.map_toArray, List.map_cons, List.map_nil]); first | done | rfl | (simp only [List.length_drop, List.length_take]; rfl)) ?_; (with_reducible refine (spec_l20Plan.calls k g202 t200 t201 8 6 t203 t204 t205 t206 t207 t208 t209 t210 w _ ?side1 ?side2 A3.out).mono ?_); (case side1 => repeat (first | (with_reducible first | exact HI202.out | apply IsS111.alloc | apply IsS111.drewN | apply IsS111.drew | apply IsS111.set_1 | refine IsS111.far ?_ NB202_199.out _) | exact HI202.out)); (case side2 => repeat (first | (with_reducible first | exact HB.out | apply below_alloc | apply pw_below_drewN | apply below_drew1 | refine below_set ?_ (IsS111.ge HI202.out) | refine below_set ?_ GE199.out) | exact HB.out)); rintro e w12 ⟨rfl, hi, hb, hk⟩; refine ⟨_, rfl, ?_⟩; have n0_ := Aside0.mk (KeepBut.blk hk (g' := gb199) (o := .cells #[.int .i64 0, .int .i64 0, .int .i64 0, .string (⟨#[]⟩ : ByteArray), .int .i64 0, .int .i64 0, .int .i64 0] 26 (0, 0)) (bq BK199) NB199_202.out (by simp)); have n1_ := Aside0.mk (hb); have n2_ := Aside0.mk (hi); clear BK199; clear HB; clear HI202; have BK199 := n0_; have HB := n1_; have HI202 := n2_; clear n0_ n1_ n2_; (try clear hb); (try clear hb2); (try clear hk); (try clear hi)) | ((with_reducible refine gate_dst (N := 5) rfl ?_); refine box_event ?hg (N := 5) ?hd (cs := #[.int .i64 0, .int .i64 0, .int .i64 0, .string (⟨#[]⟩ : ByteArray), .int .i64 0, .int .i64 0, .int .i64 0]) (t := 26) ?hr ?_; (case hd => rfl); (case hg => rfl); (case hr => first | (go_simp; done) | (go_simp; rfl)); intro gb211 hg w13 hbox hb; have n0_ := bkb BK199 hb; have n1_ := Aside0.mk (IsS111.below (by repeat (first | (with_reducible first | exact HI202.out | apply IsS111.alloc | apply IsS111.drewN | apply IsS111.drew | apply IsS111.set_1 | refine IsS111.far ?_ NB202_199.out _) | exact HI202.out)) hb); have n2_ := Aside0.mk (below_step (by repeat (first | (with_reducible first | exact HB.out | apply below_alloc | apply pw_below_drewN | apply below_drew1 | refine below_set ?_ (IsS111.ge HI202.out) | refine below_set ?_ GE199.out) | exact HB.out)) hb); have n3_ := Aside0.mk (hbox); have n4_ := Aside0.mk ((by rw [hg]; exact (below_size (by repeat (first | (with_reducible first | exact HB.out | apply below_alloc | apply pw_below_drewN | apply below_drew1 | refine below_set ?_ (IsS111.ge HI202.out) | refine below_set ?_ GE199.out) | exact HB.out))) : w.heap.size ≤ gb211)); have n5_ := Aside0.mk ((by rw [hg]; exact (below_size (by repeat (first | (with_reducible first | exact HB.out | apply below_alloc | apply pw_below_drewN | apply below_drew1 | refine below_set ?_ (IsS111.ge HI202.out) | refine below_set ?_ GE199.out) | exact HB.out))) : w.heap.size ≤ gb211)); have n6_ := nlt hg BK199; have n7_ := ngt hg BK199; have n8_ := Aside0.mk ((by rw [hg]; exact Nat.ne_of_lt (IsS111.lt (show IsS111 w _ g202 t200 t210 from by repeat (first | (with_reducible first | exact HI202.out | apply IsS111.alloc | apply IsS111.drewN | apply IsS111.drew | apply IsS111.set_1 | refine IsS111.far ?_ NB202_199.out _) | exact HI202.out))) : g202 ≠ gb211)); have n9_ := Aside0.mk ((by rw [hg]; exact Nat.ne_of_gt (IsS111.lt (show IsS111 w _ g202 t200 t210 from by repeat (first | (with_reducible first | exact HI202.out | apply IsS111.alloc | apply IsS111.drewN | apply IsS111.drew | apply IsS111.set_1 | refine IsS111.far ?_ NB202_199.out _) | exact HI202.out))) : gb211 ≠ g202)); clear BK199; clear HI202; clear HB; have BK199 := n0_; have HI202 := n1_; have HB := n2_; have BK211 := n3_; have GW211 := n4_; have GE211 := n5_; have NB199_211 := n6_; have NB211_199 := n7_; have NB202_211 := n8_; have NB211_202 := n9_; clear n0_ n1_ n2_ n3_ n4_ n5_ n6_ n7_ n8_ n9_; clear hb hbox hg; have hnb14 := NB211_199.out; have hnc14 := NB199_211.out; have hnb15 := NB211_202.out; have hnc15 := NB202_211.out; have hcz16_0 : w13.cell? ⟨gb211, 0, none⟩ = some (.int .i64 0) := (blk_cell BK211.out 0).trans rfl; have hcz16_1 : w13.cell? ⟨gb211, 1, none⟩ = some (.int .i64 0) := (blk_cell BK211.out 1).trans rfl; have hcz16_2 : w13.cell? ⟨gb211, 2, none⟩ = some (.int .i64 0) := (blk_cell BK211.out 2).trans rfl; have hcz16_3 : w13.cell? ⟨gb211, 3, none⟩ = some (.string (⟨#[]⟩ : ByteArray)) := (blk_cell BK211.out 3).trans rfl; have hcz16_4 : w13.cell? ⟨gb211, 4, none⟩ = some (.int .i64 0) := (blk_cell BK211.out 4).trans rfl; have hcz16_5 : w13.cell? ⟨gb211, 5, none⟩ = some (.int .i64 0) := (blk_cell BK211.out 5).trans rfl; have hcz16_6 : w13.cell? ⟨gb211, 6, none⟩ = some (.int .i64 0) := (blk_cell BK211.out 6).trans rfl; have hfz16_0 := blk_frozen BK211.out 0; have hfz16_1 := blk_frozen BK211.out 1; have hfz16_2 := blk_frozen BK211.out 2; have hfz16_3 := blk_frozen BK211.out 3; have hfz16_4 := blk_frozen BK211.out 4; have hfz16_5 := blk_frozen BK211.out 5; have hfz16_6 := blk_frozen BK211.out 6))
     have pi222 : (0 ≤ (t220 : Int)) = True := eq_true (of_decide_eq_true (by first | (with_reducible assumption) | assumption))
     have qi222 : (t220 < (y217.length : Int)) = True := eq_true (of_decide_eq_true (by first | (with_reducible assumption) | assumption))
     have pi223 : (0 ≤ ((rd y217 t220) : Int)) = True := eq_true (of_decide_eq_true (by first | (with_reducible assumption) | assumption))
     have qi223 : ((rd y217 t220) < (y214.length : Int)) = True := eq_true (of_decide_eq_true (by first | (with_reducible assumption) | assumption))
     have n0_ : Aside0 ((((((((w13.setCell ⟨gb211, 0, none⟩ (.int .i64 t203)).setCell ⟨gb211, 1, none⟩ (.int .i64 t204)).setCell ⟨gb211, 2, none⟩ (.int .i64 t205)).setCell ⟨gb211, 3, none⟩ (.string t206)).setCell ⟨gb211, 4, none⟩ (.int .i64 t207)).setCell ⟨gb211, 5, none⟩ (.int .i64 t208)).setCell ⟨gb211, 6, none⟩ (.int .i64 t209)).heap[gb199]? = some (.cells #[.int .i64 0, .int .i64 0, .int .i64 0, .string (⟨#[]⟩ : ByteArray), .int .i64 0, .int .i64 0, .int .i64 0] 26 (0, 0))) := ⟨by (with_reducible repeat (first | refine blk_drewN ?_ _ | refine blk_drew ?_ | refine blk_alloc ?_ _)); refine blk_far ?_ NB199_211.out _; (with_reducible repeat (first | refine blk_drewN ?_ _ | refine blk_drew ?_ | refine blk_alloc ?_ _)); refine blk_far ?_ NB199_211.out _; (with_reducible repeat (first | refine blk_drewN ?_ _ | refine blk_drew ?_ | refine blk_alloc ?_ _)); refine blk_far ?_ NB199_211.out _; (with_reducible repeat (first | refine blk_drewN ?_ _ | refine blk_drew ?_ | refine blk_alloc ?_ _)); refine blk_far ?_ NB199_211.out _; (with_reducible repeat (first | refine blk_drewN ?_ _ | refine blk_drew ?_ | refine blk_alloc ?_ _)); refine blk_far ?_ NB199_211.out _; (with_reducible repeat (first | refine blk_drewN ?_ _ | refine blk_drew ?_ | refine blk_alloc ?_ _)); refine blk_far ?_ NB199_211.out _; (with_reducible repeat (first | refine blk_drewN ?_ _ | refine blk_drew ?_ | refine blk_alloc ?_ _)); refine blk_far ?_ NB199_211.out _; (with_reducible repeat (first | refine blk_drewN ?_ _ | refine blk_drew ?_ | refine blk_alloc ?_ _)); exact BK199.out⟩
     have n1_ : Aside0 ((((((((w13.setCell ⟨gb211, 0, none⟩ (.int .i64 t203)).setCell ⟨gb211, 1, none⟩ (.int .i64 t204)).setCell ⟨gb211, 2, none⟩ (.int .i64 t205)).setCell ⟨gb211, 3, none⟩ (.string t206)).setCell ⟨gb211, 4, none⟩ (.int .i64 t207)).setCell ⟨gb211, 5, none⟩ (.int .i64 t208)).setCell ⟨gb211, 6, none⟩ (.int .i64 t209)).heap[gb211]? = some (.cells #[.int .i64 t203, .int .i64 t204, .int .i64 t205, .string t206, .int .i64 t207, .int .i64 t208, .int .i64 t209] 26 (0, 0))) := ⟨by (with_reducible repeat (first | refine blk_drewN ?_ _ | refine blk_drew ?_ | refine blk_alloc ?_ _)); refine blk_put (cs := #[.int .i64 t203, .int .i64 t204, .int .i64 t205, .string t206, .int .i64 t207, .int .i64 t208, .int .i64 0]) ?_ 6 _ rfl; (with_reducible repeat (first | refine blk_drewN ?_ _ | refine blk_drew ?_ | refine blk_alloc ?_ _)); refine blk_put (cs := #[.int .i64 t203, .int .i64 t204, .int .i64 t205, .string t206, .int .i64 t207, .int .i64 0, .int .i64 0]) ?_ 5 _ rfl; (with_reducible repeat (first | refine blk_drewN ?_ _ | refine blk_drew ?_ | refine blk_alloc ?_ _)); refine blk_put (cs := #[.int .i64 t203, .int .i64 t204, .int .i64 t205, .string t206, .int .i64 0, .int .i64 0, .int .i64 0]) ?_ 4 _ rfl; (with_reducible repeat (first | refine blk_drewN ?_ _ | refine blk_drew ?_ | refine blk_alloc ?_ _)); refine blk_put (cs := #[.int .i64 t203, .int .i64 t204, .int .i64 t205, .string (⟨#[]⟩ : ByteArray), .int .i64 0, .int .i64 0, .int .i64 0]) ?_ 3 _ rfl; (with_reducible repeat (first | refine blk_drewN ?_ _ | refine blk_drew ?_ | refine blk_alloc ?_ _)); refine blk_put (cs := #[.int .i64 t203, .int .i64 t204, .int .i64 0, .string (⟨#[]⟩ : ByteArray), .int .i64 0, .int .i64 0, .int .i64 0]) ?_ 2 _ rfl; (with_reducible repeat (first | refine blk_drewN ?_ _ | refine blk_drew ?_ | refine blk_alloc ?_ _)); refine blk_put (cs := #[.int .i64 t203, .int .i64 0, .int .i64 0, .string (⟨#[]⟩ : ByteArray), .int .i64 0, .int .i64 0, .int .i64 0]) ?_ 1 _ rfl; (with_reducible repeat (first | refine blk_drewN ?_ _ | refine blk_drew ?_ | refine blk_alloc ?_ _)); refine blk_put (cs := #[.int .i64 0, .int .i64 0, .int .i64 0, .string (⟨#[]⟩ : ByteArray), .int .i64 0, .int .i64 0, .int .i64 0]) ?_ 0 _ rfl; (with_reducible repeat (first | refine blk_drewN ?_ _ | refine blk_drew ?_ | refine blk_alloc ?_ _)); exact BK211.out⟩
     have n2_ : Aside0 (IsS111 w (((((((w13.setCell ⟨gb211, 0, none⟩ (.int .i64 t203)).setCell ⟨gb211, 1, none⟩ (.int .i64 t204)).setCell ⟨gb211, 2, none⟩ (.int .i64 t205)).setCell ⟨gb211, 3, none⟩ (.string t206)).setCell ⟨gb211, 4, none⟩ (.int .i64 t207)).setCell ⟨gb211, 5, none⟩ (.int .i64 t208)).setCell ⟨gb211, 6, none⟩ (.int .i64 t209)) g202 t200 t210) := ⟨by repeat (first | (with_reducible first | exact HI202.out | apply IsS111.alloc | apply IsS111.drewN | apply IsS111.drew | apply IsS111.set_1 | refine IsS111.far ?_ NB202_199.out _ | refine IsS111.far ?_ NB202_211.out _) | exact HI202.out)⟩
     have n3_ : Aside0 (Below w.heap.size w (((((((w13.setCell ⟨gb211, 0, none⟩ (.int .i64 t203)).setCell ⟨gb211, 1, none⟩ (.int .i64 t204)).setCell ⟨gb211, 2, none⟩ (.int .i64 t205)).setCell ⟨gb211, 3, none⟩ (.string t206)).setCell ⟨gb211, 4, none⟩ (.int .i64 t207)).setCell ⟨gb211, 5, none⟩ (.int .i64 t208)).setCell ⟨gb211, 6, none⟩ (.int .i64 t209))) := ⟨by repeat (first | (with_reducible first | exact HB.out | apply below_alloc | apply pw_below_drewN | apply below_drew1 | refine below_set ?_ (IsS111.ge HI202.out) | refine below_set ?_ GE199.out | refine below_set ?_ GE211.out) | exact HB.out)⟩
     (try clear BK199)
     (try clear BK211)
     (try clear HI202)
     (try clear HB)
     generalize (((((((w13.setCell ⟨gb211, 0, none⟩ (.int .i64 t203)).setCell ⟨gb211, 1, none⟩ (.int .i64 t204)).setCell ⟨gb211, 2, none⟩ (.int .i64 t205)).setCell ⟨gb211, 3, none⟩ (.string t206)).setCell ⟨gb211, 4, none⟩ (.int .i64 t207)).setCell ⟨gb211, 5, none⟩ (.int .i64 t208)).setCell ⟨gb211, 6, none⟩ (.int .i64 t209)) = w17 at n0_ n1_ n2_ n3_ ⊢
     have BK199 := n0_
     have BK211 := n1_
     have HI202 := n2_
     have HB := n3_
     clear n0_ n1_ n2_ n3_
     have n0_ := Aside0.mk (blk_drew BK199.out)
     have n1_ := Aside0.mk (blk_drew BK211.out)
     have n2_ := Aside0.mk (IsS111.drew HI202.out)
     have n3_ := Aside0.mk (below_drew1 HB.out)
     clear BK199
     clear BK211
     clear HI202
     clear HB
     have BK199 := n0_
     have BK211 := n1_
     have HI202 := n2_
     have HB := n3_
     clear n0_ n1_ n2_ n3_
     refine start_ (n := 14) (S := fun w' => True) (ds := []) #[false, false, false, false, false, false, false, false, false, false, false, false, false, false] (by kernel_rfl) rfl rfl trivial (fun hHeld => ?_); refine with_tabW spec_DrawPlanSeal.tab3 spec_DrawPlanSeal.bits3 (fun HT_ HW_ => ?_)
     generalize w17.drew = w18 at BK199 BK211 HI202 HB hHeld ⊢
     refine pure_ (i := 1) (N := some 11) (v := ?_) (a' := ?_) #[false, true, false, false, false, false, false, false, false, false, false, false, false, false] rfl rfl (any_of HT_.out (by kernel_rfl)) (fun _ _ _ h => h) (Or.inl ⟨by rfl, ?_⟩) ?_ ?_
     rotate_left
     ·
      intro w'
      go_simp
      with_reducible rfl
     rotate_left
     ·
      simp only [Act.put, List.setIfInBounds_toArray, List.set_cons_zero, List.set_cons_succ, i64_w, i32_w]
      rfl
     refine pure_ (i := 6) (N := some 16) (v := ?_) (a' := ?_) #[false, true, false, false, false, false, true, false, false, false, false, false, false, false] rfl rfl (any_of HT_.out (by kernel_rfl)) (fun _ _ _ h => h) (Or.inl ⟨by rfl, ?_⟩) ?_ ?_
     rotate_left
     ·
      intro w'
      go_simp
      with_reducible rfl
     rotate_left
     ·
      simp only [Act.put, List.setIfInBounds_toArray, List.set_cons_zero, List.set_cons_succ, i64_w, i32_w]
      rfl
     refine inv_at [0, 2, 3, 4, 5, 7, 8, 9, 10, 11, 12, 13] (fun a0_ b a w' => ∃ (v215 : Value) (adz_v215 : Addr) (v218 : Value) (adz_v218 : Addr) (m8_ : Value) (m10_ : Value), a = putSel a0_ b [(0, 10, .agg #[.int .i64 t203, .int .i64 t204, .int .i64 t205, .string t206, .int .i64 t207, .int .i64 t208, .int .i64 t209]), (2, 12, .int .i64 t212), (3, 13, .int .i64 (wrap64 (1 + t212))), (4, 14, v215), (5, 15, v218), (7, 17, .int .i64 t220), (8, 18, m8_), (9, 19, .int .i64 (rd y217 t220)), (10, 20, m10_), (11, 21, .int .i64 (rd y214 (rd y217 t220))), (13, 3, .int .i64 (rd y214 (rd y217 t220)))] ∧ (b 12 = false → w'.heap[gb199]? = some (.cells #[.int .i64 0, .int .i64 0, .int .i64 0, .string (⟨#[]⟩ : ByteArray), .int .i64 0, .int .i64 0, .int .i64 0] 26 (0, 0))) ∧ (w'.heap[gb211]? = some (.cells #[.int .i64 t203, .int .i64 t204, .int .i64 t205, .string t206, .int .i64 t207, .int .i64 t208, .int .i64 t209] 26 (0, 0))) ∧ (b 2 = false → IsS111 w w' g202 t200 t210) ∧ (Below w.heap.size w w') ∧ (b 2 = true → b 7 = false → IsS111 w w' g202 t200 t213) ∧ (b 4 = true → Kd.R (Kd.int .i64) 3 w' w.heap.size (fun _ => True) v215 y214) ∧ (b 4 = true → ∃ c_, (v215 : Value) = .slice (some adz_v215) y214.length c_) ∧ (b 5 = true → Kd.R (Kd.int .i64) 3 w' w.heap.size (fun _ => True) v218 y217) ∧ (b 5 = true → ∃ c_, (v218 : Value) = .slice (some adz_v218) y217.length c_) ∧ (b 7 = true → IsS111 w w' g202 t200 t221) ∧ (b 12 = true → w'.heap[gb199]? = some (.cells #[.int .i64 t203, .int .i64 t204, .int .i64 t205, .string t206, .int .i64 t207, .int .i64 t208, .int .i64 t209] 26 (0, 0))) ∧ (b 8 = true → (m8_ : Value) = .pointer (some (adz_v218.add (t220).toNat))) ∧ (b 10 = true → (m10_ : Value) = .pointer (some (adz_v215.add ((rd y217 t220)).toNat)))) HT_.out HW_.out (by kernel_rfl) (by kernel_rfl) ?_ ?_ ?_
     ·
      exact ⟨.bool false, ⟨0, 0, none⟩, .bool false, ⟨0, 0, none⟩, .bool false, .bool false, by simp only [putSel, Bool.false_eq_true, if_false], fun _ => BK199.out, BK211.out, fun _ => HI202.out, HB.out, fun h_ => absurd h_ (by decide), fun h_ => absurd h_ (by decide), fun h_ => absurd h_ (by decide), fun h_ => absurd h_ (by decide), fun h_ => absurd h_ (by decide), fun h_ => absurd h_ (by decide), fun h_ => absurd h_ (by decide), fun h_ => absurd h_ (by decide), fun h_ => absurd h_ (by decide)⟩
     ·
      skip
      clear BK199 BK211 HB HI202
      refine steps_cons ?_ ?_
      ·
       rintro b a w' ⟨v215, adz_v215, v218, adz_v218, m8_, m10_, ha, Q_BK199, Q_BK211, Q_HI202, Q_HB, Q_HI202_e2, Q_HO216, Q_HA_HO216, Q_HO219, Q_HA_HO219, Q_HI202_e7, Q_BK199_e12, Q_X8_, Q_X10_⟩ hb_ hon hoff
       refine ⟨_, rfl, fun K hK => ?_⟩
       have e5 : a.tmps[5]? = some (.pointer (some ⟨gb211, 0, none⟩)) := by rw [ha]; exact (putSel_off rfl).trans rfl
       replace ha := Aside0.mk ha
       have BK199 := Aside0.mk (Q_BK199 (hoff 12 (by kernel_rfl)))
       have BK211 := Aside0.mk Q_BK211
       have HB := Aside0.mk Q_HB
       have hc0_ : w'.cell? ⟨gb211, 0, none⟩ = some (.int .i64 t203) := (blk_cell BK211.out 0).trans rfl
       have hc1_ : w'.cell? ⟨gb211, 1, none⟩ = some (.int .i64 t204) := (blk_cell BK211.out 1).trans rfl
       have hc2_ : w'.cell? ⟨gb211, 2, none⟩ = some (.int .i64 t205) := (blk_cell BK211.out 2).trans rfl
       have hc3_ : w'.cell? ⟨gb211, 3, none⟩ = some (.string t206) := (blk_cell BK211.out 3).trans rfl
       have hc4_ : w'.cell? ⟨gb211, 4, none⟩ = some (.int .i64 t207) := (blk_cell BK211.out 4).trans rfl
       have hc5_ : w'.cell? ⟨gb211, 5, none⟩ = some (.int .i64 t208) := (blk_cell BK211.out 5).trans rfl
       have hc6_ : w'.cell? ⟨gb211, 6, none⟩ = some (.int .i64 t209) := (blk_cell BK211.out 6).trans rfl
       refine value_ (w1 := w') (v := .agg #[.int .i64 t203, .int .i64 t204, .int .i64 t205, .string t206, .int .i64 t207, .int .i64 t208, .int .i64 t209]) (by rfl) rfl ?_ ?_
       ·
        go_simp
        (try simp only [i64_w])
        try rfl
       refine hK.out _ _ ⟨v215, adz_v215, v218, adz_v218, m8_, m10_, (by rw [ha.out]; exact putSel_upk 0 hb_ rfl rfl rfl), Q_BK199, Q_BK211, Q_HI202, Q_HB, Q_HI202_e2, Q_HO216, Q_HA_HO216, Q_HO219, Q_HA_HO219, Q_HI202_e7, fun h0_ => absurd ((hoff 12 (by kernel_rfl)).symm.trans h0_) (by decide), Q_X8_, Q_X10_⟩
      refine steps_cons ?_ ?_
      ·
       rintro b a w' ⟨v215, adz_v215, v218, adz_v218, m8_, m10_, ha, Q_BK199, Q_BK211, Q_HI202, Q_HB, Q_HI202_e2, Q_HO216, Q_HA_HO216, Q_HO219, Q_HA_HO219, Q_HI202_e7, Q_BK199_e12, Q_X8_, Q_X10_⟩ hb_ hon hoff
       refine ⟨_, rfl, fun K hK => ?_⟩
       have e11 : a.tmps[11]? = some (.pointer (some ⟨g202, 0, none⟩)) := by rw [ha]; exact (putSel_off rfl).trans rfl
       replace ha := Aside0.mk ha
       have BK199 := Aside0.mk (Q_BK199 (hoff 12 (by kernel_rfl)))
       have BK211 := Aside0.mk Q_BK211
       have HI202 := Aside0.mk (Q_HI202 hb_)
       have HB := Aside0.mk Q_HB
       refine goes_ Try.func75 (by kernel_rfl) rfl #[.pointer (some ⟨g202, 0, none⟩), .int .i64 9] (by rfl) rfl rfl (by first | (simp only [List.map_toArray, List.map_cons, List.map_nil, Act.eval, Array.getD_eq_getD_getElem?, Option.getD_some, e11]; done) | (simp only [List.map_toArray, List.map_cons, List.map_nil, Act.eval, Array.getD_eq_getD_getElem?, Option.getD_some, e11]; rfl)) ?_
       with_reducible refine (spec_l20Rd_pick.calls k g202 t200 t210 9 t212 t213 w _ ?side1 ?side2 A4.out).mono ?_
       (case side1 => repeat (first | (with_reducible first | exact HI202.out | apply IsS111.alloc | apply IsS111.drewN | apply IsS111.drew | apply IsS111.set_1 | refine IsS111.far ?_ NB202_199.out _ | refine IsS111.far ?_ NB202_211.out _) | exact HI202.out))
       (case side2 => repeat (first | (with_reducible first | exact HB.out | apply below_alloc | apply pw_below_drewN | apply below_drew1 | refine below_set ?_ (IsS111.ge HI202.out) | refine below_set ?_ GE199.out | refine below_set ?_ GE211.out) | exact HB.out))
       rintro e w19 ⟨rfl, hi, hb, hk⟩
       refine ⟨_, rfl, ?_⟩
       have n0_ := Aside0.mk (KeepBut.blk hk (g' := gb199) (o := .cells #[.int .i64 0, .int .i64 0, .int .i64 0, .string (⟨#[]⟩ : ByteArray), .int .i64 0, .int .i64 0, .int .i64 0] 26 (0, 0)) (bq BK199) NB199_202.out (by simp))
       have n1_ := Aside0.mk (KeepBut.blk hk (g' := gb211) (o := .cells #[.int .i64 t203, .int .i64 t204, .int .i64 t205, .string t206, .int .i64 t207, .int .i64 t208, .int .i64 t209] 26 (0, 0)) (bq BK211) NB211_202.out (by simp))
       have n2_ := Aside0.mk (hb)
       have n3_ := Aside0.mk (hi)
       have z_HO219 := fun (h0_ : b 5 = true) => (show Kd.R (Kd.int .i64) 3 w19 w.heap.size (fun _ => True) v218 y217 from by first | exact (Kd.R_mono (Kd.R_keep (IsS111.apart (show IsS111 w _ g202 t200 t210 from by repeat (first | (with_reducible first | exact HI202.out | apply IsS111.alloc | apply IsS111.drewN | apply IsS111.drew | apply IsS111.set_1 | refine IsS111.far ?_ NB202_199.out _ | refine IsS111.far ?_ NB202_211.out _) | exact HI202.out)) (by (with_reducible repeat (first | apply Kd.R_alloc | apply Kd.R_drewN | apply Kd.R_drew)); exact (Q_HO219 h0_)) (by decide)) hk (fun _ h => h.2)) (fun _ h => h.1)) | exact Kd.R_mono (Kd.R_mono (Kd.R_keep (IsS111.apart (show IsS111 w _ g202 t200 t210 from by repeat (first | (with_reducible first | exact HI202.out | apply IsS111.alloc | apply IsS111.drewN | apply IsS111.drew | apply IsS111.set_1 | refine IsS111.far ?_ NB202_199.out _ | refine IsS111.far ?_ NB202_211.out _) | exact HI202.out)) (by (with_reducible repeat (first | apply Kd.R_alloc | apply Kd.R_drewN | apply Kd.R_drew)); exact (Q_HO219 h0_)) (by decide)) hk (fun _ h => h.2)) (fun _ h => h.1)) (fun _ h_ => by first | trivial | exact h_ | exact h_.1))
       clear BK199
       clear BK211
       clear HB
       clear HI202
       have BK199 := n0_
       have BK211 := n1_
       have HB := n2_
       have HI202 := n3_
       clear n0_ n1_ n2_ n3_
       (try clear hb)
       (try clear hb2)
       (try clear hk)
       (try clear hi)
       refine hK.out _ _ ⟨v215, adz_v215, v218, adz_v218, m8_, m10_, (by rw [ha.out]; exact putSel_upk 1 hb_ rfl rfl rfl), fun _ => (bq BK199), (bq BK211), fun h0_ => absurd ((up_self b 2).symm.trans h0_) (by decide), (by repeat (first | (with_reducible first | exact HB.out | apply below_alloc | apply pw_below_drewN | apply below_drew1 | refine below_set ?_ (IsS111.ge HI202.out) | refine below_set ?_ GE199.out | refine below_set ?_ GE211.out) | exact HB.out)), fun _ _ => (by repeat (first | (with_reducible first | exact HI202.out | apply IsS111.alloc | apply IsS111.drewN | apply IsS111.drew | apply IsS111.set_1 | refine IsS111.far ?_ NB202_199.out _ | refine IsS111.far ?_ NB202_211.out _) | exact HI202.out)), fun h0_ => absurd ((hoff 4 (by kernel_rfl)).symm.trans h0_) (by decide), fun h0_ => absurd ((hoff 4 (by kernel_rfl)).symm.trans h0_) (by decide), z_HO219, Q_HA_HO219, fun h0_ => absurd ((hoff 7 (by kernel_rfl)).symm.trans h0_) (by decide), fun h0_ => absurd ((hoff 12 (by kernel_rfl)).symm.trans h0_) (by decide), fun h0_ => absurd ((hoff 8 (by kernel_rfl)).symm.trans h0_) (by decide), fun h0_ => absurd ((hoff 10 (by kernel_rfl)).symm.trans h0_) (by decide)⟩
      refine steps_cons ?_ ?_
      ·
       rintro b a w' ⟨v215, adz_v215, v218, adz_v218, m8_, m10_, ha, Q_BK199, Q_BK211, Q_HI202, Q_HB, Q_HI202_e2, Q_HO216, Q_HA_HO216, Q_HO219, Q_HA_HO219, Q_HI202_e7, Q_BK199_e12, Q_X8_, Q_X10_⟩ hb_ hon hoff
       refine ⟨_, rfl, fun K hK => ?_⟩
       have e12 : a.tmps[12]? = some (.int .i64 t212) := by rw [ha]; exact putSel_on (e := (2, 12, .int .i64 t212)) 1 rfl rfl (hon 2 (by kernel_rfl)) rfl
       replace ha := Aside0.mk ha
       have BK211 := Aside0.mk Q_BK211
       have HB := Aside0.mk Q_HB
       refine value_ (w1 := w') (v := .int .i64 (wrap64 (1 + t212))) (by rfl) rfl ?_ ?_
       ·
        go_simp
        (try simp only [i64_w])
        try rfl
       refine hK.out _ _ ⟨v215, adz_v215, v218, adz_v218, m8_, m10_, (by rw [ha.out]; exact putSel_upk 2 hb_ rfl rfl rfl), Q_BK199, Q_BK211, fun h0_ => absurd ((hon 2 (by kernel_rfl)).symm.trans h0_) (by decide), Q_HB, Q_HI202_e2, fun h0_ => absurd ((hoff 4 (by kernel_rfl)).symm.trans h0_) (by decide), fun h0_ => absurd ((hoff 4 (by kernel_rfl)).symm.trans h0_) (by decide), Q_HO219, Q_HA_HO219, Q_HI202_e7, Q_BK199_e12, Q_X8_, fun h0_ => absurd ((hoff 10 (by kernel_rfl)).symm.trans h0_) (by decide)⟩
      refine steps_cons ?_ ?_
      ·
       rintro b a w' ⟨v215, adz_v215, v218, adz_v218, m8_, m10_, ha, Q_BK199, Q_BK211, Q_HI202, Q_HB, Q_HI202_e2, Q_HO216, Q_HA_HO216, Q_HO219, Q_HA_HO219, Q_HI202_e7, Q_BK199_e12, Q_X8_, Q_X10_⟩ hb_ hon hoff
       refine ⟨_, rfl, fun K hK => ?_⟩
       have e13 : a.tmps[13]? = some (.int .i64 (wrap64 (1 + t212))) := by rw [ha]; exact putSel_on (e := (3, 13, .int .i64 (wrap64 (1 + t212)))) 2 rfl rfl (hon 3 (by kernel_rfl)) rfl
       replace ha := Aside0.mk ha
       have BK211 := Aside0.mk Q_BK211
       have HB := Aside0.mk Q_HB
       refine Kd.R_lit_step (Kd.int .i64) _ 3 ?hg (N := 14) ?hd (xs := ([wrap64 (1 + t212), 999, 1000, 0] : List Int)) (inner := [.int .i64 (wrap64 (1 + t212)), .int .i64 999, .int .i64 1000, .int .i64 0]) (ok := fun _ => True) (okp := fun _ => True) ?hr ?hp (fun _ hk => hk) trivial (Below.refl _ _) (Nat.le_refl _) (by simp) ?_; (case hd => rfl); (case hg => rfl); (case hr => first | (go_simp; done) | (go_simp; rfl)); (case hp => exact (Reps.one (show Kd.M (Kd.int .i64) _ _ _ (wrap64 (1 + t212)) [.int .i64 (wrap64 (1 + t212))] from rfl) (Reps.one (show Kd.M (Kd.int .i64) _ _ _ 999 [.int .i64 999] from rfl) (Reps.one (show Kd.M (Kd.int .i64) _ _ _ 1000 [.int .i64 1000] from rfl) (Reps.one (show Kd.M (Kd.int .i64) _ _ _ 0 [.int .i64 0] from rfl) (Reps.none _ _))))))
       intro v215 w21 ho22 hb hg_ hnew_
       clear hg_ hnew_
       (first | rw [← Ny214.out] at ho22 | (simp only [Int.reduceToNat] at ho22; rw [← Ny214.out] at ho22))
       have n0_ := Aside0.mk (Kd.R_lower ho22 (below_size (bz)))
       have n3_ := bkb BK211 hb
       have n4_ := Aside0.mk (below_step (bz) hb)
       have z_BK199 := fun (h0_ : b 12 = false) => (show w21.heap[gb199]? = some (.cells #[.int .i64 0, .int .i64 0, .int .i64 0, .string (⟨#[]⟩ : ByteArray), .int .i64 0, .int .i64 0, .int .i64 0] 26 (0, 0)) from by first | exact (blk_below (g := gb199) (o := .cells #[.int .i64 0, .int .i64 0, .int .i64 0, .string (⟨#[]⟩ : ByteArray), .int .i64 0, .int .i64 0, .int .i64 0] 26 (0, 0)) (by (with_reducible repeat (first | refine blk_drewN ?_ _ | refine blk_drew ?_ | refine blk_alloc ?_ _)); exact (Q_BK199 h0_)) hb))
       have z_HI202_e2 := fun (h0_ : b 2 = true) (h1_ : b 7 = false) => (show IsS111 w w21 g202 t200 t213 from by first | exact (IsS111.below (by repeat (first | (with_reducible first | exact (Q_HI202_e2 h0_ h1_) | apply IsS111.alloc | apply IsS111.drewN | apply IsS111.drew | apply IsS111.set_1 | refine IsS111.far ?_ NB202_199.out _ | refine IsS111.far ?_ NB202_211.out _) | exact (Q_HI202_e2 h0_ h1_))) hb))
       have z_HO219 := fun (h0_ : b 5 = true) => (show Kd.R (Kd.int .i64) 3 w21 w.heap.size (fun _ => True) v218 y217 from by first | exact (Kd.R_elder' (by (with_reducible repeat (first | apply Kd.R_alloc | apply Kd.R_drewN | apply Kd.R_drew)); exact (Q_HO219 h0_)) (Kd.R_base ho22) hb) | exact Kd.R_mono (Kd.R_elder' (by (with_reducible repeat (first | apply Kd.R_alloc | apply Kd.R_drewN | apply Kd.R_drew)); exact (Q_HO219 h0_)) (Kd.R_base ho22) hb) (fun _ h_ => by first | trivial | exact h_ | exact h_.1))
       have z_HI202_e7 := fun (h0_ : b 7 = true) => (show IsS111 w w21 g202 t200 t221 from by first | exact (IsS111.below (by repeat (first | (with_reducible first | exact (Q_HI202_e7 h0_) | apply IsS111.alloc | apply IsS111.drewN | apply IsS111.drew | apply IsS111.set_1 | refine IsS111.far ?_ NB202_199.out _ | refine IsS111.far ?_ NB202_211.out _) | exact (Q_HI202_e7 h0_))) hb))
       have z_BK199_e12 := fun (h0_ : b 12 = true) => (show w21.heap[gb199]? = some (.cells #[.int .i64 t203, .int .i64 t204, .int .i64 t205, .string t206, .int .i64 t207, .int .i64 t208, .int .i64 t209] 26 (0, 0)) from by first | exact (blk_below (g := gb199) (o := .cells #[.int .i64 t203, .int .i64 t204, .int .i64 t205, .string t206, .int .i64 t207, .int .i64 t208, .int .i64 t209] 26 (0, 0)) (by (with_reducible repeat (first | refine blk_drewN ?_ _ | refine blk_drew ?_ | refine blk_alloc ?_ _)); exact (Q_BK199_e12 h0_)) hb))
       clear BK211
       clear HB
       have HO216 := n0_
       have BK211 := n3_
       have HB := n4_
       clear n0_ n3_ n4_
       clear hb ho22
       obtain ⟨Ao23, co23, eo23⟩ := Kd.R_slice HO216.out
       subst eo23
       obtain ⟨ado23, fo23, _⟩ := Kd.at_int (Kd.R_reads' HO216.out).2.2 0 (by decide) (by rw [Ny214.out]; simp)
       cases fo23
       refine hK.out _ _ ⟨.slice (some ado23) y214.length co23, ado23, v218, adz_v218, m8_, m10_, (by rw [ha.out]; exact putSel_upk 3 hb_ rfl rfl rfl), z_BK199, (bq BK211), fun h0_ => absurd ((hon 2 (by kernel_rfl)).symm.trans h0_) (by decide), (bz), z_HI202_e2, fun _ => (by (with_reducible repeat (first | apply Kd.R_alloc | apply Kd.R_drewN | apply Kd.R_drew)); exact HO216.out), fun _ => ⟨_, rfl⟩, z_HO219, Q_HA_HO219, z_HI202_e7, z_BK199_e12, Q_X8_, fun h0_ => absurd ((hoff 10 (by kernel_rfl)).symm.trans h0_) (by decide)⟩
      refine steps_cons ?_ ?_
      ·
       rintro b a w' ⟨v215, adz_v215, v218, adz_v218, m8_, m10_, ha, Q_BK199, Q_BK211, Q_HI202, Q_HB, Q_HI202_e2, Q_HO216, Q_HA_HO216, Q_HO219, Q_HA_HO219, Q_HI202_e7, Q_BK199_e12, Q_X8_, Q_X10_⟩ hb_ hon hoff
       refine ⟨_, rfl, fun K hK => ?_⟩
       replace ha := Aside0.mk ha
       have BK211 := Aside0.mk Q_BK211
       have HB := Aside0.mk Q_HB
       refine Kd.R_lit_step (Kd.int .i64) _ 3 ?hg (N := 15) ?hd (xs := ([0, 0, 0, 0, 1, 2, 3] : List Int)) (inner := [.int .i64 0, .int .i64 0, .int .i64 0, .int .i64 0, .int .i64 1, .int .i64 2, .int .i64 3]) (ok := fun _ => True) (okp := fun _ => True) ?hr ?hp (fun _ hk => hk) trivial (Below.refl _ _) (Nat.le_refl _) (by simp) ?_; (case hd => rfl); (case hg => rfl); (case hr => first | (go_simp; done) | (go_simp; rfl)); (case hp => exact (Reps.one (show Kd.M (Kd.int .i64) _ _ _ 0 [.int .i64 0] from rfl) (Reps.one (show Kd.M (Kd.int .i64) _ _ _ 0 [.int .i64 0] from rfl) (Reps.one (show Kd.M (Kd.int .i64) _ _ _ 0 [.int .i64 0] from rfl) (Reps.one (show Kd.M (Kd.int .i64) _ _ _ 0 [.int .i64 0] from rfl) (Reps.one (show Kd.M (Kd.int .i64) _ _ _ 1 [.int .i64 1] from rfl) (Reps.one (show Kd.M (Kd.int .i64) _ _ _ 2 [.int .i64 2] from rfl) (Reps.one (show Kd.M (Kd.int .i64) _ _ _ 3 [.int .i64 3] from rfl) (Reps.none _ _)))))))))
       intro v218 w19 ho20 hb hg_ hnew_
       clear hg_ hnew_
       (first | rw [← Ny217.out] at ho20 | (simp only [Int.reduceToNat] at ho20; rw [← Ny217.out] at ho20))
       have n0_ := Aside0.mk (Kd.R_lower ho20 (below_size (bz)))
       have n3_ := bkb BK211 hb
       have n4_ := Aside0.mk (below_step (bz) hb)
       have z_BK199 := fun (h0_ : b 12 = false) => (show w19.heap[gb199]? = some (.cells #[.int .i64 0, .int .i64 0, .int .i64 0, .string (⟨#[]⟩ : ByteArray), .int .i64 0, .int .i64 0, .int .i64 0] 26 (0, 0)) from by first | exact (blk_below (g := gb199) (o := .cells #[.int .i64 0, .int .i64 0, .int .i64 0, .string (⟨#[]⟩ : ByteArray), .int .i64 0, .int .i64 0, .int .i64 0] 26 (0, 0)) (by (with_reducible repeat (first | refine blk_drewN ?_ _ | refine blk_drew ?_ | refine blk_alloc ?_ _)); exact (Q_BK199 h0_)) hb))
       have z_HI202 := fun (h0_ : b 2 = false) => (show IsS111 w w19 g202 t200 t210 from by first | exact (IsS111.below (by repeat (first | (with_reducible first | exact (Q_HI202 h0_) | apply IsS111.alloc | apply IsS111.drewN | apply IsS111.drew | apply IsS111.set_1 | refine IsS111.far ?_ NB202_199.out _ | refine IsS111.far ?_ NB202_211.out _) | exact (Q_HI202 h0_))) hb))
       have z_HI202_e2 := fun (h0_ : b 2 = true) (h1_ : b 7 = false) => (show IsS111 w w19 g202 t200 t213 from by first | exact (IsS111.below (by repeat (first | (with_reducible first | exact (Q_HI202_e2 h0_ h1_) | apply IsS111.alloc | apply IsS111.drewN | apply IsS111.drew | apply IsS111.set_1 | refine IsS111.far ?_ NB202_199.out _ | refine IsS111.far ?_ NB202_211.out _) | exact (Q_HI202_e2 h0_ h1_))) hb))
       have z_HO216 := fun (h0_ : b 4 = true) => (show Kd.R (Kd.int .i64) 3 w19 w.heap.size (fun _ => True) v215 y214 from by first | exact (Kd.R_elder' (by (with_reducible repeat (first | apply Kd.R_alloc | apply Kd.R_drewN | apply Kd.R_drew)); exact (Q_HO216 h0_)) (Kd.R_base ho20) hb) | exact Kd.R_mono (Kd.R_elder' (by (with_reducible repeat (first | apply Kd.R_alloc | apply Kd.R_drewN | apply Kd.R_drew)); exact (Q_HO216 h0_)) (Kd.R_base ho20) hb) (fun _ h_ => by first | trivial | exact h_ | exact h_.1))
       have z_HI202_e7 := fun (h0_ : b 7 = true) => (show IsS111 w w19 g202 t200 t221 from by first | exact (IsS111.below (by repeat (first | (with_reducible first | exact (Q_HI202_e7 h0_) | apply IsS111.alloc | apply IsS111.drewN | apply IsS111.drew | apply IsS111.set_1 | refine IsS111.far ?_ NB202_199.out _ | refine IsS111.far ?_ NB202_211.out _) | exact (Q_HI202_e7 h0_))) hb))
       have z_BK199_e12 := fun (h0_ : b 12 = true) => (show w19.heap[gb199]? = some (.cells #[.int .i64 t203, .int .i64 t204, .int .i64 t205, .string t206, .int .i64 t207, .int .i64 t208, .int .i64 t209] 26 (0, 0)) from by first | exact (blk_below (g := gb199) (o := .cells #[.int .i64 t203, .int .i64 t204, .int .i64 t205, .string t206, .int .i64 t207, .int .i64 t208, .int .i64 t209] 26 (0, 0)) (by (with_reducible repeat (first | refine blk_drewN ?_ _ | refine blk_drew ?_ | refine blk_alloc ?_ _)); exact (Q_BK199_e12 h0_)) hb))
       clear BK211
       clear HB
       have HO219 := n0_
       have BK211 := n3_
       have HB := n4_
       clear n0_ n3_ n4_
       clear hb ho20
       obtain ⟨Ao21, co21, eo21⟩ := Kd.R_slice HO219.out
       subst eo21
       obtain ⟨ado21, fo21, _⟩ := Kd.at_int (Kd.R_reads' HO219.out).2.2 0 (by decide) (by rw [Ny217.out]; simp)
       cases fo21
       refine hK.out _ _ ⟨v215, adz_v215, .slice (some ado21) y217.length co21, ado21, m8_, m10_, (by rw [ha.out]; exact putSel_upk 4 hb_ rfl rfl rfl), z_BK199, (bq BK211), z_HI202, (bz), z_HI202_e2, z_HO216, Q_HA_HO216, fun _ => (by (with_reducible repeat (first | apply Kd.R_alloc | apply Kd.R_drewN | apply Kd.R_drew)); exact HO219.out), fun _ => ⟨_, rfl⟩, z_HI202_e7, z_BK199_e12, fun h0_ => absurd ((hoff 8 (by kernel_rfl)).symm.trans h0_) (by decide), fun h0_ => absurd ((hoff 10 (by kernel_rfl)).symm.trans h0_) (by decide)⟩
      refine steps_cons ?_ ?_
      ·
       rintro b a w' ⟨v215, adz_v215, v218, adz_v218, m8_, m10_, ha, Q_BK199, Q_BK211, Q_HI202, Q_HB, Q_HI202_e2, Q_HO216, Q_HA_HO216, Q_HO219, Q_HA_HO219, Q_HI202_e7, Q_BK199_e12, Q_X8_, Q_X10_⟩ hb_ hon hoff
       refine ⟨_, rfl, fun K hK => ?_⟩
       have e16 : a.tmps[16]? = some (.pointer (some ⟨g202, 0, none⟩)) := by rw [ha]; exact (putSel_off rfl).trans rfl
       replace ha := Aside0.mk ha
       have BK199 := Aside0.mk (Q_BK199 (hoff 12 (by kernel_rfl)))
       have BK211 := Aside0.mk Q_BK211
       have HB := Aside0.mk Q_HB
       have HI202 := Aside0.mk (Q_HI202_e2 (hon 2 (by kernel_rfl)) hb_)
       refine goes_ Try.func75 (by kernel_rfl) rfl #[.pointer (some ⟨g202, 0, none⟩), .int .i64 7] (by rfl) rfl rfl (by first | (simp only [List.map_toArray, List.map_cons, List.map_nil, Act.eval, Array.getD_eq_getD_getElem?, Option.getD_some, e16]; done) | (simp only [List.map_toArray, List.map_cons, List.map_nil, Act.eval, Array.getD_eq_getD_getElem?, Option.getD_some, e16]; rfl)) ?_
       with_reducible refine (spec_l20Rd_pick.calls k g202 t200 t213 7 t220 t221 w _ ?side1 ?side2 A5.out).mono ?_
       (case side1 => repeat (first | (with_reducible first | exact HI202.out | apply IsS111.alloc | apply IsS111.drewN | apply IsS111.drew | apply IsS111.set_1 | refine IsS111.far ?_ NB202_199.out _ | refine IsS111.far ?_ NB202_211.out _) | exact HI202.out))
       (case side2 => repeat (first | (with_reducible first | exact HB.out | apply below_alloc | apply pw_below_drewN | apply below_drew1 | refine below_set ?_ (IsS111.ge HI202.out) | refine below_set ?_ GE199.out | refine below_set ?_ GE211.out) | exact HB.out))
       rintro e w21 ⟨rfl, hi, hb, hk⟩
       refine ⟨_, rfl, ?_⟩
       have n0_ := Aside0.mk (KeepBut.blk hk (g' := gb199) (o := .cells #[.int .i64 0, .int .i64 0, .int .i64 0, .string (⟨#[]⟩ : ByteArray), .int .i64 0, .int .i64 0, .int .i64 0] 26 (0, 0)) (bq BK199) NB199_202.out (by simp))
       have n1_ := Aside0.mk (KeepBut.blk hk (g' := gb211) (o := .cells #[.int .i64 t203, .int .i64 t204, .int .i64 t205, .string t206, .int .i64 t207, .int .i64 t208, .int .i64 t209] 26 (0, 0)) (bq BK211) NB211_202.out (by simp))
       have n2_ := Aside0.mk (hb)
       have n3_ := Aside0.mk (hi)
       have z_HO216 := fun (h0_ : b 4 = true) => (show Kd.R (Kd.int .i64) 3 w21 w.heap.size (fun _ => True) v215 y214 from by first | exact (Kd.R_mono (Kd.R_keep (IsS111.apart (show IsS111 w _ g202 t200 t213 from by repeat (first | (with_reducible first | exact HI202.out | apply IsS111.alloc | apply IsS111.drewN | apply IsS111.drew | apply IsS111.set_1 | refine IsS111.far ?_ NB202_199.out _ | refine IsS111.far ?_ NB202_211.out _) | exact HI202.out)) (by (with_reducible repeat (first | apply Kd.R_alloc | apply Kd.R_drewN | apply Kd.R_drew)); exact (Q_HO216 h0_)) (by decide)) hk (fun _ h => h.2)) (fun _ h => h.1)) | exact Kd.R_mono (Kd.R_mono (Kd.R_keep (IsS111.apart (show IsS111 w _ g202 t200 t213 from by repeat (first | (with_reducible first | exact HI202.out | apply IsS111.alloc | apply IsS111.drewN | apply IsS111.drew | apply IsS111.set_1 | refine IsS111.far ?_ NB202_199.out _ | refine IsS111.far ?_ NB202_211.out _) | exact HI202.out)) (by (with_reducible repeat (first | apply Kd.R_alloc | apply Kd.R_drewN | apply Kd.R_drew)); exact (Q_HO216 h0_)) (by decide)) hk (fun _ h => h.2)) (fun _ h => h.1)) (fun _ h_ => by first | trivial | exact h_ | exact h_.1))
       have z_HO219 := fun (h0_ : b 5 = true) => (show Kd.R (Kd.int .i64) 3 w21 w.heap.size (fun _ => True) v218 y217 from by first | exact (Kd.R_mono (Kd.R_keep (IsS111.apart (show IsS111 w _ g202 t200 t213 from by repeat (first | (with_reducible first | exact HI202.out | apply IsS111.alloc | apply IsS111.drewN | apply IsS111.drew | apply IsS111.set_1 | refine IsS111.far ?_ NB202_199.out _ | refine IsS111.far ?_ NB202_211.out _) | exact HI202.out)) (by (with_reducible repeat (first | apply Kd.R_alloc | apply Kd.R_drewN | apply Kd.R_drew)); exact (Q_HO219 h0_)) (by decide)) hk (fun _ h => h.2)) (fun _ h => h.1)) | exact Kd.R_mono (Kd.R_mono (Kd.R_keep (IsS111.apart (show IsS111 w _ g202 t200 t213 from by repeat (first | (with_reducible first | exact HI202.out | apply IsS111.alloc | apply IsS111.drewN | apply IsS111.drew | apply IsS111.set_1 | refine IsS111.far ?_ NB202_199.out _ | refine IsS111.far ?_ NB202_211.out _) | exact HI202.out)) (by (with_reducible repeat (first | apply Kd.R_alloc | apply Kd.R_drewN | apply Kd.R_drew)); exact (Q_HO219 h0_)) (by decide)) hk (fun _ h => h.2)) (fun _ h => h.1)) (fun _ h_ => by first | trivial | exact h_ | exact h_.1))
       clear BK199
       clear BK211
       clear HB
       clear HI202
       have BK199 := n0_
       have BK211 := n1_
       have HB := n2_
       have HI202 := n3_
       clear n0_ n1_ n2_ n3_
       (try clear hb)
       (try clear hb2)
       (try clear hk)
       (try clear hi)
       refine hK.out _ _ ⟨v215, adz_v215, v218, adz_v218, m8_, m10_, (by rw [ha.out]; exact putSel_upk 5 hb_ rfl rfl rfl), fun _ => (bq BK199), (bq BK211), fun h0_ => absurd ((hon 2 (by kernel_rfl)).symm.trans h0_) (by decide), (by repeat (first | (with_reducible first | exact HB.out | apply below_alloc | apply pw_below_drewN | apply below_drew1 | refine below_set ?_ (IsS111.ge HI202.out) | refine below_set ?_ GE199.out | refine below_set ?_ GE211.out) | exact HB.out)), fun _ h1_ => absurd ((up_self b 7).symm.trans h1_) (by decide), z_HO216, Q_HA_HO216, z_HO219, Q_HA_HO219, fun _ => (by repeat (first | (with_reducible first | exact HI202.out | apply IsS111.alloc | apply IsS111.drewN | apply IsS111.drew | apply IsS111.set_1 | refine IsS111.far ?_ NB202_199.out _ | refine IsS111.far ?_ NB202_211.out _) | exact HI202.out)), fun h0_ => absurd ((hoff 12 (by kernel_rfl)).symm.trans h0_) (by decide), fun h0_ => absurd ((hoff 8 (by kernel_rfl)).symm.trans h0_) (by decide), fun h0_ => absurd ((hoff 10 (by kernel_rfl)).symm.trans h0_) (by decide)⟩
      refine steps_cons ?_ ?_
      ·
       rintro b a w' ⟨v215, adz_v215, v218, adz_v218, m8_, m10_, ha, Q_BK199, Q_BK211, Q_HI202, Q_HB, Q_HI202_e2, Q_HO216, Q_HA_HO216, Q_HO219, Q_HA_HO219, Q_HI202_e7, Q_BK199_e12, Q_X8_, Q_X10_⟩ hb_ hon hoff
       refine ⟨_, rfl, fun K hK => ?_⟩
       have e15 : a.tmps[15]? = some (v218) := by rw [ha]; exact putSel_on (e := (5, 15, v218)) 4 rfl rfl (hon 5 (by kernel_rfl)) rfl
       have e17 : a.tmps[17]? = some (.int .i64 t220) := by rw [ha]; exact putSel_on (e := (7, 17, .int .i64 t220)) 5 rfl rfl (hon 7 (by kernel_rfl)) rfl
       replace ha := Aside0.mk ha
       have BK211 := Aside0.mk Q_BK211
       have HB := Aside0.mk Q_HB
       have HO219 := Aside0.mk (Q_HO219 (hon 5 (by kernel_rfl)))
       have HA_HO219 := Aside0.mk (Q_HA_HO219 (hon 5 (by kernel_rfl)))
       have HI202 := Aside0.mk (Q_HI202_e7 (hon 7 (by kernel_rfl)))
       obtain ⟨c_, hv_⟩ := HA_HO219.out
       rw [hv_] at e15
       refine value_ (w1 := w') (v := .pointer (some (adz_v218.add (t220).toNat))) (by rfl) rfl ?_ ?_
       ·
        go_simp
        (try simp only [i64_w])
        try rfl
       refine hK.out _ _ ⟨v215, adz_v215, v218, adz_v218, (.pointer (some (adz_v218.add (t220).toNat))), m10_, (by rw [ha.out]; exact putSel_upk 6 hb_ rfl rfl rfl), Q_BK199, Q_BK211, fun h0_ => absurd ((hon 2 (by kernel_rfl)).symm.trans h0_) (by decide), Q_HB, fun _ h1_ => absurd ((hon 7 (by kernel_rfl)).symm.trans h1_) (by decide), Q_HO216, Q_HA_HO216, Q_HO219, Q_HA_HO219, Q_HI202_e7, Q_BK199_e12, fun _ => rfl, fun h0_ => absurd ((hoff 10 (by kernel_rfl)).symm.trans h0_) (by decide)⟩
      refine steps_cons ?_ ?_
      ·
       rintro b a w' ⟨v215, adz_v215, v218, adz_v218, m8_, m10_, ha, Q_BK199, Q_BK211, Q_HI202, Q_HB, Q_HI202_e2, Q_HO216, Q_HA_HO216, Q_HO219, Q_HA_HO219, Q_HI202_e7, Q_BK199_e12, Q_X8_, Q_X10_⟩ hb_ hon hoff
       refine ⟨_, rfl, fun K hK => ?_⟩
       have e18 : a.tmps[18]? = some (m8_) := by rw [ha]; exact putSel_on (e := (8, 18, m8_)) 6 rfl rfl (hon 8 (by kernel_rfl)) rfl
       rw [Q_X8_ (hon 8 (by kernel_rfl))] at e18
       replace ha := Aside0.mk ha
       have BK211 := Aside0.mk Q_BK211
       have HB := Aside0.mk Q_HB
       have HO219 := Aside0.mk (Q_HO219 (hon 5 (by kernel_rfl)))
       have HA_HO219 := Aside0.mk (Q_HA_HO219 (hon 5 (by kernel_rfl)))
       have HI202 := Aside0.mk (Q_HI202_e7 (hon 7 (by kernel_rfl)))
       obtain ⟨c_, hv_⟩ := HA_HO219.out
       have hF_ := HO219.out
       rw [hv_] at hF_
       obtain ⟨ad_, ea_, hx_⟩ := Kd.at_int (Kd.R_reads' hF_).2.2 t220 (of_eq_true pi222) (of_eq_true qi222)
       cases ea_
       refine value_ (w1 := w') (v := .int .i64 (rd y217 t220)) (by rfl) rfl ?_ ?_
       ·
        go_simp
        (try simp only [i64_w])
        try rfl
       refine hK.out _ _ ⟨v215, adz_v215, v218, adz_v218, m8_, m10_, (by rw [ha.out]; exact putSel_upk 7 hb_ rfl rfl rfl), Q_BK199, Q_BK211, fun h0_ => absurd ((hon 2 (by kernel_rfl)).symm.trans h0_) (by decide), Q_HB, fun _ h1_ => absurd ((hon 7 (by kernel_rfl)).symm.trans h1_) (by decide), Q_HO216, Q_HA_HO216, Q_HO219, Q_HA_HO219, Q_HI202_e7, Q_BK199_e12, Q_X8_, fun h0_ => absurd ((hoff 10 (by kernel_rfl)).symm.trans h0_) (by decide)⟩
      refine steps_cons ?_ ?_
      ·
       rintro b a w' ⟨v215, adz_v215, v218, adz_v218, m8_, m10_, ha, Q_BK199, Q_BK211, Q_HI202, Q_HB, Q_HI202_e2, Q_HO216, Q_HA_HO216, Q_HO219, Q_HA_HO219, Q_HI202_e7, Q_BK199_e12, Q_X8_, Q_X10_⟩ hb_ hon hoff
       refine ⟨_, rfl, fun K hK => ?_⟩
       have e14 : a.tmps[14]? = some (v215) := by rw [ha]; exact putSel_on (e := (4, 14, v215)) 3 rfl rfl (hon 4 (by kernel_rfl)) rfl
       have e19 : a.tmps[19]? = some (.int .i64 (rd y217 t220)) := by rw [ha]; exact putSel_on (e := (9, 19, .int .i64 (rd y217 t220))) 7 rfl rfl (hon 9 (by kernel_rfl)) rfl
       replace ha := Aside0.mk ha
       have BK211 := Aside0.mk Q_BK211
       have HB := Aside0.mk Q_HB
       have HO216 := Aside0.mk (Q_HO216 (hon 4 (by kernel_rfl)))
       have HA_HO216 := Aside0.mk (Q_HA_HO216 (hon 4 (by kernel_rfl)))
       have HO219 := Aside0.mk (Q_HO219 (hon 5 (by kernel_rfl)))
       have HA_HO219 := Aside0.mk (Q_HA_HO219 (hon 5 (by kernel_rfl)))
       have HI202 := Aside0.mk (Q_HI202_e7 (hon 7 (by kernel_rfl)))
       obtain ⟨c_, hv_⟩ := HA_HO216.out
       rw [hv_] at e14
       refine value_ (w1 := w') (v := .pointer (some (adz_v215.add ((rd y217 t220)).toNat))) (by rfl) rfl ?_ ?_
       ·
        go_simp
        (try simp only [i64_w])
        try rfl
       refine hK.out _ _ ⟨v215, adz_v215, v218, adz_v218, m8_, (.pointer (some (adz_v215.add ((rd y217 t220)).toNat))), (by rw [ha.out]; exact putSel_upk 8 hb_ rfl rfl rfl), Q_BK199, Q_BK211, fun h0_ => absurd ((hon 2 (by kernel_rfl)).symm.trans h0_) (by decide), Q_HB, fun _ h1_ => absurd ((hon 7 (by kernel_rfl)).symm.trans h1_) (by decide), Q_HO216, Q_HA_HO216, Q_HO219, Q_HA_HO219, Q_HI202_e7, Q_BK199_e12, Q_X8_, fun _ => rfl⟩
      refine steps_cons ?_ ?_
      ·
       rintro b a w' ⟨v215, adz_v215, v218, adz_v218, m8_, m10_, ha, Q_BK199, Q_BK211, Q_HI202, Q_HB, Q_HI202_e2, Q_HO216, Q_HA_HO216, Q_HO219, Q_HA_HO219, Q_HI202_e7, Q_BK199_e12, Q_X8_, Q_X10_⟩ hb_ hon hoff
       refine ⟨_, rfl, fun K hK => ?_⟩
       have e20 : a.tmps[20]? = some (m10_) := by rw [ha]; exact putSel_on (e := (10, 20, m10_)) 8 rfl rfl (hon 10 (by kernel_rfl)) rfl
       rw [Q_X10_ (hon 10 (by kernel_rfl))] at e20
       replace ha := Aside0.mk ha
       have BK211 := Aside0.mk Q_BK211
       have HB := Aside0.mk Q_HB
       have HO216 := Aside0.mk (Q_HO216 (hon 4 (by kernel_rfl)))
       have HA_HO216 := Aside0.mk (Q_HA_HO216 (hon 4 (by kernel_rfl)))
       have HO219 := Aside0.mk (Q_HO219 (hon 5 (by kernel_rfl)))
       have HA_HO219 := Aside0.mk (Q_HA_HO219 (hon 5 (by kernel_rfl)))
       have HI202 := Aside0.mk (Q_HI202_e7 (hon 7 (by kernel_rfl)))
       obtain ⟨c_, hv_⟩ := HA_HO216.out
       have hF_ := HO216.out
       rw [hv_] at hF_
       obtain ⟨ad_, ea_, hx_⟩ := Kd.at_int (Kd.R_reads' hF_).2.2 (rd y217 t220) (of_eq_true pi223) (of_eq_true qi223)
       cases ea_
       refine value_ (w1 := w') (v := .int .i64 (rd y214 (rd y217 t220))) (by rfl) rfl ?_ ?_
       ·
        go_simp
        (try simp only [i64_w])
        try rfl
       refine hK.out _ _ ⟨v215, adz_v215, v218, adz_v218, m8_, m10_, (by rw [ha.out]; exact putSel_upk 9 hb_ rfl rfl rfl), Q_BK199, Q_BK211, fun h0_ => absurd ((hon 2 (by kernel_rfl)).symm.trans h0_) (by decide), Q_HB, fun _ h1_ => absurd ((hon 7 (by kernel_rfl)).symm.trans h1_) (by decide), Q_HO216, Q_HA_HO216, Q_HO219, Q_HA_HO219, Q_HI202_e7, Q_BK199_e12, Q_X8_, Q_X10_⟩
      refine steps_cons ?_ ?_
      ·
       rintro b a w' ⟨v215, adz_v215, v218, adz_v218, m8_, m10_, ha, Q_BK199, Q_BK211, Q_HI202, Q_HB, Q_HI202_e2, Q_HO216, Q_HA_HO216, Q_HO219, Q_HA_HO219, Q_HI202_e7, Q_BK199_e12, Q_X8_, Q_X10_⟩ hb_ hon hoff
       refine ⟨_, rfl, fun K hK => ?_⟩
       have e2 : a.tmps[2]? = some (.pointer (some ⟨gb199, 0, none⟩)) := by rw [ha]; exact (putSel_off rfl).trans rfl
       have e10 : a.tmps[10]? = some (.agg #[.int .i64 t203, .int .i64 t204, .int .i64 t205, .string t206, .int .i64 t207, .int .i64 t208, .int .i64 t209]) := by rw [ha]; exact putSel_on (e := (0, 10, .agg #[.int .i64 t203, .int .i64 t204, .int .i64 t205, .string t206, .int .i64 t207, .int .i64 t208, .int .i64 t209])) 0 rfl rfl (hon 0 (by kernel_rfl)) rfl
       replace ha := Aside0.mk ha
       have BK199 := Aside0.mk (Q_BK199 hb_)
       have BK211 := Aside0.mk Q_BK211
       have HB := Aside0.mk Q_HB
       have HI202 := Aside0.mk (Q_HI202_e7 (hon 7 (by kernel_rfl)))
       have hs22 : w'.cell? ⟨gb199, 0, none⟩ = some (.int .i64 0) := (blk_cell BK199.out 0).trans rfl
       have hfs22 := blk_frozen BK199.out 0
       have hns22_1 := NB211_199.out
       have hms22_1 := NB199_211.out
       have hs23 : w'.cell? ⟨gb199, 1, none⟩ = some (.int .i64 0) := (blk_cell BK199.out 1).trans rfl
       have hfs23 := blk_frozen BK199.out 1
       have hns23_1 := NB211_199.out
       have hms23_1 := NB199_211.out
       have hs24 : w'.cell? ⟨gb199, 2, none⟩ = some (.int .i64 0) := (blk_cell BK199.out 2).trans rfl
       have hfs24 := blk_frozen BK199.out 2
       have hns24_1 := NB211_199.out
       have hms24_1 := NB199_211.out
       have hs25 : w'.cell? ⟨gb199, 3, none⟩ = some (.string (⟨#[]⟩ : ByteArray)) := (blk_cell BK199.out 3).trans rfl
       have hfs25 := blk_frozen BK199.out 3
       have hns25_1 := NB211_199.out
       have hms25_1 := NB199_211.out
       have hs26 : w'.cell? ⟨gb199, 4, none⟩ = some (.int .i64 0) := (blk_cell BK199.out 4).trans rfl
       have hfs26 := blk_frozen BK199.out 4
       have hns26_1 := NB211_199.out
       have hms26_1 := NB199_211.out
       have hs27 : w'.cell? ⟨gb199, 5, none⟩ = some (.int .i64 0) := (blk_cell BK199.out 5).trans rfl
       have hfs27 := blk_frozen BK199.out 5
       have hns27_1 := NB211_199.out
       have hms27_1 := NB199_211.out
       have hs28 : w'.cell? ⟨gb199, 6, none⟩ = some (.int .i64 0) := (blk_cell BK199.out 6).trans rfl
       have hfs28 := blk_frozen BK199.out 6
       have hns28_1 := NB211_199.out
       have hms28_1 := NB199_211.out
       refine skip_ (w1 := ?_) (by rfl) rfl ?_ ?_
       rotate_left
       ·
        go_simp
        rfl
       refine hK.out _ _ ⟨v215, adz_v215, v218, adz_v218, m8_, m10_, (by rw [ha.out]; exact putSel_none (v := undef) rfl), fun h0_ => absurd ((up_self b 12).symm.trans h0_) (by decide), (by (with_reducible repeat (first | refine blk_drewN ?_ _ | refine blk_drew ?_ | refine blk_alloc ?_ _)); refine blk_far ?_ NB211_199.out _; (with_reducible repeat (first | refine blk_drewN ?_ _ | refine blk_drew ?_ | refine blk_alloc ?_ _)); refine blk_far ?_ NB211_199.out _; (with_reducible repeat (first | refine blk_drewN ?_ _ | refine blk_drew ?_ | refine blk_alloc ?_ _)); refine blk_far ?_ NB211_199.out _; (with_reducible repeat (first | refine blk_drewN ?_ _ | refine blk_drew ?_ | refine blk_alloc ?_ _)); refine blk_far ?_ NB211_199.out _; (with_reducible repeat (first | refine blk_drewN ?_ _ | refine blk_drew ?_ | refine blk_alloc ?_ _)); refine blk_far ?_ NB211_199.out _; (with_reducible repeat (first | refine blk_drewN ?_ _ | refine blk_drew ?_ | refine blk_alloc ?_ _)); refine blk_far ?_ NB211_199.out _; (with_reducible repeat (first | refine blk_drewN ?_ _ | refine blk_drew ?_ | refine blk_alloc ?_ _)); refine blk_far ?_ NB211_199.out _; (with_reducible repeat (first | refine blk_drewN ?_ _ | refine blk_drew ?_ | refine blk_alloc ?_ _)); exact BK211.out), fun h0_ => absurd ((hon 2 (by kernel_rfl)).symm.trans h0_) (by decide), (by repeat (first | (with_reducible first | exact HB.out | apply below_alloc | apply pw_below_drewN | apply below_drew1 | refine below_set ?_ (IsS111.ge HI202.out) | refine below_set ?_ GE199.out | refine below_set ?_ GE211.out) | exact HB.out)), fun _ h1_ => absurd ((hon 7 (by kernel_rfl)).symm.trans h1_) (by decide), fun h0_ => (by (with_reducible repeat (first | apply Kd.R_alloc | apply Kd.R_drewN | apply Kd.R_drew)); exact Kd.R_mono (Kd.R_far (p := ⟨gb199, 6, none⟩) (Kd.R_far (p := ⟨gb199, 5, none⟩) (Kd.R_far (p := ⟨gb199, 4, none⟩) (Kd.R_far (p := ⟨gb199, 3, none⟩) (Kd.R_far (p := ⟨gb199, 2, none⟩) (Kd.R_far (p := ⟨gb199, 1, none⟩) (Kd.R_far (p := ⟨gb199, 0, none⟩) (Kd.R_types (Q_HO216 h0_) BK199.out (by decide)) (fun _ hk => hk.2) (.int .i64 t203)) (fun _ hk => hk.2) (.int .i64 t204)) (fun _ hk => hk.2) (.int .i64 t205)) (fun _ hk => hk.2) (.string t206)) (fun _ hk => hk.2) (.int .i64 t207)) (fun _ hk => hk.2) (.int .i64 t208)) (fun _ hk => hk.2) (.int .i64 t209)) (fun _ hk => trivial)), Q_HA_HO216, fun h0_ => (by (with_reducible repeat (first | apply Kd.R_alloc | apply Kd.R_drewN | apply Kd.R_drew)); exact Kd.R_mono (Kd.R_far (p := ⟨gb199, 6, none⟩) (Kd.R_far (p := ⟨gb199, 5, none⟩) (Kd.R_far (p := ⟨gb199, 4, none⟩) (Kd.R_far (p := ⟨gb199, 3, none⟩) (Kd.R_far (p := ⟨gb199, 2, none⟩) (Kd.R_far (p := ⟨gb199, 1, none⟩) (Kd.R_far (p := ⟨gb199, 0, none⟩) (Kd.R_types (Q_HO219 h0_) BK199.out (by decide)) (fun _ hk => hk.2) (.int .i64 t203)) (fun _ hk => hk.2) (.int .i64 t204)) (fun _ hk => hk.2) (.int .i64 t205)) (fun _ hk => hk.2) (.string t206)) (fun _ hk => hk.2) (.int .i64 t207)) (fun _ hk => hk.2) (.int .i64 t208)) (fun _ hk => hk.2) (.int .i64 t209)) (fun _ hk => trivial)), Q_HA_HO219, fun _ => (by repeat (first | (with_reducible first | exact HI202.out | apply IsS111.alloc | apply IsS111.drewN | apply IsS111.drew | apply IsS111.set_1 | refine IsS111.far ?_ NB202_199.out _ | refine IsS111.far ?_ NB202_211.out _) | exact HI202.out)), fun _ => (by (with_reducible repeat (first | refine blk_drewN ?_ _ | refine blk_drew ?_ | refine blk_alloc ?_ _)); refine blk_put (cs := #[.int .i64 t203, .int .i64 t204, .int .i64 t205, .string t206, .int .i64 t207, .int .i64 t208, .int .i64 0]) ?_ 6 _ rfl; (with_reducible repeat (first | refine blk_drewN ?_ _ | refine blk_drew ?_ | refine blk_alloc ?_ _)); refine blk_put (cs := #[.int .i64 t203, .int .i64 t204, .int .i64 t205, .string t206, .int .i64 t207, .int .i64 0, .int .i64 0]) ?_ 5 _ rfl; (with_reducible repeat (first | refine blk_drewN ?_ _ | refine blk_drew ?_ | refine blk_alloc ?_ _)); refine blk_put (cs := #[.int .i64 t203, .int .i64 t204, .int .i64 t205, .string t206, .int .i64 0, .int .i64 0, .int .i64 0]) ?_ 4 _ rfl; (with_reducible repeat (first | refine blk_drewN ?_ _ | refine blk_drew ?_ | refine blk_alloc ?_ _)); refine blk_put (cs := #[.int .i64 t203, .int .i64 t204, .int .i64 t205, .string (⟨#[]⟩ : ByteArray), .int .i64 0, .int .i64 0, .int .i64 0]) ?_ 3 _ rfl; (with_reducible repeat (first | refine blk_drewN ?_ _ | refine blk_drew ?_ | refine blk_alloc ?_ _)); refine blk_put (cs := #[.int .i64 t203, .int .i64 t204, .int .i64 0, .string (⟨#[]⟩ : ByteArray), .int .i64 0, .int .i64 0, .int .i64 0]) ?_ 2 _ rfl; (with_reducible repeat (first | refine blk_drewN ?_ _ | refine blk_drew ?_ | refine blk_alloc ?_ _)); refine blk_put (cs := #[.int .i64 t203, .int .i64 0, .int .i64 0, .string (⟨#[]⟩ : ByteArray), .int .i64 0, .int .i64 0, .int .i64 0]) ?_ 1 _ rfl; (with_reducible repeat (first | refine blk_drewN ?_ _ | refine blk_drew ?_ | refine blk_alloc ?_ _)); refine blk_put (cs := #[.int .i64 0, .int .i64 0, .int .i64 0, .string (⟨#[]⟩ : ByteArray), .int .i64 0, .int .i64 0, .int .i64 0]) ?_ 0 _ rfl; (with_reducible repeat (first | refine blk_drewN ?_ _ | refine blk_drew ?_ | refine blk_alloc ?_ _)); exact BK199.out), Q_X8_, Q_X10_⟩
      refine steps_cons ?_ ?_
      ·
       rintro b a w' ⟨v215, adz_v215, v218, adz_v218, m8_, m10_, ha, Q_BK199, Q_BK211, Q_HI202, Q_HB, Q_HI202_e2, Q_HO216, Q_HA_HO216, Q_HO219, Q_HA_HO219, Q_HI202_e7, Q_BK199_e12, Q_X8_, Q_X10_⟩ hb_ hon hoff
       refine ⟨_, rfl, fun K hK => ?_⟩
       have e21 : a.tmps[21]? = some (.int .i64 (rd y214 (rd y217 t220))) := by rw [ha]; exact putSel_on (e := (11, 21, .int .i64 (rd y214 (rd y217 t220)))) 9 rfl rfl (hon 11 (by kernel_rfl)) rfl
       replace ha := Aside0.mk ha
       have BK211 := Aside0.mk Q_BK211
       have HB := Aside0.mk Q_HB
       have HO216 := Aside0.mk (Q_HO216 (hon 4 (by kernel_rfl)))
       have HA_HO216 := Aside0.mk (Q_HA_HO216 (hon 4 (by kernel_rfl)))
       have HO219 := Aside0.mk (Q_HO219 (hon 5 (by kernel_rfl)))
       have HA_HO219 := Aside0.mk (Q_HA_HO219 (hon 5 (by kernel_rfl)))
       have HI202 := Aside0.mk (Q_HI202_e7 (hon 7 (by kernel_rfl)))
       have BK199 := Aside0.mk (Q_BK199_e12 (hon 12 (by kernel_rfl)))
       refine value_ (w1 := w') (v := .int .i64 (rd y214 (rd y217 t220))) (by rfl) rfl ?_ ?_
       ·
        go_simp
        (try simp only [i64_w])
        try rfl
       refine hK.out _ _ ⟨v215, adz_v215, v218, adz_v218, m8_, m10_, (by rw [ha.out]; exact putSel_upk 10 hb_ rfl rfl rfl), fun h0_ => absurd ((hon 12 (by kernel_rfl)).symm.trans h0_) (by decide), Q_BK211, fun h0_ => absurd ((hon 2 (by kernel_rfl)).symm.trans h0_) (by decide), Q_HB, fun _ h1_ => absurd ((hon 7 (by kernel_rfl)).symm.trans h1_) (by decide), Q_HO216, Q_HA_HO216, Q_HO219, Q_HA_HO219, Q_HI202_e7, Q_BK199_e12, Q_X8_, Q_X10_⟩
      exact steps_nil
     rintro b a w34 hall ⟨v215, adz_v215, v218, adz_v218, m8_, m10_, ha, Q_BK199, Q_BK211, Q_HI202, Q_HB, Q_HI202_e2, Q_HO216, Q_HA_HO216, Q_HO219, Q_HA_HO219, Q_HI202_e7, Q_BK199_e12, Q_X8_, Q_X10_⟩
     clear BK199 BK211 HB HI202
     have hb0_ := hall 0 (by kernel_rfl)
     have hb2_ := hall 2 (by kernel_rfl)
     have hb3_ := hall 3 (by kernel_rfl)
     have hb4_ := hall 4 (by kernel_rfl)
     have hb5_ := hall 5 (by kernel_rfl)
     have hb7_ := hall 7 (by kernel_rfl)
     have hb8_ := hall 8 (by kernel_rfl)
     have hb9_ := hall 9 (by kernel_rfl)
     have hb10_ := hall 10 (by kernel_rfl)
     have hb11_ := hall 11 (by kernel_rfl)
     have hb12_ := hall 12 (by kernel_rfl)
     have hb13_ := hall 13 (by kernel_rfl)
     subst ha
     obtain rfl := Q_X8_ hb8_
     obtain rfl := Q_X10_ hb10_
     simp only [putSel, hb0_, hb2_, hb3_, hb4_, hb5_, hb7_, hb8_, hb9_, hb10_, hb11_, hb12_, hb13_, if_true, Act.put, List.setIfInBounds_toArray, List.set_cons_zero, List.set_cons_succ]
     clear Q_BK199
     have BK211 := Aside0.mk Q_BK211
     clear Q_BK211
     clear Q_HI202
     have HB := Aside0.mk Q_HB
     clear Q_HB
     clear Q_HI202_e2
     have HO216 := Aside0.mk (Q_HO216 hb4_)
     clear Q_HO216
     have HA_HO216 := Aside0.mk (Q_HA_HO216 hb4_)
     clear Q_HA_HO216
     have HO219 := Aside0.mk (Q_HO219 hb5_)
     clear Q_HO219
     have HA_HO219 := Aside0.mk (Q_HA_HO219 hb5_)
     clear Q_HA_HO219
     have HI202 := Aside0.mk (Q_HI202_e7 hb7_)
     clear Q_HI202_e7
     have BK199 := Aside0.mk (Q_BK199_e12 hb12_)
     clear Q_BK199_e12
     clear hall hb0_ hb2_ hb3_ hb4_ hb5_ hb7_ hb8_ hb9_ hb10_ hb11_ hb12_ hb13_
     obtain ⟨co35, eo35⟩ := HA_HO216.out
     clear HA_HO216
     subst eo35
     obtain ⟨co36, eo36⟩ := HA_HO219.out
     clear HA_HO219
     subst eo36
     try go_wp2
     refine bodyPost_ret (results_ct rfl _ _ gb199 26 #[.int .i64 t203, .int .i64 t204, .int .i64 t205, .string t206, .int .i64 t207, .int .i64 t208, .int .i64 t209] (0, 0) _ rfl (bq BK199) Try.underlying26 rfl (by kernel_rfl)) rfl ?_
     exact ⟨by first | rfl | (simp only [u8w, w64m]; rfl) | (simp [errW_none, errW_some] <;> rfl) | (simp [*, errW_none, errW_some] <;> rfl), by repeat (first | (with_reducible first | exact HB.out | apply below_alloc | apply pw_below_drewN | apply below_drew1 | refine below_set ?_ (IsS111.ge HI202.out) | refine below_set ?_ GE199.out | refine below_set ?_ GE211.out) | exact HB.out)⟩
    ·
     rw [if_neg c9] at H
     exact absurd H (by simp)
   ·
    rw [if_neg c8] at H
    exact absurd H (by simp)
  ·
   rw [if_neg c7] at H
   exact absurd H (by simp)
 ·
  rw [if_neg c6] at H
  exact absurd H (by simp)

/-! ### impl_valueValid: function 97 -/
def impl_valueValid.f (a0 : Int) : Option (Bool) := if a0 ≥ 0 then (some (decide (a0 ≤ 999))) else (some false)
set_option maxHeartbeats 8000000 in
set_option maxRecDepth 100000 in
theorem impl_valueValid.calls (a0 : Int) (r : Bool) (w : World) (h : impl_valueValid.f a0 = some r) :
  Calls Try.prog 97 #[.int .i64 a0] w fun e w' => e = .returned (.bool r) ∧ Drawn0 w w' := by
 have H : (if a0 ≥ 0 then (some (decide (a0 ≤ 999))) else (some false)) = some r := h
 clear h
 by_cases c2 : a0 ≥ 0
 ·
  rw [if_pos c2] at H
  have c2b0 : decide (0 ≤ a0) = true := decide_eq_true c2
  clear c2
  obtain rfl := Option.some.inj H
  go_enter Try.func97, Try.ntmps97
  go_wp2
  go_ret
  exact ⟨by first | rfl | (simp; done) | exact congrArg Value.bool (ne_nil_b _) | exact congrArg Value.bool (eq_nil_b _) | (simp [*]; done), by repeat (first | exact Drawn0.refl _ | apply Drawn0.step)⟩
 ·
  rw [if_neg c2] at H
  have c2b0 : decide (0 ≤ a0) = false := decide_eq_false c2
  clear c2
  obtain rfl := Option.some.inj H
  go_enter Try.func97, Try.ntmps97
  go_wp2
  go_ret
  exact ⟨by first | rfl | (simp; done) | exact congrArg Value.bool (ne_nil_b _) | exact congrArg Value.bool (eq_nil_b _) | (simp [*]; done), by repeat (first | exact Drawn0.refl _ | apply Drawn0.step)⟩

end Go.Proofs.Ytoajkkfnblpnlaa.PFnPlanSeal
