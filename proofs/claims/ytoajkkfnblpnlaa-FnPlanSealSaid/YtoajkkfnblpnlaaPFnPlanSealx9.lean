/- Go functions as plain Lean functions, and for each a proof that its call comes to what the function says; under the conditions that each theorem names. Written by a program of this session. -/
import Derived.Test.YtoajkkfnblpnlaaPFnPlanSealx0
import Derived.Test.YtoajkkfnblpnlaaPFnPlanSealx2
import Derived.Test.YtoajkkfnblpnlaaPFnPlanSealx3
import Derived.Test.YtoajkkfnblpnlaaPFnPlanSealx4
import Derived.Test.YtoajkkfnblpnlaaPFnPlanSealx7
import Derived.Test.YtoajkkfnblpnlaaPFnPlanSealx8
namespace Go.Proofs.Ytoajkkfnblpnlaa.PFnPlanSeal
open Go.RowKit Go.Proofs.YtoajkkfnblpnlaaW.PrintWords Go.Proofs.YtoajkkfnblpnlaaW.PrintLast Go.Proofs.YtoajkkfnblpnlaaW.PrintMore
attribute [local go_sem high] str_gtr str_leq str_geq
attribute [local go_sem] max2_int min2_int max_two min_two max_three min_three max_four min_four   -- for this text's walks alone
set_option linter.unusedVariables false
set_option linter.unusedSimpArgs false

attribute [local go_sem high] eqA47
/-! ### laws_FnPlanSeal: function 10 -/
def laws_FnPlanSeal.j0 : Nat → Int → Bool → Bool → Int → Int → Int → ByteArray → Int → Int → Int → Int → Int → Int → ByteArray → Int → Int → Option (Bool)
 | 0, _, _, _, _, _, _, _, _, _, _, _, _, _, _, _, _ => none
 | k + 1, x4, x6, x36, x241000, x241001, x241002, x241003, x241004, x241005, x241006, x249000, x249001, x249002, x249003, x249004, x249005 => if x36 = true then (some false) else (if x6 = true then ((impl_EntryValid.f k x249000 x249001 x249002 x249003 x249004 x249005).bind fun t257 => (if t257 = true then (if x249000 = 0 then (if x249001 = x4 then (if x249002 = 5 then (if x249003.toList = x241003.toList then (some (x241000 != 3)) else (some false)) else (some false)) else (some false)) else (some false)) else (some false))) else (if (x249000 == 0 && (x249001 == 0 && ((x249002 == 0 && (x249003.toList == ([] : List UInt8) && (x249004 == 0 && (x249005 == 0))))))) = true then ((laws_alive.f k).bind fun t258 => (some t258)) else (some false)))
def laws_FnPlanSeal.f (k : Nat) (l0 : List Int) : Option (Bool) := if (l0.length : Int) > 1048576 then (some true) else ((spec_DrawPlanSeal.f k l0).bind fun bt232 => ((impl_PlanSeal.f k bt232.1 bt232.2.1 bt232.2.2.1 bt232.2.2.2.1 bt232.2.2.2.2.1 bt232.2.2.2.2.2.1 bt232.2.2.2.2.2.2.1 bt232.2.2.2.2.2.2.2).bind fun bt241 => ((spec_PlanSeal.f k bt232.1 bt232.2.1 bt232.2.2.1 bt232.2.2.2.1 bt232.2.2.2.2.1 bt232.2.2.2.2.2.1 bt232.2.2.2.2.2.2.1 bt232.2.2.2.2.2.2.2).bind fun bt249 => (if (!(bt241.1 == bt249.1) || (!(bt241.2.1 == bt249.2.1) || ((!(bt241.2.2.1 == bt249.2.2.1) || (!(bt241.2.2.2.1.toList == bt249.2.2.2.1.toList) || (!(bt241.2.2.2.2.1 == bt249.2.2.2.2.1) || (!(bt241.2.2.2.2.2.1 == bt249.2.2.2.2.2.1)))))))) = true then (laws_FnPlanSeal.j0 k bt232.2.2.2.2.2.2.2 bt241.2.2.2.2.2.2 true bt232.1 bt232.2.1 bt232.2.2.1 bt232.2.2.2.1 bt232.2.2.2.2.1 bt232.2.2.2.2.2.1 bt232.2.2.2.2.2.2.1 bt241.1 bt241.2.1 bt241.2.2.1 bt241.2.2.2.1 bt241.2.2.2.2.1 bt241.2.2.2.2.2.1) else (laws_FnPlanSeal.j0 k bt232.2.2.2.2.2.2.2 bt241.2.2.2.2.2.2 (bt241.2.2.2.2.2.2 != bt249.2.2.2.2.2.2) bt232.1 bt232.2.1 bt232.2.2.1 bt232.2.2.2.1 bt232.2.2.2.2.1 bt232.2.2.2.2.2.1 bt232.2.2.2.2.2.2.1 bt241.1 bt241.2.1 bt241.2.2.1 bt241.2.2.2.1 bt241.2.2.2.2.1 bt241.2.2.2.2.2.1)))))
theorem laws_FnPlanSeal.mono_l : ∀ k, (∀ y0 y1 y2 y3 y4 y5 y6 y7 y8 y9 y10 y11 y12 y13 y14 y15, LeO (laws_FnPlanSeal.j0 k y0 y1 y2 y3 y4 y5 y6 y7 y8 y9 y10 y11 y12 y13 y14 y15) (laws_FnPlanSeal.j0 (k + 1) y0 y1 y2 y3 y4 y5 y6 y7 y8 y9 y10 y11 y12 y13 y14 y15))
 | 0 => fun _ _ _ _ _ _ _ _ _ _ _ _ _ _ _ _ r h => by simp [laws_FnPlanSeal.j0] at h
 | k + 1 => by
  have ih0 := laws_FnPlanSeal.mono_l k
  ·
   intro y0 y1 y2 y3 y4 y5 y6 y7 y8 y9 y10 y11 y12 y13 y14 y15
   unfold laws_FnPlanSeal.j0
   repeat' first
   | (with_reducible exact ih0 _ _ _ _ _ _ _ _ _ _ _ _ _ _ _ _)
   | (with_reducible exact impl_EntryValid.mono _ _ _ _ _ _ _)
   | (with_reducible exact impl_PlanSeal.mono _ _ _ _ _ _ _ _ _)
   | (with_reducible exact laws_alive.mono _)
   | (with_reducible exact spec_DrawPlanSeal.mono _ _)
   | (with_reducible exact spec_PlanSeal.mono _ _ _ _ _ _ _ _ _)
   | (with_reducible exact LeO.refl _)
   | (with_reducible exact LeO.none _)
   | (with_reducible refine LeO.ite ?_ ?_)
   | (with_reducible refine LeO.bind ?_ (fun _ => ?_))
   | exact ih0 _ _ _ _ _ _ _ _ _ _ _ _ _ _ _ _
   | exact impl_EntryValid.mono _ _ _ _ _ _ _
   | exact impl_PlanSeal.mono _ _ _ _ _ _ _ _ _
   | exact laws_alive.mono _
   | exact spec_DrawPlanSeal.mono _ _
   | exact spec_PlanSeal.mono _ _ _ _ _ _ _ _ _
   | exact LeO.none _
   | refine LeO.ite ?_ ?_
   | refine LeO.bind ?_ (fun _ => ?_)
theorem laws_FnPlanSeal.mono : ∀ a0 k, LeO (laws_FnPlanSeal.f k a0) (laws_FnPlanSeal.f (k + 1) a0) := by
 intro a0 k
 have ih0 := laws_FnPlanSeal.mono_l k
 unfold laws_FnPlanSeal.f
 repeat' first
   | (with_reducible exact ih0 _ _ _ _ _ _ _ _ _ _ _ _ _ _ _ _)
   | (with_reducible exact impl_EntryValid.mono _ _ _ _ _ _ _)
   | (with_reducible exact impl_PlanSeal.mono _ _ _ _ _ _ _ _ _)
   | (with_reducible exact laws_alive.mono _)
   | (with_reducible exact spec_DrawPlanSeal.mono _ _)
   | (with_reducible exact spec_PlanSeal.mono _ _ _ _ _ _ _ _ _)
   | (with_reducible exact LeO.refl _)
   | (with_reducible exact LeO.none _)
   | (with_reducible refine LeO.ite ?_ ?_)
   | (with_reducible refine LeO.bind ?_ (fun _ => ?_))
   | exact ih0 _ _ _ _ _ _ _ _ _ _ _ _ _ _ _ _
   | exact impl_EntryValid.mono _ _ _ _ _ _ _
   | exact impl_PlanSeal.mono _ _ _ _ _ _ _ _ _
   | exact laws_alive.mono _
   | exact spec_DrawPlanSeal.mono _ _
   | exact spec_PlanSeal.mono _ _ _ _ _ _ _ _ _
   | exact LeO.none _
   | refine LeO.ite ?_ ?_
   | refine LeO.bind ?_ (fun _ => ?_)
set_option maxHeartbeats 8000000 in
set_option maxRecDepth 100000 in
theorem laws_FnPlanSeal.calls (k : Nat) (A0 : Option Addr) (c0 : Nat) (l0 : List Int) (r : Bool) (w : World) (hr0 : Kd.C (Kd.int .u8) w A0 l0.length l0) (hc0 : l0.length ≤ c0) (h : laws_FnPlanSeal.f k l0 = some r) :
  Calls Try.prog 10 #[.slice A0 l0.length c0] w fun e w' => e = .returned (.bool r) ∧ Below w.heap.size w w' := by
 have hu26 := Try.underlying26
 have hu47 := Try.underlying47
 have HR0 := Aside0.mk hr0
 have HC0 := Aside0.mk hc0
 clear hr0 hc0
 have HB := Aside0.mk (Below.refl w.heap.size w)
 have H : (if (l0.length : Int) > 1048576 then (some true) else ((spec_DrawPlanSeal.f k l0).bind fun bt232 => ((impl_PlanSeal.f k bt232.1 bt232.2.1 bt232.2.2.1 bt232.2.2.2.1 bt232.2.2.2.2.1 bt232.2.2.2.2.2.1 bt232.2.2.2.2.2.2.1 bt232.2.2.2.2.2.2.2).bind fun bt241 => ((spec_PlanSeal.f k bt232.1 bt232.2.1 bt232.2.2.1 bt232.2.2.2.1 bt232.2.2.2.2.1 bt232.2.2.2.2.2.1 bt232.2.2.2.2.2.2.1 bt232.2.2.2.2.2.2.2).bind fun bt249 => (if (!(bt241.1 == bt249.1) || (!(bt241.2.1 == bt249.2.1) || ((!(bt241.2.2.1 == bt249.2.2.1) || (!(bt241.2.2.2.1.toList == bt249.2.2.2.1.toList) || (!(bt241.2.2.2.2.1 == bt249.2.2.2.2.1) || (!(bt241.2.2.2.2.2.1 == bt249.2.2.2.2.2.1)))))))) = true then (laws_FnPlanSeal.j0 k bt232.2.2.2.2.2.2.2 bt241.2.2.2.2.2.2 true bt232.1 bt232.2.1 bt232.2.2.1 bt232.2.2.2.1 bt232.2.2.2.2.1 bt232.2.2.2.2.2.1 bt232.2.2.2.2.2.2.1 bt241.1 bt241.2.1 bt241.2.2.1 bt241.2.2.2.1 bt241.2.2.2.2.1 bt241.2.2.2.2.2.1) else (laws_FnPlanSeal.j0 k bt232.2.2.2.2.2.2.2 bt241.2.2.2.2.2.2 (bt241.2.2.2.2.2.2 != bt249.2.2.2.2.2.2) bt232.1 bt232.2.1 bt232.2.2.1 bt232.2.2.2.1 bt232.2.2.2.2.1 bt232.2.2.2.2.2.1 bt232.2.2.2.2.2.2.1 bt241.1 bt241.2.1 bt241.2.2.1 bt241.2.2.2.1 bt241.2.2.2.2.1 bt241.2.2.2.2.2.1)))))) = some r := h
 clear h
 by_cases c2 : (l0.length : Int) > 1048576
 ·
  rw [if_pos c2] at H
  have c2b0 : decide (1048576 < (l0.length : Int)) = true := decide_eq_true c2
  have c2b1 : decide (1048576 < l0.length) = true := decide_eq_true (by omega)
  clear c2
  obtain rfl := Option.some.inj H
  go_enter Try.func10, Try.ntmps10
  go_wp2
  go_ret
  exact ⟨by first | rfl | (simp only [u8w, w64m]; rfl) | (simp [errW_none, errW_some] <;> rfl) | (simp [*, errW_none, errW_some] <;> rfl), bz⟩
 ·
  rw [if_neg c2] at H
  have c2b0 : decide (1048576 < (l0.length : Int)) = false := decide_eq_false c2
  have c2b1 : decide (1048576 < l0.length) = false := decide_eq_false (by omega)
  clear c2
  replace H := Option.bind_eq_some_iff.mp H
  obtain ⟨⟨t232, t233, t234, t235, t236, t237, t238, t239⟩, A30, H⟩ := H
  try dsimp only at H
  have A3 := Aside0.mk A30
  clear A30
  replace H := Option.bind_eq_some_iff.mp H
  obtain ⟨⟨t241, t242, t243, t244, t245, t246, t247⟩, A40, H⟩ := H
  try dsimp only at H
  have A4 := Aside0.mk A40
  clear A40
  replace H := Option.bind_eq_some_iff.mp H
  obtain ⟨⟨t249, t250, t251, t252, t253, t254, t255⟩, A50, H⟩ := H
  try dsimp only at H
  have A5 := Aside0.mk A50
  clear A50
  have HC6 := Aside0.mk H
  clear H
  go_enter Try.func10, Try.ntmps10
  go_upto_region 6 with (first | ((with_reducible refine gate_callee (f := 40) rfl ?_); refine goesL_ (some 14) rfl rfl Try.func40 (by kernel_rfl) rfl #[.slice A0 l0.length c0] rfl (by (try simp only [List.map_toArray, List.map_cons, List.map_nil]); first | done | rfl | (simp only [List.length_drop, List.length_take]; rfl)) ?_; (with_reducible refine (spec_DrawPlanSeal.calls k _ _ l0 t232 t233 t234 t235 t236 t237 t238 t239 _ ?side1 ?side2 A3.out).mono ?_); (case side1 => repeat (first | exact HR0.out | (with_reducible refine Kd.C_alloc ?_ _) | (with_reducible refine Kd.C_drewN ?_ _) | (with_reducible refine Kd.C_drew ?_))); (case side2 => exact HC0.out); rintro e w7 ⟨rfl, hb⟩; refine ⟨_, rfl, ?_⟩; have n0_ := Aside0.mk (below_step (bz) hb); clear HB; have HB := n0_; clear n0_; (try clear hb); (try clear hb2); (try clear hk); (try clear hi)) | ((with_reducible refine gate_dst (N := 3) rfl ?_); refine box_event ?hg (N := 3) ?hd (cs := #[.int .i64 0, .int .i64 0, .int .i64 0, .string (⟨#[]⟩ : ByteArray), .int .i64 0, .int .i64 0, .int .i64 0]) (t := 26) ?hr ?_; (case hd => rfl); (case hg => rfl); (case hr => first | (go_simp; done) | (go_simp; rfl)); intro gb240 hg w8 hbox hb; have n0_ := Aside0.mk (below_step (bz) hb); have n1_ := Aside0.mk (hbox); have n2_ : Aside0 (w.heap.size ≤ gb240) := bsg hg; have n3_ : Aside0 (w.heap.size ≤ gb240) := bsg hg; clear HB; have HB := n0_; have BK240 := n1_; have GW240 := n2_; have GE240 := n3_; clear n0_ n1_ n2_ n3_; clear hb hbox hg; have hcz9_0 : w8.cell? ⟨gb240, 0, none⟩ = some (.int .i64 0) := (blk_cell BK240.out 0).trans rfl; have hcz9_1 : w8.cell? ⟨gb240, 1, none⟩ = some (.int .i64 0) := (blk_cell BK240.out 1).trans rfl; have hcz9_2 : w8.cell? ⟨gb240, 2, none⟩ = some (.int .i64 0) := (blk_cell BK240.out 2).trans rfl; have hcz9_3 : w8.cell? ⟨gb240, 3, none⟩ = some (.string (⟨#[]⟩ : ByteArray)) := (blk_cell BK240.out 3).trans rfl; have hcz9_4 : w8.cell? ⟨gb240, 4, none⟩ = some (.int .i64 0) := (blk_cell BK240.out 4).trans rfl; have hcz9_5 : w8.cell? ⟨gb240, 5, none⟩ = some (.int .i64 0) := (blk_cell BK240.out 5).trans rfl; have hcz9_6 : w8.cell? ⟨gb240, 6, none⟩ = some (.int .i64 0) := (blk_cell BK240.out 6).trans rfl; have hfz9_0 := blk_frozen BK240.out 0; have hfz9_1 := blk_frozen BK240.out 1; have hfz9_2 := blk_frozen BK240.out 2; have hfz9_3 := blk_frozen BK240.out 3; have hfz9_4 := blk_frozen BK240.out 4; have hfz9_5 := blk_frozen BK240.out 5; have hfz9_6 := blk_frozen BK240.out 6) | ((with_reducible refine gate_callee (f := 29) rfl ?_); refine goesL_ (some 20) rfl rfl Try.func29 (by kernel_rfl) rfl #[.agg #[.int .i64 t232, .int .i64 t233, .int .i64 t234, .string t235, .int .i64 t236, .int .i64 t237, .int .i64 t238], .int .i64 t239] rfl (by (try simp only [List.map_toArray, List.map_cons, List.map_nil]); first | done | rfl | (simp only [List.length_drop, List.length_take]; rfl)) ?_; (with_reducible refine (impl_PlanSeal.calls k t232 t233 t234 t235 t236 t237 t238 t239 t241 t242 t243 t244 t245 t246 t247 _ A4.out).mono ?_); rintro e w10 ⟨rfl, hb⟩; refine ⟨_, rfl, ?_⟩; have n0_ := Aside0.mk (blk_below (g := gb240) (o := .cells #[.int .i64 t232, .int .i64 t233, .int .i64 t234, .string t235, .int .i64 t236, .int .i64 t237, .int .i64 t238] 26 (0, 0)) (by (with_reducible repeat (first | refine blk_drewN ?_ _ | refine blk_drew ?_ | refine blk_alloc ?_ _)); refine blk_put (cs := #[.int .i64 t232, .int .i64 t233, .int .i64 t234, .string t235, .int .i64 t236, .int .i64 t237, .int .i64 0]) ?_ 6 _ rfl; (with_reducible repeat (first | refine blk_drewN ?_ _ | refine blk_drew ?_ | refine blk_alloc ?_ _)); refine blk_put (cs := #[.int .i64 t232, .int .i64 t233, .int .i64 t234, .string t235, .int .i64 t236, .int .i64 0, .int .i64 0]) ?_ 5 _ rfl; (with_reducible repeat (first | refine blk_drewN ?_ _ | refine blk_drew ?_ | refine blk_alloc ?_ _)); refine blk_put (cs := #[.int .i64 t232, .int .i64 t233, .int .i64 t234, .string t235, .int .i64 0, .int .i64 0, .int .i64 0]) ?_ 4 _ rfl; (with_reducible repeat (first | refine blk_drewN ?_ _ | refine blk_drew ?_ | refine blk_alloc ?_ _)); refine blk_put (cs := #[.int .i64 t232, .int .i64 t233, .int .i64 t234, .string (⟨#[]⟩ : ByteArray), .int .i64 0, .int .i64 0, .int .i64 0]) ?_ 3 _ rfl; (with_reducible repeat (first | refine blk_drewN ?_ _ | refine blk_drew ?_ | refine blk_alloc ?_ _)); refine blk_put (cs := #[.int .i64 t232, .int .i64 t233, .int .i64 0, .string (⟨#[]⟩ : ByteArray), .int .i64 0, .int .i64 0, .int .i64 0]) ?_ 2 _ rfl; (with_reducible repeat (first | refine blk_drewN ?_ _ | refine blk_drew ?_ | refine blk_alloc ?_ _)); refine blk_put (cs := #[.int .i64 t232, .int .i64 0, .int .i64 0, .string (⟨#[]⟩ : ByteArray), .int .i64 0, .int .i64 0, .int .i64 0]) ?_ 1 _ rfl; (with_reducible repeat (first | refine blk_drewN ?_ _ | refine blk_drew ?_ | refine blk_alloc ?_ _)); refine blk_put (cs := #[.int .i64 0, .int .i64 0, .int .i64 0, .string (⟨#[]⟩ : ByteArray), .int .i64 0, .int .i64 0, .int .i64 0]) ?_ 0 _ rfl; (with_reducible repeat (first | refine blk_drewN ?_ _ | refine blk_drew ?_ | refine blk_alloc ?_ _)); exact BK240.out) hb); have n1_ := Aside0.mk (below_step (bz) hb); clear BK240; clear HB; have BK240 := n0_; have HB := n1_; clear n0_ n1_; (try clear hb); (try clear hb2); (try clear hk); (try clear hi)) | ((with_reducible refine gate_dst (N := 5) rfl ?_); refine box_event ?hg (N := 5) ?hd (cs := #[.int .i64 0, .int .i64 0, .int .i64 0, .string (⟨#[]⟩ : ByteArray), .int .i64 0, .int .i64 0]) (t := 47) ?hr ?_; (case hd => rfl); (case hg => rfl); (case hr => first | (go_simp; done) | (go_simp; rfl)); intro gb248 hg w11 hbox hb; have n0_ := bkb BK240 hb; have n1_ := Aside0.mk (below_step (bz) hb); have n2_ := Aside0.mk (hbox); have n3_ : Aside0 (w.heap.size ≤ gb248) := bsg hg; have n4_ : Aside0 (w.heap.size ≤ gb248) := bsg hg; have n5_ := nlt hg BK240; have n6_ := ngt hg BK240; clear BK240; clear HB; have BK240 := n0_; have HB := n1_; have BK248 := n2_; have GW248 := n3_; have GE248 := n4_; have NB240_248 := n5_; have NB248_240 := n6_; clear n0_ n1_ n2_ n3_ n4_ n5_ n6_; clear hb hbox hg; have hnb12 := NB248_240.out; have hnc12 := NB240_248.out; have hcz13_0 : w11.cell? ⟨gb248, 0, none⟩ = some (.int .i64 0) := (blk_cell BK248.out 0).trans rfl; have hcz13_1 : w11.cell? ⟨gb248, 1, none⟩ = some (.int .i64 0) := (blk_cell BK248.out 1).trans rfl; have hcz13_2 : w11.cell? ⟨gb248, 2, none⟩ = some (.int .i64 0) := (blk_cell BK248.out 2).trans rfl; have hcz13_3 : w11.cell? ⟨gb248, 3, none⟩ = some (.string (⟨#[]⟩ : ByteArray)) := (blk_cell BK248.out 3).trans rfl; have hcz13_4 : w11.cell? ⟨gb248, 4, none⟩ = some (.int .i64 0) := (blk_cell BK248.out 4).trans rfl; have hcz13_5 : w11.cell? ⟨gb248, 5, none⟩ = some (.int .i64 0) := (blk_cell BK248.out 5).trans rfl; have hfz13_0 := blk_frozen BK248.out 0; have hfz13_1 := blk_frozen BK248.out 1; have hfz13_2 := blk_frozen BK248.out 2; have hfz13_3 := blk_frozen BK248.out 3; have hfz13_4 := blk_frozen BK248.out 4; have hfz13_5 := blk_frozen BK248.out 5; have hcz14_0 : w11.cell? ⟨gb240, 0, none⟩ = some (.int .i64 t232) := (blk_cell BK240.out 0).trans rfl; have hcz14_1 : w11.cell? ⟨gb240, 1, none⟩ = some (.int .i64 t233) := (blk_cell BK240.out 1).trans rfl; have hcz14_2 : w11.cell? ⟨gb240, 2, none⟩ = some (.int .i64 t234) := (blk_cell BK240.out 2).trans rfl; have hcz14_3 : w11.cell? ⟨gb240, 3, none⟩ = some (.string t235) := (blk_cell BK240.out 3).trans rfl; have hcz14_4 : w11.cell? ⟨gb240, 4, none⟩ = some (.int .i64 t236) := (blk_cell BK240.out 4).trans rfl; have hcz14_5 : w11.cell? ⟨gb240, 5, none⟩ = some (.int .i64 t237) := (blk_cell BK240.out 5).trans rfl; have hcz14_6 : w11.cell? ⟨gb240, 6, none⟩ = some (.int .i64 t238) := (blk_cell BK240.out 6).trans rfl; have hfz14_0 := blk_frozen BK240.out 0; have hfz14_1 := blk_frozen BK240.out 1; have hfz14_2 := blk_frozen BK240.out 2; have hfz14_3 := blk_frozen BK240.out 3; have hfz14_4 := blk_frozen BK240.out 4; have hfz14_5 := blk_frozen BK240.out 5; have hfz14_6 := blk_frozen BK240.out 6) | ((with_reducible refine gate_callee (f := 28) rfl ?_); refine goesL_ (some 26) rfl rfl Try.func28 (by kernel_rfl) rfl #[.agg #[.int .i64 t232, .int .i64 t233, .int .i64 t234, .string t235, .int .i64 t236, .int .i64 t237, .int .i64 t238], .int .i64 t239] rfl (by (try simp only [List.map_toArray, List.map_cons, List.map_nil]); first | done | rfl | (simp only [List.length_drop, List.length_take]; rfl)) ?_; (with_reducible refine (spec_PlanSeal.calls k t232 t233 t234 t235 t236 t237 t238 t239 t249 t250 t251 t252 t253 t254 t255 _ A5.out).mono ?_); rintro e w15 ⟨rfl, hb⟩; refine ⟨_, rfl, ?_⟩; have n0_ := Aside0.mk (blk_below (g := gb240) (o := .cells #[.int .i64 t232, .int .i64 t233, .int .i64 t234, .string t235, .int .i64 t236, .int .i64 t237, .int .i64 t238] 26 (0, 0)) (by (with_reducible repeat (first | refine blk_drewN ?_ _ | refine blk_drew ?_ | refine blk_alloc ?_ _)); refine blk_far ?_ NB240_248.out _; (with_reducible repeat (first | refine blk_drewN ?_ _ | refine blk_drew ?_ | refine blk_alloc ?_ _)); refine blk_far ?_ NB240_248.out _; (with_reducible repeat (first | refine blk_drewN ?_ _ | refine blk_drew ?_ | refine blk_alloc ?_ _)); refine blk_far ?_ NB240_248.out _; (with_reducible repeat (first | refine blk_drewN ?_ _ | refine blk_drew ?_ | refine blk_alloc ?_ _)); refine blk_far ?_ NB240_248.out _; (with_reducible repeat (first | refine blk_drewN ?_ _ | refine blk_drew ?_ | refine blk_alloc ?_ _)); refine blk_far ?_ NB240_248.out _; (with_reducible repeat (first | refine blk_drewN ?_ _ | refine blk_drew ?_ | refine blk_alloc ?_ _)); refine blk_far ?_ NB240_248.out _; (with_reducible repeat (first | refine blk_drewN ?_ _ | refine blk_drew ?_ | refine blk_alloc ?_ _)); exact BK240.out) hb); have n1_ := Aside0.mk (blk_below (g := gb248) (o := .cells #[.int .i64 t241, .int .i64 t242, .int .i64 t243, .string t244, .int .i64 t245, .int .i64 t246] 47 (0, 0)) (by (with_reducible repeat (first | refine blk_drewN ?_ _ | refine blk_drew ?_ | refine blk_alloc ?_ _)); refine blk_put (cs := #[.int .i64 t241, .int .i64 t242, .int .i64 t243, .string t244, .int .i64 t245, .int .i64 0]) ?_ 5 _ rfl; (with_reducible repeat (first | refine blk_drewN ?_ _ | refine blk_drew ?_ | refine blk_alloc ?_ _)); refine blk_put (cs := #[.int .i64 t241, .int .i64 t242, .int .i64 t243, .string t244, .int .i64 0, .int .i64 0]) ?_ 4 _ rfl; (with_reducible repeat (first | refine blk_drewN ?_ _ | refine blk_drew ?_ | refine blk_alloc ?_ _)); refine blk_put (cs := #[.int .i64 t241, .int .i64 t242, .int .i64 t243, .string (⟨#[]⟩ : ByteArray), .int .i64 0, .int .i64 0]) ?_ 3 _ rfl; (with_reducible repeat (first | refine blk_drewN ?_ _ | refine blk_drew ?_ | refine blk_alloc ?_ _)); refine blk_put (cs := #[.int .i64 t241, .int .i64 t242, .int .i64 0, .string (⟨#[]⟩ : ByteArray), .int .i64 0, .int .i64 0]) ?_ 2 _ rfl; (with_reducible repeat (first | refine blk_drewN ?_ _ | refine blk_drew ?_ | refine blk_alloc ?_ _)); refine blk_put (cs := #[.int .i64 t241, .int .i64 0, .int .i64 0, .string (⟨#[]⟩ : ByteArray), .int .i64 0, .int .i64 0]) ?_ 1 _ rfl; (with_reducible repeat (first | refine blk_drewN ?_ _ | refine blk_drew ?_ | refine blk_alloc ?_ _)); refine blk_put (cs := #[.int .i64 0, .int .i64 0, .int .i64 0, .string (⟨#[]⟩ : ByteArray), .int .i64 0, .int .i64 0]) ?_ 0 _ rfl; (with_reducible repeat (first | refine blk_drewN ?_ _ | refine blk_drew ?_ | refine blk_alloc ?_ _)); exact BK248.out) hb); have n2_ := Aside0.mk (below_step (bz) hb); clear BK240; clear BK248; clear HB; have BK240 := n0_; have BK248 := n1_; have HB := n2_; clear n0_ n1_ n2_; (try clear hb); (try clear hb2); (try clear hk); (try clear hi)) | ((with_reducible refine gate_dst (N := 7) rfl ?_); refine box_event ?hg (N := 7) ?hd (cs := #[.int .i64 0, .int .i64 0, .int .i64 0, .string (⟨#[]⟩ : ByteArray), .int .i64 0, .int .i64 0]) (t := 47) ?hr ?_; (case hd => rfl); (case hg => rfl); (case hr => first | (go_simp; done) | (go_simp; rfl)); intro gb256 hg w16 hbox hb; have n0_ := bkb BK240 hb; have n1_ := bkb BK248 hb; have n2_ := Aside0.mk (below_step (bz) hb); have n3_ := Aside0.mk (hbox); have n4_ : Aside0 (w.heap.size ≤ gb256) := bsg hg; have n5_ : Aside0 (w.heap.size ≤ gb256) := bsg hg; have n6_ := nlt hg BK240; have n7_ := ngt hg BK240; have n8_ := nlt hg BK248; have n9_ := ngt hg BK248; clear BK240; clear BK248; clear HB; have BK240 := n0_; have BK248 := n1_; have HB := n2_; have BK256 := n3_; have GW256 := n4_; have GE256 := n5_; have NB240_256 := n6_; have NB256_240 := n7_; have NB248_256 := n8_; have NB256_248 := n9_; clear n0_ n1_ n2_ n3_ n4_ n5_ n6_ n7_ n8_ n9_; clear hb hbox hg; have hnb17 := NB256_240.out; have hnc17 := NB240_256.out; have hnb18 := NB256_248.out; have hnc18 := NB248_256.out; have hcz19_0 : w16.cell? ⟨gb256, 0, none⟩ = some (.int .i64 0) := (blk_cell BK256.out 0).trans rfl; have hcz19_1 : w16.cell? ⟨gb256, 1, none⟩ = some (.int .i64 0) := (blk_cell BK256.out 1).trans rfl; have hcz19_2 : w16.cell? ⟨gb256, 2, none⟩ = some (.int .i64 0) := (blk_cell BK256.out 2).trans rfl; have hcz19_3 : w16.cell? ⟨gb256, 3, none⟩ = some (.string (⟨#[]⟩ : ByteArray)) := (blk_cell BK256.out 3).trans rfl; have hcz19_4 : w16.cell? ⟨gb256, 4, none⟩ = some (.int .i64 0) := (blk_cell BK256.out 4).trans rfl; have hcz19_5 : w16.cell? ⟨gb256, 5, none⟩ = some (.int .i64 0) := (blk_cell BK256.out 5).trans rfl; have hfz19_0 := blk_frozen BK256.out 0; have hfz19_1 := blk_frozen BK256.out 1; have hfz19_2 := blk_frozen BK256.out 2; have hfz19_3 := blk_frozen BK256.out 3; have hfz19_4 := blk_frozen BK256.out 4; have hfz19_5 := blk_frozen BK256.out 5))
  (try simp only [Act.put, List.setIfInBounds_toArray, List.set_cons_zero, List.set_cons_succ])
  go_cut [36] (fun v36 wc => ∃ (kq : Nat) (x36_5 : Bool), v36 = .bool x36_5 ∧ Aside0 (laws_FnPlanSeal.j0 kq t239 t247 x36_5 t232 t233 t234 t235 t236 t237 t238 t241 t242 t243 t244 t245 t246 = some r) ∧ Aside0 (kq ≤ k) ∧ Aside0 (wc.heap[gb240]? = some (.cells #[.int .i64 t232, .int .i64 t233, .int .i64 t234, .string t235, .int .i64 t236, .int .i64 t237, .int .i64 t238] 26 (0, 0))) ∧ Aside0 (wc.heap[gb248]? = some (.cells #[.int .i64 t241, .int .i64 t242, .int .i64 t243, .string t244, .int .i64 t245, .int .i64 t246] 47 (0, 0))) ∧ Aside0 (wc.heap[gb256]? = some (.cells #[.int .i64 t249, .int .i64 t250, .int .i64 t251, .string t252, .int .i64 t253, .int .i64 t254] 47 (0, 0))) ∧ Aside0 (Below w.heap.size w wc))
  case first =>
   have H := HC6.out
   clear HC6
   by_cases c20 : (!(t241 == t249) || (!(t242 == t250) || ((!(t243 == t251) || (!(t244.toList == t252.toList) || (!(t245 == t253) || (!(t246 == t254)))))))) = true
   ·
    rw [if_pos c20] at H
    have c20b0 : (!(t241 == t249) || (!(t242 == t250) || ((!(t243 == t251) || (!(t244.toList == t252.toList) || (!(t245 == t253) || (!(t246 == t254)))))))) = true := c20
    clear c20
    (first | rw [c20b0] | (simp only [i64_w, i32_w]; rw [c20b0]) | skip)
    have H' := Aside0.mk H
    clear H
    have hnb21 := NB248_240.out
    have hnc21 := NB240_248.out
    have hnb22 := NB248_256.out
    have hnc22 := NB256_248.out
    have hcz23_0 : w16.cell? ⟨gb248, 0, none⟩ = some (.int .i64 t241) := (blk_cell BK248.out 0).trans rfl
    have hcz23_1 : w16.cell? ⟨gb248, 1, none⟩ = some (.int .i64 t242) := (blk_cell BK248.out 1).trans rfl
    have hcz23_2 : w16.cell? ⟨gb248, 2, none⟩ = some (.int .i64 t243) := (blk_cell BK248.out 2).trans rfl
    have hcz23_3 : w16.cell? ⟨gb248, 3, none⟩ = some (.string t244) := (blk_cell BK248.out 3).trans rfl
    have hcz23_4 : w16.cell? ⟨gb248, 4, none⟩ = some (.int .i64 t245) := (blk_cell BK248.out 4).trans rfl
    have hcz23_5 : w16.cell? ⟨gb248, 5, none⟩ = some (.int .i64 t246) := (blk_cell BK248.out 5).trans rfl
    have hfz23_0 := blk_frozen BK248.out 0
    have hfz23_1 := blk_frozen BK248.out 1
    have hfz23_2 := blk_frozen BK248.out 2
    have hfz23_3 := blk_frozen BK248.out 3
    have hfz23_4 := blk_frozen BK248.out 4
    have hfz23_5 := blk_frozen BK248.out 5
    have hnb24 := NB256_240.out
    have hnc24 := NB240_256.out
    have hcz25_0 : w16.cell? ⟨gb256, 0, none⟩ = some (.int .i64 0) := (blk_cell BK256.out 0).trans rfl
    have hcz25_1 : w16.cell? ⟨gb256, 1, none⟩ = some (.int .i64 0) := (blk_cell BK256.out 1).trans rfl
    have hcz25_2 : w16.cell? ⟨gb256, 2, none⟩ = some (.int .i64 0) := (blk_cell BK256.out 2).trans rfl
    have hcz25_3 : w16.cell? ⟨gb256, 3, none⟩ = some (.string (⟨#[]⟩ : ByteArray)) := (blk_cell BK256.out 3).trans rfl
    have hcz25_4 : w16.cell? ⟨gb256, 4, none⟩ = some (.int .i64 0) := (blk_cell BK256.out 4).trans rfl
    have hcz25_5 : w16.cell? ⟨gb256, 5, none⟩ = some (.int .i64 0) := (blk_cell BK256.out 5).trans rfl
    have hfz25_0 := blk_frozen BK256.out 0
    have hfz25_1 := blk_frozen BK256.out 1
    have hfz25_2 := blk_frozen BK256.out 2
    have hfz25_3 := blk_frozen BK256.out 3
    have hfz25_4 := blk_frozen BK256.out 4
    have hfz25_5 := blk_frozen BK256.out 5
    go_wp2
    go_meet
    case rel => exact ⟨_, (true), (by first | rfl | (simp; done) | exact congrArg Value.bool (ne_nil_b _) | exact congrArg Value.bool (eq_nil_b _) | (simp [*]; done)), H', ⟨by first | omega | exact Nat.le_refl _⟩, ⟨by (with_reducible repeat (first | refine blk_drewN ?_ _ | refine blk_drew ?_ | refine blk_alloc ?_ _)); refine blk_far ?_ NB240_256.out _; (with_reducible repeat (first | refine blk_drewN ?_ _ | refine blk_drew ?_ | refine blk_alloc ?_ _)); refine blk_far ?_ NB240_256.out _; (with_reducible repeat (first | refine blk_drewN ?_ _ | refine blk_drew ?_ | refine blk_alloc ?_ _)); refine blk_far ?_ NB240_256.out _; (with_reducible repeat (first | refine blk_drewN ?_ _ | refine blk_drew ?_ | refine blk_alloc ?_ _)); refine blk_far ?_ NB240_256.out _; (with_reducible repeat (first | refine blk_drewN ?_ _ | refine blk_drew ?_ | refine blk_alloc ?_ _)); refine blk_far ?_ NB240_256.out _; (with_reducible repeat (first | refine blk_drewN ?_ _ | refine blk_drew ?_ | refine blk_alloc ?_ _)); refine blk_far ?_ NB240_256.out _; (with_reducible repeat (first | refine blk_drewN ?_ _ | refine blk_drew ?_ | refine blk_alloc ?_ _)); exact BK240.out⟩, ⟨by (with_reducible repeat (first | refine blk_drewN ?_ _ | refine blk_drew ?_ | refine blk_alloc ?_ _)); refine blk_far ?_ NB248_256.out _; (with_reducible repeat (first | refine blk_drewN ?_ _ | refine blk_drew ?_ | refine blk_alloc ?_ _)); refine blk_far ?_ NB248_256.out _; (with_reducible repeat (first | refine blk_drewN ?_ _ | refine blk_drew ?_ | refine blk_alloc ?_ _)); refine blk_far ?_ NB248_256.out _; (with_reducible repeat (first | refine blk_drewN ?_ _ | refine blk_drew ?_ | refine blk_alloc ?_ _)); refine blk_far ?_ NB248_256.out _; (with_reducible repeat (first | refine blk_drewN ?_ _ | refine blk_drew ?_ | refine blk_alloc ?_ _)); refine blk_far ?_ NB248_256.out _; (with_reducible repeat (first | refine blk_drewN ?_ _ | refine blk_drew ?_ | refine blk_alloc ?_ _)); refine blk_far ?_ NB248_256.out _; (with_reducible repeat (first | refine blk_drewN ?_ _ | refine blk_drew ?_ | refine blk_alloc ?_ _)); exact BK248.out⟩, ⟨by (with_reducible repeat (first | refine blk_drewN ?_ _ | refine blk_drew ?_ | refine blk_alloc ?_ _)); refine blk_put (cs := #[.int .i64 t249, .int .i64 t250, .int .i64 t251, .string t252, .int .i64 t253, .int .i64 0]) ?_ 5 _ rfl; (with_reducible repeat (first | refine blk_drewN ?_ _ | refine blk_drew ?_ | refine blk_alloc ?_ _)); refine blk_put (cs := #[.int .i64 t249, .int .i64 t250, .int .i64 t251, .string t252, .int .i64 0, .int .i64 0]) ?_ 4 _ rfl; (with_reducible repeat (first | refine blk_drewN ?_ _ | refine blk_drew ?_ | refine blk_alloc ?_ _)); refine blk_put (cs := #[.int .i64 t249, .int .i64 t250, .int .i64 t251, .string (⟨#[]⟩ : ByteArray), .int .i64 0, .int .i64 0]) ?_ 3 _ rfl; (with_reducible repeat (first | refine blk_drewN ?_ _ | refine blk_drew ?_ | refine blk_alloc ?_ _)); refine blk_put (cs := #[.int .i64 t249, .int .i64 t250, .int .i64 0, .string (⟨#[]⟩ : ByteArray), .int .i64 0, .int .i64 0]) ?_ 2 _ rfl; (with_reducible repeat (first | refine blk_drewN ?_ _ | refine blk_drew ?_ | refine blk_alloc ?_ _)); refine blk_put (cs := #[.int .i64 t249, .int .i64 0, .int .i64 0, .string (⟨#[]⟩ : ByteArray), .int .i64 0, .int .i64 0]) ?_ 1 _ rfl; (with_reducible repeat (first | refine blk_drewN ?_ _ | refine blk_drew ?_ | refine blk_alloc ?_ _)); refine blk_put (cs := #[.int .i64 0, .int .i64 0, .int .i64 0, .string (⟨#[]⟩ : ByteArray), .int .i64 0, .int .i64 0]) ?_ 0 _ rfl; (with_reducible repeat (first | refine blk_drewN ?_ _ | refine blk_drew ?_ | refine blk_alloc ?_ _)); exact BK256.out⟩, ⟨bz⟩⟩
   ·
    rw [if_neg c20] at H
    have c20b0 : (!(t241 == t249) || (!(t242 == t250) || ((!(t243 == t251) || (!(t244.toList == t252.toList) || (!(t245 == t253) || (!(t246 == t254)))))))) = false := by simpa using c20
    clear c20
    (first | rw [c20b0] | (simp only [i64_w, i32_w]; rw [c20b0]) | skip)
    have H' := Aside0.mk H
    clear H
    have hnb26 := NB248_240.out
    have hnc26 := NB240_248.out
    have hnb27 := NB248_256.out
    have hnc27 := NB256_248.out
    have hcz28_0 : w16.cell? ⟨gb248, 0, none⟩ = some (.int .i64 t241) := (blk_cell BK248.out 0).trans rfl
    have hcz28_1 : w16.cell? ⟨gb248, 1, none⟩ = some (.int .i64 t242) := (blk_cell BK248.out 1).trans rfl
    have hcz28_2 : w16.cell? ⟨gb248, 2, none⟩ = some (.int .i64 t243) := (blk_cell BK248.out 2).trans rfl
    have hcz28_3 : w16.cell? ⟨gb248, 3, none⟩ = some (.string t244) := (blk_cell BK248.out 3).trans rfl
    have hcz28_4 : w16.cell? ⟨gb248, 4, none⟩ = some (.int .i64 t245) := (blk_cell BK248.out 4).trans rfl
    have hcz28_5 : w16.cell? ⟨gb248, 5, none⟩ = some (.int .i64 t246) := (blk_cell BK248.out 5).trans rfl
    have hfz28_0 := blk_frozen BK248.out 0
    have hfz28_1 := blk_frozen BK248.out 1
    have hfz28_2 := blk_frozen BK248.out 2
    have hfz28_3 := blk_frozen BK248.out 3
    have hfz28_4 := blk_frozen BK248.out 4
    have hfz28_5 := blk_frozen BK248.out 5
    have hnb29 := NB256_240.out
    have hnc29 := NB240_256.out
    have hcz30_0 : w16.cell? ⟨gb256, 0, none⟩ = some (.int .i64 0) := (blk_cell BK256.out 0).trans rfl
    have hcz30_1 : w16.cell? ⟨gb256, 1, none⟩ = some (.int .i64 0) := (blk_cell BK256.out 1).trans rfl
    have hcz30_2 : w16.cell? ⟨gb256, 2, none⟩ = some (.int .i64 0) := (blk_cell BK256.out 2).trans rfl
    have hcz30_3 : w16.cell? ⟨gb256, 3, none⟩ = some (.string (⟨#[]⟩ : ByteArray)) := (blk_cell BK256.out 3).trans rfl
    have hcz30_4 : w16.cell? ⟨gb256, 4, none⟩ = some (.int .i64 0) := (blk_cell BK256.out 4).trans rfl
    have hcz30_5 : w16.cell? ⟨gb256, 5, none⟩ = some (.int .i64 0) := (blk_cell BK256.out 5).trans rfl
    have hfz30_0 := blk_frozen BK256.out 0
    have hfz30_1 := blk_frozen BK256.out 1
    have hfz30_2 := blk_frozen BK256.out 2
    have hfz30_3 := blk_frozen BK256.out 3
    have hfz30_4 := blk_frozen BK256.out 4
    have hfz30_5 := blk_frozen BK256.out 5
    go_wp2
    go_meet
    case rel => exact ⟨_, ((t247 != t255)), (by first | rfl | (simp; done) | exact congrArg Value.bool (ne_nil_b _) | exact congrArg Value.bool (eq_nil_b _) | (simp [*]; done)), H', ⟨by first | omega | exact Nat.le_refl _⟩, ⟨by (with_reducible repeat (first | refine blk_drewN ?_ _ | refine blk_drew ?_ | refine blk_alloc ?_ _)); refine blk_far ?_ NB240_256.out _; (with_reducible repeat (first | refine blk_drewN ?_ _ | refine blk_drew ?_ | refine blk_alloc ?_ _)); refine blk_far ?_ NB240_256.out _; (with_reducible repeat (first | refine blk_drewN ?_ _ | refine blk_drew ?_ | refine blk_alloc ?_ _)); refine blk_far ?_ NB240_256.out _; (with_reducible repeat (first | refine blk_drewN ?_ _ | refine blk_drew ?_ | refine blk_alloc ?_ _)); refine blk_far ?_ NB240_256.out _; (with_reducible repeat (first | refine blk_drewN ?_ _ | refine blk_drew ?_ | refine blk_alloc ?_ _)); refine blk_far ?_ NB240_256.out _; (with_reducible repeat (first | refine blk_drewN ?_ _ | refine blk_drew ?_ | refine blk_alloc ?_ _)); refine blk_far ?_ NB240_256.out _; (with_reducible repeat (first | refine blk_drewN ?_ _ | refine blk_drew ?_ | refine blk_alloc ?_ _)); exact BK240.out⟩, ⟨by (with_reducible repeat (first | refine blk_drewN ?_ _ | refine blk_drew ?_ | refine blk_alloc ?_ _)); refine blk_far ?_ NB248_256.out _; (with_reducible repeat (first | refine blk_drewN ?_ _ | refine blk_drew ?_ | refine blk_alloc ?_ _)); refine blk_far ?_ NB248_256.out _; (with_reducible repeat (first | refine blk_drewN ?_ _ | refine blk_drew ?_ | refine blk_alloc ?_ _)); refine blk_far ?_ NB248_256.out _; (with_reducible repeat (first | refine blk_drewN ?_ _ | refine blk_drew ?_ | refine blk_alloc ?_ _)); refine blk_far ?_ NB248_256.out _; (with_reducible repeat (first | refine blk_drewN ?_ _ | refine blk_drew ?_ | refine blk_alloc ?_ _)); refine blk_far ?_ NB248_256.out _; (with_reducible repeat (first | refine blk_drewN ?_ _ | refine blk_drew ?_ | refine blk_alloc ?_ _)); refine blk_far ?_ NB248_256.out _; (with_reducible repeat (first | refine blk_drewN ?_ _ | refine blk_drew ?_ | refine blk_alloc ?_ _)); exact BK248.out⟩, ⟨by (with_reducible repeat (first | refine blk_drewN ?_ _ | refine blk_drew ?_ | refine blk_alloc ?_ _)); refine blk_put (cs := #[.int .i64 t249, .int .i64 t250, .int .i64 t251, .string t252, .int .i64 t253, .int .i64 0]) ?_ 5 _ rfl; (with_reducible repeat (first | refine blk_drewN ?_ _ | refine blk_drew ?_ | refine blk_alloc ?_ _)); refine blk_put (cs := #[.int .i64 t249, .int .i64 t250, .int .i64 t251, .string t252, .int .i64 0, .int .i64 0]) ?_ 4 _ rfl; (with_reducible repeat (first | refine blk_drewN ?_ _ | refine blk_drew ?_ | refine blk_alloc ?_ _)); refine blk_put (cs := #[.int .i64 t249, .int .i64 t250, .int .i64 t251, .string (⟨#[]⟩ : ByteArray), .int .i64 0, .int .i64 0]) ?_ 3 _ rfl; (with_reducible repeat (first | refine blk_drewN ?_ _ | refine blk_drew ?_ | refine blk_alloc ?_ _)); refine blk_put (cs := #[.int .i64 t249, .int .i64 t250, .int .i64 0, .string (⟨#[]⟩ : ByteArray), .int .i64 0, .int .i64 0]) ?_ 2 _ rfl; (with_reducible repeat (first | refine blk_drewN ?_ _ | refine blk_drew ?_ | refine blk_alloc ?_ _)); refine blk_put (cs := #[.int .i64 t249, .int .i64 0, .int .i64 0, .string (⟨#[]⟩ : ByteArray), .int .i64 0, .int .i64 0]) ?_ 1 _ rfl; (with_reducible repeat (first | refine blk_drewN ?_ _ | refine blk_drew ?_ | refine blk_alloc ?_ _)); refine blk_put (cs := #[.int .i64 0, .int .i64 0, .int .i64 0, .string (⟨#[]⟩ : ByteArray), .int .i64 0, .int .i64 0]) ?_ 0 _ rfl; (with_reducible repeat (first | refine blk_drewN ?_ _ | refine blk_drew ?_ | refine blk_alloc ?_ _)); exact BK256.out⟩, ⟨bz⟩⟩
  case rest =>
   clear HC6
   try clear c1
   try clear c2
   try clear c2b0
   try clear c2b1
   try clear p2
   try clear c4
   try clear c10
   try clear c12
   try clear c17
   try clear c18
   try clear c20
   try clear c20b0
   try clear c21
   try clear c22
   try clear c24
   try clear c26
   try clear c27
   try clear c28
   try clear c29
   try clear hcz13_0
   try clear hcz13_1
   try clear hcz13_2
   try clear hcz13_3
   try clear hcz13_4
   try clear hcz13_5
   try clear hcz14_0
   try clear hcz14_1
   try clear hcz14_2
   try clear hcz14_3
   try clear hcz14_4
   try clear hcz14_5
   try clear hcz14_6
   try clear hcz19_0
   try clear hcz19_1
   try clear hcz19_2
   try clear hcz19_3
   try clear hcz19_4
   try clear hcz19_5
   try clear hcz23_0
   try clear hcz23_1
   try clear hcz23_2
   try clear hcz23_3
   try clear hcz23_4
   try clear hcz23_5
   try clear hcz25_0
   try clear hcz25_1
   try clear hcz25_2
   try clear hcz25_3
   try clear hcz25_4
   try clear hcz25_5
   try clear hcz28_0
   try clear hcz28_1
   try clear hcz28_2
   try clear hcz28_3
   try clear hcz28_4
   try clear hcz28_5
   try clear hcz30_0
   try clear hcz30_1
   try clear hcz30_2
   try clear hcz30_3
   try clear hcz30_4
   try clear hcz30_5
   try clear hcz9_0
   try clear hcz9_1
   try clear hcz9_2
   try clear hcz9_3
   try clear hcz9_4
   try clear hcz9_5
   try clear hcz9_6
   try clear hfz13_0
   try clear hfz13_1
   try clear hfz13_2
   try clear hfz13_3
   try clear hfz13_4
   try clear hfz13_5
   try clear hfz14_0
   try clear hfz14_1
   try clear hfz14_2
   try clear hfz14_3
   try clear hfz14_4
   try clear hfz14_5
   try clear hfz14_6
   try clear hfz19_0
   try clear hfz19_1
   try clear hfz19_2
   try clear hfz19_3
   try clear hfz19_4
   try clear hfz19_5
   try clear hfz23_0
   try clear hfz23_1
   try clear hfz23_2
   try clear hfz23_3
   try clear hfz23_4
   try clear hfz23_5
   try clear hfz25_0
   try clear hfz25_1
   try clear hfz25_2
   try clear hfz25_3
   try clear hfz25_4
   try clear hfz25_5
   try clear hfz28_0
   try clear hfz28_1
   try clear hfz28_2
   try clear hfz28_3
   try clear hfz28_4
   try clear hfz28_5
   try clear hfz30_0
   try clear hfz30_1
   try clear hfz30_2
   try clear hfz30_3
   try clear hfz30_4
   try clear hfz30_5
   try clear hfz9_0
   try clear hfz9_1
   try clear hfz9_2
   try clear hfz9_3
   try clear hfz9_4
   try clear hfz9_5
   try clear hfz9_6
   obtain ⟨kq, x36_5, rfl, HA, HJ5, BK240, BK248, BK256, HB⟩ := hcut
   cases kq with
   | zero => exact absurd HA.out (by simp [laws_FnPlanSeal.j0])
   | succ kj5 =>
    have H := HA.out
    clear HA
    simp only [laws_FnPlanSeal.j0] at H
    by_cases c31 : x36_5 = true
    ·
     subst c31
     rw [if_pos rfl] at H
     obtain rfl := Option.some.inj H
     go_wp2
     go_ret
     exact ⟨by first | rfl | (simp only [u8w, w64m]; rfl) | (simp [errW_none, errW_some] <;> rfl) | (simp [*, errW_none, errW_some] <;> rfl), bz⟩
    ·
     replace c31 := Bool.eq_false_iff.mpr c31
     subst c31
     rw [if_neg (show ¬ (false = true) by decide)] at H
     by_cases c32 : t247 = true
     ·
      subst c32
      rw [if_pos rfl] at H
      replace H := Option.bind_eq_some_iff.mp H
      obtain ⟨t257, A330, H⟩ := H
      try dsimp only at H
      have A33 := Aside0.mk A330
      clear A330
      by_cases c34 : t257 = true
      ·
       subst c34
       rw [if_pos rfl] at H
       by_cases c35 : t241 = 0
       ·
        rw [if_pos c35] at H
        have c35b0 : (t241 == 0) = true := beq_iff_eq.mpr c35
        have c35b1 : (t241 != 0) = false := bne_eq_false_iff_eq.mpr c35
        clear c35
        by_cases c36 : t242 = t239
        ·
         rw [if_pos c36] at H
         have c36b0 : (t242 == t239) = true := beq_iff_eq.mpr c36
         have c36b1 : (t242 != t239) = false := bne_eq_false_iff_eq.mpr c36
         clear c36
         by_cases c37 : t243 = 5
         ·
          rw [if_pos c37] at H
          have c37b0 : (t243 == 5) = true := beq_iff_eq.mpr c37
          have c37b1 : (t243 != 5) = false := bne_eq_false_iff_eq.mpr c37
          clear c37
          by_cases c38 : t244.toList = t235.toList
          ·
           rw [if_pos c38] at H
           have c38b0 : (t244.toList == t235.toList) = true := beq_iff_eq.mpr c38
           have c38b1 : (t244.toList != t235.toList) = false := bne_eq_false_iff_eq.mpr c38
           clear c38
           obtain rfl := Option.some.inj H
           have hnb39 := NB248_240.out
           have hnc39 := NB240_248.out
           have hnb40 := NB248_256.out
           have hnc40 := NB256_248.out
           have hcz41_0 : wc.cell? ⟨gb248, 0, none⟩ = some (.int .i64 t241) := (blk_cell BK248.out 0).trans rfl
           have hcz41_1 : wc.cell? ⟨gb248, 1, none⟩ = some (.int .i64 t242) := (blk_cell BK248.out 1).trans rfl
           have hcz41_2 : wc.cell? ⟨gb248, 2, none⟩ = some (.int .i64 t243) := (blk_cell BK248.out 2).trans rfl
           have hcz41_3 : wc.cell? ⟨gb248, 3, none⟩ = some (.string t244) := (blk_cell BK248.out 3).trans rfl
           have hcz41_4 : wc.cell? ⟨gb248, 4, none⟩ = some (.int .i64 t245) := (blk_cell BK248.out 4).trans rfl
           have hcz41_5 : wc.cell? ⟨gb248, 5, none⟩ = some (.int .i64 t246) := (blk_cell BK248.out 5).trans rfl
           have hfz41_0 := blk_frozen BK248.out 0
           have hfz41_1 := blk_frozen BK248.out 1
           have hfz41_2 := blk_frozen BK248.out 2
           have hfz41_3 := blk_frozen BK248.out 3
           have hfz41_4 := blk_frozen BK248.out 4
           have hfz41_5 := blk_frozen BK248.out 5
           go_wp2_with (first | ((with_reducible refine gate_callee (f := 41) rfl ?_); refine goesL_ (some 46) rfl rfl Try.func41 (by kernel_rfl) rfl #[.agg #[.int .i64 t241, .int .i64 t242, .int .i64 t243, .string t244, .int .i64 t245, .int .i64 t246]] rfl (by (try simp only [List.map_toArray, List.map_cons, List.map_nil]); first | done | rfl | (simp only [List.length_drop, List.length_take]; rfl)) ?_; (with_reducible refine (impl_EntryValid.calls kj5 t241 t242 t243 t244 t245 t246 true _ A33.out).mono ?_); rintro e w42 ⟨rfl, hb⟩; refine ⟨_, rfl, ?_⟩; have n0_ := bkb BK240 hb; have n1_ := bkb BK248 hb; have n2_ := bkb BK256 hb; have n3_ := Aside0.mk (below_step (bz) hb); clear BK240; clear BK248; clear BK256; clear HB; have BK240 := n0_; have BK248 := n1_; have BK256 := n2_; have HB := n3_; clear n0_ n1_ n2_ n3_; (try clear hb); (try clear hb2); (try clear hk); (try clear hi); have hcz43_0 : w42.cell? ⟨gb248, 0, none⟩ = some (.int .i64 t241) := (blk_cell BK248.out 0).trans rfl; have hcz43_1 : w42.cell? ⟨gb248, 1, none⟩ = some (.int .i64 t242) := (blk_cell BK248.out 1).trans rfl; have hcz43_2 : w42.cell? ⟨gb248, 2, none⟩ = some (.int .i64 t243) := (blk_cell BK248.out 2).trans rfl; have hcz43_3 : w42.cell? ⟨gb248, 3, none⟩ = some (.string t244) := (blk_cell BK248.out 3).trans rfl; have hcz43_4 : w42.cell? ⟨gb248, 4, none⟩ = some (.int .i64 t245) := (blk_cell BK248.out 4).trans rfl; have hcz43_5 : w42.cell? ⟨gb248, 5, none⟩ = some (.int .i64 t246) := (blk_cell BK248.out 5).trans rfl; have hfz43_0 := blk_frozen BK248.out 0; have hfz43_1 := blk_frozen BK248.out 1; have hfz43_2 := blk_frozen BK248.out 2; have hfz43_3 := blk_frozen BK248.out 3; have hfz43_4 := blk_frozen BK248.out 4; have hfz43_5 := blk_frozen BK248.out 5; have hnb44 := NB240_256.out; have hnc44 := NB256_240.out; have hcz45_0 : w42.cell? ⟨gb240, 0, none⟩ = some (.int .i64 t232) := (blk_cell BK240.out 0).trans rfl; have hcz45_1 : w42.cell? ⟨gb240, 1, none⟩ = some (.int .i64 t233) := (blk_cell BK240.out 1).trans rfl; have hcz45_2 : w42.cell? ⟨gb240, 2, none⟩ = some (.int .i64 t234) := (blk_cell BK240.out 2).trans rfl; have hcz45_3 : w42.cell? ⟨gb240, 3, none⟩ = some (.string t235) := (blk_cell BK240.out 3).trans rfl; have hcz45_4 : w42.cell? ⟨gb240, 4, none⟩ = some (.int .i64 t236) := (blk_cell BK240.out 4).trans rfl; have hcz45_5 : w42.cell? ⟨gb240, 5, none⟩ = some (.int .i64 t237) := (blk_cell BK240.out 5).trans rfl; have hcz45_6 : w42.cell? ⟨gb240, 6, none⟩ = some (.int .i64 t238) := (blk_cell BK240.out 6).trans rfl; have hfz45_0 := blk_frozen BK240.out 0; have hfz45_1 := blk_frozen BK240.out 1; have hfz45_2 := blk_frozen BK240.out 2; have hfz45_3 := blk_frozen BK240.out 3; have hfz45_4 := blk_frozen BK240.out 4; have hfz45_5 := blk_frozen BK240.out 5; have hfz45_6 := blk_frozen BK240.out 6))
           go_ret
           exact ⟨by first | rfl | (simp only [u8w, w64m]; rfl) | (simp [errW_none, errW_some] <;> rfl) | (simp [*, errW_none, errW_some] <;> rfl), bz⟩
          ·
           rw [if_neg c38] at H
           have c38b0 : (t244.toList == t235.toList) = false := beq_eq_false_iff_ne.mpr c38
           have c38b1 : (t244.toList != t235.toList) = true := bne_iff_ne.mpr c38
           obtain rfl := Option.some.inj H
           have hnb46 := NB248_240.out
           have hnc46 := NB240_248.out
           have hnb47 := NB248_256.out
           have hnc47 := NB256_248.out
           have hcz48_0 : wc.cell? ⟨gb248, 0, none⟩ = some (.int .i64 t241) := (blk_cell BK248.out 0).trans rfl
           have hcz48_1 : wc.cell? ⟨gb248, 1, none⟩ = some (.int .i64 t242) := (blk_cell BK248.out 1).trans rfl
           have hcz48_2 : wc.cell? ⟨gb248, 2, none⟩ = some (.int .i64 t243) := (blk_cell BK248.out 2).trans rfl
           have hcz48_3 : wc.cell? ⟨gb248, 3, none⟩ = some (.string t244) := (blk_cell BK248.out 3).trans rfl
           have hcz48_4 : wc.cell? ⟨gb248, 4, none⟩ = some (.int .i64 t245) := (blk_cell BK248.out 4).trans rfl
           have hcz48_5 : wc.cell? ⟨gb248, 5, none⟩ = some (.int .i64 t246) := (blk_cell BK248.out 5).trans rfl
           have hfz48_0 := blk_frozen BK248.out 0
           have hfz48_1 := blk_frozen BK248.out 1
           have hfz48_2 := blk_frozen BK248.out 2
           have hfz48_3 := blk_frozen BK248.out 3
           have hfz48_4 := blk_frozen BK248.out 4
           have hfz48_5 := blk_frozen BK248.out 5
           go_wp2_with (first | ((with_reducible refine gate_callee (f := 41) rfl ?_); refine goesL_ (some 46) rfl rfl Try.func41 (by kernel_rfl) rfl #[.agg #[.int .i64 t241, .int .i64 t242, .int .i64 t243, .string t244, .int .i64 t245, .int .i64 t246]] rfl (by (try simp only [List.map_toArray, List.map_cons, List.map_nil]); first | done | rfl | (simp only [List.length_drop, List.length_take]; rfl)) ?_; (with_reducible refine (impl_EntryValid.calls kj5 t241 t242 t243 t244 t245 t246 true _ A33.out).mono ?_); rintro e w49 ⟨rfl, hb⟩; refine ⟨_, rfl, ?_⟩; have n0_ := bkb BK240 hb; have n1_ := bkb BK248 hb; have n2_ := bkb BK256 hb; have n3_ := Aside0.mk (below_step (bz) hb); clear BK240; clear BK248; clear BK256; clear HB; have BK240 := n0_; have BK248 := n1_; have BK256 := n2_; have HB := n3_; clear n0_ n1_ n2_ n3_; (try clear hb); (try clear hb2); (try clear hk); (try clear hi); have hcz50_0 : w49.cell? ⟨gb248, 0, none⟩ = some (.int .i64 t241) := (blk_cell BK248.out 0).trans rfl; have hcz50_1 : w49.cell? ⟨gb248, 1, none⟩ = some (.int .i64 t242) := (blk_cell BK248.out 1).trans rfl; have hcz50_2 : w49.cell? ⟨gb248, 2, none⟩ = some (.int .i64 t243) := (blk_cell BK248.out 2).trans rfl; have hcz50_3 : w49.cell? ⟨gb248, 3, none⟩ = some (.string t244) := (blk_cell BK248.out 3).trans rfl; have hcz50_4 : w49.cell? ⟨gb248, 4, none⟩ = some (.int .i64 t245) := (blk_cell BK248.out 4).trans rfl; have hcz50_5 : w49.cell? ⟨gb248, 5, none⟩ = some (.int .i64 t246) := (blk_cell BK248.out 5).trans rfl; have hfz50_0 := blk_frozen BK248.out 0; have hfz50_1 := blk_frozen BK248.out 1; have hfz50_2 := blk_frozen BK248.out 2; have hfz50_3 := blk_frozen BK248.out 3; have hfz50_4 := blk_frozen BK248.out 4; have hfz50_5 := blk_frozen BK248.out 5; have hnb51 := NB240_256.out; have hnc51 := NB256_240.out; have hcz52_0 : w49.cell? ⟨gb240, 0, none⟩ = some (.int .i64 t232) := (blk_cell BK240.out 0).trans rfl; have hcz52_1 : w49.cell? ⟨gb240, 1, none⟩ = some (.int .i64 t233) := (blk_cell BK240.out 1).trans rfl; have hcz52_2 : w49.cell? ⟨gb240, 2, none⟩ = some (.int .i64 t234) := (blk_cell BK240.out 2).trans rfl; have hcz52_3 : w49.cell? ⟨gb240, 3, none⟩ = some (.string t235) := (blk_cell BK240.out 3).trans rfl; have hcz52_4 : w49.cell? ⟨gb240, 4, none⟩ = some (.int .i64 t236) := (blk_cell BK240.out 4).trans rfl; have hcz52_5 : w49.cell? ⟨gb240, 5, none⟩ = some (.int .i64 t237) := (blk_cell BK240.out 5).trans rfl; have hcz52_6 : w49.cell? ⟨gb240, 6, none⟩ = some (.int .i64 t238) := (blk_cell BK240.out 6).trans rfl; have hfz52_0 := blk_frozen BK240.out 0; have hfz52_1 := blk_frozen BK240.out 1; have hfz52_2 := blk_frozen BK240.out 2; have hfz52_3 := blk_frozen BK240.out 3; have hfz52_4 := blk_frozen BK240.out 4; have hfz52_5 := blk_frozen BK240.out 5; have hfz52_6 := blk_frozen BK240.out 6))
           go_ret
           exact ⟨by first | rfl | (simp only [u8w, w64m]; rfl) | (simp [errW_none, errW_some] <;> rfl) | (simp [*, errW_none, errW_some] <;> rfl), bz⟩
         ·
          rw [if_neg c37] at H
          have c37b0 : (t243 == 5) = false := beq_eq_false_iff_ne.mpr c37
          have c37b1 : (t243 != 5) = true := bne_iff_ne.mpr c37
          obtain rfl := Option.some.inj H
          have hnb53 := NB248_240.out
          have hnc53 := NB240_248.out
          have hnb54 := NB248_256.out
          have hnc54 := NB256_248.out
          have hcz55_0 : wc.cell? ⟨gb248, 0, none⟩ = some (.int .i64 t241) := (blk_cell BK248.out 0).trans rfl
          have hcz55_1 : wc.cell? ⟨gb248, 1, none⟩ = some (.int .i64 t242) := (blk_cell BK248.out 1).trans rfl
          have hcz55_2 : wc.cell? ⟨gb248, 2, none⟩ = some (.int .i64 t243) := (blk_cell BK248.out 2).trans rfl
          have hcz55_3 : wc.cell? ⟨gb248, 3, none⟩ = some (.string t244) := (blk_cell BK248.out 3).trans rfl
          have hcz55_4 : wc.cell? ⟨gb248, 4, none⟩ = some (.int .i64 t245) := (blk_cell BK248.out 4).trans rfl
          have hcz55_5 : wc.cell? ⟨gb248, 5, none⟩ = some (.int .i64 t246) := (blk_cell BK248.out 5).trans rfl
          have hfz55_0 := blk_frozen BK248.out 0
          have hfz55_1 := blk_frozen BK248.out 1
          have hfz55_2 := blk_frozen BK248.out 2
          have hfz55_3 := blk_frozen BK248.out 3
          have hfz55_4 := blk_frozen BK248.out 4
          have hfz55_5 := blk_frozen BK248.out 5
          go_wp2_with (first | ((with_reducible refine gate_callee (f := 41) rfl ?_); refine goesL_ (some 46) rfl rfl Try.func41 (by kernel_rfl) rfl #[.agg #[.int .i64 t241, .int .i64 t242, .int .i64 t243, .string t244, .int .i64 t245, .int .i64 t246]] rfl (by (try simp only [List.map_toArray, List.map_cons, List.map_nil]); first | done | rfl | (simp only [List.length_drop, List.length_take]; rfl)) ?_; (with_reducible refine (impl_EntryValid.calls kj5 t241 t242 t243 t244 t245 t246 true _ A33.out).mono ?_); rintro e w56 ⟨rfl, hb⟩; refine ⟨_, rfl, ?_⟩; have n0_ := bkb BK240 hb; have n1_ := bkb BK248 hb; have n2_ := bkb BK256 hb; have n3_ := Aside0.mk (below_step (bz) hb); clear BK240; clear BK248; clear BK256; clear HB; have BK240 := n0_; have BK248 := n1_; have BK256 := n2_; have HB := n3_; clear n0_ n1_ n2_ n3_; (try clear hb); (try clear hb2); (try clear hk); (try clear hi); have hcz57_0 : w56.cell? ⟨gb248, 0, none⟩ = some (.int .i64 t241) := (blk_cell BK248.out 0).trans rfl; have hcz57_1 : w56.cell? ⟨gb248, 1, none⟩ = some (.int .i64 t242) := (blk_cell BK248.out 1).trans rfl; have hcz57_2 : w56.cell? ⟨gb248, 2, none⟩ = some (.int .i64 t243) := (blk_cell BK248.out 2).trans rfl; have hcz57_3 : w56.cell? ⟨gb248, 3, none⟩ = some (.string t244) := (blk_cell BK248.out 3).trans rfl; have hcz57_4 : w56.cell? ⟨gb248, 4, none⟩ = some (.int .i64 t245) := (blk_cell BK248.out 4).trans rfl; have hcz57_5 : w56.cell? ⟨gb248, 5, none⟩ = some (.int .i64 t246) := (blk_cell BK248.out 5).trans rfl; have hfz57_0 := blk_frozen BK248.out 0; have hfz57_1 := blk_frozen BK248.out 1; have hfz57_2 := blk_frozen BK248.out 2; have hfz57_3 := blk_frozen BK248.out 3; have hfz57_4 := blk_frozen BK248.out 4; have hfz57_5 := blk_frozen BK248.out 5))
          go_ret
          exact ⟨by first | rfl | (simp only [u8w, w64m]; rfl) | (simp [errW_none, errW_some] <;> rfl) | (simp [*, errW_none, errW_some] <;> rfl), bz⟩
        ·
         rw [if_neg c36] at H
         have c36b0 : (t242 == t239) = false := beq_eq_false_iff_ne.mpr c36
         have c36b1 : (t242 != t239) = true := bne_iff_ne.mpr c36
         obtain rfl := Option.some.inj H
         have hnb58 := NB248_240.out
         have hnc58 := NB240_248.out
         have hnb59 := NB248_256.out
         have hnc59 := NB256_248.out
         have hcz60_0 : wc.cell? ⟨gb248, 0, none⟩ = some (.int .i64 t241) := (blk_cell BK248.out 0).trans rfl
         have hcz60_1 : wc.cell? ⟨gb248, 1, none⟩ = some (.int .i64 t242) := (blk_cell BK248.out 1).trans rfl
         have hcz60_2 : wc.cell? ⟨gb248, 2, none⟩ = some (.int .i64 t243) := (blk_cell BK248.out 2).trans rfl
         have hcz60_3 : wc.cell? ⟨gb248, 3, none⟩ = some (.string t244) := (blk_cell BK248.out 3).trans rfl
         have hcz60_4 : wc.cell? ⟨gb248, 4, none⟩ = some (.int .i64 t245) := (blk_cell BK248.out 4).trans rfl
         have hcz60_5 : wc.cell? ⟨gb248, 5, none⟩ = some (.int .i64 t246) := (blk_cell BK248.out 5).trans rfl
         have hfz60_0 := blk_frozen BK248.out 0
         have hfz60_1 := blk_frozen BK248.out 1
         have hfz60_2 := blk_frozen BK248.out 2
         have hfz60_3 := blk_frozen BK248.out 3
         have hfz60_4 := blk_frozen BK248.out 4
         have hfz60_5 := blk_frozen BK248.out 5
         go_wp2_with (first | ((with_reducible refine gate_callee (f := 41) rfl ?_); refine goesL_ (some 46) rfl rfl Try.func41 (by kernel_rfl) rfl #[.agg #[.int .i64 t241, .int .i64 t242, .int .i64 t243, .string t244, .int .i64 t245, .int .i64 t246]] rfl (by (try simp only [List.map_toArray, List.map_cons, List.map_nil]); first | done | rfl | (simp only [List.length_drop, List.length_take]; rfl)) ?_; (with_reducible refine (impl_EntryValid.calls kj5 t241 t242 t243 t244 t245 t246 true _ A33.out).mono ?_); rintro e w61 ⟨rfl, hb⟩; refine ⟨_, rfl, ?_⟩; have n0_ := bkb BK240 hb; have n1_ := bkb BK248 hb; have n2_ := bkb BK256 hb; have n3_ := Aside0.mk (below_step (bz) hb); clear BK240; clear BK248; clear BK256; clear HB; have BK240 := n0_; have BK248 := n1_; have BK256 := n2_; have HB := n3_; clear n0_ n1_ n2_ n3_; (try clear hb); (try clear hb2); (try clear hk); (try clear hi); have hcz62_0 : w61.cell? ⟨gb248, 0, none⟩ = some (.int .i64 t241) := (blk_cell BK248.out 0).trans rfl; have hcz62_1 : w61.cell? ⟨gb248, 1, none⟩ = some (.int .i64 t242) := (blk_cell BK248.out 1).trans rfl; have hcz62_2 : w61.cell? ⟨gb248, 2, none⟩ = some (.int .i64 t243) := (blk_cell BK248.out 2).trans rfl; have hcz62_3 : w61.cell? ⟨gb248, 3, none⟩ = some (.string t244) := (blk_cell BK248.out 3).trans rfl; have hcz62_4 : w61.cell? ⟨gb248, 4, none⟩ = some (.int .i64 t245) := (blk_cell BK248.out 4).trans rfl; have hcz62_5 : w61.cell? ⟨gb248, 5, none⟩ = some (.int .i64 t246) := (blk_cell BK248.out 5).trans rfl; have hfz62_0 := blk_frozen BK248.out 0; have hfz62_1 := blk_frozen BK248.out 1; have hfz62_2 := blk_frozen BK248.out 2; have hfz62_3 := blk_frozen BK248.out 3; have hfz62_4 := blk_frozen BK248.out 4; have hfz62_5 := blk_frozen BK248.out 5))
         go_ret
         exact ⟨by first | rfl | (simp only [u8w, w64m]; rfl) | (simp [errW_none, errW_some] <;> rfl) | (simp [*, errW_none, errW_some] <;> rfl), bz⟩
       ·
        rw [if_neg c35] at H
        have c35b0 : (t241 == 0) = false := beq_eq_false_iff_ne.mpr c35
        have c35b1 : (t241 != 0) = true := bne_iff_ne.mpr c35
        obtain rfl := Option.some.inj H
        have hnb63 := NB248_240.out
        have hnc63 := NB240_248.out
        have hnb64 := NB248_256.out
        have hnc64 := NB256_248.out
        have hcz65_0 : wc.cell? ⟨gb248, 0, none⟩ = some (.int .i64 t241) := (blk_cell BK248.out 0).trans rfl
        have hcz65_1 : wc.cell? ⟨gb248, 1, none⟩ = some (.int .i64 t242) := (blk_cell BK248.out 1).trans rfl
        have hcz65_2 : wc.cell? ⟨gb248, 2, none⟩ = some (.int .i64 t243) := (blk_cell BK248.out 2).trans rfl
        have hcz65_3 : wc.cell? ⟨gb248, 3, none⟩ = some (.string t244) := (blk_cell BK248.out 3).trans rfl
        have hcz65_4 : wc.cell? ⟨gb248, 4, none⟩ = some (.int .i64 t245) := (blk_cell BK248.out 4).trans rfl
        have hcz65_5 : wc.cell? ⟨gb248, 5, none⟩ = some (.int .i64 t246) := (blk_cell BK248.out 5).trans rfl
        have hfz65_0 := blk_frozen BK248.out 0
        have hfz65_1 := blk_frozen BK248.out 1
        have hfz65_2 := blk_frozen BK248.out 2
        have hfz65_3 := blk_frozen BK248.out 3
        have hfz65_4 := blk_frozen BK248.out 4
        have hfz65_5 := blk_frozen BK248.out 5
        go_wp2_with (first | ((with_reducible refine gate_callee (f := 41) rfl ?_); refine goesL_ (some 46) rfl rfl Try.func41 (by kernel_rfl) rfl #[.agg #[.int .i64 t241, .int .i64 t242, .int .i64 t243, .string t244, .int .i64 t245, .int .i64 t246]] rfl (by (try simp only [List.map_toArray, List.map_cons, List.map_nil]); first | done | rfl | (simp only [List.length_drop, List.length_take]; rfl)) ?_; (with_reducible refine (impl_EntryValid.calls kj5 t241 t242 t243 t244 t245 t246 true _ A33.out).mono ?_); rintro e w66 ⟨rfl, hb⟩; refine ⟨_, rfl, ?_⟩; have n0_ := bkb BK240 hb; have n1_ := bkb BK248 hb; have n2_ := bkb BK256 hb; have n3_ := Aside0.mk (below_step (bz) hb); clear BK240; clear BK248; clear BK256; clear HB; have BK240 := n0_; have BK248 := n1_; have BK256 := n2_; have HB := n3_; clear n0_ n1_ n2_ n3_; (try clear hb); (try clear hb2); (try clear hk); (try clear hi); have hcz67_0 : w66.cell? ⟨gb248, 0, none⟩ = some (.int .i64 t241) := (blk_cell BK248.out 0).trans rfl; have hcz67_1 : w66.cell? ⟨gb248, 1, none⟩ = some (.int .i64 t242) := (blk_cell BK248.out 1).trans rfl; have hcz67_2 : w66.cell? ⟨gb248, 2, none⟩ = some (.int .i64 t243) := (blk_cell BK248.out 2).trans rfl; have hcz67_3 : w66.cell? ⟨gb248, 3, none⟩ = some (.string t244) := (blk_cell BK248.out 3).trans rfl; have hcz67_4 : w66.cell? ⟨gb248, 4, none⟩ = some (.int .i64 t245) := (blk_cell BK248.out 4).trans rfl; have hcz67_5 : w66.cell? ⟨gb248, 5, none⟩ = some (.int .i64 t246) := (blk_cell BK248.out 5).trans rfl; have hfz67_0 := blk_frozen BK248.out 0; have hfz67_1 := blk_frozen BK248.out 1; have hfz67_2 := blk_frozen BK248.out 2; have hfz67_3 := blk_frozen BK248.out 3; have hfz67_4 := blk_frozen BK248.out 4; have hfz67_5 := blk_frozen BK248.out 5))
        go_ret
        exact ⟨by first | rfl | (simp only [u8w, w64m]; rfl) | (simp [errW_none, errW_some] <;> rfl) | (simp [*, errW_none, errW_some] <;> rfl), bz⟩
      ·
       replace c34 := Bool.eq_false_iff.mpr c34
       subst c34
       rw [if_neg (show ¬ (false = true) by decide)] at H
       obtain rfl := Option.some.inj H
       have hnb68 := NB248_240.out
       have hnc68 := NB240_248.out
       have hnb69 := NB248_256.out
       have hnc69 := NB256_248.out
       have hcz70_0 : wc.cell? ⟨gb248, 0, none⟩ = some (.int .i64 t241) := (blk_cell BK248.out 0).trans rfl
       have hcz70_1 : wc.cell? ⟨gb248, 1, none⟩ = some (.int .i64 t242) := (blk_cell BK248.out 1).trans rfl
       have hcz70_2 : wc.cell? ⟨gb248, 2, none⟩ = some (.int .i64 t243) := (blk_cell BK248.out 2).trans rfl
       have hcz70_3 : wc.cell? ⟨gb248, 3, none⟩ = some (.string t244) := (blk_cell BK248.out 3).trans rfl
       have hcz70_4 : wc.cell? ⟨gb248, 4, none⟩ = some (.int .i64 t245) := (blk_cell BK248.out 4).trans rfl
       have hcz70_5 : wc.cell? ⟨gb248, 5, none⟩ = some (.int .i64 t246) := (blk_cell BK248.out 5).trans rfl
       have hfz70_0 := blk_frozen BK248.out 0
       have hfz70_1 := blk_frozen BK248.out 1
       have hfz70_2 := blk_frozen BK248.out 2
       have hfz70_3 := blk_frozen BK248.out 3
       have hfz70_4 := blk_frozen BK248.out 4
       have hfz70_5 := blk_frozen BK248.out 5
       go_wp2_with (first | ((with_reducible refine gate_callee (f := 41) rfl ?_); refine goesL_ (some 46) rfl rfl Try.func41 (by kernel_rfl) rfl #[.agg #[.int .i64 t241, .int .i64 t242, .int .i64 t243, .string t244, .int .i64 t245, .int .i64 t246]] rfl (by (try simp only [List.map_toArray, List.map_cons, List.map_nil]); first | done | rfl | (simp only [List.length_drop, List.length_take]; rfl)) ?_; (with_reducible refine (impl_EntryValid.calls kj5 t241 t242 t243 t244 t245 t246 false _ A33.out).mono ?_); rintro e w71 ⟨rfl, hb⟩; refine ⟨_, rfl, ?_⟩; have n0_ := bkb BK240 hb; have n1_ := bkb BK248 hb; have n2_ := bkb BK256 hb; have n3_ := Aside0.mk (below_step (bz) hb); clear BK240; clear BK248; clear BK256; clear HB; have BK240 := n0_; have BK248 := n1_; have BK256 := n2_; have HB := n3_; clear n0_ n1_ n2_ n3_; (try clear hb); (try clear hb2); (try clear hk); (try clear hi)))
       go_ret
       exact ⟨by first | rfl | (simp only [u8w, w64m]; rfl) | (simp [errW_none, errW_some] <;> rfl) | (simp [*, errW_none, errW_some] <;> rfl), bz⟩
     ·
      replace c32 := Bool.eq_false_iff.mpr c32
      subst c32
      rw [if_neg (show ¬ (false = true) by decide)] at H
      by_cases c72 : (t241 == 0 && (t242 == 0 && ((t243 == 0 && (t244.toList == ([] : List UInt8) && (t245 == 0 && (t246 == 0))))))) = true
      ·
       rw [if_pos c72] at H
       have c72b0 : (t241 == 0 && (t242 == 0 && ((t243 == 0 && (t244.toList == ([] : List UInt8) && (t245 == 0 && (t246 == 0))))))) = true := c72
       (try (have c72b1 : decide (t241 = 0 && (t242 == 0 && ((t243 == 0 && (t244.toList == ([] : List UInt8) && (t245 == 0 && (t246 == 0))))))) = true := by simpa using c72))
       (try (have c72b2 : (t241 == 0 && (t242 == 0 && ((t243 == 0 && (t244.toList == ([] : List UInt8) && (t245 == 0 && (t246 == 0))))))) = true := by simpa using c72))
       (try (have c72b9 := c72b0; simp only [← eq_nil_b] at c72b9))
       clear c72
       replace H := Option.bind_eq_some_iff.mp H
       obtain ⟨t258, A730, H⟩ := H
       try dsimp only at H
       have A73 := Aside0.mk A730
       clear A730
       obtain rfl := Option.some.inj H
       have hnb74 := NB248_240.out
       have hnc74 := NB240_248.out
       have hnb75 := NB248_256.out
       have hnc75 := NB256_248.out
       have hcz76_0 : wc.cell? ⟨gb248, 0, none⟩ = some (.int .i64 t241) := (blk_cell BK248.out 0).trans rfl
       have hcz76_1 : wc.cell? ⟨gb248, 1, none⟩ = some (.int .i64 t242) := (blk_cell BK248.out 1).trans rfl
       have hcz76_2 : wc.cell? ⟨gb248, 2, none⟩ = some (.int .i64 t243) := (blk_cell BK248.out 2).trans rfl
       have hcz76_3 : wc.cell? ⟨gb248, 3, none⟩ = some (.string t244) := (blk_cell BK248.out 3).trans rfl
       have hcz76_4 : wc.cell? ⟨gb248, 4, none⟩ = some (.int .i64 t245) := (blk_cell BK248.out 4).trans rfl
       have hcz76_5 : wc.cell? ⟨gb248, 5, none⟩ = some (.int .i64 t246) := (blk_cell BK248.out 5).trans rfl
       have hfz76_0 := blk_frozen BK248.out 0
       have hfz76_1 := blk_frozen BK248.out 1
       have hfz76_2 := blk_frozen BK248.out 2
       have hfz76_3 := blk_frozen BK248.out 3
       have hfz76_4 := blk_frozen BK248.out 4
       have hfz76_5 := blk_frozen BK248.out 5
       go_wp2_with (first | (go_at_call 32; (with_reducible refine (laws_alive.calls kj5  t258 _ A73.out).mono ?_); rintro e w77 ⟨rfl, hb⟩; have n0_ := bkb BK240 hb; have n1_ := bkb BK248 hb; have n2_ := bkb BK256 hb; have n3_ := Aside0.mk (below_step (bz) hb); clear BK240; clear BK248; clear BK256; clear HB; have BK240 := n0_; have BK248 := n1_; have BK256 := n2_; have HB := n3_; clear n0_ n1_ n2_ n3_; (try clear hb); (try clear hb2); (try clear hk); (try clear hi)))
       go_ret
       exact ⟨by first | rfl | (simp only [u8w, w64m]; rfl) | (simp [errW_none, errW_some] <;> rfl) | (simp [*, errW_none, errW_some] <;> rfl), bz⟩
      ·
       rw [if_neg c72] at H
       have c72b0 : (t241 == 0 && (t242 == 0 && ((t243 == 0 && (t244.toList == ([] : List UInt8) && (t245 == 0 && (t246 == 0))))))) = false := by simpa using c72
       (try (have c72b1 : decide (t241 = 0 && (t242 == 0 && ((t243 == 0 && (t244.toList == ([] : List UInt8) && (t245 == 0 && (t246 == 0))))))) = false := by simpa using c72))
       (try (have c72b2 : (t241 == 0 && (t242 == 0 && ((t243 == 0 && (t244.toList == ([] : List UInt8) && (t245 == 0 && (t246 == 0))))))) = false := by simpa using c72))
       (try (have c72b3 : ¬ (t241 = 0 && (t242 == 0 && ((t243 == 0 && (t244.toList == ([] : List UInt8) && (t245 == 0 && (t246 == 0))))))) := by simpa using c72))
       (try (have c72b9 := c72b0; simp only [← eq_nil_b] at c72b9))
       clear c72
       obtain rfl := Option.some.inj H
       have hnb78 := NB248_240.out
       have hnc78 := NB240_248.out
       have hnb79 := NB248_256.out
       have hnc79 := NB256_248.out
       have hcz80_0 : wc.cell? ⟨gb248, 0, none⟩ = some (.int .i64 t241) := (blk_cell BK248.out 0).trans rfl
       have hcz80_1 : wc.cell? ⟨gb248, 1, none⟩ = some (.int .i64 t242) := (blk_cell BK248.out 1).trans rfl
       have hcz80_2 : wc.cell? ⟨gb248, 2, none⟩ = some (.int .i64 t243) := (blk_cell BK248.out 2).trans rfl
       have hcz80_3 : wc.cell? ⟨gb248, 3, none⟩ = some (.string t244) := (blk_cell BK248.out 3).trans rfl
       have hcz80_4 : wc.cell? ⟨gb248, 4, none⟩ = some (.int .i64 t245) := (blk_cell BK248.out 4).trans rfl
       have hcz80_5 : wc.cell? ⟨gb248, 5, none⟩ = some (.int .i64 t246) := (blk_cell BK248.out 5).trans rfl
       have hfz80_0 := blk_frozen BK248.out 0
       have hfz80_1 := blk_frozen BK248.out 1
       have hfz80_2 := blk_frozen BK248.out 2
       have hfz80_3 := blk_frozen BK248.out 3
       have hfz80_4 := blk_frozen BK248.out 4
       have hfz80_5 := blk_frozen BK248.out 5
       go_wp2
       go_ret
       exact ⟨by first | rfl | (simp only [u8w, w64m]; rfl) | (simp [errW_none, errW_some] <;> rfl) | (simp [*, errW_none, errW_some] <;> rfl), bz⟩

/-- THE ONE PURE STATEMENT of laws_FnPlanSeal: yours. -/
def laws_FnPlanSeal.Pure : Prop := ∀ (l0 : List Int), l0.length ≤ maxLen → l0.length * 1 ≤ 140737488351232 → (∀ x ∈ l0, (Lit.int .u8 x).wf = true) → ∃ k, laws_FnPlanSeal.f k l0 = some true
theorem laws_FnPlanSeal.walk (P : laws_FnPlanSeal.Pure) (a0 : Option Addr) (len0 cap0 : Nat) (z0 : List Int) (w : World) (w0 : (a0 = none ∧ len0 = 0 ∧ cap0 = 0 ∧ z0 = []) ∨ ∃ x, a0 = some x ∧ len0 ≤ cap0 ∧ cap0 ≤ maxLen ∧ z0.length = cap0 ∧ (∀ i, i < z0.length → w.cell? (x.add i) = some (.int .u8 (z0.getD i 0))) ∧ ∀ n ∈ z0, (Lit.int .u8 n).wf = true) (y0 : len0 * 1 ≤ 140737488351232) :
  Calls Try.prog 10 #[.slice a0 len0 cap0] w fun e w' => e = .returned (.bool true) ∧ Below w.heap.size w w' := by
 obtain ⟨l0, rfl, hr0, hm0, hw0, hc0⟩ := ReadsInt.ofRowC w0
 obtain ⟨k, h⟩ := P l0 hm0 y0 hw0
 refine (laws_FnPlanSeal.calls k _ _ l0 true w (Kd.C_of_reads (d := (0 : Int)) (h1 := fun _ => rfl) hr0) hc0 h).mono ?_
 rintro e w' ⟨rfl, hd⟩
 exact ⟨rfl, hd⟩

end Go.Proofs.Ytoajkkfnblpnlaa.PFnPlanSeal
