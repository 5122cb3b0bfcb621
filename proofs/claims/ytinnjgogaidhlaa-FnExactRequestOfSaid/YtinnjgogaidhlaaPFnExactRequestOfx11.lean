/- Go functions as plain Lean functions, and for each a proof that its call comes to what the function says; under the conditions that each theorem names. Written by a program of this session. -/
import Derived.Test.YtinnjgogaidhlaaPFnExactRequestOfx0
import Derived.Test.YtinnjgogaidhlaaPFnExactRequestOfx2
import Derived.Test.YtinnjgogaidhlaaPFnExactRequestOfx3
import Derived.Test.YtinnjgogaidhlaaPFnExactRequestOfx6
import Derived.Test.YtinnjgogaidhlaaPFnExactRequestOfx10
namespace Go.Proofs.Ytinnjgogaidhlaa.PFnExactRequestOf
open Go.RowKit Go.Proofs.YtinnjgogaidhlaaW.PrintWords Go.Proofs.YtinnjgogaidhlaaW.PrintLast Go.Proofs.YtinnjgogaidhlaaW.PrintMore
attribute [local go_sem high] str_gtr str_leq str_geq
attribute [local go_sem] max2_int min2_int max_two min_two max_three min_three max_four min_four   -- for this text's walks alone
set_option linter.unusedVariables false
set_option linter.unusedSimpArgs false

/-! ### laws_FnExactRequestOf: function 13 -/
def laws_FnExactRequestOf.j0 : Nat → Bool → List (S77) → Int → Bool → Int → ByteArray → Int → Int → Int → List (S43) → Int → Bool → Int → ByteArray → Int → Int → Int → Option (Bool)
 | 0, _, _, _, _, _, _, _, _, _, _, _, _, _, _, _, _, _ => none
 | k + 1, x39, x226000, x226001, x226002, x226003, x226004, x226005, x226006, x226007, x256000, x256001, x256002, x256003, x256004, x256005, x256006, x256007 => if x39 = true then (some false) else ((laws_toCaller.f k x226000 x226001 x226002 x226003 x226004 x226005 x226006 x226007).bind fun bt265 => ((laws_eqCaller.f k x256000 x256001 x256002 x256003 x256004 x256005 x256006 x256007 bt265.1 bt265.2.1 bt265.2.2.1 bt265.2.2.2.1 bt265.2.2.2.2.1 bt265.2.2.2.2.2.1 bt265.2.2.2.2.2.2.1 bt265.2.2.2.2.2.2.2).bind fun t275 => (if t275 = true then (some true) else (some false))))
def laws_FnExactRequestOf.f (k : Nat) (l0_0 : List (S77)) (a0_1 : Int) (a0_2 : Bool) (a0_3 : Int) (a0_4 : ByteArray) (a0_5 : Int) (a0_6 : Int) (a0_7 : Int) (a1 : Int) : Option (Bool) := (laws_szCaller.f k l0_0 a0_1 a0_2 a0_3 a0_4 a0_5 a0_6 a0_7 1048576).bind fun t226 => (if t226 < 0 then (some true) else ((laws_toCaller.f k l0_0 a0_1 a0_2 a0_3 a0_4 a0_5 a0_6 a0_7).bind fun bt227 => ((spec_RequestOf.f k bt227.1 bt227.2.1 bt227.2.2.1 bt227.2.2.2.1 bt227.2.2.2.2.1 bt227.2.2.2.2.2.1 bt227.2.2.2.2.2.2.1 bt227.2.2.2.2.2.2.2 a1).bind fun bt237 => ((laws_toCaller.f k l0_0 a0_1 a0_2 a0_3 a0_4 a0_5 a0_6 a0_7).bind fun bt245 => ((impl_RequestOf.f k bt245.1 bt245.2.1 bt245.2.2.1 bt245.2.2.2.1 bt245.2.2.2.2.1 bt245.2.2.2.2.2.1 bt245.2.2.2.2.2.2.1 bt245.2.2.2.2.2.2.2 a1).bind fun bt256 => ((laws_eqEntry.f bt256.1 bt256.2.1 bt256.2.2.1 bt256.2.2.2.1 bt256.2.2.2.2.1 bt256.2.2.2.2.2.1 bt237.1 bt237.2.1 bt237.2.2.1 bt237.2.2.2.1 bt237.2.2.2.2.1 bt237.2.2.2.2.2.1).bind fun t264 => (if t264 = true then (laws_FnExactRequestOf.j0 k (bt256.2.2.2.2.2.2 != bt237.2.2.2.2.2.2) l0_0 a0_1 a0_2 a0_3 a0_4 a0_5 a0_6 a0_7 bt245.1 bt245.2.1 bt245.2.2.1 bt245.2.2.2.1 bt245.2.2.2.2.1 bt245.2.2.2.2.2.1 bt245.2.2.2.2.2.2.1 bt245.2.2.2.2.2.2.2) else (laws_FnExactRequestOf.j0 k true l0_0 a0_1 a0_2 a0_3 a0_4 a0_5 a0_6 a0_7 bt245.1 bt245.2.1 bt245.2.2.1 bt245.2.2.2.1 bt245.2.2.2.2.1 bt245.2.2.2.2.2.1 bt245.2.2.2.2.2.2.1 bt245.2.2.2.2.2.2.2))))))))
theorem laws_FnExactRequestOf.mono_l : ∀ k, (∀ y0 y1 y2 y3 y4 y5 y6 y7 y8 y9 y10 y11 y12 y13 y14 y15 y16, LeO (laws_FnExactRequestOf.j0 k y0 y1 y2 y3 y4 y5 y6 y7 y8 y9 y10 y11 y12 y13 y14 y15 y16) (laws_FnExactRequestOf.j0 (k + 1) y0 y1 y2 y3 y4 y5 y6 y7 y8 y9 y10 y11 y12 y13 y14 y15 y16))
 | 0 => fun _ _ _ _ _ _ _ _ _ _ _ _ _ _ _ _ _ r h => by simp [laws_FnExactRequestOf.j0] at h
 | k + 1 => by
  have ih0 := laws_FnExactRequestOf.mono_l k
  ·
   intro y0 y1 y2 y3 y4 y5 y6 y7 y8 y9 y10 y11 y12 y13 y14 y15 y16
   unfold laws_FnExactRequestOf.j0
   repeat' first
   | (with_reducible exact ih0 _ _ _ _ _ _ _ _ _ _ _ _ _ _ _ _ _)
   | (with_reducible exact impl_RequestOf.mono _ _ _ _ _ _ _ _ _ _)
   | (with_reducible exact laws_eqCaller.mono _ _ _ _ _ _ _ _ _ _ _ _ _ _ _ _ _)
   | (with_reducible exact laws_szCaller.mono _ _ _ _ _ _ _ _ _ _)
   | (with_reducible exact laws_toCaller.mono _ _ _ _ _ _ _ _ _)
   | (with_reducible exact spec_RequestOf.mono _ _ _ _ _ _ _ _ _ _)
   | (with_reducible exact LeO.refl _)
   | (with_reducible exact LeO.none _)
   | (with_reducible refine LeO.ite ?_ ?_)
   | (with_reducible refine LeO.bind ?_ (fun _ => ?_))
   | exact ih0 _ _ _ _ _ _ _ _ _ _ _ _ _ _ _ _ _
   | exact impl_RequestOf.mono _ _ _ _ _ _ _ _ _ _
   | exact laws_eqCaller.mono _ _ _ _ _ _ _ _ _ _ _ _ _ _ _ _ _
   | exact laws_szCaller.mono _ _ _ _ _ _ _ _ _ _
   | exact laws_toCaller.mono _ _ _ _ _ _ _ _ _
   | exact spec_RequestOf.mono _ _ _ _ _ _ _ _ _ _
   | exact LeO.none _
   | refine LeO.ite ?_ ?_
   | refine LeO.bind ?_ (fun _ => ?_)
theorem laws_FnExactRequestOf.mono : ∀ a0 a1 a2 a3 a4 a5 a6 a7 a8 k, LeO (laws_FnExactRequestOf.f k a0 a1 a2 a3 a4 a5 a6 a7 a8) (laws_FnExactRequestOf.f (k + 1) a0 a1 a2 a3 a4 a5 a6 a7 a8) := by
 intro a0 a1 a2 a3 a4 a5 a6 a7 a8 k
 have ih0 := laws_FnExactRequestOf.mono_l k
 unfold laws_FnExactRequestOf.f
 repeat' first
   | (with_reducible exact ih0 _ _ _ _ _ _ _ _ _ _ _ _ _ _ _ _ _)
   | (with_reducible exact impl_RequestOf.mono _ _ _ _ _ _ _ _ _ _)
   | (with_reducible exact laws_eqCaller.mono _ _ _ _ _ _ _ _ _ _ _ _ _ _ _ _ _)
   | (with_reducible exact laws_szCaller.mono _ _ _ _ _ _ _ _ _ _)
   | (with_reducible exact laws_toCaller.mono _ _ _ _ _ _ _ _ _)
   | (with_reducible exact spec_RequestOf.mono _ _ _ _ _ _ _ _ _ _)
   | (with_reducible exact LeO.refl _)
   | (with_reducible exact LeO.none _)
   | (with_reducible refine LeO.ite ?_ ?_)
   | (with_reducible refine LeO.bind ?_ (fun _ => ?_))
   | exact ih0 _ _ _ _ _ _ _ _ _ _ _ _ _ _ _ _ _
   | exact impl_RequestOf.mono _ _ _ _ _ _ _ _ _ _
   | exact laws_eqCaller.mono _ _ _ _ _ _ _ _ _ _ _ _ _ _ _ _ _
   | exact laws_szCaller.mono _ _ _ _ _ _ _ _ _ _
   | exact laws_toCaller.mono _ _ _ _ _ _ _ _ _
   | exact spec_RequestOf.mono _ _ _ _ _ _ _ _ _ _
   | exact LeO.none _
   | refine LeO.ite ?_ ?_
   | refine LeO.bind ?_ (fun _ => ?_)
set_option maxHeartbeats 8000000 in
set_option maxRecDepth 100000 in
theorem laws_FnExactRequestOf.calls (k : Nat) (A0_0 : Option Addr) (c0_0 : Nat) (l0_0 : List (S77)) (a0_1 : Int) (a0_2 : Bool) (a0_3 : Int) (a0_4 : ByteArray) (a0_5 : Int) (a0_6 : Int) (a0_7 : Int) (a1 : Int) (r : Bool) (w : World) (hr0_0 : Kd.C k77 w A0_0 l0_0.length l0_0) (hc0_0 : l0_0.length ≤ c0_0) (h : laws_FnExactRequestOf.f k l0_0 a0_1 a0_2 a0_3 a0_4 a0_5 a0_6 a0_7 a1 = some r) :
  Calls Try.prog 13 #[.agg #[.slice A0_0 l0_0.length c0_0, .int .i64 a0_1, .bool a0_2, .int .i64 a0_3, .string a0_4, .int .i64 a0_5, .int .i64 a0_6, .int .i64 a0_7], .int .i64 a1] w fun e w' => e = .returned (.bool r) ∧ Below w.heap.size w w' := by
 have hu52 := Try.underlying52
 have hu69 := Try.underlying69
 have hu57 := Try.underlying57
 have HR0_0 := Aside0.mk hr0_0
 have HC0_0 := Aside0.mk hc0_0
 clear hr0_0 hc0_0
 have HB := Aside0.mk (Below.refl w.heap.size w)
 have H : ((laws_szCaller.f k l0_0 a0_1 a0_2 a0_3 a0_4 a0_5 a0_6 a0_7 1048576).bind fun t226 => (if t226 < 0 then (some true) else ((laws_toCaller.f k l0_0 a0_1 a0_2 a0_3 a0_4 a0_5 a0_6 a0_7).bind fun bt227 => ((spec_RequestOf.f k bt227.1 bt227.2.1 bt227.2.2.1 bt227.2.2.2.1 bt227.2.2.2.2.1 bt227.2.2.2.2.2.1 bt227.2.2.2.2.2.2.1 bt227.2.2.2.2.2.2.2 a1).bind fun bt237 => ((laws_toCaller.f k l0_0 a0_1 a0_2 a0_3 a0_4 a0_5 a0_6 a0_7).bind fun bt245 => ((impl_RequestOf.f k bt245.1 bt245.2.1 bt245.2.2.1 bt245.2.2.2.1 bt245.2.2.2.2.1 bt245.2.2.2.2.2.1 bt245.2.2.2.2.2.2.1 bt245.2.2.2.2.2.2.2 a1).bind fun bt256 => ((laws_eqEntry.f bt256.1 bt256.2.1 bt256.2.2.1 bt256.2.2.2.1 bt256.2.2.2.2.1 bt256.2.2.2.2.2.1 bt237.1 bt237.2.1 bt237.2.2.1 bt237.2.2.2.1 bt237.2.2.2.2.1 bt237.2.2.2.2.2.1).bind fun t264 => (if t264 = true then (laws_FnExactRequestOf.j0 k (bt256.2.2.2.2.2.2 != bt237.2.2.2.2.2.2) l0_0 a0_1 a0_2 a0_3 a0_4 a0_5 a0_6 a0_7 bt245.1 bt245.2.1 bt245.2.2.1 bt245.2.2.2.1 bt245.2.2.2.2.1 bt245.2.2.2.2.2.1 bt245.2.2.2.2.2.2.1 bt245.2.2.2.2.2.2.2) else (laws_FnExactRequestOf.j0 k true l0_0 a0_1 a0_2 a0_3 a0_4 a0_5 a0_6 a0_7 bt245.1 bt245.2.1 bt245.2.2.1 bt245.2.2.2.1 bt245.2.2.2.2.1 bt245.2.2.2.2.2.1 bt245.2.2.2.2.2.2.1 bt245.2.2.2.2.2.2.2))))))))) = some r := h
 clear h
 replace H := Option.bind_eq_some_iff.mp H
 obtain ⟨t226, A30, H⟩ := H
 try dsimp only at H
 have A3 := Aside0.mk A30
 clear A30
 by_cases c4 : t226 < 0
 ·
  rw [if_pos c4] at H
  have c4b0 : decide (t226 < 0) = true := decide_eq_true c4
  clear c4
  obtain rfl := Option.some.inj H
  go_enter Try.func13, Try.ntmps13
  go_wp2_with (first | ((with_reducible refine gate_dst (N := 2) rfl ?_); refine box_event ?hg (N := 2) ?hd (cs := #[.slice A0_0 l0_0.length c0_0, .int .i64 a0_1, .bool a0_2, .int .i64 a0_3, .string a0_4, .int .i64 a0_5, .int .i64 a0_6, .int .i64 a0_7]) (t := 52) ?hr ?_; (case hd => rfl); (case hg => rfl); (case hr => first | (go_simp; done) | (go_simp; rfl)); intro gb225 hg w5 hbox hb; have n0_ := Aside0.mk (below_step (bz) hb); have n1_ := Aside0.mk (hbox); have n2_ : Aside0 (w.heap.size ≤ gb225) := bsg hg; have n3_ : Aside0 (w.heap.size ≤ gb225) := bsg hg; clear HB; have HB := n0_; have BK225 := n1_; have GW225 := n2_; have GE225 := n3_; clear n0_ n1_ n2_ n3_; clear hb hbox hg; have hcz6_0 : w5.cell? ⟨gb225, 0, none⟩ = some (.slice A0_0 l0_0.length c0_0) := (blk_cell BK225.out 0).trans rfl; have hcz6_1 : w5.cell? ⟨gb225, 1, none⟩ = some (.int .i64 a0_1) := (blk_cell BK225.out 1).trans rfl; have hcz6_2 : w5.cell? ⟨gb225, 2, none⟩ = some (.bool a0_2) := (blk_cell BK225.out 2).trans rfl; have hcz6_3 : w5.cell? ⟨gb225, 3, none⟩ = some (.int .i64 a0_3) := (blk_cell BK225.out 3).trans rfl; have hcz6_4 : w5.cell? ⟨gb225, 4, none⟩ = some (.string a0_4) := (blk_cell BK225.out 4).trans rfl; have hcz6_5 : w5.cell? ⟨gb225, 5, none⟩ = some (.int .i64 a0_5) := (blk_cell BK225.out 5).trans rfl; have hcz6_6 : w5.cell? ⟨gb225, 6, none⟩ = some (.int .i64 a0_6) := (blk_cell BK225.out 6).trans rfl; have hcz6_7 : w5.cell? ⟨gb225, 7, none⟩ = some (.int .i64 a0_7) := (blk_cell BK225.out 7).trans rfl; have hfz6_0 := blk_frozen BK225.out 0; have hfz6_1 := blk_frozen BK225.out 1; have hfz6_2 := blk_frozen BK225.out 2; have hfz6_3 := blk_frozen BK225.out 3; have hfz6_4 := blk_frozen BK225.out 4; have hfz6_5 := blk_frozen BK225.out 5; have hfz6_6 := blk_frozen BK225.out 6; have hfz6_7 := blk_frozen BK225.out 7) | ((with_reducible refine gate_callee (f := 36) rfl ?_); refine goesL_ (some 13) rfl rfl Try.func36 (by kernel_rfl) rfl #[.agg #[.slice A0_0 l0_0.length c0_0, .int .i64 a0_1, .bool a0_2, .int .i64 a0_3, .string a0_4, .int .i64 a0_5, .int .i64 a0_6, .int .i64 a0_7], .int .i64 1048576] rfl (by (try simp only [List.map_toArray, List.map_cons, List.map_nil]); first | done | rfl | (simp only [List.length_drop, List.length_take]; rfl)) ?_; (with_reducible refine (laws_szCaller.calls k _ _ l0_0 a0_1 a0_2 a0_3 a0_4 a0_5 a0_6 a0_7 1048576 t226 _ ?side1 ?side2 A3.out).mono ?_); (case side1 => repeat (first | exact (Kd.C_below HR0_0.out HB.out) | (with_reducible refine Kd.C_alloc ?_ _) | (with_reducible refine Kd.C_drewN ?_ _) | (with_reducible refine Kd.C_drew ?_))); (case side2 => exact HC0_0.out); rintro e w7 ⟨rfl, hb⟩; refine ⟨_, rfl, ?_⟩; have n0_ := bkb BK225 hb; have n1_ := Aside0.mk (below_step (bz) hb); clear BK225; clear HB; have BK225 := n0_; have HB := n1_; clear n0_ n1_; (try clear hb); (try clear hb2); (try clear hk); (try clear hi)))
  go_ret
  exact ⟨by first | rfl | (simp only [u8w, w64m]; rfl) | (simp [errW_none, errW_some] <;> rfl) | (simp [*, errW_none, errW_some] <;> rfl), bz⟩
 ·
  rw [if_neg c4] at H
  have c4b0 : decide (t226 < 0) = false := decide_eq_false c4
  clear c4
  replace H := Option.bind_eq_some_iff.mp H
  obtain ⟨⟨t227, t230, t231, t232, t233, t234, t235, t236⟩, A80, H⟩ := H
  try dsimp only at H
  have A8 := Aside0.mk A80
  clear A80
  replace H := Option.bind_eq_some_iff.mp H
  obtain ⟨⟨t237, t238, t239, t240, t241, t242, t243⟩, A90, H⟩ := H
  try dsimp only at H
  have A9 := Aside0.mk A90
  clear A90
  replace H := Option.bind_eq_some_iff.mp H
  obtain ⟨⟨t245, t248, t249, t250, t251, t252, t253, t254⟩, A100, H⟩ := H
  try dsimp only at H
  have A10 := Aside0.mk A100
  clear A100
  replace H := Option.bind_eq_some_iff.mp H
  obtain ⟨⟨t256, t257, t258, t259, t260, t261, t262⟩, A110, H⟩ := H
  try dsimp only at H
  have A11 := Aside0.mk A110
  clear A110
  have HC12 := Aside0.mk H
  clear H
  go_enter Try.func13, Try.ntmps13
  go_upto_region 8 with (first | ((with_reducible refine gate_dst (N := 2) rfl ?_); refine box_event ?hg (N := 2) ?hd (cs := #[.slice A0_0 l0_0.length c0_0, .int .i64 a0_1, .bool a0_2, .int .i64 a0_3, .string a0_4, .int .i64 a0_5, .int .i64 a0_6, .int .i64 a0_7]) (t := 52) ?hr ?_; (case hd => rfl); (case hg => rfl); (case hr => first | (go_simp; done) | (go_simp; rfl)); intro gb225 hg w13 hbox hb; have n0_ := Aside0.mk (below_step (bz) hb); have n1_ := Aside0.mk (hbox); have n2_ : Aside0 (w.heap.size ≤ gb225) := bsg hg; have n3_ : Aside0 (w.heap.size ≤ gb225) := bsg hg; clear HB; have HB := n0_; have BK225 := n1_; have GW225 := n2_; have GE225 := n3_; clear n0_ n1_ n2_ n3_; clear hb hbox hg; have hcz14_0 : w13.cell? ⟨gb225, 0, none⟩ = some (.slice A0_0 l0_0.length c0_0) := (blk_cell BK225.out 0).trans rfl; have hcz14_1 : w13.cell? ⟨gb225, 1, none⟩ = some (.int .i64 a0_1) := (blk_cell BK225.out 1).trans rfl; have hcz14_2 : w13.cell? ⟨gb225, 2, none⟩ = some (.bool a0_2) := (blk_cell BK225.out 2).trans rfl; have hcz14_3 : w13.cell? ⟨gb225, 3, none⟩ = some (.int .i64 a0_3) := (blk_cell BK225.out 3).trans rfl; have hcz14_4 : w13.cell? ⟨gb225, 4, none⟩ = some (.string a0_4) := (blk_cell BK225.out 4).trans rfl; have hcz14_5 : w13.cell? ⟨gb225, 5, none⟩ = some (.int .i64 a0_5) := (blk_cell BK225.out 5).trans rfl; have hcz14_6 : w13.cell? ⟨gb225, 6, none⟩ = some (.int .i64 a0_6) := (blk_cell BK225.out 6).trans rfl; have hcz14_7 : w13.cell? ⟨gb225, 7, none⟩ = some (.int .i64 a0_7) := (blk_cell BK225.out 7).trans rfl; have hfz14_0 := blk_frozen BK225.out 0; have hfz14_1 := blk_frozen BK225.out 1; have hfz14_2 := blk_frozen BK225.out 2; have hfz14_3 := blk_frozen BK225.out 3; have hfz14_4 := blk_frozen BK225.out 4; have hfz14_5 := blk_frozen BK225.out 5; have hfz14_6 := blk_frozen BK225.out 6; have hfz14_7 := blk_frozen BK225.out 7) | ((with_reducible refine gate_callee (f := 36) rfl ?_); refine goesL_ (some 13) rfl rfl Try.func36 (by kernel_rfl) rfl #[.agg #[.slice A0_0 l0_0.length c0_0, .int .i64 a0_1, .bool a0_2, .int .i64 a0_3, .string a0_4, .int .i64 a0_5, .int .i64 a0_6, .int .i64 a0_7], .int .i64 1048576] rfl (by (try simp only [List.map_toArray, List.map_cons, List.map_nil]); first | done | rfl | (simp only [List.length_drop, List.length_take]; rfl)) ?_; (with_reducible refine (laws_szCaller.calls k _ _ l0_0 a0_1 a0_2 a0_3 a0_4 a0_5 a0_6 a0_7 1048576 t226 _ ?side1 ?side2 A3.out).mono ?_); (case side1 => repeat (first | exact (Kd.C_below HR0_0.out HB.out) | (with_reducible refine Kd.C_alloc ?_ _) | (with_reducible refine Kd.C_drewN ?_ _) | (with_reducible refine Kd.C_drew ?_))); (case side2 => exact HC0_0.out); rintro e w15 ⟨rfl, hb⟩; refine ⟨_, rfl, ?_⟩; have n0_ := bkb BK225 hb; have n1_ := Aside0.mk (below_step (bz) hb); clear BK225; clear HB; have BK225 := n0_; have HB := n1_; clear n0_ n1_; (try clear hb); (try clear hb2); (try clear hk); (try clear hi); have hcz16_0 : w15.cell? ⟨gb225, 0, none⟩ = some (.slice A0_0 l0_0.length c0_0) := (blk_cell BK225.out 0).trans rfl; have hcz16_1 : w15.cell? ⟨gb225, 1, none⟩ = some (.int .i64 a0_1) := (blk_cell BK225.out 1).trans rfl; have hcz16_2 : w15.cell? ⟨gb225, 2, none⟩ = some (.bool a0_2) := (blk_cell BK225.out 2).trans rfl; have hcz16_3 : w15.cell? ⟨gb225, 3, none⟩ = some (.int .i64 a0_3) := (blk_cell BK225.out 3).trans rfl; have hcz16_4 : w15.cell? ⟨gb225, 4, none⟩ = some (.string a0_4) := (blk_cell BK225.out 4).trans rfl; have hcz16_5 : w15.cell? ⟨gb225, 5, none⟩ = some (.int .i64 a0_5) := (blk_cell BK225.out 5).trans rfl; have hcz16_6 : w15.cell? ⟨gb225, 6, none⟩ = some (.int .i64 a0_6) := (blk_cell BK225.out 6).trans rfl; have hcz16_7 : w15.cell? ⟨gb225, 7, none⟩ = some (.int .i64 a0_7) := (blk_cell BK225.out 7).trans rfl; have hfz16_0 := blk_frozen BK225.out 0; have hfz16_1 := blk_frozen BK225.out 1; have hfz16_2 := blk_frozen BK225.out 2; have hfz16_3 := blk_frozen BK225.out 3; have hfz16_4 := blk_frozen BK225.out 4; have hfz16_5 := blk_frozen BK225.out 5; have hfz16_6 := blk_frozen BK225.out 6; have hfz16_7 := blk_frozen BK225.out 7) | ((with_reducible refine gate_callee (f := 38) rfl ?_); refine goesL_ (some 18) rfl rfl Try.func38 (by kernel_rfl) rfl #[.agg #[.slice A0_0 l0_0.length c0_0, .int .i64 a0_1, .bool a0_2, .int .i64 a0_3, .string a0_4, .int .i64 a0_5, .int .i64 a0_6, .int .i64 a0_7]] rfl (by (try simp only [List.map_toArray, List.map_cons, List.map_nil]); first | done | rfl | (simp only [List.length_drop, List.length_take]; rfl)) ?_; (with_reducible refine (laws_toCaller.calls k _ _ l0_0 a0_1 a0_2 a0_3 a0_4 a0_5 a0_6 a0_7 t227 t230 t231 t232 t233 t234 t235 t236 _ ?side1 ?side2 A8.out).mono ?_); (case side1 => repeat (first | exact (Kd.C_below HR0_0.out HB.out) | (with_reducible refine Kd.C_alloc ?_ _) | (with_reducible refine Kd.C_drewN ?_ _) | (with_reducible refine Kd.C_drew ?_))); (case side2 => exact HC0_0.out); rintro e w17 ⟨v228, rfl, ho0, hb⟩; refine ⟨_, rfl, ?_⟩; have n0_ := Aside0.mk (Kd.R_lower ho0 (below_size (bz))); have n1_ := bkb BK225 hb; have n2_ := Aside0.mk (below_step (bz) hb); clear BK225; clear HB; have HO229 := n0_; have BK225 := n1_; have HB := n2_; clear n0_ n1_ n2_; (try clear hb); (try clear hb2); (try clear hk); (try clear hi); (try clear ho0); obtain ⟨Ao18, co18, eo18⟩ := Kd.R_slice HO229.out; subst eo18) | ((with_reducible refine gate_callee (f := 48) rfl ?_); refine goesL_ (some 20) rfl rfl Try.func48 (by kernel_rfl) rfl #[.agg #[.slice Ao18 t227.length co18, .int .i64 t230, .bool t231, .int .i64 t232, .string t233, .int .i64 t234, .int .i64 t235, .int .i64 t236], .int .i64 a1] rfl (by (try simp only [List.map_toArray, List.map_cons, List.map_nil]); first | done | rfl | (simp only [List.length_drop, List.length_take]; rfl)) ?_; (with_reducible refine (spec_RequestOf.calls k _ _ t227 t230 t231 t232 t233 t234 t235 t236 a1 t237 t238 t239 t240 t241 t242 t243 _ ?side1 ?side2 A9.out).mono ?_); (case side1 => repeat (first | exact (Kd.R_reads' HO229.out).2.2 | (with_reducible refine Kd.C_alloc ?_ _) | (with_reducible refine Kd.C_drewN ?_ _) | (with_reducible refine Kd.C_drew ?_))); (case side2 => exact (Kd.R_reads' HO229.out).2.1); rintro e w19 ⟨rfl, hb⟩; refine ⟨_, rfl, ?_⟩; have n0_ := Aside0.mk (Kd.R_below (by (with_reducible repeat (first | apply Kd.R_alloc | apply Kd.R_drewN | apply Kd.R_drew)); exact HO229.out) hb); have n1_ := bkb BK225 hb; have n2_ := Aside0.mk (below_step (bz) hb); clear HO229; clear BK225; clear HB; have HO229 := n0_; have BK225 := n1_; have HB := n2_; clear n0_ n1_ n2_; (try clear hb); (try clear hb2); (try clear hk); (try clear hi)) | ((with_reducible refine gate_dst (N := 6) rfl ?_); refine box_event ?hg (N := 6) ?hd (cs := #[.int .i64 0, .int .i64 0, .int .i64 0, .string (⟨#[]⟩ : ByteArray), .int .i64 0, .int .i64 0]) (t := 69) ?hr ?_; (case hd => rfl); (case hg => rfl); (case hr => first | (go_simp; done) | (go_simp; rfl)); intro gb244 hg w20 hbox hb; have n0_ := Aside0.mk (Kd.R_below (by (with_reducible repeat (first | apply Kd.R_alloc | apply Kd.R_drewN | apply Kd.R_drew)); exact HO229.out) hb); have n1_ := bkb BK225 hb; have n2_ := Aside0.mk (below_step (bz) hb); have n3_ := Aside0.mk (hbox); have n4_ : Aside0 (w.heap.size ≤ gb244) := bsg hg; have n5_ : Aside0 (w.heap.size ≤ gb244) := bsg hg; have n6_ := nlt hg BK225; have n7_ := ngt hg BK225; clear HO229; clear BK225; clear HB; have HO229 := n0_; have BK225 := n1_; have HB := n2_; have BK244 := n3_; have GW244 := n4_; have GE244 := n5_; have NB225_244 := n6_; have NB244_225 := n7_; clear n0_ n1_ n2_ n3_ n4_ n5_ n6_ n7_; clear hb hbox hg; have hnb21 := NB244_225.out; have hnc21 := NB225_244.out; have hcz22_0 : w20.cell? ⟨gb244, 0, none⟩ = some (.int .i64 0) := (blk_cell BK244.out 0).trans rfl; have hcz22_1 : w20.cell? ⟨gb244, 1, none⟩ = some (.int .i64 0) := (blk_cell BK244.out 1).trans rfl; have hcz22_2 : w20.cell? ⟨gb244, 2, none⟩ = some (.int .i64 0) := (blk_cell BK244.out 2).trans rfl; have hcz22_3 : w20.cell? ⟨gb244, 3, none⟩ = some (.string (⟨#[]⟩ : ByteArray)) := (blk_cell BK244.out 3).trans rfl; have hcz22_4 : w20.cell? ⟨gb244, 4, none⟩ = some (.int .i64 0) := (blk_cell BK244.out 4).trans rfl; have hcz22_5 : w20.cell? ⟨gb244, 5, none⟩ = some (.int .i64 0) := (blk_cell BK244.out 5).trans rfl; have hfz22_0 := blk_frozen BK244.out 0; have hfz22_1 := blk_frozen BK244.out 1; have hfz22_2 := blk_frozen BK244.out 2; have hfz22_3 := blk_frozen BK244.out 3; have hfz22_4 := blk_frozen BK244.out 4; have hfz22_5 := blk_frozen BK244.out 5; have hcz23_0 : w20.cell? ⟨gb225, 0, none⟩ = some (.slice A0_0 l0_0.length c0_0) := (blk_cell BK225.out 0).trans rfl; have hcz23_1 : w20.cell? ⟨gb225, 1, none⟩ = some (.int .i64 a0_1) := (blk_cell BK225.out 1).trans rfl; have hcz23_2 : w20.cell? ⟨gb225, 2, none⟩ = some (.bool a0_2) := (blk_cell BK225.out 2).trans rfl; have hcz23_3 : w20.cell? ⟨gb225, 3, none⟩ = some (.int .i64 a0_3) := (blk_cell BK225.out 3).trans rfl; have hcz23_4 : w20.cell? ⟨gb225, 4, none⟩ = some (.string a0_4) := (blk_cell BK225.out 4).trans rfl; have hcz23_5 : w20.cell? ⟨gb225, 5, none⟩ = some (.int .i64 a0_5) := (blk_cell BK225.out 5).trans rfl; have hcz23_6 : w20.cell? ⟨gb225, 6, none⟩ = some (.int .i64 a0_6) := (blk_cell BK225.out 6).trans rfl; have hcz23_7 : w20.cell? ⟨gb225, 7, none⟩ = some (.int .i64 a0_7) := (blk_cell BK225.out 7).trans rfl; have hfz23_0 := blk_frozen BK225.out 0; have hfz23_1 := blk_frozen BK225.out 1; have hfz23_2 := blk_frozen BK225.out 2; have hfz23_3 := blk_frozen BK225.out 3; have hfz23_4 := blk_frozen BK225.out 4; have hfz23_5 := blk_frozen BK225.out 5; have hfz23_6 := blk_frozen BK225.out 6; have hfz23_7 := blk_frozen BK225.out 7) | ((with_reducible refine gate_callee (f := 38) rfl ?_); refine goesL_ (some 24) rfl rfl Try.func38 (by kernel_rfl) rfl #[.agg #[.slice A0_0 l0_0.length c0_0, .int .i64 a0_1, .bool a0_2, .int .i64 a0_3, .string a0_4, .int .i64 a0_5, .int .i64 a0_6, .int .i64 a0_7]] rfl (by (try simp only [List.map_toArray, List.map_cons, List.map_nil]); first | done | rfl | (simp only [List.length_drop, List.length_take]; rfl)) ?_; (with_reducible refine (laws_toCaller.calls k _ _ l0_0 a0_1 a0_2 a0_3 a0_4 a0_5 a0_6 a0_7 t245 t248 t249 t250 t251 t252 t253 t254 _ ?side1 ?side2 A10.out).mono ?_); (case side1 => exact Kd.C_below HR0_0.out (bz)); (case side2 => exact HC0_0.out); rintro e w24 ⟨v246, rfl, ho0, hb⟩; refine ⟨_, rfl, ?_⟩; have n0_ := Aside0.mk (Kd.R_elder' (by (with_reducible repeat (first | apply Kd.R_alloc | apply Kd.R_drewN | apply Kd.R_drew)); exact (Kd.R_mono (Kd.R_far (p := ⟨gb244, 5, none⟩) (Kd.R_far (p := ⟨gb244, 4, none⟩) (Kd.R_far (p := ⟨gb244, 3, none⟩) (Kd.R_far (p := ⟨gb244, 2, none⟩) (Kd.R_far (p := ⟨gb244, 1, none⟩) (Kd.R_far (p := ⟨gb244, 0, none⟩) (Kd.R_types HO229.out BK244.out (by decide)) (fun _ hk => hk.2) (.int .i64 t237)) (fun _ hk => hk.2) (.int .i64 t238)) (fun _ hk => hk.2) (.int .i64 t239)) (fun _ hk => hk.2) (.string t240)) (fun _ hk => hk.2) (.int .i64 t241)) (fun _ hk => hk.2) (.int .i64 t242)) (fun _ h_ => h_.1))) (Kd.R_base ho0) hb); have n1_ := Aside0.mk (Kd.R_lower (Kd.R_new' ho0 (Kd.R_lt (by (with_reducible repeat (first | apply Kd.R_alloc | apply Kd.R_drewN | apply Kd.R_drew)); exact (Kd.R_mono (Kd.R_far (p := ⟨gb244, 5, none⟩) (Kd.R_far (p := ⟨gb244, 4, none⟩) (Kd.R_far (p := ⟨gb244, 3, none⟩) (Kd.R_far (p := ⟨gb244, 2, none⟩) (Kd.R_far (p := ⟨gb244, 1, none⟩) (Kd.R_far (p := ⟨gb244, 0, none⟩) (Kd.R_types HO229.out BK244.out (by decide)) (fun _ hk => hk.2) (.int .i64 t237)) (fun _ hk => hk.2) (.int .i64 t238)) (fun _ hk => hk.2) (.int .i64 t239)) (fun _ hk => hk.2) (.string t240)) (fun _ hk => hk.2) (.int .i64 t241)) (fun _ hk => hk.2) (.int .i64 t242)) (fun _ h_ => h_.1))))) (below_size (bz))); have n2_ := Aside0.mk (blk_below (g := gb225) (o := .cells #[.slice A0_0 l0_0.length c0_0, .int .i64 a0_1, .bool a0_2, .int .i64 a0_3, .string a0_4, .int .i64 a0_5, .int .i64 a0_6, .int .i64 a0_7] 52 (0, 0)) (by (with_reducible repeat (first | refine blk_drewN ?_ _ | refine blk_drew ?_ | refine blk_alloc ?_ _)); refine blk_far ?_ NB225_244.out _; (with_reducible repeat (first | refine blk_drewN ?_ _ | refine blk_drew ?_ | refine blk_alloc ?_ _)); refine blk_far ?_ NB225_244.out _; (with_reducible repeat (first | refine blk_drewN ?_ _ | refine blk_drew ?_ | refine blk_alloc ?_ _)); refine blk_far ?_ NB225_244.out _; (with_reducible repeat (first | refine blk_drewN ?_ _ | refine blk_drew ?_ | refine blk_alloc ?_ _)); refine blk_far ?_ NB225_244.out _; (with_reducible repeat (first | refine blk_drewN ?_ _ | refine blk_drew ?_ | refine blk_alloc ?_ _)); refine blk_far ?_ NB225_244.out _; (with_reducible repeat (first | refine blk_drewN ?_ _ | refine blk_drew ?_ | refine blk_alloc ?_ _)); refine blk_far ?_ NB225_244.out _; (with_reducible repeat (first | refine blk_drewN ?_ _ | refine blk_drew ?_ | refine blk_alloc ?_ _)); exact BK225.out) hb); have n3_ := Aside0.mk (blk_below (g := gb244) (o := .cells #[.int .i64 t237, .int .i64 t238, .int .i64 t239, .string t240, .int .i64 t241, .int .i64 t242] 69 (0, 0)) (by (with_reducible repeat (first | refine blk_drewN ?_ _ | refine blk_drew ?_ | refine blk_alloc ?_ _)); refine blk_put (cs := #[.int .i64 t237, .int .i64 t238, .int .i64 t239, .string t240, .int .i64 t241, .int .i64 0]) ?_ 5 _ rfl; (with_reducible repeat (first | refine blk_drewN ?_ _ | refine blk_drew ?_ | refine blk_alloc ?_ _)); refine blk_put (cs := #[.int .i64 t237, .int .i64 t238, .int .i64 t239, .string t240, .int .i64 0, .int .i64 0]) ?_ 4 _ rfl; (with_reducible repeat (first | refine blk_drewN ?_ _ | refine blk_drew ?_ | refine blk_alloc ?_ _)); refine blk_put (cs := #[.int .i64 t237, .int .i64 t238, .int .i64 t239, .string (⟨#[]⟩ : ByteArray), .int .i64 0, .int .i64 0]) ?_ 3 _ rfl; (with_reducible repeat (first | refine blk_drewN ?_ _ | refine blk_drew ?_ | refine blk_alloc ?_ _)); refine blk_put (cs := #[.int .i64 t237, .int .i64 t238, .int .i64 0, .string (⟨#[]⟩ : ByteArray), .int .i64 0, .int .i64 0]) ?_ 2 _ rfl; (with_reducible repeat (first | refine blk_drewN ?_ _ | refine blk_drew ?_ | refine blk_alloc ?_ _)); refine blk_put (cs := #[.int .i64 t237, .int .i64 0, .int .i64 0, .string (⟨#[]⟩ : ByteArray), .int .i64 0, .int .i64 0]) ?_ 1 _ rfl; (with_reducible repeat (first | refine blk_drewN ?_ _ | refine blk_drew ?_ | refine blk_alloc ?_ _)); refine blk_put (cs := #[.int .i64 0, .int .i64 0, .int .i64 0, .string (⟨#[]⟩ : ByteArray), .int .i64 0, .int .i64 0]) ?_ 0 _ rfl; (with_reducible repeat (first | refine blk_drewN ?_ _ | refine blk_drew ?_ | refine blk_alloc ?_ _)); exact BK244.out) hb); have n4_ := Aside0.mk (below_step (bz) hb); clear HO229; clear BK225; clear BK244; clear HB; have HO229 := n0_; have HO247 := n1_; have BK225 := n2_; have BK244 := n3_; have HB := n4_; clear n0_ n1_ n2_ n3_ n4_; (try clear hb); (try clear hb2); (try clear hk); (try clear hi); (try clear ho0)) | ((with_reducible refine gate_dst (N := 8) rfl ?_); refine box_event ?hg (N := 8) ?hd (cs := #[.slice none 0 0, .int .i64 0, .bool false, .int .i64 0, .string (⟨#[]⟩ : ByteArray), .int .i64 0, .int .i64 0, .int .i64 0]) (t := 57) ?hr ?_; (case hd => rfl); (case hg => rfl); (case hr => first | (go_simp; done) | (go_simp; rfl)); intro gb255 hg w25 hbox hb; have n0_ := Aside0.mk (Kd.R_below (by (with_reducible repeat (first | apply Kd.R_alloc | apply Kd.R_drewN | apply Kd.R_drew)); exact HO229.out) hb); have n1_ := Aside0.mk (Kd.R_below (by (with_reducible repeat (first | apply Kd.R_alloc | apply Kd.R_drewN | apply Kd.R_drew)); exact HO247.out) hb); have n2_ := bkb BK225 hb; have n3_ := bkb BK244 hb; have n4_ := Aside0.mk (below_step (bz) hb); have n5_ := Aside0.mk (hbox); have n6_ : Aside0 (w.heap.size ≤ gb255) := bsg hg; have n7_ : Aside0 (w.heap.size ≤ gb255) := bsg hg; have n8_ := nlt hg BK225; have n9_ := ngt hg BK225; have n10_ := nlt hg BK244; have n11_ := ngt hg BK244; clear HO229; clear HO247; clear BK225; clear BK244; clear HB; have HO229 := n0_; have HO247 := n1_; have BK225 := n2_; have BK244 := n3_; have HB := n4_; have BK255 := n5_; have GW255 := n6_; have GE255 := n7_; have NB225_255 := n8_; have NB255_225 := n9_; have NB244_255 := n10_; have NB255_244 := n11_; clear n0_ n1_ n2_ n3_ n4_ n5_ n6_ n7_ n8_ n9_ n10_ n11_; clear hb hbox hg; obtain ⟨Ao26, co26, eo26⟩ := Kd.R_slice HO247.out; subst eo26; have hnb27 := NB255_225.out; have hnc27 := NB225_255.out; have hnb28 := NB255_244.out; have hnc28 := NB244_255.out; have hcz29_0 : w25.cell? ⟨gb255, 0, none⟩ = some (.slice none 0 0) := (blk_cell BK255.out 0).trans rfl; have hcz29_1 : w25.cell? ⟨gb255, 1, none⟩ = some (.int .i64 0) := (blk_cell BK255.out 1).trans rfl; have hcz29_2 : w25.cell? ⟨gb255, 2, none⟩ = some (.bool false) := (blk_cell BK255.out 2).trans rfl; have hcz29_3 : w25.cell? ⟨gb255, 3, none⟩ = some (.int .i64 0) := (blk_cell BK255.out 3).trans rfl; have hcz29_4 : w25.cell? ⟨gb255, 4, none⟩ = some (.string (⟨#[]⟩ : ByteArray)) := (blk_cell BK255.out 4).trans rfl; have hcz29_5 : w25.cell? ⟨gb255, 5, none⟩ = some (.int .i64 0) := (blk_cell BK255.out 5).trans rfl; have hcz29_6 : w25.cell? ⟨gb255, 6, none⟩ = some (.int .i64 0) := (blk_cell BK255.out 6).trans rfl; have hcz29_7 : w25.cell? ⟨gb255, 7, none⟩ = some (.int .i64 0) := (blk_cell BK255.out 7).trans rfl; have hfz29_0 := blk_frozen BK255.out 0; have hfz29_1 := blk_frozen BK255.out 1; have hfz29_2 := blk_frozen BK255.out 2; have hfz29_3 := blk_frozen BK255.out 3; have hfz29_4 := blk_frozen BK255.out 4; have hfz29_5 := blk_frozen BK255.out 5; have hfz29_6 := blk_frozen BK255.out 6; have hfz29_7 := blk_frozen BK255.out 7) | ((with_reducible refine gate_callee (f := 49) rfl ?_); refine goesL_ (some 28) rfl rfl Try.func49 (by kernel_rfl) rfl #[.agg #[.slice Ao26 t245.length co26, .int .i64 t248, .bool t249, .int .i64 t250, .string t251, .int .i64 t252, .int .i64 t253, .int .i64 t254], .int .i64 a1] rfl (by (try simp only [List.map_toArray, List.map_cons, List.map_nil]); first | done | rfl | (simp only [List.length_drop, List.length_take]; rfl)) ?_; (with_reducible refine (impl_RequestOf.calls k _ _ t245 t248 t249 t250 t251 t252 t253 t254 a1 t256 t257 t258 t259 t260 t261 t262 _ ?side1 ?side2 A11.out).mono ?_); (case side1 => refine (Kd.R_reads' (e := 43) (base := w.heap.size) (ok := fun k_ => (True ∧ some k_ ≠ (.slice Ao18 t227.length co18 : Value).ownBlock)) (n := t245.length) (c := co26) ?_).2.2; exact (by (with_reducible repeat (first | apply Kd.R_alloc | apply Kd.R_drewN | apply Kd.R_drew)); exact (Kd.R_mono (Kd.R_far (p := ⟨gb255, 7, none⟩) (Kd.R_far (p := ⟨gb255, 6, none⟩) (Kd.R_far (p := ⟨gb255, 5, none⟩) (Kd.R_far (p := ⟨gb255, 4, none⟩) (Kd.R_far (p := ⟨gb255, 3, none⟩) (Kd.R_far (p := ⟨gb255, 2, none⟩) (Kd.R_far (p := ⟨gb255, 1, none⟩) (Kd.R_far (p := ⟨gb255, 0, none⟩) (Kd.R_types HO247.out BK255.out (by decide)) (fun _ hk => hk.2) (.slice Ao26 t245.length co26)) (fun _ hk => hk.2) (.int .i64 t248)) (fun _ hk => hk.2) (.bool t249)) (fun _ hk => hk.2) (.int .i64 t250)) (fun _ hk => hk.2) (.string t251)) (fun _ hk => hk.2) (.int .i64 t252)) (fun _ hk => hk.2) (.int .i64 t253)) (fun _ hk => hk.2) (.int .i64 t254)) (fun _ h_ => h_.1)))); (case side2 => exact (Kd.R_reads' HO247.out).2.1); rintro e w30 ⟨rfl, hb⟩; refine ⟨_, rfl, ?_⟩; have n0_ := Aside0.mk (Kd.R_below (by (with_reducible repeat (first | apply Kd.R_alloc | apply Kd.R_drewN | apply Kd.R_drew)); exact (Kd.R_mono (Kd.R_far (p := ⟨gb255, 7, none⟩) (Kd.R_far (p := ⟨gb255, 6, none⟩) (Kd.R_far (p := ⟨gb255, 5, none⟩) (Kd.R_far (p := ⟨gb255, 4, none⟩) (Kd.R_far (p := ⟨gb255, 3, none⟩) (Kd.R_far (p := ⟨gb255, 2, none⟩) (Kd.R_far (p := ⟨gb255, 1, none⟩) (Kd.R_far (p := ⟨gb255, 0, none⟩) (Kd.R_types HO229.out BK255.out (by decide)) (fun _ hk => hk.2) (.slice Ao26 t245.length co26)) (fun _ hk => hk.2) (.int .i64 t248)) (fun _ hk => hk.2) (.bool t249)) (fun _ hk => hk.2) (.int .i64 t250)) (fun _ hk => hk.2) (.string t251)) (fun _ hk => hk.2) (.int .i64 t252)) (fun _ hk => hk.2) (.int .i64 t253)) (fun _ hk => hk.2) (.int .i64 t254)) (fun _ h_ => h_.1))) hb); have n1_ := Aside0.mk (Kd.R_below (by (with_reducible repeat (first | apply Kd.R_alloc | apply Kd.R_drewN | apply Kd.R_drew)); exact (Kd.R_mono (Kd.R_far (p := ⟨gb255, 7, none⟩) (Kd.R_far (p := ⟨gb255, 6, none⟩) (Kd.R_far (p := ⟨gb255, 5, none⟩) (Kd.R_far (p := ⟨gb255, 4, none⟩) (Kd.R_far (p := ⟨gb255, 3, none⟩) (Kd.R_far (p := ⟨gb255, 2, none⟩) (Kd.R_far (p := ⟨gb255, 1, none⟩) (Kd.R_far (p := ⟨gb255, 0, none⟩) (Kd.R_types HO247.out BK255.out (by decide)) (fun _ hk => hk.2) (.slice Ao26 t245.length co26)) (fun _ hk => hk.2) (.int .i64 t248)) (fun _ hk => hk.2) (.bool t249)) (fun _ hk => hk.2) (.int .i64 t250)) (fun _ hk => hk.2) (.string t251)) (fun _ hk => hk.2) (.int .i64 t252)) (fun _ hk => hk.2) (.int .i64 t253)) (fun _ hk => hk.2) (.int .i64 t254)) (fun _ h_ => h_.1))) hb); have n2_ := Aside0.mk (blk_below (g := gb225) (o := .cells #[.slice A0_0 l0_0.length c0_0, .int .i64 a0_1, .bool a0_2, .int .i64 a0_3, .string a0_4, .int .i64 a0_5, .int .i64 a0_6, .int .i64 a0_7] 52 (0, 0)) (by (with_reducible repeat (first | refine blk_drewN ?_ _ | refine blk_drew ?_ | refine blk_alloc ?_ _)); refine blk_far ?_ NB225_255.out _; (with_reducible repeat (first | refine blk_drewN ?_ _ | refine blk_drew ?_ | refine blk_alloc ?_ _)); refine blk_far ?_ NB225_255.out _; (with_reducible repeat (first | refine blk_drewN ?_ _ | refine blk_drew ?_ | refine blk_alloc ?_ _)); refine blk_far ?_ NB225_255.out _; (with_reducible repeat (first | refine blk_drewN ?_ _ | refine blk_drew ?_ | refine blk_alloc ?_ _)); refine blk_far ?_ NB225_255.out _; (with_reducible repeat (first | refine blk_drewN ?_ _ | refine blk_drew ?_ | refine blk_alloc ?_ _)); refine blk_far ?_ NB225_255.out _; (with_reducible repeat (first | refine blk_drewN ?_ _ | refine blk_drew ?_ | refine blk_alloc ?_ _)); refine blk_far ?_ NB225_255.out _; (with_reducible repeat (first | refine blk_drewN ?_ _ | refine blk_drew ?_ | refine blk_alloc ?_ _)); refine blk_far ?_ NB225_255.out _; (with_reducible repeat (first | refine blk_drewN ?_ _ | refine blk_drew ?_ | refine blk_alloc ?_ _)); refine blk_far ?_ NB225_255.out _; (with_reducible repeat (first | refine blk_drewN ?_ _ | refine blk_drew ?_ | refine blk_alloc ?_ _)); exact BK225.out) hb); have n3_ := Aside0.mk (blk_below (g := gb244) (o := .cells #[.int .i64 t237, .int .i64 t238, .int .i64 t239, .string t240, .int .i64 t241, .int .i64 t242] 69 (0, 0)) (by (with_reducible repeat (first | refine blk_drewN ?_ _ | refine blk_drew ?_ | refine blk_alloc ?_ _)); refine blk_far ?_ NB244_255.out _; (with_reducible repeat (first | refine blk_drewN ?_ _ | refine blk_drew ?_ | refine blk_alloc ?_ _)); refine blk_far ?_ NB244_255.out _; (with_reducible repeat (first | refine blk_drewN ?_ _ | refine blk_drew ?_ | refine blk_alloc ?_ _)); refine blk_far ?_ NB244_255.out _; (with_reducible repeat (first | refine blk_drewN ?_ _ | refine blk_drew ?_ | refine blk_alloc ?_ _)); refine blk_far ?_ NB244_255.out _; (with_reducible repeat (first | refine blk_drewN ?_ _ | refine blk_drew ?_ | refine blk_alloc ?_ _)); refine blk_far ?_ NB244_255.out _; (with_reducible repeat (first | refine blk_drewN ?_ _ | refine blk_drew ?_ | refine blk_alloc ?_ _)); refine blk_far ?_ NB244_255.out _; (with_reducible repeat (first | refine blk_drewN ?_ _ | refine blk_drew ?_ | refine blk_alloc ?_ _)); refine blk_far ?_ NB244_255.out _; (with_reducible repeat (first | refine blk_drewN ?_ _ | refine blk_drew ?_ | refine blk_alloc ?_ _)); refine blk_far ?_ NB244_255.out _; (with_reducible repeat (first | refine blk_drewN ?_ _ | refine blk_drew ?_ | refine blk_alloc ?_ _)); exact BK244.out) hb); have n4_ := Aside0.mk (blk_below (g := gb255) (o := .cells #[.slice Ao26 t245.length co26, .int .i64 t248, .bool t249, .int .i64 t250, .string t251, .int .i64 t252, .int .i64 t253, .int .i64 t254] 57 (0, 0)) (by (with_reducible repeat (first | refine blk_drewN ?_ _ | refine blk_drew ?_ | refine blk_alloc ?_ _)); refine blk_put (cs := #[.slice Ao26 t245.length co26, .int .i64 t248, .bool t249, .int .i64 t250, .string t251, .int .i64 t252, .int .i64 t253, .int .i64 0]) ?_ 7 _ rfl; (with_reducible repeat (first | refine blk_drewN ?_ _ | refine blk_drew ?_ | refine blk_alloc ?_ _)); refine blk_put (cs := #[.slice Ao26 t245.length co26, .int .i64 t248, .bool t249, .int .i64 t250, .string t251, .int .i64 t252, .int .i64 0, .int .i64 0]) ?_ 6 _ rfl; (with_reducible repeat (first | refine blk_drewN ?_ _ | refine blk_drew ?_ | refine blk_alloc ?_ _)); refine blk_put (cs := #[.slice Ao26 t245.length co26, .int .i64 t248, .bool t249, .int .i64 t250, .string t251, .int .i64 0, .int .i64 0, .int .i64 0]) ?_ 5 _ rfl; (with_reducible repeat (first | refine blk_drewN ?_ _ | refine blk_drew ?_ | refine blk_alloc ?_ _)); refine blk_put (cs := #[.slice Ao26 t245.length co26, .int .i64 t248, .bool t249, .int .i64 t250, .string (⟨#[]⟩ : ByteArray), .int .i64 0, .int .i64 0, .int .i64 0]) ?_ 4 _ rfl; (with_reducible repeat (first | refine blk_drewN ?_ _ | refine blk_drew ?_ | refine blk_alloc ?_ _)); refine blk_put (cs := #[.slice Ao26 t245.length co26, .int .i64 t248, .bool t249, .int .i64 0, .string (⟨#[]⟩ : ByteArray), .int .i64 0, .int .i64 0, .int .i64 0]) ?_ 3 _ rfl; (with_reducible repeat (first | refine blk_drewN ?_ _ | refine blk_drew ?_ | refine blk_alloc ?_ _)); refine blk_put (cs := #[.slice Ao26 t245.length co26, .int .i64 t248, .bool false, .int .i64 0, .string (⟨#[]⟩ : ByteArray), .int .i64 0, .int .i64 0, .int .i64 0]) ?_ 2 _ rfl; (with_reducible repeat (first | refine blk_drewN ?_ _ | refine blk_drew ?_ | refine blk_alloc ?_ _)); refine blk_put (cs := #[.slice Ao26 t245.length co26, .int .i64 0, .bool false, .int .i64 0, .string (⟨#[]⟩ : ByteArray), .int .i64 0, .int .i64 0, .int .i64 0]) ?_ 1 _ rfl; (with_reducible repeat (first | refine blk_drewN ?_ _ | refine blk_drew ?_ | refine blk_alloc ?_ _)); refine blk_put (cs := #[.slice none 0 0, .int .i64 0, .bool false, .int .i64 0, .string (⟨#[]⟩ : ByteArray), .int .i64 0, .int .i64 0, .int .i64 0]) ?_ 0 _ rfl; (with_reducible repeat (first | refine blk_drewN ?_ _ | refine blk_drew ?_ | refine blk_alloc ?_ _)); exact BK255.out) hb); have n5_ := Aside0.mk (below_step (bz) hb); clear HO229; clear HO247; clear BK225; clear BK244; clear BK255; clear HB; have HO229 := n0_; have HO247 := n1_; have BK225 := n2_; have BK244 := n3_; have BK255 := n4_; have HB := n5_; clear n0_ n1_ n2_ n3_ n4_ n5_; (try clear hb); (try clear hb2); (try clear hk); (try clear hi)) | ((with_reducible refine gate_dst (N := 9) rfl ?_); refine box_event ?hg (N := 9) ?hd (cs := #[.int .i64 0, .int .i64 0, .int .i64 0, .string (⟨#[]⟩ : ByteArray), .int .i64 0, .int .i64 0]) (t := 69) ?hr ?_; (case hd => rfl); (case hg => rfl); (case hr => first | (go_simp; done) | (go_simp; rfl)); intro gb263 hg w31 hbox hb; have n0_ := Aside0.mk (Kd.R_below (by (with_reducible repeat (first | apply Kd.R_alloc | apply Kd.R_drewN | apply Kd.R_drew)); exact HO229.out) hb); have n1_ := Aside0.mk (Kd.R_below (by (with_reducible repeat (first | apply Kd.R_alloc | apply Kd.R_drewN | apply Kd.R_drew)); exact HO247.out) hb); have n2_ := bkb BK225 hb; have n3_ := bkb BK244 hb; have n4_ := bkb BK255 hb; have n5_ := Aside0.mk (below_step (bz) hb); have n6_ := Aside0.mk (hbox); have n7_ : Aside0 (w.heap.size ≤ gb263) := bsg hg; have n8_ : Aside0 (w.heap.size ≤ gb263) := bsg hg; have n9_ := nlt hg BK225; have n10_ := ngt hg BK225; have n11_ := nlt hg BK244; have n12_ := ngt hg BK244; have n13_ := nlt hg BK255; have n14_ := ngt hg BK255; clear HO229; clear HO247; clear BK225; clear BK244; clear BK255; clear HB; have HO229 := n0_; have HO247 := n1_; have BK225 := n2_; have BK244 := n3_; have BK255 := n4_; have HB := n5_; have BK263 := n6_; have GW263 := n7_; have GE263 := n8_; have NB225_263 := n9_; have NB263_225 := n10_; have NB244_263 := n11_; have NB263_244 := n12_; have NB255_263 := n13_; have NB263_255 := n14_; clear n0_ n1_ n2_ n3_ n4_ n5_ n6_ n7_ n8_ n9_ n10_ n11_ n12_ n13_ n14_; clear hb hbox hg; have hnb32 := NB263_225.out; have hnc32 := NB225_263.out; have hnb33 := NB263_244.out; have hnc33 := NB244_263.out; have hnb34 := NB263_255.out; have hnc34 := NB255_263.out; have hcz35_0 : w31.cell? ⟨gb263, 0, none⟩ = some (.int .i64 0) := (blk_cell BK263.out 0).trans rfl; have hcz35_1 : w31.cell? ⟨gb263, 1, none⟩ = some (.int .i64 0) := (blk_cell BK263.out 1).trans rfl; have hcz35_2 : w31.cell? ⟨gb263, 2, none⟩ = some (.int .i64 0) := (blk_cell BK263.out 2).trans rfl; have hcz35_3 : w31.cell? ⟨gb263, 3, none⟩ = some (.string (⟨#[]⟩ : ByteArray)) := (blk_cell BK263.out 3).trans rfl; have hcz35_4 : w31.cell? ⟨gb263, 4, none⟩ = some (.int .i64 0) := (blk_cell BK263.out 4).trans rfl; have hcz35_5 : w31.cell? ⟨gb263, 5, none⟩ = some (.int .i64 0) := (blk_cell BK263.out 5).trans rfl; have hfz35_0 := blk_frozen BK263.out 0; have hfz35_1 := blk_frozen BK263.out 1; have hfz35_2 := blk_frozen BK263.out 2; have hfz35_3 := blk_frozen BK263.out 3; have hfz35_4 := blk_frozen BK263.out 4; have hfz35_5 := blk_frozen BK263.out 5))
  (try simp only [Act.put, List.setIfInBounds_toArray, List.set_cons_zero, List.set_cons_succ])
  go_cut [39] (fun v39 wc => ∃ (kq : Nat) (x39_11 : Bool), v39 = .bool x39_11 ∧ Aside0 (laws_FnExactRequestOf.j0 kq x39_11 l0_0 a0_1 a0_2 a0_3 a0_4 a0_5 a0_6 a0_7 t245 t248 t249 t250 t251 t252 t253 t254 = some r) ∧ Aside0 (kq ≤ k) ∧ Aside0 (Kd.R k43 43 wc w.heap.size (fun _ => True) (.slice Ao26 t245.length co26) t245) ∧ Aside0 (wc.heap[gb225]? = some (.cells #[(.slice A0_0 l0_0.length c0_0), .int .i64 a0_1, .bool a0_2, .int .i64 a0_3, .string a0_4, .int .i64 a0_5, .int .i64 a0_6, .int .i64 a0_7] 52 (0, 0))) ∧ Aside0 (wc.heap[gb244]? = some (.cells #[.int .i64 t237, .int .i64 t238, .int .i64 t239, .string t240, .int .i64 t241, .int .i64 t242] 69 (0, 0))) ∧ Aside0 (wc.heap[gb255]? = some (.cells #[(.slice Ao26 t245.length co26), .int .i64 t248, .bool t249, .int .i64 t250, .string t251, .int .i64 t252, .int .i64 t253, .int .i64 t254] 57 (0, 0))) ∧ Aside0 (wc.heap[gb263]? = some (.cells #[.int .i64 t256, .int .i64 t257, .int .i64 t258, .string t259, .int .i64 t260, .int .i64 t261] 69 (0, 0))) ∧ Aside0 (Below w.heap.size w wc))
  case first =>
   have H := HC12.out
   clear HC12
   replace H := Option.bind_eq_some_iff.mp H
   obtain ⟨t264, A360, H⟩ := H
   try dsimp only at H
   have A36 := Aside0.mk A360
   clear A360
   by_cases c37 : t264 = true
   ·
    subst c37
    rw [if_pos rfl] at H
    have H' := Aside0.mk H
    clear H
    have hnb38 := NB263_225.out
    have hnc38 := NB225_263.out
    have hnb39 := NB263_244.out
    have hnc39 := NB244_263.out
    have hnb40 := NB263_255.out
    have hnc40 := NB255_263.out
    have hcz41_0 : w31.cell? ⟨gb263, 0, none⟩ = some (.int .i64 0) := (blk_cell BK263.out 0).trans rfl
    have hcz41_1 : w31.cell? ⟨gb263, 1, none⟩ = some (.int .i64 0) := (blk_cell BK263.out 1).trans rfl
    have hcz41_2 : w31.cell? ⟨gb263, 2, none⟩ = some (.int .i64 0) := (blk_cell BK263.out 2).trans rfl
    have hcz41_3 : w31.cell? ⟨gb263, 3, none⟩ = some (.string (⟨#[]⟩ : ByteArray)) := (blk_cell BK263.out 3).trans rfl
    have hcz41_4 : w31.cell? ⟨gb263, 4, none⟩ = some (.int .i64 0) := (blk_cell BK263.out 4).trans rfl
    have hcz41_5 : w31.cell? ⟨gb263, 5, none⟩ = some (.int .i64 0) := (blk_cell BK263.out 5).trans rfl
    have hfz41_0 := blk_frozen BK263.out 0
    have hfz41_1 := blk_frozen BK263.out 1
    have hfz41_2 := blk_frozen BK263.out 2
    have hfz41_3 := blk_frozen BK263.out 3
    have hfz41_4 := blk_frozen BK263.out 4
    have hfz41_5 := blk_frozen BK263.out 5
    have hnb42 := NB244_225.out
    have hnc42 := NB225_244.out
    have hnb43 := NB244_255.out
    have hnc43 := NB255_244.out
    have hcz44_0 : w31.cell? ⟨gb244, 0, none⟩ = some (.int .i64 t237) := (blk_cell BK244.out 0).trans rfl
    have hcz44_1 : w31.cell? ⟨gb244, 1, none⟩ = some (.int .i64 t238) := (blk_cell BK244.out 1).trans rfl
    have hcz44_2 : w31.cell? ⟨gb244, 2, none⟩ = some (.int .i64 t239) := (blk_cell BK244.out 2).trans rfl
    have hcz44_3 : w31.cell? ⟨gb244, 3, none⟩ = some (.string t240) := (blk_cell BK244.out 3).trans rfl
    have hcz44_4 : w31.cell? ⟨gb244, 4, none⟩ = some (.int .i64 t241) := (blk_cell BK244.out 4).trans rfl
    have hcz44_5 : w31.cell? ⟨gb244, 5, none⟩ = some (.int .i64 t242) := (blk_cell BK244.out 5).trans rfl
    have hfz44_0 := blk_frozen BK244.out 0
    have hfz44_1 := blk_frozen BK244.out 1
    have hfz44_2 := blk_frozen BK244.out 2
    have hfz44_3 := blk_frozen BK244.out 3
    have hfz44_4 := blk_frozen BK244.out 4
    have hfz44_5 := blk_frozen BK244.out 5
    go_wp2_with (first | ((with_reducible refine gate_callee (f := 50) rfl ?_); refine goesL_ (some 33) rfl rfl Try.func50 (by kernel_rfl) rfl #[.agg #[.int .i64 t256, .int .i64 t257, .int .i64 t258, .string t259, .int .i64 t260, .int .i64 t261], .agg #[.int .i64 t237, .int .i64 t238, .int .i64 t239, .string t240, .int .i64 t241, .int .i64 t242]] rfl (by (try simp only [List.map_toArray, List.map_cons, List.map_nil]); first | done | rfl | (simp only [List.length_drop, List.length_take]; rfl)) ?_; (with_reducible refine (laws_eqEntry.calls t256 t257 t258 t259 t260 t261 t237 t238 t239 t240 t241 t242 true _ A36.out).mono ?_); rintro e w45 ⟨rfl, hb⟩; refine ⟨_, rfl, ?_⟩; have n0_ := Aside0.mk (Kd.R_below (by (with_reducible repeat (first | apply Kd.R_alloc | apply Kd.R_drewN | apply Kd.R_drew)); exact (Kd.R_mono (Kd.R_far (p := ⟨gb263, 5, none⟩) (Kd.R_far (p := ⟨gb263, 4, none⟩) (Kd.R_far (p := ⟨gb263, 3, none⟩) (Kd.R_far (p := ⟨gb263, 2, none⟩) (Kd.R_far (p := ⟨gb263, 1, none⟩) (Kd.R_far (p := ⟨gb263, 0, none⟩) (Kd.R_types HO229.out BK263.out (by decide)) (fun _ hk => hk.2) (.int .i64 t256)) (fun _ hk => hk.2) (.int .i64 t257)) (fun _ hk => hk.2) (.int .i64 t258)) (fun _ hk => hk.2) (.string t259)) (fun _ hk => hk.2) (.int .i64 t260)) (fun _ hk => hk.2) (.int .i64 t261)) (fun _ h_ => h_.1))) hb); have n1_ := Aside0.mk (Kd.R_below (by (with_reducible repeat (first | apply Kd.R_alloc | apply Kd.R_drewN | apply Kd.R_drew)); exact (Kd.R_mono (Kd.R_far (p := ⟨gb263, 5, none⟩) (Kd.R_far (p := ⟨gb263, 4, none⟩) (Kd.R_far (p := ⟨gb263, 3, none⟩) (Kd.R_far (p := ⟨gb263, 2, none⟩) (Kd.R_far (p := ⟨gb263, 1, none⟩) (Kd.R_far (p := ⟨gb263, 0, none⟩) (Kd.R_types HO247.out BK263.out (by decide)) (fun _ hk => hk.2) (.int .i64 t256)) (fun _ hk => hk.2) (.int .i64 t257)) (fun _ hk => hk.2) (.int .i64 t258)) (fun _ hk => hk.2) (.string t259)) (fun _ hk => hk.2) (.int .i64 t260)) (fun _ hk => hk.2) (.int .i64 t261)) (fun _ h_ => h_.1))) hb); have n2_ := Aside0.mk (blk_below (g := gb225) (o := .cells #[.slice A0_0 l0_0.length c0_0, .int .i64 a0_1, .bool a0_2, .int .i64 a0_3, .string a0_4, .int .i64 a0_5, .int .i64 a0_6, .int .i64 a0_7] 52 (0, 0)) (by (with_reducible repeat (first | refine blk_drewN ?_ _ | refine blk_drew ?_ | refine blk_alloc ?_ _)); refine blk_far ?_ NB225_263.out _; (with_reducible repeat (first | refine blk_drewN ?_ _ | refine blk_drew ?_ | refine blk_alloc ?_ _)); refine blk_far ?_ NB225_263.out _; (with_reducible repeat (first | refine blk_drewN ?_ _ | refine blk_drew ?_ | refine blk_alloc ?_ _)); refine blk_far ?_ NB225_263.out _; (with_reducible repeat (first | refine blk_drewN ?_ _ | refine blk_drew ?_ | refine blk_alloc ?_ _)); refine blk_far ?_ NB225_263.out _; (with_reducible repeat (first | refine blk_drewN ?_ _ | refine blk_drew ?_ | refine blk_alloc ?_ _)); refine blk_far ?_ NB225_263.out _; (with_reducible repeat (first | refine blk_drewN ?_ _ | refine blk_drew ?_ | refine blk_alloc ?_ _)); refine blk_far ?_ NB225_263.out _; (with_reducible repeat (first | refine blk_drewN ?_ _ | refine blk_drew ?_ | refine blk_alloc ?_ _)); exact BK225.out) hb); have n3_ := Aside0.mk (blk_below (g := gb244) (o := .cells #[.int .i64 t237, .int .i64 t238, .int .i64 t239, .string t240, .int .i64 t241, .int .i64 t242] 69 (0, 0)) (by (with_reducible repeat (first | refine blk_drewN ?_ _ | refine blk_drew ?_ | refine blk_alloc ?_ _)); refine blk_far ?_ NB244_263.out _; (with_reducible repeat (first | refine blk_drewN ?_ _ | refine blk_drew ?_ | refine blk_alloc ?_ _)); refine blk_far ?_ NB244_263.out _; (with_reducible repeat (first | refine blk_drewN ?_ _ | refine blk_drew ?_ | refine blk_alloc ?_ _)); refine blk_far ?_ NB244_263.out _; (with_reducible repeat (first | refine blk_drewN ?_ _ | refine blk_drew ?_ | refine blk_alloc ?_ _)); refine blk_far ?_ NB244_263.out _; (with_reducible repeat (first | refine blk_drewN ?_ _ | refine blk_drew ?_ | refine blk_alloc ?_ _)); refine blk_far ?_ NB244_263.out _; (with_reducible repeat (first | refine blk_drewN ?_ _ | refine blk_drew ?_ | refine blk_alloc ?_ _)); refine blk_far ?_ NB244_263.out _; (with_reducible repeat (first | refine blk_drewN ?_ _ | refine blk_drew ?_ | refine blk_alloc ?_ _)); exact BK244.out) hb); have n4_ := Aside0.mk (blk_below (g := gb255) (o := .cells #[.slice Ao26 t245.length co26, .int .i64 t248, .bool t249, .int .i64 t250, .string t251, .int .i64 t252, .int .i64 t253, .int .i64 t254] 57 (0, 0)) (by (with_reducible repeat (first | refine blk_drewN ?_ _ | refine blk_drew ?_ | refine blk_alloc ?_ _)); refine blk_far ?_ NB255_263.out _; (with_reducible repeat (first | refine blk_drewN ?_ _ | refine blk_drew ?_ | refine blk_alloc ?_ _)); refine blk_far ?_ NB255_263.out _; (with_reducible repeat (first | refine blk_drewN ?_ _ | refine blk_drew ?_ | refine blk_alloc ?_ _)); refine blk_far ?_ NB255_263.out _; (with_reducible repeat (first | refine blk_drewN ?_ _ | refine blk_drew ?_ | refine blk_alloc ?_ _)); refine blk_far ?_ NB255_263.out _; (with_reducible repeat (first | refine blk_drewN ?_ _ | refine blk_drew ?_ | refine blk_alloc ?_ _)); refine blk_far ?_ NB255_263.out _; (with_reducible repeat (first | refine blk_drewN ?_ _ | refine blk_drew ?_ | refine blk_alloc ?_ _)); refine blk_far ?_ NB255_263.out _; (with_reducible repeat (first | refine blk_drewN ?_ _ | refine blk_drew ?_ | refine blk_alloc ?_ _)); exact BK255.out) hb); have n5_ := Aside0.mk (blk_below (g := gb263) (o := .cells #[.int .i64 t256, .int .i64 t257, .int .i64 t258, .string t259, .int .i64 t260, .int .i64 t261] 69 (0, 0)) (by (with_reducible repeat (first | refine blk_drewN ?_ _ | refine blk_drew ?_ | refine blk_alloc ?_ _)); refine blk_put (cs := #[.int .i64 t256, .int .i64 t257, .int .i64 t258, .string t259, .int .i64 t260, .int .i64 0]) ?_ 5 _ rfl; (with_reducible repeat (first | refine blk_drewN ?_ _ | refine blk_drew ?_ | refine blk_alloc ?_ _)); refine blk_put (cs := #[.int .i64 t256, .int .i64 t257, .int .i64 t258, .string t259, .int .i64 0, .int .i64 0]) ?_ 4 _ rfl; (with_reducible repeat (first | refine blk_drewN ?_ _ | refine blk_drew ?_ | refine blk_alloc ?_ _)); refine blk_put (cs := #[.int .i64 t256, .int .i64 t257, .int .i64 t258, .string (⟨#[]⟩ : ByteArray), .int .i64 0, .int .i64 0]) ?_ 3 _ rfl; (with_reducible repeat (first | refine blk_drewN ?_ _ | refine blk_drew ?_ | refine blk_alloc ?_ _)); refine blk_put (cs := #[.int .i64 t256, .int .i64 t257, .int .i64 0, .string (⟨#[]⟩ : ByteArray), .int .i64 0, .int .i64 0]) ?_ 2 _ rfl; (with_reducible repeat (first | refine blk_drewN ?_ _ | refine blk_drew ?_ | refine blk_alloc ?_ _)); refine blk_put (cs := #[.int .i64 t256, .int .i64 0, .int .i64 0, .string (⟨#[]⟩ : ByteArray), .int .i64 0, .int .i64 0]) ?_ 1 _ rfl; (with_reducible repeat (first | refine blk_drewN ?_ _ | refine blk_drew ?_ | refine blk_alloc ?_ _)); refine blk_put (cs := #[.int .i64 0, .int .i64 0, .int .i64 0, .string (⟨#[]⟩ : ByteArray), .int .i64 0, .int .i64 0]) ?_ 0 _ rfl; (with_reducible repeat (first | refine blk_drewN ?_ _ | refine blk_drew ?_ | refine blk_alloc ?_ _)); exact BK263.out) hb); have n6_ := Aside0.mk (below_step (bz) hb); clear HO229; clear HO247; clear BK225; clear BK244; clear BK255; clear BK263; clear HB; have HO229 := n0_; have HO247 := n1_; have BK225 := n2_; have BK244 := n3_; have BK255 := n4_; have BK263 := n5_; have HB := n6_; clear n0_ n1_ n2_ n3_ n4_ n5_ n6_; (try clear hb); (try clear hb2); (try clear hk); (try clear hi)))
    go_meet
    case rel => exact ⟨_, ((t262 != t243)), (by first | rfl | (simp; done) | exact congrArg Value.bool (ne_nil_b _) | exact congrArg Value.bool (eq_nil_b _) | (simp [*]; done)), H', ⟨by first | omega | exact Nat.le_refl _⟩, ⟨by (with_reducible repeat (first | apply Kd.R_alloc | apply Kd.R_drewN | apply Kd.R_drew)); exact Kd.R_mono HO247.out (fun _ hk => trivial)⟩, ⟨by (with_reducible repeat (first | refine blk_drewN ?_ _ | refine blk_drew ?_ | refine blk_alloc ?_ _)); exact BK225.out⟩, ⟨by (with_reducible repeat (first | refine blk_drewN ?_ _ | refine blk_drew ?_ | refine blk_alloc ?_ _)); exact BK244.out⟩, ⟨by (with_reducible repeat (first | refine blk_drewN ?_ _ | refine blk_drew ?_ | refine blk_alloc ?_ _)); exact BK255.out⟩, ⟨by (with_reducible repeat (first | refine blk_drewN ?_ _ | refine blk_drew ?_ | refine blk_alloc ?_ _)); exact BK263.out⟩, ⟨bz⟩⟩
   ·
    replace c37 := Bool.eq_false_iff.mpr c37
    subst c37
    rw [if_neg (show ¬ (false = true) by decide)] at H
    have H' := Aside0.mk H
    clear H
    have hnb46 := NB263_225.out
    have hnc46 := NB225_263.out
    have hnb47 := NB263_244.out
    have hnc47 := NB244_263.out
    have hnb48 := NB263_255.out
    have hnc48 := NB255_263.out
    have hcz49_0 : w31.cell? ⟨gb263, 0, none⟩ = some (.int .i64 0) := (blk_cell BK263.out 0).trans rfl
    have hcz49_1 : w31.cell? ⟨gb263, 1, none⟩ = some (.int .i64 0) := (blk_cell BK263.out 1).trans rfl
    have hcz49_2 : w31.cell? ⟨gb263, 2, none⟩ = some (.int .i64 0) := (blk_cell BK263.out 2).trans rfl
    have hcz49_3 : w31.cell? ⟨gb263, 3, none⟩ = some (.string (⟨#[]⟩ : ByteArray)) := (blk_cell BK263.out 3).trans rfl
    have hcz49_4 : w31.cell? ⟨gb263, 4, none⟩ = some (.int .i64 0) := (blk_cell BK263.out 4).trans rfl
    have hcz49_5 : w31.cell? ⟨gb263, 5, none⟩ = some (.int .i64 0) := (blk_cell BK263.out 5).trans rfl
    have hfz49_0 := blk_frozen BK263.out 0
    have hfz49_1 := blk_frozen BK263.out 1
    have hfz49_2 := blk_frozen BK263.out 2
    have hfz49_3 := blk_frozen BK263.out 3
    have hfz49_4 := blk_frozen BK263.out 4
    have hfz49_5 := blk_frozen BK263.out 5
    have hnb50 := NB244_225.out
    have hnc50 := NB225_244.out
    have hnb51 := NB244_255.out
    have hnc51 := NB255_244.out
    have hcz52_0 : w31.cell? ⟨gb244, 0, none⟩ = some (.int .i64 t237) := (blk_cell BK244.out 0).trans rfl
    have hcz52_1 : w31.cell? ⟨gb244, 1, none⟩ = some (.int .i64 t238) := (blk_cell BK244.out 1).trans rfl
    have hcz52_2 : w31.cell? ⟨gb244, 2, none⟩ = some (.int .i64 t239) := (blk_cell BK244.out 2).trans rfl
    have hcz52_3 : w31.cell? ⟨gb244, 3, none⟩ = some (.string t240) := (blk_cell BK244.out 3).trans rfl
    have hcz52_4 : w31.cell? ⟨gb244, 4, none⟩ = some (.int .i64 t241) := (blk_cell BK244.out 4).trans rfl
    have hcz52_5 : w31.cell? ⟨gb244, 5, none⟩ = some (.int .i64 t242) := (blk_cell BK244.out 5).trans rfl
    have hfz52_0 := blk_frozen BK244.out 0
    have hfz52_1 := blk_frozen BK244.out 1
    have hfz52_2 := blk_frozen BK244.out 2
    have hfz52_3 := blk_frozen BK244.out 3
    have hfz52_4 := blk_frozen BK244.out 4
    have hfz52_5 := blk_frozen BK244.out 5
    go_wp2_with (first | ((with_reducible refine gate_callee (f := 50) rfl ?_); refine goesL_ (some 33) rfl rfl Try.func50 (by kernel_rfl) rfl #[.agg #[.int .i64 t256, .int .i64 t257, .int .i64 t258, .string t259, .int .i64 t260, .int .i64 t261], .agg #[.int .i64 t237, .int .i64 t238, .int .i64 t239, .string t240, .int .i64 t241, .int .i64 t242]] rfl (by (try simp only [List.map_toArray, List.map_cons, List.map_nil]); first | done | rfl | (simp only [List.length_drop, List.length_take]; rfl)) ?_; (with_reducible refine (laws_eqEntry.calls t256 t257 t258 t259 t260 t261 t237 t238 t239 t240 t241 t242 false _ A36.out).mono ?_); rintro e w53 ⟨rfl, hb⟩; refine ⟨_, rfl, ?_⟩; have n0_ := Aside0.mk (Kd.R_below (by (with_reducible repeat (first | apply Kd.R_alloc | apply Kd.R_drewN | apply Kd.R_drew)); exact (Kd.R_mono (Kd.R_far (p := ⟨gb263, 5, none⟩) (Kd.R_far (p := ⟨gb263, 4, none⟩) (Kd.R_far (p := ⟨gb263, 3, none⟩) (Kd.R_far (p := ⟨gb263, 2, none⟩) (Kd.R_far (p := ⟨gb263, 1, none⟩) (Kd.R_far (p := ⟨gb263, 0, none⟩) (Kd.R_types HO229.out BK263.out (by decide)) (fun _ hk => hk.2) (.int .i64 t256)) (fun _ hk => hk.2) (.int .i64 t257)) (fun _ hk => hk.2) (.int .i64 t258)) (fun _ hk => hk.2) (.string t259)) (fun _ hk => hk.2) (.int .i64 t260)) (fun _ hk => hk.2) (.int .i64 t261)) (fun _ h_ => h_.1))) hb); have n1_ := Aside0.mk (Kd.R_below (by (with_reducible repeat (first | apply Kd.R_alloc | apply Kd.R_drewN | apply Kd.R_drew)); exact (Kd.R_mono (Kd.R_far (p := ⟨gb263, 5, none⟩) (Kd.R_far (p := ⟨gb263, 4, none⟩) (Kd.R_far (p := ⟨gb263, 3, none⟩) (Kd.R_far (p := ⟨gb263, 2, none⟩) (Kd.R_far (p := ⟨gb263, 1, none⟩) (Kd.R_far (p := ⟨gb263, 0, none⟩) (Kd.R_types HO247.out BK263.out (by decide)) (fun _ hk => hk.2) (.int .i64 t256)) (fun _ hk => hk.2) (.int .i64 t257)) (fun _ hk => hk.2) (.int .i64 t258)) (fun _ hk => hk.2) (.string t259)) (fun _ hk => hk.2) (.int .i64 t260)) (fun _ hk => hk.2) (.int .i64 t261)) (fun _ h_ => h_.1))) hb); have n2_ := Aside0.mk (blk_below (g := gb225) (o := .cells #[.slice A0_0 l0_0.length c0_0, .int .i64 a0_1, .bool a0_2, .int .i64 a0_3, .string a0_4, .int .i64 a0_5, .int .i64 a0_6, .int .i64 a0_7] 52 (0, 0)) (by (with_reducible repeat (first | refine blk_drewN ?_ _ | refine blk_drew ?_ | refine blk_alloc ?_ _)); refine blk_far ?_ NB225_263.out _; (with_reducible repeat (first | refine blk_drewN ?_ _ | refine blk_drew ?_ | refine blk_alloc ?_ _)); refine blk_far ?_ NB225_263.out _; (with_reducible repeat (first | refine blk_drewN ?_ _ | refine blk_drew ?_ | refine blk_alloc ?_ _)); refine blk_far ?_ NB225_263.out _; (with_reducible repeat (first | refine blk_drewN ?_ _ | refine blk_drew ?_ | refine blk_alloc ?_ _)); refine blk_far ?_ NB225_263.out _; (with_reducible repeat (first | refine blk_drewN ?_ _ | refine blk_drew ?_ | refine blk_alloc ?_ _)); refine blk_far ?_ NB225_263.out _; (with_reducible repeat (first | refine blk_drewN ?_ _ | refine blk_drew ?_ | refine blk_alloc ?_ _)); refine blk_far ?_ NB225_263.out _; (with_reducible repeat (first | refine blk_drewN ?_ _ | refine blk_drew ?_ | refine blk_alloc ?_ _)); exact BK225.out) hb); have n3_ := Aside0.mk (blk_below (g := gb244) (o := .cells #[.int .i64 t237, .int .i64 t238, .int .i64 t239, .string t240, .int .i64 t241, .int .i64 t242] 69 (0, 0)) (by (with_reducible repeat (first | refine blk_drewN ?_ _ | refine blk_drew ?_ | refine blk_alloc ?_ _)); refine blk_far ?_ NB244_263.out _; (with_reducible repeat (first | refine blk_drewN ?_ _ | refine blk_drew ?_ | refine blk_alloc ?_ _)); refine blk_far ?_ NB244_263.out _; (with_reducible repeat (first | refine blk_drewN ?_ _ | refine blk_drew ?_ | refine blk_alloc ?_ _)); refine blk_far ?_ NB244_263.out _; (with_reducible repeat (first | refine blk_drewN ?_ _ | refine blk_drew ?_ | refine blk_alloc ?_ _)); refine blk_far ?_ NB244_263.out _; (with_reducible repeat (first | refine blk_drewN ?_ _ | refine blk_drew ?_ | refine blk_alloc ?_ _)); refine blk_far ?_ NB244_263.out _; (with_reducible repeat (first | refine blk_drewN ?_ _ | refine blk_drew ?_ | refine blk_alloc ?_ _)); refine blk_far ?_ NB244_263.out _; (with_reducible repeat (first | refine blk_drewN ?_ _ | refine blk_drew ?_ | refine blk_alloc ?_ _)); exact BK244.out) hb); have n4_ := Aside0.mk (blk_below (g := gb255) (o := .cells #[.slice Ao26 t245.length co26, .int .i64 t248, .bool t249, .int .i64 t250, .string t251, .int .i64 t252, .int .i64 t253, .int .i64 t254] 57 (0, 0)) (by (with_reducible repeat (first | refine blk_drewN ?_ _ | refine blk_drew ?_ | refine blk_alloc ?_ _)); refine blk_far ?_ NB255_263.out _; (with_reducible repeat (first | refine blk_drewN ?_ _ | refine blk_drew ?_ | refine blk_alloc ?_ _)); refine blk_far ?_ NB255_263.out _; (with_reducible repeat (first | refine blk_drewN ?_ _ | refine blk_drew ?_ | refine blk_alloc ?_ _)); refine blk_far ?_ NB255_263.out _; (with_reducible repeat (first | refine blk_drewN ?_ _ | refine blk_drew ?_ | refine blk_alloc ?_ _)); refine blk_far ?_ NB255_263.out _; (with_reducible repeat (first | refine blk_drewN ?_ _ | refine blk_drew ?_ | refine blk_alloc ?_ _)); refine blk_far ?_ NB255_263.out _; (with_reducible repeat (first | refine blk_drewN ?_ _ | refine blk_drew ?_ | refine blk_alloc ?_ _)); refine blk_far ?_ NB255_263.out _; (with_reducible repeat (first | refine blk_drewN ?_ _ | refine blk_drew ?_ | refine blk_alloc ?_ _)); exact BK255.out) hb); have n5_ := Aside0.mk (blk_below (g := gb263) (o := .cells #[.int .i64 t256, .int .i64 t257, .int .i64 t258, .string t259, .int .i64 t260, .int .i64 t261] 69 (0, 0)) (by (with_reducible repeat (first | refine blk_drewN ?_ _ | refine blk_drew ?_ | refine blk_alloc ?_ _)); refine blk_put (cs := #[.int .i64 t256, .int .i64 t257, .int .i64 t258, .string t259, .int .i64 t260, .int .i64 0]) ?_ 5 _ rfl; (with_reducible repeat (first | refine blk_drewN ?_ _ | refine blk_drew ?_ | refine blk_alloc ?_ _)); refine blk_put (cs := #[.int .i64 t256, .int .i64 t257, .int .i64 t258, .string t259, .int .i64 0, .int .i64 0]) ?_ 4 _ rfl; (with_reducible repeat (first | refine blk_drewN ?_ _ | refine blk_drew ?_ | refine blk_alloc ?_ _)); refine blk_put (cs := #[.int .i64 t256, .int .i64 t257, .int .i64 t258, .string (⟨#[]⟩ : ByteArray), .int .i64 0, .int .i64 0]) ?_ 3 _ rfl; (with_reducible repeat (first | refine blk_drewN ?_ _ | refine blk_drew ?_ | refine blk_alloc ?_ _)); refine blk_put (cs := #[.int .i64 t256, .int .i64 t257, .int .i64 0, .string (⟨#[]⟩ : ByteArray), .int .i64 0, .int .i64 0]) ?_ 2 _ rfl; (with_reducible repeat (first | refine blk_drewN ?_ _ | refine blk_drew ?_ | refine blk_alloc ?_ _)); refine blk_put (cs := #[.int .i64 t256, .int .i64 0, .int .i64 0, .string (⟨#[]⟩ : ByteArray), .int .i64 0, .int .i64 0]) ?_ 1 _ rfl; (with_reducible repeat (first | refine blk_drewN ?_ _ | refine blk_drew ?_ | refine blk_alloc ?_ _)); refine blk_put (cs := #[.int .i64 0, .int .i64 0, .int .i64 0, .string (⟨#[]⟩ : ByteArray), .int .i64 0, .int .i64 0]) ?_ 0 _ rfl; (with_reducible repeat (first | refine blk_drewN ?_ _ | refine blk_drew ?_ | refine blk_alloc ?_ _)); exact BK263.out) hb); have n6_ := Aside0.mk (below_step (bz) hb); clear HO229; clear HO247; clear BK225; clear BK244; clear BK255; clear BK263; clear HB; have HO229 := n0_; have HO247 := n1_; have BK225 := n2_; have BK244 := n3_; have BK255 := n4_; have BK263 := n5_; have HB := n6_; clear n0_ n1_ n2_ n3_ n4_ n5_ n6_; (try clear hb); (try clear hb2); (try clear hk); (try clear hi)))
    go_meet
    case rel => exact ⟨_, (true), (by first | rfl | (simp; done) | exact congrArg Value.bool (ne_nil_b _) | exact congrArg Value.bool (eq_nil_b _) | (simp [*]; done)), H', ⟨by first | omega | exact Nat.le_refl _⟩, ⟨by (with_reducible repeat (first | apply Kd.R_alloc | apply Kd.R_drewN | apply Kd.R_drew)); exact Kd.R_mono HO247.out (fun _ hk => trivial)⟩, ⟨by (with_reducible repeat (first | refine blk_drewN ?_ _ | refine blk_drew ?_ | refine blk_alloc ?_ _)); exact BK225.out⟩, ⟨by (with_reducible repeat (first | refine blk_drewN ?_ _ | refine blk_drew ?_ | refine blk_alloc ?_ _)); exact BK244.out⟩, ⟨by (with_reducible repeat (first | refine blk_drewN ?_ _ | refine blk_drew ?_ | refine blk_alloc ?_ _)); exact BK255.out⟩, ⟨by (with_reducible repeat (first | refine blk_drewN ?_ _ | refine blk_drew ?_ | refine blk_alloc ?_ _)); exact BK263.out⟩, ⟨bz⟩⟩
  case rest =>
   clear HC12
   try clear c1
   try clear c2
   try clear p2
   try clear c3
   try clear c4
   try clear c4b0
   try clear c5
   try clear c13
   try clear c21
   try clear c27
   try clear c28
   try clear c32
   try clear c33
   try clear c34
   try clear c36
   try clear c37
   try clear c38
   try clear c39
   try clear c40
   try clear c42
   try clear c43
   try clear c46
   try clear c47
   try clear c48
   try clear c49
   try clear c50
   try clear c51
   try clear hcz14_0
   try clear hcz14_1
   try clear hcz14_2
   try clear hcz14_3
   try clear hcz14_4
   try clear hcz14_5
   try clear hcz14_6
   try clear hcz14_7
   try clear hcz16_0
   try clear hcz16_1
   try clear hcz16_2
   try clear hcz16_3
   try clear hcz16_4
   try clear hcz16_5
   try clear hcz16_6
   try clear hcz16_7
   try clear hcz22_0
   try clear hcz22_1
   try clear hcz22_2
   try clear hcz22_3
   try clear hcz22_4
   try clear hcz22_5
   try clear hcz23_0
   try clear hcz23_1
   try clear hcz23_2
   try clear hcz23_3
   try clear hcz23_4
   try clear hcz23_5
   try clear hcz23_6
   try clear hcz23_7
   try clear hcz29_0
   try clear hcz29_1
   try clear hcz29_2
   try clear hcz29_3
   try clear hcz29_4
   try clear hcz29_5
   try clear hcz29_6
   try clear hcz29_7
   try clear hcz35_0
   try clear hcz35_1
   try clear hcz35_2
   try clear hcz35_3
   try clear hcz35_4
   try clear hcz35_5
   try clear hcz41_0
   try clear hcz41_1
   try clear hcz41_2
   try clear hcz41_3
   try clear hcz41_4
   try clear hcz41_5
   try clear hcz44_0
   try clear hcz44_1
   try clear hcz44_2
   try clear hcz44_3
   try clear hcz44_4
   try clear hcz44_5
   try clear hcz49_0
   try clear hcz49_1
   try clear hcz49_2
   try clear hcz49_3
   try clear hcz49_4
   try clear hcz49_5
   try clear hcz52_0
   try clear hcz52_1
   try clear hcz52_2
   try clear hcz52_3
   try clear hcz52_4
   try clear hcz52_5
   try clear hcz6_0
   try clear hcz6_1
   try clear hcz6_2
   try clear hcz6_3
   try clear hcz6_4
   try clear hcz6_5
   try clear hcz6_6
   try clear hcz6_7
   try clear hfz14_0
   try clear hfz14_1
   try clear hfz14_2
   try clear hfz14_3
   try clear hfz14_4
   try clear hfz14_5
   try clear hfz14_6
   try clear hfz14_7
   try clear hfz16_0
   try clear hfz16_1
   try clear hfz16_2
   try clear hfz16_3
   try clear hfz16_4
   try clear hfz16_5
   try clear hfz16_6
   try clear hfz16_7
   try clear hfz22_0
   try clear hfz22_1
   try clear hfz22_2
   try clear hfz22_3
   try clear hfz22_4
   try clear hfz22_5
   try clear hfz23_0
   try clear hfz23_1
   try clear hfz23_2
   try clear hfz23_3
   try clear hfz23_4
   try clear hfz23_5
   try clear hfz23_6
   try clear hfz23_7
   try clear hfz29_0
   try clear hfz29_1
   try clear hfz29_2
   try clear hfz29_3
   try clear hfz29_4
   try clear hfz29_5
   try clear hfz29_6
   try clear hfz29_7
   try clear hfz35_0
   try clear hfz35_1
   try clear hfz35_2
   try clear hfz35_3
   try clear hfz35_4
   try clear hfz35_5
   try clear hfz41_0
   try clear hfz41_1
   try clear hfz41_2
   try clear hfz41_3
   try clear hfz41_4
   try clear hfz41_5
   try clear hfz44_0
   try clear hfz44_1
   try clear hfz44_2
   try clear hfz44_3
   try clear hfz44_4
   try clear hfz44_5
   try clear hfz49_0
   try clear hfz49_1
   try clear hfz49_2
   try clear hfz49_3
   try clear hfz49_4
   try clear hfz49_5
   try clear hfz52_0
   try clear hfz52_1
   try clear hfz52_2
   try clear hfz52_3
   try clear hfz52_4
   try clear hfz52_5
   try clear hfz6_0
   try clear hfz6_1
   try clear hfz6_2
   try clear hfz6_3
   try clear hfz6_4
   try clear hfz6_5
   try clear hfz6_6
   try clear hfz6_7
   obtain ⟨kq, x39_11, rfl, HA, HJ11, HO_256000, BK225, BK244, BK255, BK263, HB⟩ := hcut
   cases kq with
   | zero => exact absurd HA.out (by simp [laws_FnExactRequestOf.j0])
   | succ kj11 =>
    have H := HA.out
    clear HA
    simp only [laws_FnExactRequestOf.j0] at H
    by_cases c54 : x39_11 = true
    ·
     subst c54
     rw [if_pos rfl] at H
     obtain rfl := Option.some.inj H
     go_wp2
     go_ret
     exact ⟨by first | rfl | (simp only [u8w, w64m]; rfl) | (simp [errW_none, errW_some] <;> rfl) | (simp [*, errW_none, errW_some] <;> rfl), bz⟩
    ·
     replace c54 := Bool.eq_false_iff.mpr c54
     subst c54
     rw [if_neg (show ¬ (false = true) by decide)] at H
     replace H := Option.bind_eq_some_iff.mp H
     obtain ⟨⟨t265, t268, t269, t270, t271, t272, t273, t274⟩, A550, H⟩ := H
     try dsimp only at H
     have A55 := Aside0.mk A550
     clear A550
     replace H := Option.bind_eq_some_iff.mp H
     obtain ⟨t275, A560, H⟩ := H
     try dsimp only at H
     have A56 := Aside0.mk A560
     clear A560
     by_cases c57 : t275 = true
     ·
      subst c57
      rw [if_pos rfl] at H
      obtain rfl := Option.some.inj H
      try go_wp2
      have n0_ := Aside0.mk (Kd.R_drew HO_256000.out)
      have n1_ := Aside0.mk (blk_drew BK225.out)
      have n2_ := Aside0.mk (blk_drew BK244.out)
      have n3_ := Aside0.mk (blk_drew BK255.out)
      have n4_ := Aside0.mk (blk_drew BK263.out)
      have n5_ := Aside0.mk (below_drew1 HB.out)
      clear HO_256000
      clear BK225
      clear BK244
      clear BK255
      clear BK263
      clear HB
      have HO_256000 := n0_
      have BK225 := n1_
      have BK244 := n2_
      have BK255 := n3_
      have BK263 := n4_
      have HB := n5_
      clear n0_ n1_ n2_ n3_ n4_ n5_
      refine start_ (n := 5) (S := fun w' => w'.cell? ⟨gb255, 0, none⟩ = some (.slice Ao26 t245.length co26) ∧ w'.cell? ⟨gb255, 1, none⟩ = some (.int .i64 t248) ∧ w'.cell? ⟨gb255, 2, none⟩ = some (.bool t249) ∧ w'.cell? ⟨gb255, 3, none⟩ = some (.int .i64 t250) ∧ w'.cell? ⟨gb255, 4, none⟩ = some (.string t251) ∧ w'.cell? ⟨gb255, 5, none⟩ = some (.int .i64 t252) ∧ w'.cell? ⟨gb255, 6, none⟩ = some (.int .i64 t253) ∧ w'.cell? ⟨gb255, 7, none⟩ = some (.int .i64 t254) ∧ w'.cell? ⟨gb225, 0, none⟩ = some (.slice A0_0 l0_0.length c0_0) ∧ w'.cell? ⟨gb225, 1, none⟩ = some (.int .i64 a0_1) ∧ w'.cell? ⟨gb225, 2, none⟩ = some (.bool a0_2) ∧ w'.cell? ⟨gb225, 3, none⟩ = some (.int .i64 a0_3) ∧ w'.cell? ⟨gb225, 4, none⟩ = some (.string a0_4) ∧ w'.cell? ⟨gb225, 5, none⟩ = some (.int .i64 a0_5) ∧ w'.cell? ⟨gb225, 6, none⟩ = some (.int .i64 a0_6) ∧ w'.cell? ⟨gb225, 7, none⟩ = some (.int .i64 a0_7)) (ds := []) #[false, false, false, false, false] (by kernel_rfl) rfl rfl ⟨(blk_cell BK255.out 0).trans rfl, (blk_cell BK255.out 1).trans rfl, (blk_cell BK255.out 2).trans rfl, (blk_cell BK255.out 3).trans rfl, (blk_cell BK255.out 4).trans rfl, (blk_cell BK255.out 5).trans rfl, (blk_cell BK255.out 6).trans rfl, (blk_cell BK255.out 7).trans rfl, (blk_cell BK225.out 0).trans rfl, (blk_cell BK225.out 1).trans rfl, (blk_cell BK225.out 2).trans rfl, (blk_cell BK225.out 3).trans rfl, (blk_cell BK225.out 4).trans rfl, (blk_cell BK225.out 5).trans rfl, (blk_cell BK225.out 6).trans rfl, (blk_cell BK225.out 7).trans rfl⟩ (fun hHeld => ?_)
      generalize wc.drew = w58 at HO_256000 BK225 BK244 BK255 BK263 HB hHeld ⊢
      refine take_ (i := 0) (N := some 40) (v := ?_) (a' := ?_) #[true, false, false, false, false] rfl rfl (by kernel_rfl) (fun _ _ _ h => h) (Or.inl ⟨by rfl, ?_⟩) hHeld ?_ ?_
      rotate_left
      ·
       rintro w' ⟨s0, s1, s2, s3, s4, s5, s6, s7, s8, s9, s10, s11, s12, s13, s14, s15⟩
       go_simp
       with_reducible rfl
      rotate_left
      ·
       simp only [Act.put, List.setIfInBounds_toArray, List.set_cons_zero, List.set_cons_succ, i64_w, i32_w]
       rfl
      refine take_ (i := 1) (N := some 41) (v := ?_) (a' := ?_) #[true, true, false, false, false] rfl rfl (by kernel_rfl) (fun _ _ _ h => h) (Or.inl ⟨by rfl, ?_⟩) hHeld ?_ ?_
      rotate_left
      ·
       rintro w' ⟨s0, s1, s2, s3, s4, s5, s6, s7, s8, s9, s10, s11, s12, s13, s14, s15⟩
       go_simp
       with_reducible rfl
      rotate_left
      ·
       simp only [Act.put, List.setIfInBounds_toArray, List.set_cons_zero, List.set_cons_succ, i64_w, i32_w]
       rfl
      refine one_ (i := 2) (N := some 42) #[true, true, true, false, false] rfl rfl (by kernel_rfl) (by decide) (fun K hK => ?_)
      refine goes_ Try.func38 (by kernel_rfl) rfl #[.agg #[.slice A0_0 l0_0.length c0_0, .int .i64 a0_1, .bool a0_2, .int .i64 a0_3, .string a0_4, .int .i64 a0_5, .int .i64 a0_6, .int .i64 a0_7]] (by rfl) rfl rfl (by (try simp only [List.map_toArray, List.map_cons, List.map_nil]); first | done | rfl | (simp only [List.length_drop, List.length_take]; rfl)) ?_
      with_reducible refine (laws_toCaller.calls kj11 _ _ l0_0 a0_1 a0_2 a0_3 a0_4 a0_5 a0_6 a0_7 t265 t268 t269 t270 t271 t272 t273 t274 _ ?side1 ?side2 A55.out).mono ?_
      (case side1 => repeat (first | exact (Kd.C_below HR0_0.out HB.out) | (with_reducible refine Kd.C_alloc ?_ _) | (with_reducible refine Kd.C_drewN ?_ _) | (with_reducible refine Kd.C_drew ?_)))
      (case side2 => exact HC0_0.out)
      rintro e w59 ⟨v266, rfl, ho0, hb⟩
      refine ⟨_, rfl, ?_⟩
      have n0_ := Aside0.mk (Kd.R_elder' (by (with_reducible repeat (first | apply Kd.R_alloc | apply Kd.R_drewN | apply Kd.R_drew)); exact HO_256000.out) (Kd.R_base ho0) hb)
      have n1_ := Aside0.mk (Kd.R_lower (Kd.R_new' ho0 (Kd.R_lt (by (with_reducible repeat (first | apply Kd.R_alloc | apply Kd.R_drewN | apply Kd.R_drew)); exact HO_256000.out))) (below_size (bz)))
      have n2_ := bkb BK225 hb
      have n3_ := bkb BK244 hb
      have n4_ := bkb BK255 hb
      have n5_ := bkb BK263 hb
      have n6_ := Aside0.mk (below_step (bz) hb)
      clear HO_256000
      clear BK225
      clear BK244
      clear BK255
      clear BK263
      clear HB
      have HO_256000 := n0_
      have HO267 := n1_
      have BK225 := n2_
      have BK244 := n3_
      have BK255 := n4_
      have BK263 := n5_
      have HB := n6_
      clear n0_ n1_ n2_ n3_ n4_ n5_ n6_
      (try clear hb)
      (try clear hb2)
      (try clear hk)
      (try clear hi)
      (try clear ho0)
      obtain ⟨Ao60, co60, eo60⟩ := Kd.R_slice HO267.out
      (first | subst eo60 | (injection eo60 with f1_ f2_ f3_; have f4_ := f1_.symm; have f5_ := f3_.symm; clear f1_ f2_ f3_; subst f4_; subst f5_))
      refine hK.out _ _ ⟨(blk_cell BK255.out 0).trans rfl, (blk_cell BK255.out 1).trans rfl, (blk_cell BK255.out 2).trans rfl, (blk_cell BK255.out 3).trans rfl, (blk_cell BK255.out 4).trans rfl, (blk_cell BK255.out 5).trans rfl, (blk_cell BK255.out 6).trans rfl, (blk_cell BK255.out 7).trans rfl, (blk_cell BK225.out 0).trans rfl, (blk_cell BK225.out 1).trans rfl, (blk_cell BK225.out 2).trans rfl, (blk_cell BK225.out 3).trans rfl, (blk_cell BK225.out 4).trans rfl, (blk_cell BK225.out 5).trans rfl, (blk_cell BK225.out 6).trans rfl, (blk_cell BK225.out 7).trans rfl⟩ (fun hHeld => ?_)
      clear hK K
      refine norm_ (a' := ?_) ?_ ?_
      rotate_left
      ·
       show Act.put _ (some 42) _ = _
       simp only [Act.put, List.setIfInBounds_toArray, List.set_cons_zero, List.set_cons_succ, i64_w, i32_w]
       rfl
      refine one_ (i := 3) (N := some 43) #[true, true, true, true, false] rfl rfl (by kernel_rfl) (by decide) (fun K hK => ?_)
      refine goes_ Try.func40 (by kernel_rfl) rfl #[.agg #[.slice Ao26 t245.length co26, .int .i64 t248, .bool t249, .int .i64 t250, .string t251, .int .i64 t252, .int .i64 t253, .int .i64 t254], .agg #[.slice Ao60 t265.length co60, .int .i64 t268, .bool t269, .int .i64 t270, .string t271, .int .i64 t272, .int .i64 t273, .int .i64 t274]] (by rfl) rfl rfl (by (try simp only [List.map_toArray, List.map_cons, List.map_nil]); first | done | rfl | (simp only [List.length_drop, List.length_take]; rfl)) ?_
      with_reducible refine (laws_eqCaller.calls kj11 _ _ t245 t248 t249 t250 t251 t252 t253 t254 _ _ t265 t268 t269 t270 t271 t272 t273 t274 true _ ?side1 ?side2 ?side3 ?side4 A56.out).mono ?_
      (case side1 => repeat (first | exact (Kd.R_reads' HO_256000.out).2.2 | (with_reducible refine Kd.C_alloc ?_ _) | (with_reducible refine Kd.C_drewN ?_ _) | (with_reducible refine Kd.C_drew ?_)))
      (case side2 => exact (Kd.R_reads' HO_256000.out).2.1)
      (case side3 => repeat (first | exact (Kd.R_reads' HO267.out).2.2 | (with_reducible refine Kd.C_alloc ?_ _) | (with_reducible refine Kd.C_drewN ?_ _) | (with_reducible refine Kd.C_drew ?_)))
      (case side4 => exact (Kd.R_reads' HO267.out).2.1)
      rintro e w61 ⟨rfl, hb⟩
      refine ⟨_, rfl, ?_⟩
      have n0_ := Aside0.mk (Kd.R_below (by (with_reducible repeat (first | apply Kd.R_alloc | apply Kd.R_drewN | apply Kd.R_drew)); exact HO_256000.out) hb)
      have n1_ := Aside0.mk (Kd.R_below (by (with_reducible repeat (first | apply Kd.R_alloc | apply Kd.R_drewN | apply Kd.R_drew)); exact HO267.out) hb)
      have n2_ := bkb BK225 hb
      have n3_ := bkb BK244 hb
      have n4_ := bkb BK255 hb
      have n5_ := bkb BK263 hb
      have n6_ := Aside0.mk (below_step (bz) hb)
      clear HO_256000
      clear HO267
      clear BK225
      clear BK244
      clear BK255
      clear BK263
      clear HB
      have HO_256000 := n0_
      have HO267 := n1_
      have BK225 := n2_
      have BK244 := n3_
      have BK255 := n4_
      have BK263 := n5_
      have HB := n6_
      clear n0_ n1_ n2_ n3_ n4_ n5_ n6_
      (try clear hb)
      (try clear hb2)
      (try clear hk)
      (try clear hi)
      refine hK.out _ _ ⟨(blk_cell BK255.out 0).trans rfl, (blk_cell BK255.out 1).trans rfl, (blk_cell BK255.out 2).trans rfl, (blk_cell BK255.out 3).trans rfl, (blk_cell BK255.out 4).trans rfl, (blk_cell BK255.out 5).trans rfl, (blk_cell BK255.out 6).trans rfl, (blk_cell BK255.out 7).trans rfl, (blk_cell BK225.out 0).trans rfl, (blk_cell BK225.out 1).trans rfl, (blk_cell BK225.out 2).trans rfl, (blk_cell BK225.out 3).trans rfl, (blk_cell BK225.out 4).trans rfl, (blk_cell BK225.out 5).trans rfl, (blk_cell BK225.out 6).trans rfl, (blk_cell BK225.out 7).trans rfl⟩ (fun hHeld => ?_)
      clear hK K
      refine norm_ (a' := ?_) ?_ ?_
      rotate_left
      ·
       show Act.put _ (some 43) _ = _
       simp only [Act.put, List.setIfInBounds_toArray, List.set_cons_zero, List.set_cons_succ, i64_w, i32_w]
       rfl
      refine pure_ (i := 4) (N := some 44) (v := ?_) (a' := ?_) #[true, true, true, true, true] rfl rfl (by kernel_rfl) (fun _ _ _ h => h) (Or.inl ⟨by rfl, ?_⟩) ?_ ?_
      rotate_left
      ·
       intro w'
       go_simp
       with_reducible rfl
      rotate_left
      ·
       simp only [Act.put, List.setIfInBounds_toArray, List.set_cons_zero, List.set_cons_succ, i64_w, i32_w]
       rfl
      refine done_ (by kernel_rfl) ?_
      try go_wp2
      go_ret
      exact ⟨by first | rfl | (simp only [u8w, w64m]; rfl) | (simp [errW_none, errW_some] <;> rfl) | (simp [*, errW_none, errW_some] <;> rfl), bz⟩
     ·
      replace c57 := Bool.eq_false_iff.mpr c57
      subst c57
      rw [if_neg (show ¬ (false = true) by decide)] at H
      obtain rfl := Option.some.inj H
      try go_wp2
      have n0_ := Aside0.mk (Kd.R_drew HO_256000.out)
      have n1_ := Aside0.mk (blk_drew BK225.out)
      have n2_ := Aside0.mk (blk_drew BK244.out)
      have n3_ := Aside0.mk (blk_drew BK255.out)
      have n4_ := Aside0.mk (blk_drew BK263.out)
      have n5_ := Aside0.mk (below_drew1 HB.out)
      clear HO_256000
      clear BK225
      clear BK244
      clear BK255
      clear BK263
      clear HB
      have HO_256000 := n0_
      have BK225 := n1_
      have BK244 := n2_
      have BK255 := n3_
      have BK263 := n4_
      have HB := n5_
      clear n0_ n1_ n2_ n3_ n4_ n5_
      refine start_ (n := 5) (S := fun w' => w'.cell? ⟨gb255, 0, none⟩ = some (.slice Ao26 t245.length co26) ∧ w'.cell? ⟨gb255, 1, none⟩ = some (.int .i64 t248) ∧ w'.cell? ⟨gb255, 2, none⟩ = some (.bool t249) ∧ w'.cell? ⟨gb255, 3, none⟩ = some (.int .i64 t250) ∧ w'.cell? ⟨gb255, 4, none⟩ = some (.string t251) ∧ w'.cell? ⟨gb255, 5, none⟩ = some (.int .i64 t252) ∧ w'.cell? ⟨gb255, 6, none⟩ = some (.int .i64 t253) ∧ w'.cell? ⟨gb255, 7, none⟩ = some (.int .i64 t254) ∧ w'.cell? ⟨gb225, 0, none⟩ = some (.slice A0_0 l0_0.length c0_0) ∧ w'.cell? ⟨gb225, 1, none⟩ = some (.int .i64 a0_1) ∧ w'.cell? ⟨gb225, 2, none⟩ = some (.bool a0_2) ∧ w'.cell? ⟨gb225, 3, none⟩ = some (.int .i64 a0_3) ∧ w'.cell? ⟨gb225, 4, none⟩ = some (.string a0_4) ∧ w'.cell? ⟨gb225, 5, none⟩ = some (.int .i64 a0_5) ∧ w'.cell? ⟨gb225, 6, none⟩ = some (.int .i64 a0_6) ∧ w'.cell? ⟨gb225, 7, none⟩ = some (.int .i64 a0_7)) (ds := []) #[false, false, false, false, false] (by kernel_rfl) rfl rfl ⟨(blk_cell BK255.out 0).trans rfl, (blk_cell BK255.out 1).trans rfl, (blk_cell BK255.out 2).trans rfl, (blk_cell BK255.out 3).trans rfl, (blk_cell BK255.out 4).trans rfl, (blk_cell BK255.out 5).trans rfl, (blk_cell BK255.out 6).trans rfl, (blk_cell BK255.out 7).trans rfl, (blk_cell BK225.out 0).trans rfl, (blk_cell BK225.out 1).trans rfl, (blk_cell BK225.out 2).trans rfl, (blk_cell BK225.out 3).trans rfl, (blk_cell BK225.out 4).trans rfl, (blk_cell BK225.out 5).trans rfl, (blk_cell BK225.out 6).trans rfl, (blk_cell BK225.out 7).trans rfl⟩ (fun hHeld => ?_)
      generalize wc.drew = w62 at HO_256000 BK225 BK244 BK255 BK263 HB hHeld ⊢
      refine take_ (i := 0) (N := some 40) (v := ?_) (a' := ?_) #[true, false, false, false, false] rfl rfl (by kernel_rfl) (fun _ _ _ h => h) (Or.inl ⟨by rfl, ?_⟩) hHeld ?_ ?_
      rotate_left
      ·
       rintro w' ⟨s0, s1, s2, s3, s4, s5, s6, s7, s8, s9, s10, s11, s12, s13, s14, s15⟩
       go_simp
       with_reducible rfl
      rotate_left
      ·
       simp only [Act.put, List.setIfInBounds_toArray, List.set_cons_zero, List.set_cons_succ, i64_w, i32_w]
       rfl
      refine take_ (i := 1) (N := some 41) (v := ?_) (a' := ?_) #[true, true, false, false, false] rfl rfl (by kernel_rfl) (fun _ _ _ h => h) (Or.inl ⟨by rfl, ?_⟩) hHeld ?_ ?_
      rotate_left
      ·
       rintro w' ⟨s0, s1, s2, s3, s4, s5, s6, s7, s8, s9, s10, s11, s12, s13, s14, s15⟩
       go_simp
       with_reducible rfl
      rotate_left
      ·
       simp only [Act.put, List.setIfInBounds_toArray, List.set_cons_zero, List.set_cons_succ, i64_w, i32_w]
       rfl
      refine one_ (i := 2) (N := some 42) #[true, true, true, false, false] rfl rfl (by kernel_rfl) (by decide) (fun K hK => ?_)
      refine goes_ Try.func38 (by kernel_rfl) rfl #[.agg #[.slice A0_0 l0_0.length c0_0, .int .i64 a0_1, .bool a0_2, .int .i64 a0_3, .string a0_4, .int .i64 a0_5, .int .i64 a0_6, .int .i64 a0_7]] (by rfl) rfl rfl (by (try simp only [List.map_toArray, List.map_cons, List.map_nil]); first | done | rfl | (simp only [List.length_drop, List.length_take]; rfl)) ?_
      with_reducible refine (laws_toCaller.calls kj11 _ _ l0_0 a0_1 a0_2 a0_3 a0_4 a0_5 a0_6 a0_7 t265 t268 t269 t270 t271 t272 t273 t274 _ ?side1 ?side2 A55.out).mono ?_
      (case side1 => repeat (first | exact (Kd.C_below HR0_0.out HB.out) | (with_reducible refine Kd.C_alloc ?_ _) | (with_reducible refine Kd.C_drewN ?_ _) | (with_reducible refine Kd.C_drew ?_)))
      (case side2 => exact HC0_0.out)
      rintro e w63 ⟨v266, rfl, ho0, hb⟩
      refine ⟨_, rfl, ?_⟩
      have n0_ := Aside0.mk (Kd.R_elder' (by (with_reducible repeat (first | apply Kd.R_alloc | apply Kd.R_drewN | apply Kd.R_drew)); exact HO_256000.out) (Kd.R_base ho0) hb)
      have n1_ := Aside0.mk (Kd.R_lower (Kd.R_new' ho0 (Kd.R_lt (by (with_reducible repeat (first | apply Kd.R_alloc | apply Kd.R_drewN | apply Kd.R_drew)); exact HO_256000.out))) (below_size (bz)))
      have n2_ := bkb BK225 hb
      have n3_ := bkb BK244 hb
      have n4_ := bkb BK255 hb
      have n5_ := bkb BK263 hb
      have n6_ := Aside0.mk (below_step (bz) hb)
      clear HO_256000
      clear BK225
      clear BK244
      clear BK255
      clear BK263
      clear HB
      have HO_256000 := n0_
      have HO267 := n1_
      have BK225 := n2_
      have BK244 := n3_
      have BK255 := n4_
      have BK263 := n5_
      have HB := n6_
      clear n0_ n1_ n2_ n3_ n4_ n5_ n6_
      (try clear hb)
      (try clear hb2)
      (try clear hk)
      (try clear hi)
      (try clear ho0)
      obtain ⟨Ao64, co64, eo64⟩ := Kd.R_slice HO267.out
      (first | subst eo64 | (injection eo64 with f1_ f2_ f3_; have f4_ := f1_.symm; have f5_ := f3_.symm; clear f1_ f2_ f3_; subst f4_; subst f5_))
      refine hK.out _ _ ⟨(blk_cell BK255.out 0).trans rfl, (blk_cell BK255.out 1).trans rfl, (blk_cell BK255.out 2).trans rfl, (blk_cell BK255.out 3).trans rfl, (blk_cell BK255.out 4).trans rfl, (blk_cell BK255.out 5).trans rfl, (blk_cell BK255.out 6).trans rfl, (blk_cell BK255.out 7).trans rfl, (blk_cell BK225.out 0).trans rfl, (blk_cell BK225.out 1).trans rfl, (blk_cell BK225.out 2).trans rfl, (blk_cell BK225.out 3).trans rfl, (blk_cell BK225.out 4).trans rfl, (blk_cell BK225.out 5).trans rfl, (blk_cell BK225.out 6).trans rfl, (blk_cell BK225.out 7).trans rfl⟩ (fun hHeld => ?_)
      clear hK K
      refine norm_ (a' := ?_) ?_ ?_
      rotate_left
      ·
       show Act.put _ (some 42) _ = _
       simp only [Act.put, List.setIfInBounds_toArray, List.set_cons_zero, List.set_cons_succ, i64_w, i32_w]
       rfl
      refine one_ (i := 3) (N := some 43) #[true, true, true, true, false] rfl rfl (by kernel_rfl) (by decide) (fun K hK => ?_)
      refine goes_ Try.func40 (by kernel_rfl) rfl #[.agg #[.slice Ao26 t245.length co26, .int .i64 t248, .bool t249, .int .i64 t250, .string t251, .int .i64 t252, .int .i64 t253, .int .i64 t254], .agg #[.slice Ao64 t265.length co64, .int .i64 t268, .bool t269, .int .i64 t270, .string t271, .int .i64 t272, .int .i64 t273, .int .i64 t274]] (by rfl) rfl rfl (by (try simp only [List.map_toArray, List.map_cons, List.map_nil]); first | done | rfl | (simp only [List.length_drop, List.length_take]; rfl)) ?_
      with_reducible refine (laws_eqCaller.calls kj11 _ _ t245 t248 t249 t250 t251 t252 t253 t254 _ _ t265 t268 t269 t270 t271 t272 t273 t274 false _ ?side1 ?side2 ?side3 ?side4 A56.out).mono ?_
      (case side1 => repeat (first | exact (Kd.R_reads' HO_256000.out).2.2 | (with_reducible refine Kd.C_alloc ?_ _) | (with_reducible refine Kd.C_drewN ?_ _) | (with_reducible refine Kd.C_drew ?_)))
      (case side2 => exact (Kd.R_reads' HO_256000.out).2.1)
      (case side3 => repeat (first | exact (Kd.R_reads' HO267.out).2.2 | (with_reducible refine Kd.C_alloc ?_ _) | (with_reducible refine Kd.C_drewN ?_ _) | (with_reducible refine Kd.C_drew ?_)))
      (case side4 => exact (Kd.R_reads' HO267.out).2.1)
      rintro e w65 ⟨rfl, hb⟩
      refine ⟨_, rfl, ?_⟩
      have n0_ := Aside0.mk (Kd.R_below (by (with_reducible repeat (first | apply Kd.R_alloc | apply Kd.R_drewN | apply Kd.R_drew)); exact HO_256000.out) hb)
      have n1_ := Aside0.mk (Kd.R_below (by (with_reducible repeat (first | apply Kd.R_alloc | apply Kd.R_drewN | apply Kd.R_drew)); exact HO267.out) hb)
      have n2_ := bkb BK225 hb
      have n3_ := bkb BK244 hb
      have n4_ := bkb BK255 hb
      have n5_ := bkb BK263 hb
      have n6_ := Aside0.mk (below_step (bz) hb)
      clear HO_256000
      clear HO267
      clear BK225
      clear BK244
      clear BK255
      clear BK263
      clear HB
      have HO_256000 := n0_
      have HO267 := n1_
      have BK225 := n2_
      have BK244 := n3_
      have BK255 := n4_
      have BK263 := n5_
      have HB := n6_
      clear n0_ n1_ n2_ n3_ n4_ n5_ n6_
      (try clear hb)
      (try clear hb2)
      (try clear hk)
      (try clear hi)
      refine hK.out _ _ ⟨(blk_cell BK255.out 0).trans rfl, (blk_cell BK255.out 1).trans rfl, (blk_cell BK255.out 2).trans rfl, (blk_cell BK255.out 3).trans rfl, (blk_cell BK255.out 4).trans rfl, (blk_cell BK255.out 5).trans rfl, (blk_cell BK255.out 6).trans rfl, (blk_cell BK255.out 7).trans rfl, (blk_cell BK225.out 0).trans rfl, (blk_cell BK225.out 1).trans rfl, (blk_cell BK225.out 2).trans rfl, (blk_cell BK225.out 3).trans rfl, (blk_cell BK225.out 4).trans rfl, (blk_cell BK225.out 5).trans rfl, (blk_cell BK225.out 6).trans rfl, (blk_cell BK225.out 7).trans rfl⟩ (fun hHeld => ?_)
      clear hK K
      refine norm_ (a' := ?_) ?_ ?_
      rotate_left
      ·
       show Act.put _ (some 43) _ = _
       simp only [Act.put, List.setIfInBounds_toArray, List.set_cons_zero, List.set_cons_succ, i64_w, i32_w]
       rfl
      refine pure_ (i := 4) (N := some 44) (v := ?_) (a' := ?_) #[true, true, true, true, true] rfl rfl (by kernel_rfl) (fun _ _ _ h => h) (Or.inl ⟨by rfl, ?_⟩) ?_ ?_
      rotate_left
      ·
       intro w'
       go_simp
       with_reducible rfl
      rotate_left
      ·
       simp only [Act.put, List.setIfInBounds_toArray, List.set_cons_zero, List.set_cons_succ, i64_w, i32_w]
       rfl
      refine done_ (by kernel_rfl) ?_
      try go_wp2
      go_ret
      exact ⟨by first | rfl | (simp only [u8w, w64m]; rfl) | (simp [errW_none, errW_some] <;> rfl) | (simp [*, errW_none, errW_some] <;> rfl), bz⟩

/-- THE ONE PURE STATEMENT of laws_FnExactRequestOf. -/
def laws_FnExactRequestOf.Pure : Prop := ∀ (l0_0 : List (S77)) (a0_1 : Int) (a0_2 : Bool) (a0_3 : Int) (a0_4 : ByteArray) (a0_5 : Int) (a0_6 : Int) (a0_7 : Int) (a1 : Int), (l0_0.length ≤ maxLen ∧ ∀ y ∈ l0_0, okS77 y) → ((Lit.int .i64 a0_1).wf = true) → ((Lit.int .i64 a0_3).wf = true) → (a0_4.size ≤ maxLen) → ((Lit.int .i64 a0_5).wf = true) → ((Lit.int .i64 a0_6).wf = true) → ((Lit.int .i64 a0_7).wf = true) → ((Lit.int .i64 a1).wf = true) → ∃ k, laws_FnExactRequestOf.f k l0_0 a0_1 a0_2 a0_3 a0_4 a0_5 a0_6 a0_7 a1 = some true

end Go.Proofs.Ytinnjgogaidhlaa.PFnExactRequestOf
