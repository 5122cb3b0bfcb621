/- Go functions as plain Lean functions, and for each a proof that its call comes to what the function says; under the conditions that each theorem names. Written by a program of this session. -/
import Derived.Test.YtoajkkfnblpnlaaPFnPlanValidx0
import Derived.Test.YtoajkkfnblpnlaaPFnPlanValidx2
import Derived.Test.YtoajkkfnblpnlaaPFnPlanValidx3
import Derived.Test.YtoajkkfnblpnlaaPFnPlanValidx4
namespace Go.Proofs.Ytoajkkfnblpnlaa.PFnPlanValid
open Go.RowKit Go.Proofs.YtoajkkfnblpnlaaW.PrintWords Go.Proofs.YtoajkkfnblpnlaaW.PrintLast Go.Proofs.YtoajkkfnblpnlaaW.PrintMore
attribute [local go_sem high] str_gtr str_leq str_geq
attribute [local go_sem] max2_int min2_int max_two min_two max_three min_three max_four min_four   -- for this text's walks alone
set_option linter.unusedVariables false
set_option linter.unusedSimpArgs false

/-! ### laws_alive: function 32 -/
def laws_alive.f (k : Nat)  : Option (Bool) := (impl_KeyRank.f k (⟨#[97, 97]⟩ : ByteArray)).bind fun t201 => (if t201 = 1 then ((impl_KeyRank.f k (⟨#[]⟩ : ByteArray)).bind fun t202 => (some (t202 == (-1)))) else (some false))
theorem laws_alive.mono : ∀ k, LeO (laws_alive.f k ) (laws_alive.f (k + 1) ) := by
 intro  k
 unfold laws_alive.f
 repeat' first
   | (with_reducible exact impl_KeyRank.mono _ _)
   | (with_reducible exact LeO.refl _)
   | (with_reducible exact LeO.none _)
   | (with_reducible refine LeO.ite ?_ ?_)
   | (with_reducible refine LeO.bind ?_ (fun _ => ?_))
   | exact impl_KeyRank.mono _ _
   | exact LeO.none _
   | refine LeO.ite ?_ ?_
   | refine LeO.bind ?_ (fun _ => ?_)
set_option maxHeartbeats 8000000 in
set_option maxRecDepth 100000 in
theorem laws_alive.calls (k : Nat)  (r : Bool) (w : World) (h : laws_alive.f k  = some r) :
  Calls Try.prog 32 #[] w fun e w' => e = .returned (.bool r) ∧ Below w.heap.size w w' := by
 have HB := Aside0.mk (Below.refl w.heap.size w)
 have H : ((impl_KeyRank.f k (⟨#[97, 97]⟩ : ByteArray)).bind fun t201 => (if t201 = 1 then ((impl_KeyRank.f k (⟨#[]⟩ : ByteArray)).bind fun t202 => (some (t202 == (-1)))) else (some false))) = some r := h
 clear h
 replace H := Option.bind_eq_some_iff.mp H
 obtain ⟨t201, A10, H⟩ := H
 try dsimp only at H
 have A1 := Aside0.mk A10
 clear A10
 by_cases c2 : t201 = 1
 ·
  rw [if_pos c2] at H
  have c2b0 : (t201 == 1) = true := beq_iff_eq.mpr c2
  have c2b1 : (t201 != 1) = false := bne_eq_false_iff_eq.mpr c2
  clear c2
  replace H := Option.bind_eq_some_iff.mp H
  obtain ⟨t202, A30, H⟩ := H
  try dsimp only at H
  have A3 := Aside0.mk A30
  clear A30
  obtain rfl := Option.some.inj H
  go_enter Try.func32, Try.ntmps32
  go_wp2_with (first | ((with_reducible refine gate_callee (f := 67) rfl ?_); refine goesL_ (some 1) rfl rfl Try.func67 (by kernel_rfl) rfl #[.string (⟨#[97, 97]⟩ : ByteArray)] rfl (by (try simp only [List.map_toArray, List.map_cons, List.map_nil]); first | done | rfl | (simp only [List.length_drop, List.length_take]; rfl)) ?_; (with_reducible refine (impl_KeyRank.calls k (⟨#[97, 97]⟩ : ByteArray) t201 _ A1.out).mono ?_); rintro e w4 ⟨rfl, hb⟩; refine ⟨_, rfl, ?_⟩; have n0_ := Aside0.mk (below_step (bz) hb); clear HB; have HB := n0_; clear n0_; (try clear hb); (try clear hb2); (try clear hk); (try clear hi)) | (go_at_call 67; (with_reducible refine (impl_KeyRank.calls k (⟨#[]⟩ : ByteArray) t202 _ A3.out).mono ?_); rintro e w5 ⟨rfl, hb⟩; have n0_ := Aside0.mk (below_step (bz) hb); clear HB; have HB := n0_; clear n0_; (try clear hb); (try clear hb2); (try clear hk); (try clear hi)))
  go_ret
  exact ⟨by first | rfl | (simp only [u8w, w64m]; rfl) | (simp [errW_none, errW_some] <;> rfl) | (simp [*, errW_none, errW_some] <;> rfl), bz⟩
 ·
  rw [if_neg c2] at H
  have c2b0 : (t201 == 1) = false := beq_eq_false_iff_ne.mpr c2
  have c2b1 : (t201 != 1) = true := bne_iff_ne.mpr c2
  obtain rfl := Option.some.inj H
  go_enter Try.func32, Try.ntmps32
  go_wp2_with (first | ((with_reducible refine gate_callee (f := 67) rfl ?_); refine goesL_ (some 1) rfl rfl Try.func67 (by kernel_rfl) rfl #[.string (⟨#[97, 97]⟩ : ByteArray)] rfl (by (try simp only [List.map_toArray, List.map_cons, List.map_nil]); first | done | rfl | (simp only [List.length_drop, List.length_take]; rfl)) ?_; (with_reducible refine (impl_KeyRank.calls k (⟨#[97, 97]⟩ : ByteArray) t201 _ A1.out).mono ?_); rintro e w6 ⟨rfl, hb⟩; refine ⟨_, rfl, ?_⟩; have n0_ := Aside0.mk (below_step (bz) hb); clear HB; have HB := n0_; clear n0_; (try clear hb); (try clear hb2); (try clear hk); (try clear hi)))
  go_ret
  exact ⟨by first | rfl | (simp only [u8w, w64m]; rfl) | (simp [errW_none, errW_some] <;> rfl) | (simp [*, errW_none, errW_some] <;> rfl), bz⟩

/-! ### laws_FnPlanValid: function 7 -/
def laws_FnPlanValid.l0 : Nat → Bool → Int → Int → Int → Int → ByteArray → Int → Int → Int → Option (Bool)
 | 0, _, _, _, _, _, _, _, _, _ => none
 | k + 1, x4, x5, x211000, x211001, x211002, x211003, x211004, x211005, x211006 => if x5 ≤ 4 then (if x4 = true then (if x5 = x211000 then (laws_FnPlanValid.l0 k x4 (wrap64 (x5 + 1)) x211000 x211001 x211002 x211003 x211004 x211005 x211006) else ((impl_PlanValid.f k x5 x211001 x211002 x211003 x211004 x211005 x211006).bind fun t214 => (if t214 = true then (some false) else (laws_FnPlanValid.l0 k x4 (wrap64 (x5 + 1)) x211000 x211001 x211002 x211003 x211004 x211005 x211006)))) else (laws_FnPlanValid.l0 k x4 (wrap64 (x5 + 1)) x211000 x211001 x211002 x211003 x211004 x211005 x211006)) else ((impl_PlanValid.f k 2 x211001 x211001 (⟨#[]⟩ : ByteArray) 0 0 0).bind fun t215 => (if t215 = true then (some false) else ((laws_alive.f k).bind fun t216 => (some t216))))
def laws_FnPlanValid.f (k : Nat) (l0 : List Int) : Option (Bool) := if (l0.length : Int) > 1048576 then (some true) else ((spec_DrawPlanValid.f k l0).bind fun bt203 => ((impl_PlanValid.f k bt203.1 bt203.2.1 bt203.2.2.1 bt203.2.2.2.1 bt203.2.2.2.2.1 bt203.2.2.2.2.2.1 bt203.2.2.2.2.2.2).bind fun t211 => ((spec_PlanValid.f k bt203.1 bt203.2.1 bt203.2.2.1 bt203.2.2.2.1 bt203.2.2.2.2.1 bt203.2.2.2.2.2.1 bt203.2.2.2.2.2.2).bind fun t212 => (if (t211 != t212) = true then (some false) else (laws_FnPlanValid.l0 k t211 0 bt203.1 bt203.2.1 bt203.2.2.1 bt203.2.2.2.1 bt203.2.2.2.2.1 bt203.2.2.2.2.2.1 bt203.2.2.2.2.2.2)))))
theorem laws_FnPlanValid.mono_l : ∀ k, (∀ y0 y1 y2 y3 y4 y5 y6 y7 y8, LeO (laws_FnPlanValid.l0 k y0 y1 y2 y3 y4 y5 y6 y7 y8) (laws_FnPlanValid.l0 (k + 1) y0 y1 y2 y3 y4 y5 y6 y7 y8))
 | 0 => fun _ _ _ _ _ _ _ _ _ r h => by simp [laws_FnPlanValid.l0] at h
 | k + 1 => by
  have ih0 := laws_FnPlanValid.mono_l k
  ·
   intro y0 y1 y2 y3 y4 y5 y6 y7 y8
   unfold laws_FnPlanValid.l0
   repeat' first
   | (with_reducible exact ih0 _ _ _ _ _ _ _ _ _)
   | (with_reducible exact impl_PlanValid.mono _ _ _ _ _ _ _ _)
   | (with_reducible exact laws_alive.mono _)
   | (with_reducible exact spec_DrawPlanValid.mono _ _)
   | (with_reducible exact spec_PlanValid.mono _ _ _ _ _ _ _ _)
   | (with_reducible exact LeO.refl _)
   | (with_reducible exact LeO.none _)
   | (with_reducible refine LeO.ite ?_ ?_)
   | (with_reducible refine LeO.bind ?_ (fun _ => ?_))
   | exact ih0 _ _ _ _ _ _ _ _ _
   | exact impl_PlanValid.mono _ _ _ _ _ _ _ _
   | exact laws_alive.mono _
   | exact spec_DrawPlanValid.mono _ _
   | exact spec_PlanValid.mono _ _ _ _ _ _ _ _
   | exact LeO.none _
   | refine LeO.ite ?_ ?_
   | refine LeO.bind ?_ (fun _ => ?_)
theorem laws_FnPlanValid.mono : ∀ a0 k, LeO (laws_FnPlanValid.f k a0) (laws_FnPlanValid.f (k + 1) a0) := by
 intro a0 k
 have ih0 := laws_FnPlanValid.mono_l k
 unfold laws_FnPlanValid.f
 repeat' first
   | (with_reducible exact ih0 _ _ _ _ _ _ _ _ _)
   | (with_reducible exact impl_PlanValid.mono _ _ _ _ _ _ _ _)
   | (with_reducible exact laws_alive.mono _)
   | (with_reducible exact spec_DrawPlanValid.mono _ _)
   | (with_reducible exact spec_PlanValid.mono _ _ _ _ _ _ _ _)
   | (with_reducible exact LeO.refl _)
   | (with_reducible exact LeO.none _)
   | (with_reducible refine LeO.ite ?_ ?_)
   | (with_reducible refine LeO.bind ?_ (fun _ => ?_))
   | exact ih0 _ _ _ _ _ _ _ _ _
   | exact impl_PlanValid.mono _ _ _ _ _ _ _ _
   | exact laws_alive.mono _
   | exact spec_DrawPlanValid.mono _ _
   | exact spec_PlanValid.mono _ _ _ _ _ _ _ _
   | exact LeO.none _
   | refine LeO.ite ?_ ?_
   | refine LeO.bind ?_ (fun _ => ?_)
set_option maxHeartbeats 8000000 in
set_option maxRecDepth 100000 in
theorem laws_FnPlanValid.calls (k : Nat) (A0 : Option Addr) (c0 : Nat) (l0 : List Int) (r : Bool) (w : World) (hr0 : Kd.C (Kd.int .u8) w A0 l0.length l0) (hc0 : l0.length ≤ c0) (h : laws_FnPlanValid.f k l0 = some r) :
  Calls Try.prog 7 #[.slice A0 l0.length c0] w fun e w' => e = .returned (.bool r) ∧ Below w.heap.size w w' := by
 have hu26 := Try.underlying26
 have HR0 := Aside0.mk hr0
 have HC0 := Aside0.mk hc0
 clear hr0 hc0
 have HB := Aside0.mk (Below.refl w.heap.size w)
 have H : (if (l0.length : Int) > 1048576 then (some true) else ((spec_DrawPlanValid.f k l0).bind fun bt203 => ((impl_PlanValid.f k bt203.1 bt203.2.1 bt203.2.2.1 bt203.2.2.2.1 bt203.2.2.2.2.1 bt203.2.2.2.2.2.1 bt203.2.2.2.2.2.2).bind fun t211 => ((spec_PlanValid.f k bt203.1 bt203.2.1 bt203.2.2.1 bt203.2.2.2.1 bt203.2.2.2.2.1 bt203.2.2.2.2.2.1 bt203.2.2.2.2.2.2).bind fun t212 => (if (t211 != t212) = true then (some false) else (laws_FnPlanValid.l0 k t211 0 bt203.1 bt203.2.1 bt203.2.2.1 bt203.2.2.2.1 bt203.2.2.2.2.1 bt203.2.2.2.2.2.1 bt203.2.2.2.2.2.2)))))) = some r := h
 clear h
 by_cases c2 : (l0.length : Int) > 1048576
 ·
  rw [if_pos c2] at H
  have c2b0 : decide (1048576 < (l0.length : Int)) = true := decide_eq_true c2
  have c2b1 : decide (1048576 < l0.length) = true := decide_eq_true (by omega)
  clear c2
  obtain rfl := Option.some.inj H
  go_enter Try.func7, Try.ntmps7
  go_wp2
  go_ret
  exact ⟨by first | rfl | (simp only [u8w, w64m]; rfl) | (simp [errW_none, errW_some] <;> rfl) | (simp [*, errW_none, errW_some] <;> rfl), bz⟩
 ·
  rw [if_neg c2] at H
  have c2b0 : decide (1048576 < (l0.length : Int)) = false := decide_eq_false c2
  have c2b1 : decide (1048576 < l0.length) = false := decide_eq_false (by omega)
  clear c2
  replace H := Option.bind_eq_some_iff.mp H
  obtain ⟨⟨t203, t204, t205, t206, t207, t208, t209⟩, A30, H⟩ := H
  try dsimp only at H
  have A3 := Aside0.mk A30
  clear A30
  replace H := Option.bind_eq_some_iff.mp H
  obtain ⟨t211, A40, H⟩ := H
  try dsimp only at H
  have A4 := Aside0.mk A40
  clear A40
  replace H := Option.bind_eq_some_iff.mp H
  obtain ⟨t212, A50, H⟩ := H
  try dsimp only at H
  have A5 := Aside0.mk A50
  clear A50
  by_cases c6 : (t211 != t212) = true
  ·
   rw [if_pos c6] at H
   have c6b0 : (t211 != t212) = true := c6
   (try (have c6b1 : decide (t211 = t212) = false := by simpa using c6))
   (try (have c6b2 : (t211 == t212) = false := by simpa using c6))
   (try (have c6b3 : ¬ (t211 = t212) := by simpa using c6))
   clear c6
   obtain rfl := Option.some.inj H
   go_enter Try.func7, Try.ntmps7
   go_wp2_with (first | ((with_reducible refine gate_callee (f := 31) rfl ?_); refine goesL_ (some 11) rfl rfl Try.func31 (by kernel_rfl) rfl #[.slice A0 l0.length c0] rfl (by (try simp only [List.map_toArray, List.map_cons, List.map_nil]); first | done | rfl | (simp only [List.length_drop, List.length_take]; rfl)) ?_; (with_reducible refine (spec_DrawPlanValid.calls k _ _ l0 t203 t204 t205 t206 t207 t208 t209 _ ?side1 ?side2 A3.out).mono ?_); (case side1 => repeat (first | exact HR0.out | (with_reducible refine Kd.C_alloc ?_ _) | (with_reducible refine Kd.C_drewN ?_ _) | (with_reducible refine Kd.C_drew ?_))); (case side2 => exact HC0.out); rintro e w7 ⟨rfl, hb⟩; refine ⟨_, rfl, ?_⟩; have n0_ := Aside0.mk (below_step (bz) hb); clear HB; have HB := n0_; clear n0_; (try clear hb); (try clear hb2); (try clear hk); (try clear hi)) | ((with_reducible refine gate_dst (N := 3) rfl ?_); refine box_event ?hg (N := 3) ?hd (cs := #[.int .i64 0, .int .i64 0, .int .i64 0, .string (⟨#[]⟩ : ByteArray), .int .i64 0, .int .i64 0, .int .i64 0]) (t := 26) ?hr ?_; (case hd => rfl); (case hg => rfl); (case hr => first | (go_simp; done) | (go_simp; rfl)); intro gb210 hg w8 hbox hb; have n0_ := Aside0.mk (below_step (bz) hb); have n1_ := Aside0.mk (hbox); have n2_ : Aside0 (w.heap.size ≤ gb210) := bsg hg; have n3_ : Aside0 (w.heap.size ≤ gb210) := bsg hg; clear HB; have HB := n0_; have BK210 := n1_; have GW210 := n2_; have GE210 := n3_; clear n0_ n1_ n2_ n3_; clear hb hbox hg; have hcz9_0 : w8.cell? ⟨gb210, 0, none⟩ = some (.int .i64 0) := (blk_cell BK210.out 0).trans rfl; have hcz9_1 : w8.cell? ⟨gb210, 1, none⟩ = some (.int .i64 0) := (blk_cell BK210.out 1).trans rfl; have hcz9_2 : w8.cell? ⟨gb210, 2, none⟩ = some (.int .i64 0) := (blk_cell BK210.out 2).trans rfl; have hcz9_3 : w8.cell? ⟨gb210, 3, none⟩ = some (.string (⟨#[]⟩ : ByteArray)) := (blk_cell BK210.out 3).trans rfl; have hcz9_4 : w8.cell? ⟨gb210, 4, none⟩ = some (.int .i64 0) := (blk_cell BK210.out 4).trans rfl; have hcz9_5 : w8.cell? ⟨gb210, 5, none⟩ = some (.int .i64 0) := (blk_cell BK210.out 5).trans rfl; have hcz9_6 : w8.cell? ⟨gb210, 6, none⟩ = some (.int .i64 0) := (blk_cell BK210.out 6).trans rfl; have hfz9_0 := blk_frozen BK210.out 0; have hfz9_1 := blk_frozen BK210.out 1; have hfz9_2 := blk_frozen BK210.out 2; have hfz9_3 := blk_frozen BK210.out 3; have hfz9_4 := blk_frozen BK210.out 4; have hfz9_5 := blk_frozen BK210.out 5; have hfz9_6 := blk_frozen BK210.out 6) | ((with_reducible refine gate_callee (f := 18) rfl ?_); refine goesL_ (some 13) rfl rfl Try.func18 (by kernel_rfl) rfl #[.agg #[.int .i64 t203, .int .i64 t204, .int .i64 t205, .string t206, .int .i64 t207, .int .i64 t208, .int .i64 t209]] rfl (by (try simp only [List.map_toArray, List.map_cons, List.map_nil]); first | done | rfl | (simp only [List.length_drop, List.length_take]; rfl)) ?_; (with_reducible refine (impl_PlanValid.calls k t203 t204 t205 t206 t207 t208 t209 t211 _ A4.out).mono ?_); rintro e w10 ⟨rfl, hb⟩; refine ⟨_, rfl, ?_⟩; have n0_ := Aside0.mk (blk_below (g := gb210) (o := .cells #[.int .i64 t203, .int .i64 t204, .int .i64 t205, .string t206, .int .i64 t207, .int .i64 t208, .int .i64 t209] 26 (0, 0)) (by (with_reducible repeat (first | refine blk_drewN ?_ _ | refine blk_drew ?_ | refine blk_alloc ?_ _)); refine blk_put (cs := #[.int .i64 t203, .int .i64 t204, .int .i64 t205, .string t206, .int .i64 t207, .int .i64 t208, .int .i64 0]) ?_ 6 _ rfl; (with_reducible repeat (first | refine blk_drewN ?_ _ | refine blk_drew ?_ | refine blk_alloc ?_ _)); refine blk_put (cs := #[.int .i64 t203, .int .i64 t204, .int .i64 t205, .string t206, .int .i64 t207, .int .i64 0, .int .i64 0]) ?_ 5 _ rfl; (with_reducible repeat (first | refine blk_drewN ?_ _ | refine blk_drew ?_ | refine blk_alloc ?_ _)); refine blk_put (cs := #[.int .i64 t203, .int .i64 t204, .int .i64 t205, .string t206, .int .i64 0, .int .i64 0, .int .i64 0]) ?_ 4 _ rfl; (with_reducible repeat (first | refine blk_drewN ?_ _ | refine blk_drew ?_ | refine blk_alloc ?_ _)); refine blk_put (cs := #[.int .i64 t203, .int .i64 t204, .int .i64 t205, .string (⟨#[]⟩ : ByteArray), .int .i64 0, .int .i64 0, .int .i64 0]) ?_ 3 _ rfl; (with_reducible repeat (first | refine blk_drewN ?_ _ | refine blk_drew ?_ | refine blk_alloc ?_ _)); refine blk_put (cs := #[.int .i64 t203, .int .i64 t204, .int .i64 0, .string (⟨#[]⟩ : ByteArray), .int .i64 0, .int .i64 0, .int .i64 0]) ?_ 2 _ rfl; (with_reducible repeat (first | refine blk_drewN ?_ _ | refine blk_drew ?_ | refine blk_alloc ?_ _)); refine blk_put (cs := #[.int .i64 t203, .int .i64 0, .int .i64 0, .string (⟨#[]⟩ : ByteArray), .int .i64 0, .int .i64 0, .int .i64 0]) ?_ 1 _ rfl; (with_reducible repeat (first | refine blk_drewN ?_ _ | refine blk_drew ?_ | refine blk_alloc ?_ _)); refine blk_put (cs := #[.int .i64 0, .int .i64 0, .int .i64 0, .string (⟨#[]⟩ : ByteArray), .int .i64 0, .int .i64 0, .int .i64 0]) ?_ 0 _ rfl; (with_reducible repeat (first | refine blk_drewN ?_ _ | refine blk_drew ?_ | refine blk_alloc ?_ _)); exact BK210.out) hb); have n1_ := Aside0.mk (below_step (bz) hb); clear BK210; clear HB; have BK210 := n0_; have HB := n1_; clear n0_ n1_; (try clear hb); (try clear hb2); (try clear hk); (try clear hi); have hcz11_0 : w10.cell? ⟨gb210, 0, none⟩ = some (.int .i64 t203) := (blk_cell BK210.out 0).trans rfl; have hcz11_1 : w10.cell? ⟨gb210, 1, none⟩ = some (.int .i64 t204) := (blk_cell BK210.out 1).trans rfl; have hcz11_2 : w10.cell? ⟨gb210, 2, none⟩ = some (.int .i64 t205) := (blk_cell BK210.out 2).trans rfl; have hcz11_3 : w10.cell? ⟨gb210, 3, none⟩ = some (.string t206) := (blk_cell BK210.out 3).trans rfl; have hcz11_4 : w10.cell? ⟨gb210, 4, none⟩ = some (.int .i64 t207) := (blk_cell BK210.out 4).trans rfl; have hcz11_5 : w10.cell? ⟨gb210, 5, none⟩ = some (.int .i64 t208) := (blk_cell BK210.out 5).trans rfl; have hcz11_6 : w10.cell? ⟨gb210, 6, none⟩ = some (.int .i64 t209) := (blk_cell BK210.out 6).trans rfl; have hfz11_0 := blk_frozen BK210.out 0; have hfz11_1 := blk_frozen BK210.out 1; have hfz11_2 := blk_frozen BK210.out 2; have hfz11_3 := blk_frozen BK210.out 3; have hfz11_4 := blk_frozen BK210.out 4; have hfz11_5 := blk_frozen BK210.out 5; have hfz11_6 := blk_frozen BK210.out 6) | ((with_reducible refine gate_callee (f := 16) rfl ?_); refine goesL_ (some 16) rfl rfl Try.func16 (by kernel_rfl) rfl #[.agg #[.int .i64 t203, .int .i64 t204, .int .i64 t205, .string t206, .int .i64 t207, .int .i64 t208, .int .i64 t209]] rfl (by (try simp only [List.map_toArray, List.map_cons, List.map_nil]); first | done | rfl | (simp only [List.length_drop, List.length_take]; rfl)) ?_; (with_reducible refine (spec_PlanValid.calls k t203 t204 t205 t206 t207 t208 t209 t212 _ A5.out).mono ?_); rintro e w12 ⟨rfl, hb⟩; refine ⟨_, rfl, ?_⟩; have n0_ := bkb BK210 hb; have n1_ := Aside0.mk (below_step (bz) hb); clear BK210; clear HB; have BK210 := n0_; have HB := n1_; clear n0_ n1_; (try clear hb); (try clear hb2); (try clear hk); (try clear hi)))
   go_ret
   exact ⟨by first | rfl | (simp only [u8w, w64m]; rfl) | (simp [errW_none, errW_some] <;> rfl) | (simp [*, errW_none, errW_some] <;> rfl), bz⟩
  ·
   rw [if_neg c6] at H
   have c6b0 : (t211 != t212) = false := by simpa using c6
   (try (have c6b1 : decide (t211 = t212) = true := by simpa using c6))
   (try (have c6b2 : (t211 == t212) = true := by simpa using c6))
   clear c6
   have H' := Aside0.mk H
   clear H
   go_enter Try.func7, Try.ntmps7
   go_wp2_with (first | ((with_reducible refine gate_callee (f := 31) rfl ?_); refine goesL_ (some 11) rfl rfl Try.func31 (by kernel_rfl) rfl #[.slice A0 l0.length c0] rfl (by (try simp only [List.map_toArray, List.map_cons, List.map_nil]); first | done | rfl | (simp only [List.length_drop, List.length_take]; rfl)) ?_; (with_reducible refine (spec_DrawPlanValid.calls k _ _ l0 t203 t204 t205 t206 t207 t208 t209 _ ?side1 ?side2 A3.out).mono ?_); (case side1 => repeat (first | exact HR0.out | (with_reducible refine Kd.C_alloc ?_ _) | (with_reducible refine Kd.C_drewN ?_ _) | (with_reducible refine Kd.C_drew ?_))); (case side2 => exact HC0.out); rintro e w13 ⟨rfl, hb⟩; refine ⟨_, rfl, ?_⟩; have n0_ := Aside0.mk (below_step (bz) hb); clear HB; have HB := n0_; clear n0_; (try clear hb); (try clear hb2); (try clear hk); (try clear hi)) | ((with_reducible refine gate_dst (N := 3) rfl ?_); refine box_event ?hg (N := 3) ?hd (cs := #[.int .i64 0, .int .i64 0, .int .i64 0, .string (⟨#[]⟩ : ByteArray), .int .i64 0, .int .i64 0, .int .i64 0]) (t := 26) ?hr ?_; (case hd => rfl); (case hg => rfl); (case hr => first | (go_simp; done) | (go_simp; rfl)); intro gb210 hg w14 hbox hb; have n0_ := Aside0.mk (below_step (bz) hb); have n1_ := Aside0.mk (hbox); have n2_ : Aside0 (w.heap.size ≤ gb210) := bsg hg; have n3_ : Aside0 (w.heap.size ≤ gb210) := bsg hg; clear HB; have HB := n0_; have BK210 := n1_; have GW210 := n2_; have GE210 := n3_; clear n0_ n1_ n2_ n3_; clear hb hbox hg; have hcz15_0 : w14.cell? ⟨gb210, 0, none⟩ = some (.int .i64 0) := (blk_cell BK210.out 0).trans rfl; have hcz15_1 : w14.cell? ⟨gb210, 1, none⟩ = some (.int .i64 0) := (blk_cell BK210.out 1).trans rfl; have hcz15_2 : w14.cell? ⟨gb210, 2, none⟩ = some (.int .i64 0) := (blk_cell BK210.out 2).trans rfl; have hcz15_3 : w14.cell? ⟨gb210, 3, none⟩ = some (.string (⟨#[]⟩ : ByteArray)) := (blk_cell BK210.out 3).trans rfl; have hcz15_4 : w14.cell? ⟨gb210, 4, none⟩ = some (.int .i64 0) := (blk_cell BK210.out 4).trans rfl; have hcz15_5 : w14.cell? ⟨gb210, 5, none⟩ = some (.int .i64 0) := (blk_cell BK210.out 5).trans rfl; have hcz15_6 : w14.cell? ⟨gb210, 6, none⟩ = some (.int .i64 0) := (blk_cell BK210.out 6).trans rfl; have hfz15_0 := blk_frozen BK210.out 0; have hfz15_1 := blk_frozen BK210.out 1; have hfz15_2 := blk_frozen BK210.out 2; have hfz15_3 := blk_frozen BK210.out 3; have hfz15_4 := blk_frozen BK210.out 4; have hfz15_5 := blk_frozen BK210.out 5; have hfz15_6 := blk_frozen BK210.out 6) | ((with_reducible refine gate_callee (f := 18) rfl ?_); refine goesL_ (some 13) rfl rfl Try.func18 (by kernel_rfl) rfl #[.agg #[.int .i64 t203, .int .i64 t204, .int .i64 t205, .string t206, .int .i64 t207, .int .i64 t208, .int .i64 t209]] rfl (by (try simp only [List.map_toArray, List.map_cons, List.map_nil]); first | done | rfl | (simp only [List.length_drop, List.length_take]; rfl)) ?_; (with_reducible refine (impl_PlanValid.calls k t203 t204 t205 t206 t207 t208 t209 t211 _ A4.out).mono ?_); rintro e w16 ⟨rfl, hb⟩; refine ⟨_, rfl, ?_⟩; have n0_ := Aside0.mk (blk_below (g := gb210) (o := .cells #[.int .i64 t203, .int .i64 t204, .int .i64 t205, .string t206, .int .i64 t207, .int .i64 t208, .int .i64 t209] 26 (0, 0)) (by (with_reducible repeat (first | refine blk_drewN ?_ _ | refine blk_drew ?_ | refine blk_alloc ?_ _)); refine blk_put (cs := #[.int .i64 t203, .int .i64 t204, .int .i64 t205, .string t206, .int .i64 t207, .int .i64 t208, .int .i64 0]) ?_ 6 _ rfl; (with_reducible repeat (first | refine blk_drewN ?_ _ | refine blk_drew ?_ | refine blk_alloc ?_ _)); refine blk_put (cs := #[.int .i64 t203, .int .i64 t204, .int .i64 t205, .string t206, .int .i64 t207, .int .i64 0, .int .i64 0]) ?_ 5 _ rfl; (with_reducible repeat (first | refine blk_drewN ?_ _ | refine blk_drew ?_ | refine blk_alloc ?_ _)); refine blk_put (cs := #[.int .i64 t203, .int .i64 t204, .int .i64 t205, .string t206, .int .i64 0, .int .i64 0, .int .i64 0]) ?_ 4 _ rfl; (with_reducible repeat (first | refine blk_drewN ?_ _ | refine blk_drew ?_ | refine blk_alloc ?_ _)); refine blk_put (cs := #[.int .i64 t203, .int .i64 t204, .int .i64 t205, .string (⟨#[]⟩ : ByteArray), .int .i64 0, .int .i64 0, .int .i64 0]) ?_ 3 _ rfl; (with_reducible repeat (first | refine blk_drewN ?_ _ | refine blk_drew ?_ | refine blk_alloc ?_ _)); refine blk_put (cs := #[.int .i64 t203, .int .i64 t204, .int .i64 0, .string (⟨#[]⟩ : ByteArray), .int .i64 0, .int .i64 0, .int .i64 0]) ?_ 2 _ rfl; (with_reducible repeat (first | refine blk_drewN ?_ _ | refine blk_drew ?_ | refine blk_alloc ?_ _)); refine blk_put (cs := #[.int .i64 t203, .int .i64 0, .int .i64 0, .string (⟨#[]⟩ : ByteArray), .int .i64 0, .int .i64 0, .int .i64 0]) ?_ 1 _ rfl; (with_reducible repeat (first | refine blk_drewN ?_ _ | refine blk_drew ?_ | refine blk_alloc ?_ _)); refine blk_put (cs := #[.int .i64 0, .int .i64 0, .int .i64 0, .string (⟨#[]⟩ : ByteArray), .int .i64 0, .int .i64 0, .int .i64 0]) ?_ 0 _ rfl; (with_reducible repeat (first | refine blk_drewN ?_ _ | refine blk_drew ?_ | refine blk_alloc ?_ _)); exact BK210.out) hb); have n1_ := Aside0.mk (below_step (bz) hb); clear BK210; clear HB; have BK210 := n0_; have HB := n1_; clear n0_ n1_; (try clear hb); (try clear hb2); (try clear hk); (try clear hi); have hcz17_0 : w16.cell? ⟨gb210, 0, none⟩ = some (.int .i64 t203) := (blk_cell BK210.out 0).trans rfl; have hcz17_1 : w16.cell? ⟨gb210, 1, none⟩ = some (.int .i64 t204) := (blk_cell BK210.out 1).trans rfl; have hcz17_2 : w16.cell? ⟨gb210, 2, none⟩ = some (.int .i64 t205) := (blk_cell BK210.out 2).trans rfl; have hcz17_3 : w16.cell? ⟨gb210, 3, none⟩ = some (.string t206) := (blk_cell BK210.out 3).trans rfl; have hcz17_4 : w16.cell? ⟨gb210, 4, none⟩ = some (.int .i64 t207) := (blk_cell BK210.out 4).trans rfl; have hcz17_5 : w16.cell? ⟨gb210, 5, none⟩ = some (.int .i64 t208) := (blk_cell BK210.out 5).trans rfl; have hcz17_6 : w16.cell? ⟨gb210, 6, none⟩ = some (.int .i64 t209) := (blk_cell BK210.out 6).trans rfl; have hfz17_0 := blk_frozen BK210.out 0; have hfz17_1 := blk_frozen BK210.out 1; have hfz17_2 := blk_frozen BK210.out 2; have hfz17_3 := blk_frozen BK210.out 3; have hfz17_4 := blk_frozen BK210.out 4; have hfz17_5 := blk_frozen BK210.out 5; have hfz17_6 := blk_frozen BK210.out 6) | ((with_reducible refine gate_callee (f := 16) rfl ?_); refine goesL_ (some 16) rfl rfl Try.func16 (by kernel_rfl) rfl #[.agg #[.int .i64 t203, .int .i64 t204, .int .i64 t205, .string t206, .int .i64 t207, .int .i64 t208, .int .i64 t209]] rfl (by (try simp only [List.map_toArray, List.map_cons, List.map_nil]); first | done | rfl | (simp only [List.length_drop, List.length_take]; rfl)) ?_; (with_reducible refine (spec_PlanValid.calls k t203 t204 t205 t206 t207 t208 t209 t212 _ A5.out).mono ?_); rintro e w18 ⟨rfl, hb⟩; refine ⟨_, rfl, ?_⟩; have n0_ := bkb BK210 hb; have n1_ := Aside0.mk (below_step (bz) hb); clear BK210; clear HB; have BK210 := n0_; have HB := n1_; clear n0_ n1_; (try clear hb); (try clear hb2); (try clear hk); (try clear hi)))
   go_loopg [5] k (fun kq v5 w' => ∃ (x5_1 : Int), v5 = .int .i64 x5_1 ∧ Aside0 (laws_FnPlanValid.l0 kq t211 x5_1 t203 t204 t205 t206 t207 t208 t209 = some r) ∧ Aside0 (kq ≤ k) ∧ Aside0 (w'.heap[gb210]? = some (.cells #[.int .i64 t203, .int .i64 t204, .int .i64 t205, .string t206, .int .i64 t207, .int .i64 t208, .int .i64 t209] 26 (0, 0))) ∧ Aside0 (Below w.heap.size w w'))
   case atStart => exact ⟨(0), (by first | rfl | (simp; done) | exact congrArg Value.bool (ne_nil_b _) | exact congrArg Value.bool (eq_nil_b _) | (simp [*]; done)), H', ⟨Nat.le_refl _⟩, ⟨by (with_reducible repeat (first | refine blk_drewN ?_ _ | refine blk_drew ?_ | refine blk_alloc ?_ _)); exact BK210.out⟩, ⟨bz⟩⟩
   case round =>
    clear H'
    try clear c1
    try clear c2
    try clear c2b0
    try clear c2b1
    try clear p2
    try clear c3
    try clear c6
    try clear c6b0
    try clear c6b1
    try clear c6b2
    try clear c7
    try clear c16
    try clear c18
    try clear hcz11_0
    try clear hcz11_1
    try clear hcz11_2
    try clear hcz11_3
    try clear hcz11_4
    try clear hcz11_5
    try clear hcz11_6
    try clear hcz15_0
    try clear hcz15_1
    try clear hcz15_2
    try clear hcz15_3
    try clear hcz15_4
    try clear hcz15_5
    try clear hcz15_6
    try clear hcz17_0
    try clear hcz17_1
    try clear hcz17_2
    try clear hcz17_3
    try clear hcz17_4
    try clear hcz17_5
    try clear hcz17_6
    try clear hcz9_0
    try clear hcz9_1
    try clear hcz9_2
    try clear hcz9_3
    try clear hcz9_4
    try clear hcz9_5
    try clear hcz9_6
    try clear hfz11_0
    try clear hfz11_1
    try clear hfz11_2
    try clear hfz11_3
    try clear hfz11_4
    try clear hfz11_5
    try clear hfz11_6
    try clear hfz15_0
    try clear hfz15_1
    try clear hfz15_2
    try clear hfz15_3
    try clear hfz15_4
    try clear hfz15_5
    try clear hfz15_6
    try clear hfz17_0
    try clear hfz17_1
    try clear hfz17_2
    try clear hfz17_3
    try clear hfz17_4
    try clear hfz17_5
    try clear hfz17_6
    try clear hfz9_0
    try clear hfz9_1
    try clear hfz9_2
    try clear hfz9_3
    try clear hfz9_4
    try clear hfz9_5
    try clear hfz9_6
    obtain ⟨x5_1, rfl, HA, HK1, BK210, HB⟩ := hrel
    cases gk with
    | zero => exact absurd HA.out (by simp [laws_FnPlanValid.l0])
    | succ k1 =>
     have H := HA.out
     clear HA
     simp only [laws_FnPlanValid.l0] at H
     by_cases c19 : x5_1 ≤ 4
     ·
      rw [if_pos c19] at H
      have c19b0 : decide (x5_1 ≤ 4) = true := decide_eq_true c19
      clear c19
      by_cases c20 : t211 = true
      ·
       subst c20
       rw [if_pos rfl] at H
       by_cases c21 : x5_1 = t203
       ·
        rw [if_pos c21] at H
        have c21b0 : (x5_1 == t203) = true := beq_iff_eq.mpr c21
        have c21b1 : (x5_1 != t203) = false := bne_eq_false_iff_eq.mpr c21
        clear c21
        have H' := Aside0.mk H
        clear H
        have hcz22_0 : wr.cell? ⟨gb210, 0, none⟩ = some (.int .i64 t203) := (blk_cell BK210.out 0).trans rfl
        have hcz22_1 : wr.cell? ⟨gb210, 1, none⟩ = some (.int .i64 t204) := (blk_cell BK210.out 1).trans rfl
        have hcz22_2 : wr.cell? ⟨gb210, 2, none⟩ = some (.int .i64 t205) := (blk_cell BK210.out 2).trans rfl
        have hcz22_3 : wr.cell? ⟨gb210, 3, none⟩ = some (.string t206) := (blk_cell BK210.out 3).trans rfl
        have hcz22_4 : wr.cell? ⟨gb210, 4, none⟩ = some (.int .i64 t207) := (blk_cell BK210.out 4).trans rfl
        have hcz22_5 : wr.cell? ⟨gb210, 5, none⟩ = some (.int .i64 t208) := (blk_cell BK210.out 5).trans rfl
        have hcz22_6 : wr.cell? ⟨gb210, 6, none⟩ = some (.int .i64 t209) := (blk_cell BK210.out 6).trans rfl
        have hfz22_0 := blk_frozen BK210.out 0
        have hfz22_1 := blk_frozen BK210.out 1
        have hfz22_2 := blk_frozen BK210.out 2
        have hfz22_3 := blk_frozen BK210.out 3
        have hfz22_4 := blk_frozen BK210.out 4
        have hfz22_5 := blk_frozen BK210.out 5
        have hfz22_6 := blk_frozen BK210.out 6
        go_wp2_with (first | ((with_reducible refine gate_dst (N := 6) rfl ?_); refine box_event ?hg (N := 6) ?hd (cs := #[.int .i64 0, .int .i64 0, .int .i64 0, .string (⟨#[]⟩ : ByteArray), .int .i64 0, .int .i64 0, .int .i64 0]) (t := 26) ?hr ?_; (case hd => rfl); (case hg => rfl); (case hr => first | (go_simp; done) | (go_simp; rfl)); intro gb213 hg w23 hbox hb; have n0_ := bkb BK210 hb; have n1_ := Aside0.mk (below_step (bz) hb); have n2_ := Aside0.mk (hbox); have n3_ : Aside0 (w.heap.size ≤ gb213) := bsg hg; have n4_ : Aside0 (w.heap.size ≤ gb213) := bsg hg; have n5_ := nlt hg BK210; have n6_ := ngt hg BK210; clear BK210; clear HB; have BK210 := n0_; have HB := n1_; have BK213 := n2_; have GW213 := n3_; have GE213 := n4_; have NB210_213 := n5_; have NB213_210 := n6_; clear n0_ n1_ n2_ n3_ n4_ n5_ n6_; clear hb hbox hg; have hnb24 := NB213_210.out; have hnc24 := NB210_213.out; have hcz25_0 : w23.cell? ⟨gb213, 0, none⟩ = some (.int .i64 0) := (blk_cell BK213.out 0).trans rfl; have hcz25_1 : w23.cell? ⟨gb213, 1, none⟩ = some (.int .i64 0) := (blk_cell BK213.out 1).trans rfl; have hcz25_2 : w23.cell? ⟨gb213, 2, none⟩ = some (.int .i64 0) := (blk_cell BK213.out 2).trans rfl; have hcz25_3 : w23.cell? ⟨gb213, 3, none⟩ = some (.string (⟨#[]⟩ : ByteArray)) := (blk_cell BK213.out 3).trans rfl; have hcz25_4 : w23.cell? ⟨gb213, 4, none⟩ = some (.int .i64 0) := (blk_cell BK213.out 4).trans rfl; have hcz25_5 : w23.cell? ⟨gb213, 5, none⟩ = some (.int .i64 0) := (blk_cell BK213.out 5).trans rfl; have hcz25_6 : w23.cell? ⟨gb213, 6, none⟩ = some (.int .i64 0) := (blk_cell BK213.out 6).trans rfl; have hfz25_0 := blk_frozen BK213.out 0; have hfz25_1 := blk_frozen BK213.out 1; have hfz25_2 := blk_frozen BK213.out 2; have hfz25_3 := blk_frozen BK213.out 3; have hfz25_4 := blk_frozen BK213.out 4; have hfz25_5 := blk_frozen BK213.out 5; have hfz25_6 := blk_frozen BK213.out 6; have hcz26_0 : w23.cell? ⟨gb210, 0, none⟩ = some (.int .i64 t203) := (blk_cell BK210.out 0).trans rfl; have hcz26_1 : w23.cell? ⟨gb210, 1, none⟩ = some (.int .i64 t204) := (blk_cell BK210.out 1).trans rfl; have hcz26_2 : w23.cell? ⟨gb210, 2, none⟩ = some (.int .i64 t205) := (blk_cell BK210.out 2).trans rfl; have hcz26_3 : w23.cell? ⟨gb210, 3, none⟩ = some (.string t206) := (blk_cell BK210.out 3).trans rfl; have hcz26_4 : w23.cell? ⟨gb210, 4, none⟩ = some (.int .i64 t207) := (blk_cell BK210.out 4).trans rfl; have hcz26_5 : w23.cell? ⟨gb210, 5, none⟩ = some (.int .i64 t208) := (blk_cell BK210.out 5).trans rfl; have hcz26_6 : w23.cell? ⟨gb210, 6, none⟩ = some (.int .i64 t209) := (blk_cell BK210.out 6).trans rfl; have hfz26_0 := blk_frozen BK210.out 0; have hfz26_1 := blk_frozen BK210.out 1; have hfz26_2 := blk_frozen BK210.out 2; have hfz26_3 := blk_frozen BK210.out 3; have hfz26_4 := blk_frozen BK210.out 4; have hfz26_5 := blk_frozen BK210.out 5; have hfz26_6 := blk_frozen BK210.out 6))
        go_roundg k1
        case measure => have := HK1.out; omega
        case rel => exact ⟨(wrap64 (x5_1 + 1)), (by first | rfl | (simp; done) | exact congrArg Value.bool (ne_nil_b _) | exact congrArg Value.bool (eq_nil_b _) | (simp [*]; done)), H', ⟨by have := HK1.out; omega⟩, ⟨by (with_reducible repeat (first | refine blk_drewN ?_ _ | refine blk_drew ?_ | refine blk_alloc ?_ _)); refine blk_far ?_ NB210_213.out _; (with_reducible repeat (first | refine blk_drewN ?_ _ | refine blk_drew ?_ | refine blk_alloc ?_ _)); refine blk_far ?_ NB210_213.out _; (with_reducible repeat (first | refine blk_drewN ?_ _ | refine blk_drew ?_ | refine blk_alloc ?_ _)); refine blk_far ?_ NB210_213.out _; (with_reducible repeat (first | refine blk_drewN ?_ _ | refine blk_drew ?_ | refine blk_alloc ?_ _)); refine blk_far ?_ NB210_213.out _; (with_reducible repeat (first | refine blk_drewN ?_ _ | refine blk_drew ?_ | refine blk_alloc ?_ _)); refine blk_far ?_ NB210_213.out _; (with_reducible repeat (first | refine blk_drewN ?_ _ | refine blk_drew ?_ | refine blk_alloc ?_ _)); refine blk_far ?_ NB210_213.out _; (with_reducible repeat (first | refine blk_drewN ?_ _ | refine blk_drew ?_ | refine blk_alloc ?_ _)); refine blk_far ?_ NB210_213.out _; (with_reducible repeat (first | refine blk_drewN ?_ _ | refine blk_drew ?_ | refine blk_alloc ?_ _)); refine blk_far ?_ NB210_213.out _; (with_reducible repeat (first | refine blk_drewN ?_ _ | refine blk_drew ?_ | refine blk_alloc ?_ _)); exact BK210.out⟩, ⟨bz⟩⟩
       ·
        rw [if_neg c21] at H
        have c21b0 : (x5_1 == t203) = false := beq_eq_false_iff_ne.mpr c21
        have c21b1 : (x5_1 != t203) = true := bne_iff_ne.mpr c21
        replace H := Option.bind_eq_some_iff.mp H
        obtain ⟨t214, A270, H⟩ := H
        try dsimp only at H
        have A27 := Aside0.mk A270
        clear A270
        by_cases c28 : t214 = true
        ·
         subst c28
         rw [if_pos rfl] at H
         obtain rfl := Option.some.inj H
         have hcz29_0 : wr.cell? ⟨gb210, 0, none⟩ = some (.int .i64 t203) := (blk_cell BK210.out 0).trans rfl
         have hcz29_1 : wr.cell? ⟨gb210, 1, none⟩ = some (.int .i64 t204) := (blk_cell BK210.out 1).trans rfl
         have hcz29_2 : wr.cell? ⟨gb210, 2, none⟩ = some (.int .i64 t205) := (blk_cell BK210.out 2).trans rfl
         have hcz29_3 : wr.cell? ⟨gb210, 3, none⟩ = some (.string t206) := (blk_cell BK210.out 3).trans rfl
         have hcz29_4 : wr.cell? ⟨gb210, 4, none⟩ = some (.int .i64 t207) := (blk_cell BK210.out 4).trans rfl
         have hcz29_5 : wr.cell? ⟨gb210, 5, none⟩ = some (.int .i64 t208) := (blk_cell BK210.out 5).trans rfl
         have hcz29_6 : wr.cell? ⟨gb210, 6, none⟩ = some (.int .i64 t209) := (blk_cell BK210.out 6).trans rfl
         have hfz29_0 := blk_frozen BK210.out 0
         have hfz29_1 := blk_frozen BK210.out 1
         have hfz29_2 := blk_frozen BK210.out 2
         have hfz29_3 := blk_frozen BK210.out 3
         have hfz29_4 := blk_frozen BK210.out 4
         have hfz29_5 := blk_frozen BK210.out 5
         have hfz29_6 := blk_frozen BK210.out 6
         go_wp2_with (first | ((with_reducible refine gate_dst (N := 6) rfl ?_); refine box_event ?hg (N := 6) ?hd (cs := #[.int .i64 0, .int .i64 0, .int .i64 0, .string (⟨#[]⟩ : ByteArray), .int .i64 0, .int .i64 0, .int .i64 0]) (t := 26) ?hr ?_; (case hd => rfl); (case hg => rfl); (case hr => first | (go_simp; done) | (go_simp; rfl)); intro gb213 hg w30 hbox hb; have n0_ := bkb BK210 hb; have n1_ := Aside0.mk (below_step (bz) hb); have n2_ := Aside0.mk (hbox); have n3_ : Aside0 (w.heap.size ≤ gb213) := bsg hg; have n4_ : Aside0 (w.heap.size ≤ gb213) := bsg hg; have n5_ := nlt hg BK210; have n6_ := ngt hg BK210; clear BK210; clear HB; have BK210 := n0_; have HB := n1_; have BK213 := n2_; have GW213 := n3_; have GE213 := n4_; have NB210_213 := n5_; have NB213_210 := n6_; clear n0_ n1_ n2_ n3_ n4_ n5_ n6_; clear hb hbox hg; have hnb31 := NB213_210.out; have hnc31 := NB210_213.out; have hcz32_0 : w30.cell? ⟨gb213, 0, none⟩ = some (.int .i64 0) := (blk_cell BK213.out 0).trans rfl; have hcz32_1 : w30.cell? ⟨gb213, 1, none⟩ = some (.int .i64 0) := (blk_cell BK213.out 1).trans rfl; have hcz32_2 : w30.cell? ⟨gb213, 2, none⟩ = some (.int .i64 0) := (blk_cell BK213.out 2).trans rfl; have hcz32_3 : w30.cell? ⟨gb213, 3, none⟩ = some (.string (⟨#[]⟩ : ByteArray)) := (blk_cell BK213.out 3).trans rfl; have hcz32_4 : w30.cell? ⟨gb213, 4, none⟩ = some (.int .i64 0) := (blk_cell BK213.out 4).trans rfl; have hcz32_5 : w30.cell? ⟨gb213, 5, none⟩ = some (.int .i64 0) := (blk_cell BK213.out 5).trans rfl; have hcz32_6 : w30.cell? ⟨gb213, 6, none⟩ = some (.int .i64 0) := (blk_cell BK213.out 6).trans rfl; have hfz32_0 := blk_frozen BK213.out 0; have hfz32_1 := blk_frozen BK213.out 1; have hfz32_2 := blk_frozen BK213.out 2; have hfz32_3 := blk_frozen BK213.out 3; have hfz32_4 := blk_frozen BK213.out 4; have hfz32_5 := blk_frozen BK213.out 5; have hfz32_6 := blk_frozen BK213.out 6; have hcz33_0 : w30.cell? ⟨gb210, 0, none⟩ = some (.int .i64 t203) := (blk_cell BK210.out 0).trans rfl; have hcz33_1 : w30.cell? ⟨gb210, 1, none⟩ = some (.int .i64 t204) := (blk_cell BK210.out 1).trans rfl; have hcz33_2 : w30.cell? ⟨gb210, 2, none⟩ = some (.int .i64 t205) := (blk_cell BK210.out 2).trans rfl; have hcz33_3 : w30.cell? ⟨gb210, 3, none⟩ = some (.string t206) := (blk_cell BK210.out 3).trans rfl; have hcz33_4 : w30.cell? ⟨gb210, 4, none⟩ = some (.int .i64 t207) := (blk_cell BK210.out 4).trans rfl; have hcz33_5 : w30.cell? ⟨gb210, 5, none⟩ = some (.int .i64 t208) := (blk_cell BK210.out 5).trans rfl; have hcz33_6 : w30.cell? ⟨gb210, 6, none⟩ = some (.int .i64 t209) := (blk_cell BK210.out 6).trans rfl; have hfz33_0 := blk_frozen BK210.out 0; have hfz33_1 := blk_frozen BK210.out 1; have hfz33_2 := blk_frozen BK210.out 2; have hfz33_3 := blk_frozen BK210.out 3; have hfz33_4 := blk_frozen BK210.out 4; have hfz33_5 := blk_frozen BK210.out 5; have hfz33_6 := blk_frozen BK210.out 6) | (go_at_call 18; (with_reducible refine (impl_PlanValid.calls k1 x5_1 t204 t205 t206 t207 t208 t209 true _ A27.out).mono ?_); rintro e w34 ⟨rfl, hb⟩; have n0_ := Aside0.mk (blk_below (g := gb210) (o := .cells #[.int .i64 t203, .int .i64 t204, .int .i64 t205, .string t206, .int .i64 t207, .int .i64 t208, .int .i64 t209] 26 (0, 0)) (by (with_reducible repeat (first | refine blk_drewN ?_ _ | refine blk_drew ?_ | refine blk_alloc ?_ _)); refine blk_far ?_ NB210_213.out _; (with_reducible repeat (first | refine blk_drewN ?_ _ | refine blk_drew ?_ | refine blk_alloc ?_ _)); refine blk_far ?_ NB210_213.out _; (with_reducible repeat (first | refine blk_drewN ?_ _ | refine blk_drew ?_ | refine blk_alloc ?_ _)); refine blk_far ?_ NB210_213.out _; (with_reducible repeat (first | refine blk_drewN ?_ _ | refine blk_drew ?_ | refine blk_alloc ?_ _)); refine blk_far ?_ NB210_213.out _; (with_reducible repeat (first | refine blk_drewN ?_ _ | refine blk_drew ?_ | refine blk_alloc ?_ _)); refine blk_far ?_ NB210_213.out _; (with_reducible repeat (first | refine blk_drewN ?_ _ | refine blk_drew ?_ | refine blk_alloc ?_ _)); refine blk_far ?_ NB210_213.out _; (with_reducible repeat (first | refine blk_drewN ?_ _ | refine blk_drew ?_ | refine blk_alloc ?_ _)); refine blk_far ?_ NB210_213.out _; (with_reducible repeat (first | refine blk_drewN ?_ _ | refine blk_drew ?_ | refine blk_alloc ?_ _)); refine blk_far ?_ NB210_213.out _; (with_reducible repeat (first | refine blk_drewN ?_ _ | refine blk_drew ?_ | refine blk_alloc ?_ _)); exact BK210.out) hb); have n1_ := Aside0.mk (blk_below (g := gb213) (o := .cells #[.int .i64 x5_1, .int .i64 t204, .int .i64 t205, .string t206, .int .i64 t207, .int .i64 t208, .int .i64 t209] 26 (0, 0)) (by (with_reducible repeat (first | refine blk_drewN ?_ _ | refine blk_drew ?_ | refine blk_alloc ?_ _)); refine blk_put (cs := #[.int .i64 t203, .int .i64 t204, .int .i64 t205, .string t206, .int .i64 t207, .int .i64 t208, .int .i64 t209]) ?_ 0 _ rfl; (with_reducible repeat (first | refine blk_drewN ?_ _ | refine blk_drew ?_ | refine blk_alloc ?_ _)); refine blk_put (cs := #[.int .i64 t203, .int .i64 t204, .int .i64 t205, .string t206, .int .i64 t207, .int .i64 t208, .int .i64 0]) ?_ 6 _ rfl; (with_reducible repeat (first | refine blk_drewN ?_ _ | refine blk_drew ?_ | refine blk_alloc ?_ _)); refine blk_put (cs := #[.int .i64 t203, .int .i64 t204, .int .i64 t205, .string t206, .int .i64 t207, .int .i64 0, .int .i64 0]) ?_ 5 _ rfl; (with_reducible repeat (first | refine blk_drewN ?_ _ | refine blk_drew ?_ | refine blk_alloc ?_ _)); refine blk_put (cs := #[.int .i64 t203, .int .i64 t204, .int .i64 t205, .string t206, .int .i64 0, .int .i64 0, .int .i64 0]) ?_ 4 _ rfl; (with_reducible repeat (first | refine blk_drewN ?_ _ | refine blk_drew ?_ | refine blk_alloc ?_ _)); refine blk_put (cs := #[.int .i64 t203, .int .i64 t204, .int .i64 t205, .string (⟨#[]⟩ : ByteArray), .int .i64 0, .int .i64 0, .int .i64 0]) ?_ 3 _ rfl; (with_reducible repeat (first | refine blk_drewN ?_ _ | refine blk_drew ?_ | refine blk_alloc ?_ _)); refine blk_put (cs := #[.int .i64 t203, .int .i64 t204, .int .i64 0, .string (⟨#[]⟩ : ByteArray), .int .i64 0, .int .i64 0, .int .i64 0]) ?_ 2 _ rfl; (with_reducible repeat (first | refine blk_drewN ?_ _ | refine blk_drew ?_ | refine blk_alloc ?_ _)); refine blk_put (cs := #[.int .i64 t203, .int .i64 0, .int .i64 0, .string (⟨#[]⟩ : ByteArray), .int .i64 0, .int .i64 0, .int .i64 0]) ?_ 1 _ rfl; (with_reducible repeat (first | refine blk_drewN ?_ _ | refine blk_drew ?_ | refine blk_alloc ?_ _)); refine blk_put (cs := #[.int .i64 0, .int .i64 0, .int .i64 0, .string (⟨#[]⟩ : ByteArray), .int .i64 0, .int .i64 0, .int .i64 0]) ?_ 0 _ rfl; (with_reducible repeat (first | refine blk_drewN ?_ _ | refine blk_drew ?_ | refine blk_alloc ?_ _)); exact BK213.out) hb); have n2_ := Aside0.mk (below_step (bz) hb); clear BK210; clear BK213; clear HB; have BK210 := n0_; have BK213 := n1_; have HB := n2_; clear n0_ n1_ n2_; (try clear hb); (try clear hb2); (try clear hk); (try clear hi)))
         go_ret
         exact ⟨by first | rfl | (simp only [u8w, w64m]; rfl) | (simp [errW_none, errW_some] <;> rfl) | (simp [*, errW_none, errW_some] <;> rfl), bz⟩
        ·
         replace c28 := Bool.eq_false_iff.mpr c28
         subst c28
         rw [if_neg (show ¬ (false = true) by decide)] at H
         have H' := Aside0.mk H
         clear H
         have hcz35_0 : wr.cell? ⟨gb210, 0, none⟩ = some (.int .i64 t203) := (blk_cell BK210.out 0).trans rfl
         have hcz35_1 : wr.cell? ⟨gb210, 1, none⟩ = some (.int .i64 t204) := (blk_cell BK210.out 1).trans rfl
         have hcz35_2 : wr.cell? ⟨gb210, 2, none⟩ = some (.int .i64 t205) := (blk_cell BK210.out 2).trans rfl
         have hcz35_3 : wr.cell? ⟨gb210, 3, none⟩ = some (.string t206) := (blk_cell BK210.out 3).trans rfl
         have hcz35_4 : wr.cell? ⟨gb210, 4, none⟩ = some (.int .i64 t207) := (blk_cell BK210.out 4).trans rfl
         have hcz35_5 : wr.cell? ⟨gb210, 5, none⟩ = some (.int .i64 t208) := (blk_cell BK210.out 5).trans rfl
         have hcz35_6 : wr.cell? ⟨gb210, 6, none⟩ = some (.int .i64 t209) := (blk_cell BK210.out 6).trans rfl
         have hfz35_0 := blk_frozen BK210.out 0
         have hfz35_1 := blk_frozen BK210.out 1
         have hfz35_2 := blk_frozen BK210.out 2
         have hfz35_3 := blk_frozen BK210.out 3
         have hfz35_4 := blk_frozen BK210.out 4
         have hfz35_5 := blk_frozen BK210.out 5
         have hfz35_6 := blk_frozen BK210.out 6
         go_wp2_with (first | ((with_reducible refine gate_dst (N := 6) rfl ?_); refine box_event ?hg (N := 6) ?hd (cs := #[.int .i64 0, .int .i64 0, .int .i64 0, .string (⟨#[]⟩ : ByteArray), .int .i64 0, .int .i64 0, .int .i64 0]) (t := 26) ?hr ?_; (case hd => rfl); (case hg => rfl); (case hr => first | (go_simp; done) | (go_simp; rfl)); intro gb213 hg w36 hbox hb; have n0_ := bkb BK210 hb; have n1_ := Aside0.mk (below_step (bz) hb); have n2_ := Aside0.mk (hbox); have n3_ : Aside0 (w.heap.size ≤ gb213) := bsg hg; have n4_ : Aside0 (w.heap.size ≤ gb213) := bsg hg; have n5_ := nlt hg BK210; have n6_ := ngt hg BK210; clear BK210; clear HB; have BK210 := n0_; have HB := n1_; have BK213 := n2_; have GW213 := n3_; have GE213 := n4_; have NB210_213 := n5_; have NB213_210 := n6_; clear n0_ n1_ n2_ n3_ n4_ n5_ n6_; clear hb hbox hg; have hnb37 := NB213_210.out; have hnc37 := NB210_213.out; have hcz38_0 : w36.cell? ⟨gb213, 0, none⟩ = some (.int .i64 0) := (blk_cell BK213.out 0).trans rfl; have hcz38_1 : w36.cell? ⟨gb213, 1, none⟩ = some (.int .i64 0) := (blk_cell BK213.out 1).trans rfl; have hcz38_2 : w36.cell? ⟨gb213, 2, none⟩ = some (.int .i64 0) := (blk_cell BK213.out 2).trans rfl; have hcz38_3 : w36.cell? ⟨gb213, 3, none⟩ = some (.string (⟨#[]⟩ : ByteArray)) := (blk_cell BK213.out 3).trans rfl; have hcz38_4 : w36.cell? ⟨gb213, 4, none⟩ = some (.int .i64 0) := (blk_cell BK213.out 4).trans rfl; have hcz38_5 : w36.cell? ⟨gb213, 5, none⟩ = some (.int .i64 0) := (blk_cell BK213.out 5).trans rfl; have hcz38_6 : w36.cell? ⟨gb213, 6, none⟩ = some (.int .i64 0) := (blk_cell BK213.out 6).trans rfl; have hfz38_0 := blk_frozen BK213.out 0; have hfz38_1 := blk_frozen BK213.out 1; have hfz38_2 := blk_frozen BK213.out 2; have hfz38_3 := blk_frozen BK213.out 3; have hfz38_4 := blk_frozen BK213.out 4; have hfz38_5 := blk_frozen BK213.out 5; have hfz38_6 := blk_frozen BK213.out 6; have hcz39_0 : w36.cell? ⟨gb210, 0, none⟩ = some (.int .i64 t203) := (blk_cell BK210.out 0).trans rfl; have hcz39_1 : w36.cell? ⟨gb210, 1, none⟩ = some (.int .i64 t204) := (blk_cell BK210.out 1).trans rfl; have hcz39_2 : w36.cell? ⟨gb210, 2, none⟩ = some (.int .i64 t205) := (blk_cell BK210.out 2).trans rfl; have hcz39_3 : w36.cell? ⟨gb210, 3, none⟩ = some (.string t206) := (blk_cell BK210.out 3).trans rfl; have hcz39_4 : w36.cell? ⟨gb210, 4, none⟩ = some (.int .i64 t207) := (blk_cell BK210.out 4).trans rfl; have hcz39_5 : w36.cell? ⟨gb210, 5, none⟩ = some (.int .i64 t208) := (blk_cell BK210.out 5).trans rfl; have hcz39_6 : w36.cell? ⟨gb210, 6, none⟩ = some (.int .i64 t209) := (blk_cell BK210.out 6).trans rfl; have hfz39_0 := blk_frozen BK210.out 0; have hfz39_1 := blk_frozen BK210.out 1; have hfz39_2 := blk_frozen BK210.out 2; have hfz39_3 := blk_frozen BK210.out 3; have hfz39_4 := blk_frozen BK210.out 4; have hfz39_5 := blk_frozen BK210.out 5; have hfz39_6 := blk_frozen BK210.out 6) | (go_at_call 18; (with_reducible refine (impl_PlanValid.calls k1 x5_1 t204 t205 t206 t207 t208 t209 false _ A27.out).mono ?_); rintro e w40 ⟨rfl, hb⟩; have n0_ := Aside0.mk (blk_below (g := gb210) (o := .cells #[.int .i64 t203, .int .i64 t204, .int .i64 t205, .string t206, .int .i64 t207, .int .i64 t208, .int .i64 t209] 26 (0, 0)) (by (with_reducible repeat (first | refine blk_drewN ?_ _ | refine blk_drew ?_ | refine blk_alloc ?_ _)); refine blk_far ?_ NB210_213.out _; (with_reducible repeat (first | refine blk_drewN ?_ _ | refine blk_drew ?_ | refine blk_alloc ?_ _)); refine blk_far ?_ NB210_213.out _; (with_reducible repeat (first | refine blk_drewN ?_ _ | refine blk_drew ?_ | refine blk_alloc ?_ _)); refine blk_far ?_ NB210_213.out _; (with_reducible repeat (first | refine blk_drewN ?_ _ | refine blk_drew ?_ | refine blk_alloc ?_ _)); refine blk_far ?_ NB210_213.out _; (with_reducible repeat (first | refine blk_drewN ?_ _ | refine blk_drew ?_ | refine blk_alloc ?_ _)); refine blk_far ?_ NB210_213.out _; (with_reducible repeat (first | refine blk_drewN ?_ _ | refine blk_drew ?_ | refine blk_alloc ?_ _)); refine blk_far ?_ NB210_213.out _; (with_reducible repeat (first | refine blk_drewN ?_ _ | refine blk_drew ?_ | refine blk_alloc ?_ _)); refine blk_far ?_ NB210_213.out _; (with_reducible repeat (first | refine blk_drewN ?_ _ | refine blk_drew ?_ | refine blk_alloc ?_ _)); refine blk_far ?_ NB210_213.out _; (with_reducible repeat (first | refine blk_drewN ?_ _ | refine blk_drew ?_ | refine blk_alloc ?_ _)); exact BK210.out) hb); have n1_ := Aside0.mk (blk_below (g := gb213) (o := .cells #[.int .i64 x5_1, .int .i64 t204, .int .i64 t205, .string t206, .int .i64 t207, .int .i64 t208, .int .i64 t209] 26 (0, 0)) (by (with_reducible repeat (first | refine blk_drewN ?_ _ | refine blk_drew ?_ | refine blk_alloc ?_ _)); refine blk_put (cs := #[.int .i64 t203, .int .i64 t204, .int .i64 t205, .string t206, .int .i64 t207, .int .i64 t208, .int .i64 t209]) ?_ 0 _ rfl; (with_reducible repeat (first | refine blk_drewN ?_ _ | refine blk_drew ?_ | refine blk_alloc ?_ _)); refine blk_put (cs := #[.int .i64 t203, .int .i64 t204, .int .i64 t205, .string t206, .int .i64 t207, .int .i64 t208, .int .i64 0]) ?_ 6 _ rfl; (with_reducible repeat (first | refine blk_drewN ?_ _ | refine blk_drew ?_ | refine blk_alloc ?_ _)); refine blk_put (cs := #[.int .i64 t203, .int .i64 t204, .int .i64 t205, .string t206, .int .i64 t207, .int .i64 0, .int .i64 0]) ?_ 5 _ rfl; (with_reducible repeat (first | refine blk_drewN ?_ _ | refine blk_drew ?_ | refine blk_alloc ?_ _)); refine blk_put (cs := #[.int .i64 t203, .int .i64 t204, .int .i64 t205, .string t206, .int .i64 0, .int .i64 0, .int .i64 0]) ?_ 4 _ rfl; (with_reducible repeat (first | refine blk_drewN ?_ _ | refine blk_drew ?_ | refine blk_alloc ?_ _)); refine blk_put (cs := #[.int .i64 t203, .int .i64 t204, .int .i64 t205, .string (⟨#[]⟩ : ByteArray), .int .i64 0, .int .i64 0, .int .i64 0]) ?_ 3 _ rfl; (with_reducible repeat (first | refine blk_drewN ?_ _ | refine blk_drew ?_ | refine blk_alloc ?_ _)); refine blk_put (cs := #[.int .i64 t203, .int .i64 t204, .int .i64 0, .string (⟨#[]⟩ : ByteArray), .int .i64 0, .int .i64 0, .int .i64 0]) ?_ 2 _ rfl; (with_reducible repeat (first | refine blk_drewN ?_ _ | refine blk_drew ?_ | refine blk_alloc ?_ _)); refine blk_put (cs := #[.int .i64 t203, .int .i64 0, .int .i64 0, .string (⟨#[]⟩ : ByteArray), .int .i64 0, .int .i64 0, .int .i64 0]) ?_ 1 _ rfl; (with_reducible repeat (first | refine blk_drewN ?_ _ | refine blk_drew ?_ | refine blk_alloc ?_ _)); refine blk_put (cs := #[.int .i64 0, .int .i64 0, .int .i64 0, .string (⟨#[]⟩ : ByteArray), .int .i64 0, .int .i64 0, .int .i64 0]) ?_ 0 _ rfl; (with_reducible repeat (first | refine blk_drewN ?_ _ | refine blk_drew ?_ | refine blk_alloc ?_ _)); exact BK213.out) hb); have n2_ := Aside0.mk (below_step (bz) hb); clear BK210; clear BK213; clear HB; have BK210 := n0_; have BK213 := n1_; have HB := n2_; clear n0_ n1_ n2_; (try clear hb); (try clear hb2); (try clear hk); (try clear hi)))
         go_roundg k1
         case measure => have := HK1.out; omega
         case rel => exact ⟨(wrap64 (x5_1 + 1)), (by first | rfl | (simp; done) | exact congrArg Value.bool (ne_nil_b _) | exact congrArg Value.bool (eq_nil_b _) | (simp [*]; done)), H', ⟨by have := HK1.out; omega⟩, ⟨by (with_reducible repeat (first | refine blk_drewN ?_ _ | refine blk_drew ?_ | refine blk_alloc ?_ _)); exact BK210.out⟩, ⟨bz⟩⟩
      ·
       replace c20 := Bool.eq_false_iff.mpr c20
       subst c20
       rw [if_neg (show ¬ (false = true) by decide)] at H
       have H' := Aside0.mk H
       clear H
       have hcz41_0 : wr.cell? ⟨gb210, 0, none⟩ = some (.int .i64 t203) := (blk_cell BK210.out 0).trans rfl
       have hcz41_1 : wr.cell? ⟨gb210, 1, none⟩ = some (.int .i64 t204) := (blk_cell BK210.out 1).trans rfl
       have hcz41_2 : wr.cell? ⟨gb210, 2, none⟩ = some (.int .i64 t205) := (blk_cell BK210.out 2).trans rfl
       have hcz41_3 : wr.cell? ⟨gb210, 3, none⟩ = some (.string t206) := (blk_cell BK210.out 3).trans rfl
       have hcz41_4 : wr.cell? ⟨gb210, 4, none⟩ = some (.int .i64 t207) := (blk_cell BK210.out 4).trans rfl
       have hcz41_5 : wr.cell? ⟨gb210, 5, none⟩ = some (.int .i64 t208) := (blk_cell BK210.out 5).trans rfl
       have hcz41_6 : wr.cell? ⟨gb210, 6, none⟩ = some (.int .i64 t209) := (blk_cell BK210.out 6).trans rfl
       have hfz41_0 := blk_frozen BK210.out 0
       have hfz41_1 := blk_frozen BK210.out 1
       have hfz41_2 := blk_frozen BK210.out 2
       have hfz41_3 := blk_frozen BK210.out 3
       have hfz41_4 := blk_frozen BK210.out 4
       have hfz41_5 := blk_frozen BK210.out 5
       have hfz41_6 := blk_frozen BK210.out 6
       go_wp2_with (first | ((with_reducible refine gate_dst (N := 6) rfl ?_); refine box_event ?hg (N := 6) ?hd (cs := #[.int .i64 0, .int .i64 0, .int .i64 0, .string (⟨#[]⟩ : ByteArray), .int .i64 0, .int .i64 0, .int .i64 0]) (t := 26) ?hr ?_; (case hd => rfl); (case hg => rfl); (case hr => first | (go_simp; done) | (go_simp; rfl)); intro gb213 hg w42 hbox hb; have n0_ := bkb BK210 hb; have n1_ := Aside0.mk (below_step (bz) hb); have n2_ := Aside0.mk (hbox); have n3_ : Aside0 (w.heap.size ≤ gb213) := bsg hg; have n4_ : Aside0 (w.heap.size ≤ gb213) := bsg hg; have n5_ := nlt hg BK210; have n6_ := ngt hg BK210; clear BK210; clear HB; have BK210 := n0_; have HB := n1_; have BK213 := n2_; have GW213 := n3_; have GE213 := n4_; have NB210_213 := n5_; have NB213_210 := n6_; clear n0_ n1_ n2_ n3_ n4_ n5_ n6_; clear hb hbox hg; have hnb43 := NB213_210.out; have hnc43 := NB210_213.out; have hcz44_0 : w42.cell? ⟨gb213, 0, none⟩ = some (.int .i64 0) := (blk_cell BK213.out 0).trans rfl; have hcz44_1 : w42.cell? ⟨gb213, 1, none⟩ = some (.int .i64 0) := (blk_cell BK213.out 1).trans rfl; have hcz44_2 : w42.cell? ⟨gb213, 2, none⟩ = some (.int .i64 0) := (blk_cell BK213.out 2).trans rfl; have hcz44_3 : w42.cell? ⟨gb213, 3, none⟩ = some (.string (⟨#[]⟩ : ByteArray)) := (blk_cell BK213.out 3).trans rfl; have hcz44_4 : w42.cell? ⟨gb213, 4, none⟩ = some (.int .i64 0) := (blk_cell BK213.out 4).trans rfl; have hcz44_5 : w42.cell? ⟨gb213, 5, none⟩ = some (.int .i64 0) := (blk_cell BK213.out 5).trans rfl; have hcz44_6 : w42.cell? ⟨gb213, 6, none⟩ = some (.int .i64 0) := (blk_cell BK213.out 6).trans rfl; have hfz44_0 := blk_frozen BK213.out 0; have hfz44_1 := blk_frozen BK213.out 1; have hfz44_2 := blk_frozen BK213.out 2; have hfz44_3 := blk_frozen BK213.out 3; have hfz44_4 := blk_frozen BK213.out 4; have hfz44_5 := blk_frozen BK213.out 5; have hfz44_6 := blk_frozen BK213.out 6))
       go_roundg k1
       case measure => have := HK1.out; omega
       case rel => exact ⟨(wrap64 (x5_1 + 1)), (by first | rfl | (simp; done) | exact congrArg Value.bool (ne_nil_b _) | exact congrArg Value.bool (eq_nil_b _) | (simp [*]; done)), H', ⟨by have := HK1.out; omega⟩, ⟨by (with_reducible repeat (first | refine blk_drewN ?_ _ | refine blk_drew ?_ | refine blk_alloc ?_ _)); refine blk_far ?_ NB210_213.out _; (with_reducible repeat (first | refine blk_drewN ?_ _ | refine blk_drew ?_ | refine blk_alloc ?_ _)); refine blk_far ?_ NB210_213.out _; (with_reducible repeat (first | refine blk_drewN ?_ _ | refine blk_drew ?_ | refine blk_alloc ?_ _)); refine blk_far ?_ NB210_213.out _; (with_reducible repeat (first | refine blk_drewN ?_ _ | refine blk_drew ?_ | refine blk_alloc ?_ _)); refine blk_far ?_ NB210_213.out _; (with_reducible repeat (first | refine blk_drewN ?_ _ | refine blk_drew ?_ | refine blk_alloc ?_ _)); refine blk_far ?_ NB210_213.out _; (with_reducible repeat (first | refine blk_drewN ?_ _ | refine blk_drew ?_ | refine blk_alloc ?_ _)); refine blk_far ?_ NB210_213.out _; (with_reducible repeat (first | refine blk_drewN ?_ _ | refine blk_drew ?_ | refine blk_alloc ?_ _)); refine blk_far ?_ NB210_213.out _; (with_reducible repeat (first | refine blk_drewN ?_ _ | refine blk_drew ?_ | refine blk_alloc ?_ _)); refine blk_far ?_ NB210_213.out _; (with_reducible repeat (first | refine blk_drewN ?_ _ | refine blk_drew ?_ | refine blk_alloc ?_ _)); exact BK210.out⟩, ⟨bz⟩⟩
     ·
      rw [if_neg c19] at H
      have c19b0 : decide (x5_1 ≤ 4) = false := decide_eq_false c19
      clear c19
      replace H := Option.bind_eq_some_iff.mp H
      obtain ⟨t215, A450, H⟩ := H
      try dsimp only at H
      have A45 := Aside0.mk A450
      clear A450
      by_cases c46 : t215 = true
      ·
       subst c46
       rw [if_pos rfl] at H
       obtain rfl := Option.some.inj H
       have hcz47_0 : wr.cell? ⟨gb210, 0, none⟩ = some (.int .i64 t203) := (blk_cell BK210.out 0).trans rfl
       have hcz47_1 : wr.cell? ⟨gb210, 1, none⟩ = some (.int .i64 t204) := (blk_cell BK210.out 1).trans rfl
       have hcz47_2 : wr.cell? ⟨gb210, 2, none⟩ = some (.int .i64 t205) := (blk_cell BK210.out 2).trans rfl
       have hcz47_3 : wr.cell? ⟨gb210, 3, none⟩ = some (.string t206) := (blk_cell BK210.out 3).trans rfl
       have hcz47_4 : wr.cell? ⟨gb210, 4, none⟩ = some (.int .i64 t207) := (blk_cell BK210.out 4).trans rfl
       have hcz47_5 : wr.cell? ⟨gb210, 5, none⟩ = some (.int .i64 t208) := (blk_cell BK210.out 5).trans rfl
       have hcz47_6 : wr.cell? ⟨gb210, 6, none⟩ = some (.int .i64 t209) := (blk_cell BK210.out 6).trans rfl
       have hfz47_0 := blk_frozen BK210.out 0
       have hfz47_1 := blk_frozen BK210.out 1
       have hfz47_2 := blk_frozen BK210.out 2
       have hfz47_3 := blk_frozen BK210.out 3
       have hfz47_4 := blk_frozen BK210.out 4
       have hfz47_5 := blk_frozen BK210.out 5
       have hfz47_6 := blk_frozen BK210.out 6
       go_wp2_with (first | ((with_reducible refine gate_callee (f := 18) rfl ?_); refine goesL_ (some 41) rfl rfl Try.func18 (by kernel_rfl) rfl #[.agg #[.int .i64 2, .int .i64 t204, .int .i64 t204, .string (⟨#[]⟩ : ByteArray), .int .i64 0, .int .i64 0, .int .i64 0]] rfl (by (try simp only [List.map_toArray, List.map_cons, List.map_nil]); first | done | rfl | (simp only [List.length_drop, List.length_take]; rfl)) ?_; (with_reducible refine (impl_PlanValid.calls k1 2 t204 t204 (⟨#[]⟩ : ByteArray) 0 0 0 true _ A45.out).mono ?_); rintro e w48 ⟨rfl, hb⟩; refine ⟨_, rfl, ?_⟩; have n0_ := bkb BK210 hb; have n1_ := Aside0.mk (below_step (bz) hb); clear BK210; clear HB; have BK210 := n0_; have HB := n1_; clear n0_ n1_; (try clear hb); (try clear hb2); (try clear hk); (try clear hi)))
       go_ret
       exact ⟨by first | rfl | (simp only [u8w, w64m]; rfl) | (simp [errW_none, errW_some] <;> rfl) | (simp [*, errW_none, errW_some] <;> rfl), bz⟩
      ·
       replace c46 := Bool.eq_false_iff.mpr c46
       subst c46
       rw [if_neg (show ¬ (false = true) by decide)] at H
       replace H := Option.bind_eq_some_iff.mp H
       obtain ⟨t216, A490, H⟩ := H
       try dsimp only at H
       have A49 := Aside0.mk A490
       clear A490
       obtain rfl := Option.some.inj H
       have hcz50_0 : wr.cell? ⟨gb210, 0, none⟩ = some (.int .i64 t203) := (blk_cell BK210.out 0).trans rfl
       have hcz50_1 : wr.cell? ⟨gb210, 1, none⟩ = some (.int .i64 t204) := (blk_cell BK210.out 1).trans rfl
       have hcz50_2 : wr.cell? ⟨gb210, 2, none⟩ = some (.int .i64 t205) := (blk_cell BK210.out 2).trans rfl
       have hcz50_3 : wr.cell? ⟨gb210, 3, none⟩ = some (.string t206) := (blk_cell BK210.out 3).trans rfl
       have hcz50_4 : wr.cell? ⟨gb210, 4, none⟩ = some (.int .i64 t207) := (blk_cell BK210.out 4).trans rfl
       have hcz50_5 : wr.cell? ⟨gb210, 5, none⟩ = some (.int .i64 t208) := (blk_cell BK210.out 5).trans rfl
       have hcz50_6 : wr.cell? ⟨gb210, 6, none⟩ = some (.int .i64 t209) := (blk_cell BK210.out 6).trans rfl
       have hfz50_0 := blk_frozen BK210.out 0
       have hfz50_1 := blk_frozen BK210.out 1
       have hfz50_2 := blk_frozen BK210.out 2
       have hfz50_3 := blk_frozen BK210.out 3
       have hfz50_4 := blk_frozen BK210.out 4
       have hfz50_5 := blk_frozen BK210.out 5
       have hfz50_6 := blk_frozen BK210.out 6
       go_wp2_with (first | ((with_reducible refine gate_callee (f := 18) rfl ?_); refine goesL_ (some 41) rfl rfl Try.func18 (by kernel_rfl) rfl #[.agg #[.int .i64 2, .int .i64 t204, .int .i64 t204, .string (⟨#[]⟩ : ByteArray), .int .i64 0, .int .i64 0, .int .i64 0]] rfl (by (try simp only [List.map_toArray, List.map_cons, List.map_nil]); first | done | rfl | (simp only [List.length_drop, List.length_take]; rfl)) ?_; (with_reducible refine (impl_PlanValid.calls k1 2 t204 t204 (⟨#[]⟩ : ByteArray) 0 0 0 false _ A45.out).mono ?_); rintro e w51 ⟨rfl, hb⟩; refine ⟨_, rfl, ?_⟩; have n0_ := bkb BK210 hb; have n1_ := Aside0.mk (below_step (bz) hb); clear BK210; clear HB; have BK210 := n0_; have HB := n1_; clear n0_ n1_; (try clear hb); (try clear hb2); (try clear hk); (try clear hi)) | (go_at_call 32; (with_reducible refine (laws_alive.calls k1  t216 _ A49.out).mono ?_); rintro e w52 ⟨rfl, hb⟩; have n0_ := bkb BK210 hb; have n1_ := Aside0.mk (below_step (bz) hb); clear BK210; clear HB; have BK210 := n0_; have HB := n1_; clear n0_ n1_; (try clear hb); (try clear hb2); (try clear hk); (try clear hi)))
       go_ret
       exact ⟨by first | rfl | (simp only [u8w, w64m]; rfl) | (simp [errW_none, errW_some] <;> rfl) | (simp [*, errW_none, errW_some] <;> rfl), bz⟩

/-- THE ONE PURE STATEMENT of laws_FnPlanValid: yours. -/
def laws_FnPlanValid.Pure : Prop := ∀ (l0 : List Int), l0.length ≤ maxLen → l0.length * 1 ≤ 140737488351232 → (∀ x ∈ l0, (Lit.int .u8 x).wf = true) → ∃ k, laws_FnPlanValid.f k l0 = some true
theorem laws_FnPlanValid.walk (P : laws_FnPlanValid.Pure) (a0 : Option Addr) (len0 cap0 : Nat) (z0 : List Int) (w : World) (w0 : (a0 = none ∧ len0 = 0 ∧ cap0 = 0 ∧ z0 = []) ∨ ∃ x, a0 = some x ∧ len0 ≤ cap0 ∧ cap0 ≤ maxLen ∧ z0.length = cap0 ∧ (∀ i, i < z0.length → w.cell? (x.add i) = some (.int .u8 (z0.getD i 0))) ∧ ∀ n ∈ z0, (Lit.int .u8 n).wf = true) (y0 : len0 * 1 ≤ 140737488351232) :
  Calls Try.prog 7 #[.slice a0 len0 cap0] w fun e w' => e = .returned (.bool true) ∧ Below w.heap.size w w' := by
 obtain ⟨l0, rfl, hr0, hm0, hw0, hc0⟩ := ReadsInt.ofRowC w0
 obtain ⟨k, h⟩ := P l0 hm0 y0 hw0
 refine (laws_FnPlanValid.calls k _ _ l0 true w (Kd.C_of_reads (d := (0 : Int)) (h1 := fun _ => rfl) hr0) hc0 h).mono ?_
 rintro e w' ⟨rfl, hd⟩
 exact ⟨rfl, hd⟩

end Go.Proofs.Ytoajkkfnblpnlaa.PFnPlanValid
