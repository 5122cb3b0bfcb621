/- Go functions as plain Lean functions, and for each a proof that its call comes to what the function says; under the conditions that each theorem names. Written by a program of this session. -/
import Derived.Test.YtkjkokljgbpbbaaPFnRequestOfx0
import Derived.Test.YtkjkokljgbpbbaaPFnRequestOfx3
import Derived.Test.YtkjkokljgbpbbaaPFnRequestOfx4
import Derived.Test.YtkjkokljgbpbbaaPFnRequestOfx10
namespace Go.Proofs.Ytkjkokljgbpbbaa.PFnRequestOf
open Go.RowKit Go.Proofs.YtkjkokljgbpbbaaW.PrintWords Go.Proofs.YtkjkokljgbpbbaaW.PrintLast Go.Proofs.YtkjkokljgbpbbaaW.PrintMore
attribute [local go_sem high] str_gtr str_leq str_geq
attribute [local go_sem] max2_int min2_int max_two min_two max_three min_three max_four min_four   -- for this text's walks alone
set_option linter.unusedVariables false
set_option linter.unusedSimpArgs false

/-! ### spec_DrawRequestOf: function 26 -/
def spec_DrawRequestOf.f (k : Nat) (l0 : List Int) : Option ((List (S35)) × Int × Bool × Int × ByteArray × Int × Int × Int × Int) := (spec_l20Open.f l0).bind fun bt328 => ((spec_l20Client.f k bt328.1 bt328.2 9).bind fun bt331 => ((spec_l20Rd_pick.f k bt328.1 bt331.2.2.2.2.2.2.2.2 5).bind fun bt343 => ((spec_l20Rd_pick.f k bt328.1 bt343.2 12).bind fun bt345 => (some (bt331.1, bt331.2.1, bt331.2.2.1, bt331.2.2.2.1, bt331.2.2.2.2.1, bt331.2.2.2.2.2.1, bt331.2.2.2.2.2.2.1, bt331.2.2.2.2.2.2.2.1, wrap64 (bt343.1 - (wrap64 (Int.tdiv bt345.1 11))))))))
theorem spec_DrawRequestOf.mono : ∀ a0 k, LeO (spec_DrawRequestOf.f k a0) (spec_DrawRequestOf.f (k + 1) a0) := by
 intro a0 k
 unfold spec_DrawRequestOf.f
 repeat' first
   | (with_reducible exact spec_l20Client.mono _ _ _ _)
   | (with_reducible exact spec_l20Rd_pick.mono _ _ _ _)
   | (with_reducible exact LeO.refl _)
   | (with_reducible exact LeO.none _)
   | (with_reducible refine LeO.ite ?_ ?_)
   | (with_reducible refine LeO.bind ?_ (fun _ => ?_))
   | exact spec_l20Client.mono _ _ _ _
   | exact spec_l20Rd_pick.mono _ _ _ _
   | exact LeO.none _
   | refine LeO.ite ?_ ?_
   | refine LeO.bind ?_ (fun _ => ?_)
def spec_DrawRequestOf.T3 : Bool × List (List Nat × List Nat) := (true, [([], []), ([], []), ([1], [1]), ([], []), ([3, 2], [3]), ([4], [4]), ([2, 5], [2, 5]), ([0, 4, 0], [0]), ([6, 7, 0, 1, 2, 3, 4, 5, 6, 7], [6])])
def spec_DrawRequestOf.B3 : List Nat := [0, 0, 2, 0, 14, 30, 62, 31, 255]
theorem spec_DrawRequestOf.tab3 : rtab .any (opsOf Try.f26 3) = spec_DrawRequestOf.T3 := by kernel_rfl
theorem spec_DrawRequestOf.bits3 : waitsOk spec_DrawRequestOf.T3.2 spec_DrawRequestOf.B3 = true := by kernel_rfl
set_option maxHeartbeats 8000000 in
set_option maxRecDepth 100000 in
theorem spec_DrawRequestOf.calls (k : Nat) (A0 : Option Addr) (c0 : Nat) (l0 : List Int) (r1 : List (S35)) (r2 : Int) (r3 : Bool) (r4 : Int) (r5 : ByteArray) (r6 : Int) (r7 : Int) (r8 : Int) (r9 : Int) (w : World) (hr0 : Kd.C (Kd.int .u8) w A0 l0.length l0) (hc0 : l0.length ≤ c0) (h : spec_DrawRequestOf.f k l0 = some (r1, r2, r3, r4, r5, r6, r7, r8, r9)) :
  Calls Try.prog 26 #[.slice A0 l0.length c0] w fun e w' => ∃ v0_ : Value, e = .returned (.tuple #[.agg #[v0_, .int .i64 r2, .bool r3, .int .i64 r4, .string r5, .int .i64 r6, .int .i64 r7, .int .i64 r8], .int .i64 r9]) ∧ Kd.R k35 35 w' w.heap.size (fun _ => True) v0_ r1 ∧ Below w.heap.size w w' := by
 have hu41 := Try.underlying41
 have HR0 := Aside0.mk hr0
 have HC0 := Aside0.mk hc0
 clear hr0 hc0
 have HB := Aside0.mk (Below.refl w.heap.size w)
 have H : ((spec_l20Open.f l0).bind fun bt328 => ((spec_l20Client.f k bt328.1 bt328.2 9).bind fun bt331 => ((spec_l20Rd_pick.f k bt328.1 bt331.2.2.2.2.2.2.2.2 5).bind fun bt343 => ((spec_l20Rd_pick.f k bt328.1 bt343.2 12).bind fun bt345 => (some (bt331.1, bt331.2.1, bt331.2.2.1, bt331.2.2.2.1, bt331.2.2.2.2.1, bt331.2.2.2.2.2.1, bt331.2.2.2.2.2.2.1, bt331.2.2.2.2.2.2.2.1, wrap64 (bt343.1 - (wrap64 (Int.tdiv bt345.1 11))))))))) = some (r1, r2, r3, r4, r5, r6, r7, r8, r9) := h
 clear h
 replace H := Option.bind_eq_some_iff.mp H
 obtain ⟨⟨t328, t329⟩, A20, H⟩ := H
 try dsimp only at H
 have A2 := Aside0.mk A20
 clear A20
 replace H := Option.bind_eq_some_iff.mp H
 obtain ⟨⟨t331, t334, t335, t336, t337, t338, t339, t340, t341⟩, A30, H⟩ := H
 try dsimp only at H
 have A3 := Aside0.mk A30
 clear A30
 replace H := Option.bind_eq_some_iff.mp H
 obtain ⟨⟨t343, t344⟩, A40, H⟩ := H
 try dsimp only at H
 have A4 := Aside0.mk A40
 clear A40
 replace H := Option.bind_eq_some_iff.mp H
 obtain ⟨⟨t345, t346⟩, A50, H⟩ := H
 try dsimp only at H
 have A5 := Aside0.mk A50
 clear A50
 simp only [Option.some.injEq, Prod.mk.injEq] at H
 obtain ⟨rfl, rfl, rfl, rfl, rfl, rfl, rfl, rfl, rfl⟩ := H
 go_enter Try.func26, Try.ntmps26
 try go_wp2_with (first | ((with_reducible refine gate_dst (N := 2) rfl ?_); refine box_event ?hg (N := 2) ?hd (cs := #[.slice none 0 0, .int .i64 0, .bool false, .int .i64 0, .string (⟨#[]⟩ : ByteArray), .int .i64 0, .int .i64 0, .int .i64 0]) (t := 41) ?hr ?_; (case hd => rfl); (case hg => rfl); (case hr => first | (go_simp; done) | (go_simp; rfl)); intro gb327 hg w6 hbox hb; have n0_ := Aside0.mk (below_step (bz) hb); have n1_ := Aside0.mk (hbox); have n2_ : Aside0 (w.heap.size ≤ gb327) := bsg hg; have n3_ : Aside0 (w.heap.size ≤ gb327) := bsg hg; clear HB; have HB := n0_; have BK327 := n1_; have GW327 := n2_; have GE327 := n3_; clear n0_ n1_ n2_ n3_; clear hb hbox hg) | ((with_reducible refine gate_callee (f := 69) rfl ?_); refine goesL_ (some 7) rfl rfl Try.func69 (by kernel_rfl) rfl #[.slice A0 l0.length c0] rfl (by (try simp only [List.map_toArray, List.map_cons, List.map_nil]); first | done | rfl | (simp only [List.length_drop, List.length_take]; rfl)) ?_; (with_reducible refine (spec_l20Open.calls _ _ l0 t328 t329 w _ ?side1 ?side2 ?side3 A2.out).mono ?_); (case side1 => repeat (first | (with_reducible first | exact HB.out | apply below_alloc | apply pw_below_drewN | apply below_drew1 | refine below_set ?_ GE327.out) | exact HB.out)); (case side2 => exact HR0.out); (case side3 => exact HC0.out); rintro e w7 ⟨g330, rfl, hi, hb, hb2⟩; refine ⟨_, rfl, ?_⟩; have n0_ := Aside0.mk (blk_below (g := gb327) (o := .cells #[.slice none 0 0, .int .i64 0, .bool false, .int .i64 0, .string (⟨#[]⟩ : ByteArray), .int .i64 0, .int .i64 0, .int .i64 0] 41 (0, 0)) (bq BK327) hb2); have n1_ := Aside0.mk (hb); have n2_ := Aside0.mk (hi); have n3_ := Aside0.mk (IsS131.ne_blk hi (blk_below (g := gb327) (o := .cells #[.slice none 0 0, .int .i64 0, .bool false, .int .i64 0, .string (⟨#[]⟩ : ByteArray), .int .i64 0, .int .i64 0, .int .i64 0] 41 (0, 0)) (bq BK327) hb2) (by decide)); have n4_ := Aside0.mk (Ne.symm (IsS131.ne_blk hi (blk_below (g := gb327) (o := .cells #[.slice none 0 0, .int .i64 0, .bool false, .int .i64 0, .string (⟨#[]⟩ : ByteArray), .int .i64 0, .int .i64 0, .int .i64 0] 41 (0, 0)) (bq BK327) hb2) (by decide))); clear BK327; clear HB; have BK327 := n0_; have HB := n1_; have HI330 := n2_; have NB330_327 := n3_; have NB327_330 := n4_; clear n0_ n1_ n2_ n3_ n4_; (try clear hb); (try clear hb2); (try clear hk); (try clear hi)) | ((with_reducible refine gate_callee (f := 84) rfl ?_); refine goesL_ (some 9) rfl rfl Try.func84 (by kernel_rfl) rfl #[.pointer (some ⟨g330, 0, none⟩), .int .i64 9] rfl (by (try simp only [List.map_toArray, List.map_cons, List.map_nil]); first | done | rfl | (simp only [List.length_drop, List.length_take]; rfl)) ?_; (with_reducible refine (spec_l20Client.calls k g330 t328 t329 9 t331 t334 t335 t336 t337 t338 t339 t340 t341 w _ ?side1 ?side2 A3.out).mono ?_); (case side1 => repeat (first | (with_reducible first | exact HI330.out | apply IsS131.alloc | apply IsS131.drewN | apply IsS131.drew | apply IsS131.set_1 | refine IsS131.far ?_ NB330_327.out _) | exact HI330.out)); (case side2 => repeat (first | (with_reducible first | exact HB.out | apply below_alloc | apply pw_below_drewN | apply below_drew1 | refine below_set ?_ (IsS131.ge HI330.out) | refine below_set ?_ GE327.out) | exact HB.out)); rintro e w8 ⟨v332, rfl, ho0, hi, hb, hk⟩; refine ⟨_, rfl, ?_⟩; have n0_ := Aside0.mk (KeepBut.blk hk (g' := gb327) (o := .cells #[.slice none 0 0, .int .i64 0, .bool false, .int .i64 0, .string (⟨#[]⟩ : ByteArray), .int .i64 0, .int .i64 0, .int .i64 0] 41 (0, 0)) (bq BK327) NB327_330.out (by simp)); have n1_ := Aside0.mk (Kd.R_lower ho0 (below_size (by repeat (first | (with_reducible first | exact HB.out | apply below_alloc | apply pw_below_drewN | apply below_drew1 | refine below_set ?_ (IsS131.ge HI330.out) | refine below_set ?_ GE327.out) | exact HB.out)))); have n2_ := Aside0.mk (hb); have n3_ := Aside0.mk (hi); clear BK327; clear HB; clear HI330; have BK327 := n0_; have HO333 := n1_; have HB := n2_; have HI330 := n3_; clear n0_ n1_ n2_ n3_; (try clear hb); (try clear hb2); (try clear hk); (try clear hi); (try clear ho0)) | ((with_reducible refine gate_dst (N := 5) rfl ?_); refine box_event ?hg (N := 5) ?hd (cs := #[.slice none 0 0, .int .i64 0, .bool false, .int .i64 0, .string (⟨#[]⟩ : ByteArray), .int .i64 0, .int .i64 0, .int .i64 0]) (t := 41) ?hr ?_; (case hd => rfl); (case hg => rfl); (case hr => first | (go_simp; done) | (go_simp; rfl)); intro gb342 hg w9 hbox hb; have n0_ := Aside0.mk (Kd.R_below (by (with_reducible repeat (first | apply Kd.R_alloc | apply Kd.R_drewN | apply Kd.R_drew)); exact HO333.out) hb); have n1_ := bkb BK327 hb; have n2_ := Aside0.mk (IsS131.below (by repeat (first | (with_reducible first | exact HI330.out | apply IsS131.alloc | apply IsS131.drewN | apply IsS131.drew | apply IsS131.set_1 | refine IsS131.far ?_ NB330_327.out _) | exact HI330.out)) hb); have n3_ := Aside0.mk (below_step (by repeat (first | (with_reducible first | exact HB.out | apply below_alloc | apply pw_below_drewN | apply below_drew1 | refine below_set ?_ (IsS131.ge HI330.out) | refine below_set ?_ GE327.out) | exact HB.out)) hb); have n4_ := Aside0.mk (hbox); have n5_ := Aside0.mk ((by rw [hg]; exact (below_size (by repeat (first | (with_reducible first | exact HB.out | apply below_alloc | apply pw_below_drewN | apply below_drew1 | refine below_set ?_ (IsS131.ge HI330.out) | refine below_set ?_ GE327.out) | exact HB.out))) : w.heap.size ≤ gb342)); have n6_ := Aside0.mk ((by rw [hg]; exact (below_size (by repeat (first | (with_reducible first | exact HB.out | apply below_alloc | apply pw_below_drewN | apply below_drew1 | refine below_set ?_ (IsS131.ge HI330.out) | refine below_set ?_ GE327.out) | exact HB.out))) : w.heap.size ≤ gb342)); have n7_ := nlt hg BK327; have n8_ := ngt hg BK327; have n9_ := Aside0.mk ((by rw [hg]; exact Nat.ne_of_lt (IsS131.lt (show IsS131 w _ g330 t328 t341 from by repeat (first | (with_reducible first | exact HI330.out | apply IsS131.alloc | apply IsS131.drewN | apply IsS131.drew | apply IsS131.set_1 | refine IsS131.far ?_ NB330_327.out _) | exact HI330.out))) : g330 ≠ gb342)); have n10_ := Aside0.mk ((by rw [hg]; exact Nat.ne_of_gt (IsS131.lt (show IsS131 w _ g330 t328 t341 from by repeat (first | (with_reducible first | exact HI330.out | apply IsS131.alloc | apply IsS131.drewN | apply IsS131.drew | apply IsS131.set_1 | refine IsS131.far ?_ NB330_327.out _) | exact HI330.out))) : gb342 ≠ g330)); clear HO333; clear BK327; clear HI330; clear HB; have HO333 := n0_; have BK327 := n1_; have HI330 := n2_; have HB := n3_; have BK342 := n4_; have GW342 := n5_; have GE342 := n6_; have NB327_342 := n7_; have NB342_327 := n8_; have NB330_342 := n9_; have NB342_330 := n10_; clear n0_ n1_ n2_ n3_ n4_ n5_ n6_ n7_ n8_ n9_ n10_; clear hb hbox hg; obtain ⟨Ao10, co10, eo10⟩ := Kd.R_slice HO333.out; subst eo10; have hnb11 := NB342_327.out; have hnc11 := NB327_342.out; have hnb12 := NB342_330.out; have hnc12 := NB330_342.out; have hcz13_0 : w9.cell? ⟨gb342, 0, none⟩ = some (.slice none 0 0) := (blk_cell BK342.out 0).trans rfl; have hcz13_1 : w9.cell? ⟨gb342, 1, none⟩ = some (.int .i64 0) := (blk_cell BK342.out 1).trans rfl; have hcz13_2 : w9.cell? ⟨gb342, 2, none⟩ = some (.bool false) := (blk_cell BK342.out 2).trans rfl; have hcz13_3 : w9.cell? ⟨gb342, 3, none⟩ = some (.int .i64 0) := (blk_cell BK342.out 3).trans rfl; have hcz13_4 : w9.cell? ⟨gb342, 4, none⟩ = some (.string (⟨#[]⟩ : ByteArray)) := (blk_cell BK342.out 4).trans rfl; have hcz13_5 : w9.cell? ⟨gb342, 5, none⟩ = some (.int .i64 0) := (blk_cell BK342.out 5).trans rfl; have hcz13_6 : w9.cell? ⟨gb342, 6, none⟩ = some (.int .i64 0) := (blk_cell BK342.out 6).trans rfl; have hcz13_7 : w9.cell? ⟨gb342, 7, none⟩ = some (.int .i64 0) := (blk_cell BK342.out 7).trans rfl; have hfz13_0 := blk_frozen BK342.out 0; have hfz13_1 := blk_frozen BK342.out 1; have hfz13_2 := blk_frozen BK342.out 2; have hfz13_3 := blk_frozen BK342.out 3; have hfz13_4 := blk_frozen BK342.out 4; have hfz13_5 := blk_frozen BK342.out 5; have hfz13_6 := blk_frozen BK342.out 6; have hfz13_7 := blk_frozen BK342.out 7))
 have n0_ : Aside0 (Kd.R k35 35 ((((((((w9.setCell ⟨gb342, 0, none⟩ (.slice Ao10 t331.length co10)).setCell ⟨gb342, 1, none⟩ (.int .i64 t334)).setCell ⟨gb342, 2, none⟩ (.bool t335)).setCell ⟨gb342, 3, none⟩ (.int .i64 t336)).setCell ⟨gb342, 4, none⟩ (.string t337)).setCell ⟨gb342, 5, none⟩ (.int .i64 t338)).setCell ⟨gb342, 6, none⟩ (.int .i64 t339)).setCell ⟨gb342, 7, none⟩ (.int .i64 t340)) w.heap.size (fun _ => True) (.slice Ao10 t331.length co10) t331) := ⟨by (with_reducible repeat (first | apply Kd.R_alloc | apply Kd.R_drewN | apply Kd.R_drew)); exact Kd.R_mono (Kd.R_far (p := ⟨gb342, 7, none⟩) (Kd.R_far (p := ⟨gb342, 6, none⟩) (Kd.R_far (p := ⟨gb342, 5, none⟩) (Kd.R_far (p := ⟨gb342, 4, none⟩) (Kd.R_far (p := ⟨gb342, 3, none⟩) (Kd.R_far (p := ⟨gb342, 2, none⟩) (Kd.R_far (p := ⟨gb342, 1, none⟩) (Kd.R_far (p := ⟨gb342, 0, none⟩) (Kd.R_types HO333.out BK342.out (by decide)) (fun _ hk => hk.2) (.slice Ao10 t331.length co10)) (fun _ hk => hk.2) (.int .i64 t334)) (fun _ hk => hk.2) (.bool t335)) (fun _ hk => hk.2) (.int .i64 t336)) (fun _ hk => hk.2) (.string t337)) (fun _ hk => hk.2) (.int .i64 t338)) (fun _ hk => hk.2) (.int .i64 t339)) (fun _ hk => hk.2) (.int .i64 t340)) (fun _ hk => trivial)⟩
 have n1_ : Aside0 (((((((((w9.setCell ⟨gb342, 0, none⟩ (.slice Ao10 t331.length co10)).setCell ⟨gb342, 1, none⟩ (.int .i64 t334)).setCell ⟨gb342, 2, none⟩ (.bool t335)).setCell ⟨gb342, 3, none⟩ (.int .i64 t336)).setCell ⟨gb342, 4, none⟩ (.string t337)).setCell ⟨gb342, 5, none⟩ (.int .i64 t338)).setCell ⟨gb342, 6, none⟩ (.int .i64 t339)).setCell ⟨gb342, 7, none⟩ (.int .i64 t340)).heap[gb327]? = some (.cells #[.slice none 0 0, .int .i64 0, .bool false, .int .i64 0, .string (⟨#[]⟩ : ByteArray), .int .i64 0, .int .i64 0, .int .i64 0] 41 (0, 0))) := ⟨by (with_reducible repeat (first | refine blk_drewN ?_ _ | refine blk_drew ?_ | refine blk_alloc ?_ _)); refine blk_far ?_ NB327_342.out _; (with_reducible repeat (first | refine blk_drewN ?_ _ | refine blk_drew ?_ | refine blk_alloc ?_ _)); refine blk_far ?_ NB327_342.out _; (with_reducible repeat (first | refine blk_drewN ?_ _ | refine blk_drew ?_ | refine blk_alloc ?_ _)); refine blk_far ?_ NB327_342.out _; (with_reducible repeat (first | refine blk_drewN ?_ _ | refine blk_drew ?_ | refine blk_alloc ?_ _)); refine blk_far ?_ NB327_342.out _; (with_reducible repeat (first | refine blk_drewN ?_ _ | refine blk_drew ?_ | refine blk_alloc ?_ _)); refine blk_far ?_ NB327_342.out _; (with_reducible repeat (first | refine blk_drewN ?_ _ | refine blk_drew ?_ | refine blk_alloc ?_ _)); refine blk_far ?_ NB327_342.out _; (with_reducible repeat (first | refine blk_drewN ?_ _ | refine blk_drew ?_ | refine blk_alloc ?_ _)); refine blk_far ?_ NB327_342.out _; (with_reducible repeat (first | refine blk_drewN ?_ _ | refine blk_drew ?_ | refine blk_alloc ?_ _)); refine blk_far ?_ NB327_342.out _; (with_reducible repeat (first | refine blk_drewN ?_ _ | refine blk_drew ?_ | refine blk_alloc ?_ _)); exact BK327.out⟩
 have n2_ : Aside0 (((((((((w9.setCell ⟨gb342, 0, none⟩ (.slice Ao10 t331.length co10)).setCell ⟨gb342, 1, none⟩ (.int .i64 t334)).setCell ⟨gb342, 2, none⟩ (.bool t335)).setCell ⟨gb342, 3, none⟩ (.int .i64 t336)).setCell ⟨gb342, 4, none⟩ (.string t337)).setCell ⟨gb342, 5, none⟩ (.int .i64 t338)).setCell ⟨gb342, 6, none⟩ (.int .i64 t339)).setCell ⟨gb342, 7, none⟩ (.int .i64 t340)).heap[gb342]? = some (.cells #[.slice Ao10 t331.length co10, .int .i64 t334, .bool t335, .int .i64 t336, .string t337, .int .i64 t338, .int .i64 t339, .int .i64 t340] 41 (0, 0))) := ⟨by (with_reducible repeat (first | refine blk_drewN ?_ _ | refine blk_drew ?_ | refine blk_alloc ?_ _)); refine blk_put (cs := #[.slice Ao10 t331.length co10, .int .i64 t334, .bool t335, .int .i64 t336, .string t337, .int .i64 t338, .int .i64 t339, .int .i64 0]) ?_ 7 _ rfl; (with_reducible repeat (first | refine blk_drewN ?_ _ | refine blk_drew ?_ | refine blk_alloc ?_ _)); refine blk_put (cs := #[.slice Ao10 t331.length co10, .int .i64 t334, .bool t335, .int .i64 t336, .string t337, .int .i64 t338, .int .i64 0, .int .i64 0]) ?_ 6 _ rfl; (with_reducible repeat (first | refine blk_drewN ?_ _ | refine blk_drew ?_ | refine blk_alloc ?_ _)); refine blk_put (cs := #[.slice Ao10 t331.length co10, .int .i64 t334, .bool t335, .int .i64 t336, .string t337, .int .i64 0, .int .i64 0, .int .i64 0]) ?_ 5 _ rfl; (with_reducible repeat (first | refine blk_drewN ?_ _ | refine blk_drew ?_ | refine blk_alloc ?_ _)); refine blk_put (cs := #[.slice Ao10 t331.length co10, .int .i64 t334, .bool t335, .int .i64 t336, .string (⟨#[]⟩ : ByteArray), .int .i64 0, .int .i64 0, .int .i64 0]) ?_ 4 _ rfl; (with_reducible repeat (first | refine blk_drewN ?_ _ | refine blk_drew ?_ | refine blk_alloc ?_ _)); refine blk_put (cs := #[.slice Ao10 t331.length co10, .int .i64 t334, .bool t335, .int .i64 0, .string (⟨#[]⟩ : ByteArray), .int .i64 0, .int .i64 0, .int .i64 0]) ?_ 3 _ rfl; (with_reducible repeat (first | refine blk_drewN ?_ _ | refine blk_drew ?_ | refine blk_alloc ?_ _)); refine blk_put (cs := #[.slice Ao10 t331.length co10, .int .i64 t334, .bool false, .int .i64 0, .string (⟨#[]⟩ : ByteArray), .int .i64 0, .int .i64 0, .int .i64 0]) ?_ 2 _ rfl; (with_reducible repeat (first | refine blk_drewN ?_ _ | refine blk_drew ?_ | refine blk_alloc ?_ _)); refine blk_put (cs := #[.slice Ao10 t331.length co10, .int .i64 0, .bool false, .int .i64 0, .string (⟨#[]⟩ : ByteArray), .int .i64 0, .int .i64 0, .int .i64 0]) ?_ 1 _ rfl; (with_reducible repeat (first | refine blk_drewN ?_ _ | refine blk_drew ?_ | refine blk_alloc ?_ _)); refine blk_put (cs := #[.slice none 0 0, .int .i64 0, .bool false, .int .i64 0, .string (⟨#[]⟩ : ByteArray), .int .i64 0, .int .i64 0, .int .i64 0]) ?_ 0 _ rfl; (with_reducible repeat (first | refine blk_drewN ?_ _ | refine blk_drew ?_ | refine blk_alloc ?_ _)); exact BK342.out⟩
 have n3_ : Aside0 (IsS131 w ((((((((w9.setCell ⟨gb342, 0, none⟩ (.slice Ao10 t331.length co10)).setCell ⟨gb342, 1, none⟩ (.int .i64 t334)).setCell ⟨gb342, 2, none⟩ (.bool t335)).setCell ⟨gb342, 3, none⟩ (.int .i64 t336)).setCell ⟨gb342, 4, none⟩ (.string t337)).setCell ⟨gb342, 5, none⟩ (.int .i64 t338)).setCell ⟨gb342, 6, none⟩ (.int .i64 t339)).setCell ⟨gb342, 7, none⟩ (.int .i64 t340)) g330 t328 t341) := ⟨by repeat (first | (with_reducible first | exact HI330.out | apply IsS131.alloc | apply IsS131.drewN | apply IsS131.drew | apply IsS131.set_1 | refine IsS131.far ?_ NB330_327.out _ | refine IsS131.far ?_ NB330_342.out _) | exact HI330.out)⟩
 have n4_ : Aside0 (Below w.heap.size w ((((((((w9.setCell ⟨gb342, 0, none⟩ (.slice Ao10 t331.length co10)).setCell ⟨gb342, 1, none⟩ (.int .i64 t334)).setCell ⟨gb342, 2, none⟩ (.bool t335)).setCell ⟨gb342, 3, none⟩ (.int .i64 t336)).setCell ⟨gb342, 4, none⟩ (.string t337)).setCell ⟨gb342, 5, none⟩ (.int .i64 t338)).setCell ⟨gb342, 6, none⟩ (.int .i64 t339)).setCell ⟨gb342, 7, none⟩ (.int .i64 t340))) := ⟨by repeat (first | (with_reducible first | exact HB.out | apply below_alloc | apply pw_below_drewN | apply below_drew1 | refine below_set ?_ (IsS131.ge HI330.out) | refine below_set ?_ GE327.out | refine below_set ?_ GE342.out) | exact HB.out)⟩
 (try clear HO333)
 (try clear BK327)
 (try clear BK342)
 (try clear HI330)
 (try clear HB)
 generalize ((((((((w9.setCell ⟨gb342, 0, none⟩ (.slice Ao10 t331.length co10)).setCell ⟨gb342, 1, none⟩ (.int .i64 t334)).setCell ⟨gb342, 2, none⟩ (.bool t335)).setCell ⟨gb342, 3, none⟩ (.int .i64 t336)).setCell ⟨gb342, 4, none⟩ (.string t337)).setCell ⟨gb342, 5, none⟩ (.int .i64 t338)).setCell ⟨gb342, 6, none⟩ (.int .i64 t339)).setCell ⟨gb342, 7, none⟩ (.int .i64 t340)) = w14 at n0_ n1_ n2_ n3_ n4_ ⊢
 have HO333 := n0_
 have BK327 := n1_
 have BK342 := n2_
 have HI330 := n3_
 have HB := n4_
 clear n0_ n1_ n2_ n3_ n4_
 have n0_ := Aside0.mk (Kd.R_drew HO333.out)
 have n1_ := Aside0.mk (blk_drew BK327.out)
 have n2_ := Aside0.mk (blk_drew BK342.out)
 have n3_ := Aside0.mk (IsS131.drew HI330.out)
 have n4_ := Aside0.mk (below_drew1 HB.out)
 clear HO333
 clear BK327
 clear BK342
 clear HI330
 clear HB
 have HO333 := n0_
 have BK327 := n1_
 have BK342 := n2_
 have HI330 := n3_
 have HB := n4_
 clear n0_ n1_ n2_ n3_ n4_
 refine start_ (n := 9) (S := fun w' => w'.cell? ⟨gb342, 0, none⟩ = some (.slice Ao10 t331.length co10) ∧ w'.cell? ⟨gb342, 1, none⟩ = some (.int .i64 t334) ∧ w'.cell? ⟨gb342, 2, none⟩ = some (.bool t335) ∧ w'.cell? ⟨gb342, 3, none⟩ = some (.int .i64 t336) ∧ w'.cell? ⟨gb342, 4, none⟩ = some (.string t337) ∧ w'.cell? ⟨gb342, 5, none⟩ = some (.int .i64 t338) ∧ w'.cell? ⟨gb342, 6, none⟩ = some (.int .i64 t339) ∧ w'.cell? ⟨gb342, 7, none⟩ = some (.int .i64 t340)) (ds := []) #[false, false, false, false, false, false, false, false, false] (by kernel_rfl) rfl rfl ⟨(blk_cell BK342.out 0).trans rfl, (blk_cell BK342.out 1).trans rfl, (blk_cell BK342.out 2).trans rfl, (blk_cell BK342.out 3).trans rfl, (blk_cell BK342.out 4).trans rfl, (blk_cell BK342.out 5).trans rfl, (blk_cell BK342.out 6).trans rfl, (blk_cell BK342.out 7).trans rfl⟩ (fun hHeld => ?_); refine with_tabW spec_DrawRequestOf.tab3 spec_DrawRequestOf.bits3 (fun HT_ HW_ => ?_)
 generalize w14.drew = w15 at HO333 BK327 BK342 HI330 HB hHeld ⊢
 refine pure_ (i := 1) (N := some 11) (v := ?_) (a' := ?_) #[false, true, false, false, false, false, false, false, false] rfl rfl (any_of HT_.out (by kernel_rfl)) (fun _ _ _ h => h) (Or.inl ⟨by rfl, ?_⟩) ?_ ?_
 rotate_left
 ·
  intro w'
  go_simp
  with_reducible rfl
 rotate_left
 ·
  simp only [Act.put, List.setIfInBounds_toArray, List.set_cons_zero, List.set_cons_succ, i64_w, i32_w]
  rfl
 refine pure_ (i := 3) (N := some 13) (v := ?_) (a' := ?_) #[false, true, false, true, false, false, false, false, false] rfl rfl (any_of HT_.out (by kernel_rfl)) (fun _ _ _ h => h) (Or.inl ⟨by rfl, ?_⟩) ?_ ?_
 rotate_left
 ·
  intro w'
  go_simp
  with_reducible rfl
 rotate_left
 ·
  simp only [Act.put, List.setIfInBounds_toArray, List.set_cons_zero, List.set_cons_succ, i64_w, i32_w]
  rfl
 refine take_ (i := 0) (N := some 10) (v := ?_) (a' := ?_) #[true, true, false, true, false, false, false, false, false] rfl rfl (take_ofW HT_.out HW_.out (by kernel_rfl)) (fun _ _ _ h => h) (Or.inl ⟨by rfl, ?_⟩) hHeld ?_ ?_
 rotate_left
 ·
  rintro w' ⟨s0, s1, s2, s3, s4, s5, s6, s7⟩
  go_simp
  with_reducible rfl
 rotate_left
 ·
  simp only [Act.put, List.setIfInBounds_toArray, List.set_cons_zero, List.set_cons_succ, i64_w, i32_w]
  rfl
 refine one_ (i := 2) (N := some 12) #[true, true, true, true, false, false, false, false, false] rfl rfl (one_of HT_.out (by kernel_rfl)) (by decide) (fun K hK => ?_)
 refine goes_ Try.func72 (by kernel_rfl) rfl #[.pointer (some ⟨g330, 0, none⟩), .int .i64 5] (by rfl) rfl rfl (by (try simp only [List.map_toArray, List.map_cons, List.map_nil]); first | done | rfl | (simp only [List.length_drop, List.length_take]; rfl)) ?_
 with_reducible refine (spec_l20Rd_pick.calls k g330 t328 t341 5 t343 t344 w _ ?side1 ?side2 A4.out).mono ?_
 (case side1 => repeat (first | (with_reducible first | exact HI330.out | apply IsS131.alloc | apply IsS131.drewN | apply IsS131.drew | apply IsS131.set_1 | refine IsS131.far ?_ NB330_327.out _ | refine IsS131.far ?_ NB330_342.out _) | exact HI330.out))
 (case side2 => repeat (first | (with_reducible first | exact HB.out | apply below_alloc | apply pw_below_drewN | apply below_drew1 | refine below_set ?_ (IsS131.ge HI330.out) | refine below_set ?_ GE327.out | refine below_set ?_ GE342.out) | exact HB.out))
 rintro e w16 ⟨rfl, hi, hb, hk⟩
 refine ⟨_, rfl, ?_⟩
 have n0_ := Aside0.mk (KeepBut.blk hk (g' := gb327) (o := .cells #[.slice none 0 0, .int .i64 0, .bool false, .int .i64 0, .string (⟨#[]⟩ : ByteArray), .int .i64 0, .int .i64 0, .int .i64 0] 41 (0, 0)) (bq BK327) NB327_330.out (by simp))
 have n1_ := Aside0.mk (Kd.R_mono (Kd.R_keep (IsS131.apart (show IsS131 w _ g330 t328 t341 from by repeat (first | (with_reducible first | exact HI330.out | apply IsS131.alloc | apply IsS131.drewN | apply IsS131.drew | apply IsS131.set_1 | refine IsS131.far ?_ NB330_327.out _ | refine IsS131.far ?_ NB330_342.out _) | exact HI330.out)) (by (with_reducible repeat (first | apply Kd.R_alloc | apply Kd.R_drewN | apply Kd.R_drew)); exact HO333.out) (by decide)) hk (fun _ h => h.2)) (fun _ h => h.1))
 have n2_ := Aside0.mk (KeepBut.blk hk (g' := gb342) (o := .cells #[.slice Ao10 t331.length co10, .int .i64 t334, .bool t335, .int .i64 t336, .string t337, .int .i64 t338, .int .i64 t339, .int .i64 t340] 41 (0, 0)) (bq BK342) NB342_330.out (by simp))
 have n3_ := Aside0.mk (hb)
 have n4_ := Aside0.mk (hi)
 clear BK327
 clear HO333
 clear BK342
 clear HB
 clear HI330
 have BK327 := n0_
 have HO333 := n1_
 have BK342 := n2_
 have HB := n3_
 have HI330 := n4_
 clear n0_ n1_ n2_ n3_ n4_
 (try clear hb)
 (try clear hb2)
 (try clear hk)
 (try clear hi)
 refine hK.out _ _ ⟨(blk_cell BK342.out 0).trans rfl, (blk_cell BK342.out 1).trans rfl, (blk_cell BK342.out 2).trans rfl, (blk_cell BK342.out 3).trans rfl, (blk_cell BK342.out 4).trans rfl, (blk_cell BK342.out 5).trans rfl, (blk_cell BK342.out 6).trans rfl, (blk_cell BK342.out 7).trans rfl⟩ (fun hHeld => ?_)
 clear hK K
 refine norm_ (a' := ?_) ?_ ?_
 rotate_left
 ·
  show Act.put _ (some 12) _ = _
  simp only [Act.put, List.setIfInBounds_toArray, List.set_cons_zero, List.set_cons_succ, i64_w, i32_w]
  rfl
 refine one_ (i := 4) (N := some 14) #[true, true, true, true, true, false, false, false, false] rfl rfl (one_of HT_.out (by kernel_rfl)) (by decide) (fun K hK => ?_)
 refine goes_ Try.func72 (by kernel_rfl) rfl #[.pointer (some ⟨g330, 0, none⟩), .int .i64 12] (by rfl) rfl rfl (by (try simp only [List.map_toArray, List.map_cons, List.map_nil]); first | done | rfl | (simp only [List.length_drop, List.length_take]; rfl)) ?_
 with_reducible refine (spec_l20Rd_pick.calls k g330 t328 t344 12 t345 t346 w _ ?side1 ?side2 A5.out).mono ?_
 (case side1 => repeat (first | (with_reducible first | exact HI330.out | apply IsS131.alloc | apply IsS131.drewN | apply IsS131.drew | apply IsS131.set_1 | refine IsS131.far ?_ NB330_327.out _ | refine IsS131.far ?_ NB330_342.out _) | exact HI330.out))
 (case side2 => repeat (first | (with_reducible first | exact HB.out | apply below_alloc | apply pw_below_drewN | apply below_drew1 | refine below_set ?_ (IsS131.ge HI330.out) | refine below_set ?_ GE327.out | refine below_set ?_ GE342.out) | exact HB.out))
 rintro e w17 ⟨rfl, hi, hb, hk⟩
 refine ⟨_, rfl, ?_⟩
 have n0_ := Aside0.mk (KeepBut.blk hk (g' := gb327) (o := .cells #[.slice none 0 0, .int .i64 0, .bool false, .int .i64 0, .string (⟨#[]⟩ : ByteArray), .int .i64 0, .int .i64 0, .int .i64 0] 41 (0, 0)) (bq BK327) NB327_330.out (by simp))
 have n1_ := Aside0.mk (Kd.R_mono (Kd.R_keep (IsS131.apart (show IsS131 w _ g330 t328 t344 from by repeat (first | (with_reducible first | exact HI330.out | apply IsS131.alloc | apply IsS131.drewN | apply IsS131.drew | apply IsS131.set_1 | refine IsS131.far ?_ NB330_327.out _ | refine IsS131.far ?_ NB330_342.out _) | exact HI330.out)) (by (with_reducible repeat (first | apply Kd.R_alloc | apply Kd.R_drewN | apply Kd.R_drew)); exact HO333.out) (by decide)) hk (fun _ h => h.2)) (fun _ h => h.1))
 have n2_ := Aside0.mk (KeepBut.blk hk (g' := gb342) (o := .cells #[.slice Ao10 t331.length co10, .int .i64 t334, .bool t335, .int .i64 t336, .string t337, .int .i64 t338, .int .i64 t339, .int .i64 t340] 41 (0, 0)) (bq BK342) NB342_330.out (by simp))
 have n3_ := Aside0.mk (hb)
 have n4_ := Aside0.mk (hi)
 clear BK327
 clear HO333
 clear BK342
 clear HB
 clear HI330
 have BK327 := n0_
 have HO333 := n1_
 have BK342 := n2_
 have HB := n3_
 have HI330 := n4_
 clear n0_ n1_ n2_ n3_ n4_
 (try clear hb)
 (try clear hb2)
 (try clear hk)
 (try clear hi)
 refine hK.out _ _ ⟨(blk_cell BK342.out 0).trans rfl, (blk_cell BK342.out 1).trans rfl, (blk_cell BK342.out 2).trans rfl, (blk_cell BK342.out 3).trans rfl, (blk_cell BK342.out 4).trans rfl, (blk_cell BK342.out 5).trans rfl, (blk_cell BK342.out 6).trans rfl, (blk_cell BK342.out 7).trans rfl⟩ (fun hHeld => ?_)
 clear hK K
 refine norm_ (a' := ?_) ?_ ?_
 rotate_left
 ·
  show Act.put _ (some 14) _ = _
  simp only [Act.put, List.setIfInBounds_toArray, List.set_cons_zero, List.set_cons_succ, i64_w, i32_w]
  rfl
 refine pure_ (i := 5) (N := some 15) (v := ?_) (a' := ?_) #[true, true, true, true, true, true, false, false, false] rfl rfl (any_of HT_.out (by kernel_rfl)) (fun _ _ _ h => h) (Or.inl ⟨by rfl, ?_⟩) ?_ ?_
 rotate_left
 ·
  intro w'
  go_simp
  with_reducible rfl
 rotate_left
 ·
  simp only [Act.put, List.setIfInBounds_toArray, List.set_cons_zero, List.set_cons_succ, i64_w, i32_w]
  rfl
 refine pure_ (i := 6) (N := some 16) (v := ?_) (a' := ?_) #[true, true, true, true, true, true, true, false, false] rfl rfl (any_of HT_.out (by kernel_rfl)) (fun _ _ _ h => h) (Or.inl ⟨by rfl, ?_⟩) ?_ ?_
 rotate_left
 ·
  intro w'
  go_simp
  with_reducible rfl
 rotate_left
 ·
  simp only [Act.put, List.setIfInBounds_toArray, List.set_cons_zero, List.set_cons_succ, i64_w, i32_w]
  rfl
 refine one_ (i := 7) (N := none) #[true, true, true, true, true, true, true, true, false] rfl rfl (one_of HT_.out (by kernel_rfl)) (by decide) (fun K hK => ?_)
 have hs18 : w17.cell? ⟨gb327, 0, none⟩ = some (.slice none 0 0) := (blk_cell BK327.out 0).trans rfl
 have hfs18 := blk_frozen BK327.out 0
 have hns18_1 := NB342_327.out
 have hms18_1 := NB327_342.out
 have hs19 : w17.cell? ⟨gb327, 1, none⟩ = some (.int .i64 0) := (blk_cell BK327.out 1).trans rfl
 have hfs19 := blk_frozen BK327.out 1
 have hns19_1 := NB342_327.out
 have hms19_1 := NB327_342.out
 have hs20 : w17.cell? ⟨gb327, 2, none⟩ = some (.bool false) := (blk_cell BK327.out 2).trans rfl
 have hfs20 := blk_frozen BK327.out 2
 have hns20_1 := NB342_327.out
 have hms20_1 := NB327_342.out
 have hs21 : w17.cell? ⟨gb327, 3, none⟩ = some (.int .i64 0) := (blk_cell BK327.out 3).trans rfl
 have hfs21 := blk_frozen BK327.out 3
 have hns21_1 := NB342_327.out
 have hms21_1 := NB327_342.out
 have hs22 : w17.cell? ⟨gb327, 4, none⟩ = some (.string (⟨#[]⟩ : ByteArray)) := (blk_cell BK327.out 4).trans rfl
 have hfs22 := blk_frozen BK327.out 4
 have hns22_1 := NB342_327.out
 have hms22_1 := NB327_342.out
 have hs23 : w17.cell? ⟨gb327, 5, none⟩ = some (.int .i64 0) := (blk_cell BK327.out 5).trans rfl
 have hfs23 := blk_frozen BK327.out 5
 have hns23_1 := NB342_327.out
 have hms23_1 := NB327_342.out
 have hs24 : w17.cell? ⟨gb327, 6, none⟩ = some (.int .i64 0) := (blk_cell BK327.out 6).trans rfl
 have hfs24 := blk_frozen BK327.out 6
 have hns24_1 := NB342_327.out
 have hms24_1 := NB327_342.out
 have hs25 : w17.cell? ⟨gb327, 7, none⟩ = some (.int .i64 0) := (blk_cell BK327.out 7).trans rfl
 have hfs25 := blk_frozen BK327.out 7
 have hns25_1 := NB342_327.out
 have hms25_1 := NB327_342.out
 refine skip_ (w1 := ?_) (by rfl) rfl ?_ ?_
 rotate_left
 ·
  go_simp
  rfl
 refine hK.out _ _ ⟨((cell_far (p := ⟨gb327, _, none⟩) NB342_327.out _).trans (((cell_far (p := ⟨gb327, _, none⟩) NB342_327.out _).trans (((cell_far (p := ⟨gb327, _, none⟩) NB342_327.out _).trans (((cell_far (p := ⟨gb327, _, none⟩) NB342_327.out _).trans (((cell_far (p := ⟨gb327, _, none⟩) NB342_327.out _).trans (((cell_far (p := ⟨gb327, _, none⟩) NB342_327.out _).trans (((cell_far (p := ⟨gb327, _, none⟩) NB342_327.out _).trans (((cell_far (p := ⟨gb327, _, none⟩) NB342_327.out _).trans (hHeld.1)))))))))))))))), ((cell_far (p := ⟨gb327, _, none⟩) NB342_327.out _).trans (((cell_far (p := ⟨gb327, _, none⟩) NB342_327.out _).trans (((cell_far (p := ⟨gb327, _, none⟩) NB342_327.out _).trans (((cell_far (p := ⟨gb327, _, none⟩) NB342_327.out _).trans (((cell_far (p := ⟨gb327, _, none⟩) NB342_327.out _).trans (((cell_far (p := ⟨gb327, _, none⟩) NB342_327.out _).trans (((cell_far (p := ⟨gb327, _, none⟩) NB342_327.out _).trans (((cell_far (p := ⟨gb327, _, none⟩) NB342_327.out _).trans (hHeld.2.1)))))))))))))))), ((cell_far (p := ⟨gb327, _, none⟩) NB342_327.out _).trans (((cell_far (p := ⟨gb327, _, none⟩) NB342_327.out _).trans (((cell_far (p := ⟨gb327, _, none⟩) NB342_327.out _).trans (((cell_far (p := ⟨gb327, _, none⟩) NB342_327.out _).trans (((cell_far (p := ⟨gb327, _, none⟩) NB342_327.out _).trans (((cell_far (p := ⟨gb327, _, none⟩) NB342_327.out _).trans (((cell_far (p := ⟨gb327, _, none⟩) NB342_327.out _).trans (((cell_far (p := ⟨gb327, _, none⟩) NB342_327.out _).trans (hHeld.2.2.1)))))))))))))))), ((cell_far (p := ⟨gb327, _, none⟩) NB342_327.out _).trans (((cell_far (p := ⟨gb327, _, none⟩) NB342_327.out _).trans (((cell_far (p := ⟨gb327, _, none⟩) NB342_327.out _).trans (((cell_far (p := ⟨gb327, _, none⟩) NB342_327.out _).trans (((cell_far (p := ⟨gb327, _, none⟩) NB342_327.out _).trans (((cell_far (p := ⟨gb327, _, none⟩) NB342_327.out _).trans (((cell_far (p := ⟨gb327, _, none⟩) NB342_327.out _).trans (((cell_far (p := ⟨gb327, _, none⟩) NB342_327.out _).trans (hHeld.2.2.2.1)))))))))))))))), ((cell_far (p := ⟨gb327, _, none⟩) NB342_327.out _).trans (((cell_far (p := ⟨gb327, _, none⟩) NB342_327.out _).trans (((cell_far (p := ⟨gb327, _, none⟩) NB342_327.out _).trans (((cell_far (p := ⟨gb327, _, none⟩) NB342_327.out _).trans (((cell_far (p := ⟨gb327, _, none⟩) NB342_327.out _).trans (((cell_far (p := ⟨gb327, _, none⟩) NB342_327.out _).trans (((cell_far (p := ⟨gb327, _, none⟩) NB342_327.out _).trans (((cell_far (p := ⟨gb327, _, none⟩) NB342_327.out _).trans (hHeld.2.2.2.2.1)))))))))))))))), ((cell_far (p := ⟨gb327, _, none⟩) NB342_327.out _).trans (((cell_far (p := ⟨gb327, _, none⟩) NB342_327.out _).trans (((cell_far (p := ⟨gb327, _, none⟩) NB342_327.out _).trans (((cell_far (p := ⟨gb327, _, none⟩) NB342_327.out _).trans (((cell_far (p := ⟨gb327, _, none⟩) NB342_327.out _).trans (((cell_far (p := ⟨gb327, _, none⟩) NB342_327.out _).trans (((cell_far (p := ⟨gb327, _, none⟩) NB342_327.out _).trans (((cell_far (p := ⟨gb327, _, none⟩) NB342_327.out _).trans (hHeld.2.2.2.2.2.1)))))))))))))))), ((cell_far (p := ⟨gb327, _, none⟩) NB342_327.out _).trans (((cell_far (p := ⟨gb327, _, none⟩) NB342_327.out _).trans (((cell_far (p := ⟨gb327, _, none⟩) NB342_327.out _).trans (((cell_far (p := ⟨gb327, _, none⟩) NB342_327.out _).trans (((cell_far (p := ⟨gb327, _, none⟩) NB342_327.out _).trans (((cell_far (p := ⟨gb327, _, none⟩) NB342_327.out _).trans (((cell_far (p := ⟨gb327, _, none⟩) NB342_327.out _).trans (((cell_far (p := ⟨gb327, _, none⟩) NB342_327.out _).trans (hHeld.2.2.2.2.2.2.1)))))))))))))))), ((cell_far (p := ⟨gb327, _, none⟩) NB342_327.out _).trans (((cell_far (p := ⟨gb327, _, none⟩) NB342_327.out _).trans (((cell_far (p := ⟨gb327, _, none⟩) NB342_327.out _).trans (((cell_far (p := ⟨gb327, _, none⟩) NB342_327.out _).trans (((cell_far (p := ⟨gb327, _, none⟩) NB342_327.out _).trans (((cell_far (p := ⟨gb327, _, none⟩) NB342_327.out _).trans (((cell_far (p := ⟨gb327, _, none⟩) NB342_327.out _).trans (((cell_far (p := ⟨gb327, _, none⟩) NB342_327.out _).trans (hHeld.2.2.2.2.2.2.2))))))))))))))))⟩ (fun hHeld => ?_)
 clear hK K
 refine pure_ (i := 8) (N := some 3) (v := ?_) (a' := ?_) #[true, true, true, true, true, true, true, true, true] rfl rfl (any_of HT_.out (by kernel_rfl)) (fun _ _ _ h => h) (Or.inl ⟨by rfl, ?_⟩) ?_ ?_
 rotate_left
 ·
  intro w'
  go_simp
  with_reducible rfl
 rotate_left
 ·
  simp only [Act.put, List.setIfInBounds_toArray, List.set_cons_zero, List.set_cons_succ, i64_w, i32_w]
  rfl
 refine done_ (done_of HT_.out (by kernel_rfl)) ?_
 try go_wp2
 refine bodyPost_ret (results_ct rfl _ _ gb327 41 #[.slice Ao10 t331.length co10, .int .i64 t334, .bool t335, .int .i64 t336, .string t337, .int .i64 t338, .int .i64 t339, .int .i64 t340] (0, 0) _ rfl (by (with_reducible repeat (first | refine blk_drewN ?_ _ | refine blk_drew ?_ | refine blk_alloc ?_ _)); refine blk_put (cs := #[.slice Ao10 t331.length co10, .int .i64 t334, .bool t335, .int .i64 t336, .string t337, .int .i64 t338, .int .i64 t339, .int .i64 0]) ?_ 7 _ rfl; (with_reducible repeat (first | refine blk_drewN ?_ _ | refine blk_drew ?_ | refine blk_alloc ?_ _)); refine blk_put (cs := #[.slice Ao10 t331.length co10, .int .i64 t334, .bool t335, .int .i64 t336, .string t337, .int .i64 t338, .int .i64 0, .int .i64 0]) ?_ 6 _ rfl; (with_reducible repeat (first | refine blk_drewN ?_ _ | refine blk_drew ?_ | refine blk_alloc ?_ _)); refine blk_put (cs := #[.slice Ao10 t331.length co10, .int .i64 t334, .bool t335, .int .i64 t336, .string t337, .int .i64 0, .int .i64 0, .int .i64 0]) ?_ 5 _ rfl; (with_reducible repeat (first | refine blk_drewN ?_ _ | refine blk_drew ?_ | refine blk_alloc ?_ _)); refine blk_put (cs := #[.slice Ao10 t331.length co10, .int .i64 t334, .bool t335, .int .i64 t336, .string (⟨#[]⟩ : ByteArray), .int .i64 0, .int .i64 0, .int .i64 0]) ?_ 4 _ rfl; (with_reducible repeat (first | refine blk_drewN ?_ _ | refine blk_drew ?_ | refine blk_alloc ?_ _)); refine blk_put (cs := #[.slice Ao10 t331.length co10, .int .i64 t334, .bool t335, .int .i64 0, .string (⟨#[]⟩ : ByteArray), .int .i64 0, .int .i64 0, .int .i64 0]) ?_ 3 _ rfl; (with_reducible repeat (first | refine blk_drewN ?_ _ | refine blk_drew ?_ | refine blk_alloc ?_ _)); refine blk_put (cs := #[.slice Ao10 t331.length co10, .int .i64 t334, .bool false, .int .i64 0, .string (⟨#[]⟩ : ByteArray), .int .i64 0, .int .i64 0, .int .i64 0]) ?_ 2 _ rfl; (with_reducible repeat (first | refine blk_drewN ?_ _ | refine blk_drew ?_ | refine blk_alloc ?_ _)); refine blk_put (cs := #[.slice Ao10 t331.length co10, .int .i64 0, .bool false, .int .i64 0, .string (⟨#[]⟩ : ByteArray), .int .i64 0, .int .i64 0, .int .i64 0]) ?_ 1 _ rfl; (with_reducible repeat (first | refine blk_drewN ?_ _ | refine blk_drew ?_ | refine blk_alloc ?_ _)); refine blk_put (cs := #[.slice none 0 0, .int .i64 0, .bool false, .int .i64 0, .string (⟨#[]⟩ : ByteArray), .int .i64 0, .int .i64 0, .int .i64 0]) ?_ 0 _ rfl; (with_reducible repeat (first | refine blk_drewN ?_ _ | refine blk_drew ?_ | refine blk_alloc ?_ _)); exact BK327.out) Try.underlying41 rfl (by kernel_rfl)) rfl ?_
 exact ⟨_, by first | rfl | (simp only [u8w, w64m]; rfl) | (simp [errW_none, errW_some] <;> rfl) | (simp [*, errW_none, errW_some] <;> rfl), by (with_reducible repeat (first | apply Kd.R_alloc | apply Kd.R_drewN | apply Kd.R_drew)); exact Kd.R_mono (Kd.R_far (p := ⟨gb327, 7, none⟩) (Kd.R_far (p := ⟨gb327, 6, none⟩) (Kd.R_far (p := ⟨gb327, 5, none⟩) (Kd.R_far (p := ⟨gb327, 4, none⟩) (Kd.R_far (p := ⟨gb327, 3, none⟩) (Kd.R_far (p := ⟨gb327, 2, none⟩) (Kd.R_far (p := ⟨gb327, 1, none⟩) (Kd.R_far (p := ⟨gb327, 0, none⟩) (Kd.R_types HO333.out BK327.out (by decide)) (fun _ hk => hk.2) (.slice Ao10 t331.length co10)) (fun _ hk => hk.2) (.int .i64 t334)) (fun _ hk => hk.2) (.bool t335)) (fun _ hk => hk.2) (.int .i64 t336)) (fun _ hk => hk.2) (.string t337)) (fun _ hk => hk.2) (.int .i64 t338)) (fun _ hk => hk.2) (.int .i64 t339)) (fun _ hk => hk.2) (.int .i64 t340)) (fun _ hk => trivial), by repeat (first | (with_reducible first | exact HB.out | apply below_alloc | apply pw_below_drewN | apply below_drew1 | refine below_set ?_ (IsS131.ge HI330.out) | refine below_set ?_ GE327.out | refine below_set ?_ GE342.out) | exact HB.out)⟩

/-! ### impl_routePlace: function 81 -/
def impl_routePlace.l0 : Nat → Int → List (S35) → Int → Int → Option (Int)
 | 0, _, _, _, _ => none
 | k + 1, x1, x7, x8, x9 => if x9 < x8 then (if 0 ≤ x9 then (if x9 < (x7.length : Int) then (if ((rd_T35 x7 x9).f0) = x1 then (some x9) else (impl_routePlace.l0 k x1 x7 x8 (wrap64 (x9 + 1)))) else (none)) else (none)) else (some (-1))
def impl_routePlace.f (k : Nat) (l0 : List (S35)) (a1 : Int) : Option (Int) := impl_routePlace.l0 k a1 l0 (l0.length : Int) 0
theorem impl_routePlace.mono_l : ∀ k, (∀ y0 y1 y2 y3, LeO (impl_routePlace.l0 k y0 y1 y2 y3) (impl_routePlace.l0 (k + 1) y0 y1 y2 y3))
 | 0 => fun _ _ _ _ r h => by simp [impl_routePlace.l0] at h
 | k + 1 => by
  have ih0 := impl_routePlace.mono_l k
  ·
   intro y0 y1 y2 y3
   unfold impl_routePlace.l0
   repeat' first
   | (with_reducible exact ih0 _ _ _ _)
   | (with_reducible exact LeO.refl _)
   | (with_reducible exact LeO.none _)
   | (with_reducible refine LeO.ite ?_ ?_)
   | (with_reducible refine LeO.bind ?_ (fun _ => ?_))
   | exact ih0 _ _ _ _
   | exact LeO.none _
   | refine LeO.ite ?_ ?_
   | refine LeO.bind ?_ (fun _ => ?_)
theorem impl_routePlace.mono : ∀ a0 a1 k, LeO (impl_routePlace.f k a0 a1) (impl_routePlace.f (k + 1) a0 a1) := by
 intro a0 a1 k
 have ih0 := impl_routePlace.mono_l k
 unfold impl_routePlace.f
 repeat' first
   | (with_reducible exact ih0 _ _ _ _)
   | (with_reducible exact LeO.refl _)
   | (with_reducible exact LeO.none _)
   | (with_reducible refine LeO.ite ?_ ?_)
   | (with_reducible refine LeO.bind ?_ (fun _ => ?_))
   | exact ih0 _ _ _ _
   | exact LeO.none _
   | refine LeO.ite ?_ ?_
   | refine LeO.bind ?_ (fun _ => ?_)
set_option maxHeartbeats 8000000 in
set_option maxRecDepth 100000 in
theorem impl_routePlace.calls (k : Nat) (A0 : Option Addr) (c0 : Nat) (l0 : List (S35)) (a1 : Int) (r : Int) (w : World) (hr0 : Kd.C k35 w A0 l0.length l0) (hc0 : l0.length ≤ c0) (h : impl_routePlace.f k l0 a1 = some r) :
  Calls Try.prog 81 #[.slice A0 l0.length c0, .int .i64 a1] w fun e w' => e = .returned (.int .i64 r) ∧ Below w.heap.size w w' := by
 have hu35 := Try.underlying35
 have HR0 := Aside0.mk hr0
 have HC0 := Aside0.mk hc0
 clear hr0 hc0
 have HB := Aside0.mk (Below.refl w.heap.size w)
 have H : (impl_routePlace.l0 k a1 l0 (l0.length : Int) 0) = some r := h
 clear h
 have H' := Aside0.mk H
 clear H
 go_enter Try.func81, Try.ntmps81
 go_wp2
 go_loopg [9] k (fun kq v9 w' => ∃ (x9_1 : Int), v9 = .int .i64 x9_1 ∧ Aside0 (impl_routePlace.l0 kq a1 l0 (l0.length : Int) x9_1 = some r) ∧ Aside0 (kq ≤ k) ∧ Aside0 (Below w.heap.size w w'))
 case atStart => exact ⟨(0), (by first | rfl | (simp; done) | exact congrArg Value.bool (ne_nil_b _) | exact congrArg Value.bool (eq_nil_b _) | (simp [*]; done)), H', ⟨Nat.le_refl _⟩, ⟨bz⟩⟩
 case round =>
  clear H'
  try clear p2
  obtain ⟨x9_1, rfl, HA, HK1, HB⟩ := hrel
  cases gk with
  | zero => exact absurd HA.out (by simp [impl_routePlace.l0])
  | succ k1 =>
   have H := HA.out
   clear HA
   simp only [impl_routePlace.l0] at H
   by_cases c3 : x9_1 < (l0.length : Int)
   ·
    rw [if_pos c3] at H
    have c3b0 : decide (x9_1 < (l0.length : Int)) = true := decide_eq_true c3
    clear c3
    by_cases c4 : 0 ≤ x9_1
    ·
     rw [if_pos c4] at H
     have c4b0 : decide (0 ≤ x9_1) = true := decide_eq_true c4
     clear c4
     by_cases c5 : x9_1 < (l0.length : Int)
     ·
      rw [if_pos c5] at H
      have c5b0 : decide (x9_1 < (l0.length : Int)) = true := decide_eq_true c5
      clear c5
      by_cases c6 : ((rd_T35 l0 x9_1).f0) = a1
      ·
       rw [if_pos c6] at H
       have c6b0 : (((rd_T35 l0 x9_1).f0) == a1) = true := beq_iff_eq.mpr c6
       have c6b1 : (((rd_T35 l0 x9_1).f0) != a1) = false := bne_eq_false_iff_eq.mpr c6
       clear c6
       obtain rfl := Option.some.inj H
       have p347 : 0 ≤ (x9_1 : Int) := of_decide_eq_true (by first | (with_reducible assumption) | assumption)
       have q347 : x9_1 < (l0.length : Int) := of_decide_eq_true (by first | (with_reducible assumption) | assumption)
       obtain ⟨ad347, e347, hx347_0, hx347_1, hx347_2⟩ := at_T35 HR0.out x9_1 p347 q347
       cases e347
       replace hx347_0 := (HB.out.cell (World.block_lt_of_cell? w _ hx347_0)).trans hx347_0
       replace hx347_1 := (HB.out.cell (World.block_lt_of_cell? w _ hx347_1)).trans hx347_1
       replace hx347_2 := (HB.out.cell (World.block_lt_of_cell? w _ hx347_2)).trans hx347_2
       replace p347 := eq_true p347
       replace q347 := eq_true q347
       go_wp2_with (first | ((with_reducible refine gate_dst (N := 6) rfl ?_); refine box_event ?hg (N := 6) ?hd (cs := #[.int .i64 0, .string (⟨#[]⟩ : ByteArray), .string (⟨#[]⟩ : ByteArray)]) (t := 35) ?hr ?_; (case hd => rfl); (case hg => rfl); (case hr => first | (go_simp; done) | (go_simp; rfl)); intro gb348 hg w7 hbox hb; have n0_ := Aside0.mk (below_step (bz) hb); have n1_ := Aside0.mk (hbox); have n2_ : Aside0 (w.heap.size ≤ gb348) := bsg hg; have n3_ : Aside0 (w.heap.size ≤ gb348) := bsg hg; clear HB; have HB := n0_; have BK348 := n1_; have GW348 := n2_; have GE348 := n3_; clear n0_ n1_ n2_ n3_; clear hb hbox hg; have hcz8_0 : w7.cell? ⟨gb348, 0, none⟩ = some (.int .i64 0) := (blk_cell BK348.out 0).trans rfl; have hcz8_1 : w7.cell? ⟨gb348, 1, none⟩ = some (.string (⟨#[]⟩ : ByteArray)) := (blk_cell BK348.out 1).trans rfl; have hcz8_2 : w7.cell? ⟨gb348, 2, none⟩ = some (.string (⟨#[]⟩ : ByteArray)) := (blk_cell BK348.out 2).trans rfl; have hfz8_0 := blk_frozen BK348.out 0; have hfz8_1 := blk_frozen BK348.out 1; have hfz8_2 := blk_frozen BK348.out 2))
       go_ret
       exact ⟨by first | rfl | (simp only [u8w, w64m]; rfl) | (simp [errW_none, errW_some] <;> rfl) | (simp [*, errW_none, errW_some] <;> rfl), bz⟩
      ·
       rw [if_neg c6] at H
       have c6b0 : (((rd_T35 l0 x9_1).f0) == a1) = false := beq_eq_false_iff_ne.mpr c6
       have c6b1 : (((rd_T35 l0 x9_1).f0) != a1) = true := bne_iff_ne.mpr c6
       have H' := Aside0.mk H
       clear H
       have p347 : 0 ≤ (x9_1 : Int) := of_decide_eq_true (by first | (with_reducible assumption) | assumption)
       have q347 : x9_1 < (l0.length : Int) := of_decide_eq_true (by first | (with_reducible assumption) | assumption)
       obtain ⟨ad347, e347, hx347_0, hx347_1, hx347_2⟩ := at_T35 HR0.out x9_1 p347 q347
       cases e347
       replace hx347_0 := (HB.out.cell (World.block_lt_of_cell? w _ hx347_0)).trans hx347_0
       replace hx347_1 := (HB.out.cell (World.block_lt_of_cell? w _ hx347_1)).trans hx347_1
       replace hx347_2 := (HB.out.cell (World.block_lt_of_cell? w _ hx347_2)).trans hx347_2
       replace p347 := eq_true p347
       replace q347 := eq_true q347
       go_wp2_with (first | ((with_reducible refine gate_dst (N := 6) rfl ?_); refine box_event ?hg (N := 6) ?hd (cs := #[.int .i64 0, .string (⟨#[]⟩ : ByteArray), .string (⟨#[]⟩ : ByteArray)]) (t := 35) ?hr ?_; (case hd => rfl); (case hg => rfl); (case hr => first | (go_simp; done) | (go_simp; rfl)); intro gb348 hg w9 hbox hb; have n0_ := Aside0.mk (below_step (bz) hb); have n1_ := Aside0.mk (hbox); have n2_ : Aside0 (w.heap.size ≤ gb348) := bsg hg; have n3_ : Aside0 (w.heap.size ≤ gb348) := bsg hg; clear HB; have HB := n0_; have BK348 := n1_; have GW348 := n2_; have GE348 := n3_; clear n0_ n1_ n2_ n3_; clear hb hbox hg; have hcz10_0 : w9.cell? ⟨gb348, 0, none⟩ = some (.int .i64 0) := (blk_cell BK348.out 0).trans rfl; have hcz10_1 : w9.cell? ⟨gb348, 1, none⟩ = some (.string (⟨#[]⟩ : ByteArray)) := (blk_cell BK348.out 1).trans rfl; have hcz10_2 : w9.cell? ⟨gb348, 2, none⟩ = some (.string (⟨#[]⟩ : ByteArray)) := (blk_cell BK348.out 2).trans rfl; have hfz10_0 := blk_frozen BK348.out 0; have hfz10_1 := blk_frozen BK348.out 1; have hfz10_2 := blk_frozen BK348.out 2))
       go_roundg k1
       case measure => have := HK1.out; omega
       case rel => exact ⟨(wrap64 (x9_1 + 1)), (by first | rfl | (simp; done) | exact congrArg Value.bool (ne_nil_b _) | exact congrArg Value.bool (eq_nil_b _) | (simp [*]; done)), H', ⟨by have := HK1.out; omega⟩, ⟨bz⟩⟩
     ·
      rw [if_neg c5] at H
      exact absurd H (by simp)
    ·
     rw [if_neg c4] at H
     exact absurd H (by simp)
   ·
    rw [if_neg c3] at H
    have c3b0 : decide (x9_1 < (l0.length : Int)) = false := decide_eq_false c3
    clear c3
    obtain rfl := Option.some.inj H
    go_wp2
    go_ret
    exact ⟨by first | rfl | (simp only [u8w, w64m]; rfl) | (simp [errW_none, errW_some] <;> rfl) | (simp [*, errW_none, errW_some] <;> rfl), bz⟩

/-! ### impl_shardNumber: function 107 -/
def impl_shardNumber.f (a0 : Int) : Option (Bool) := if a0 ≥ 0 then (some (decide (a0 < 8))) else (some false)
set_option maxHeartbeats 8000000 in
set_option maxRecDepth 100000 in
theorem impl_shardNumber.calls (a0 : Int) (r : Bool) (w : World) (h : impl_shardNumber.f a0 = some r) :
  Calls Try.prog 107 #[.int .i64 a0] w fun e w' => e = .returned (.bool r) ∧ Drawn0 w w' := by
 have H : (if a0 ≥ 0 then (some (decide (a0 < 8))) else (some false)) = some r := h
 clear h
 by_cases c2 : a0 ≥ 0
 ·
  rw [if_pos c2] at H
  have c2b0 : decide (0 ≤ a0) = true := decide_eq_true c2
  clear c2
  obtain rfl := Option.some.inj H
  go_enter Try.func107, Try.ntmps107
  go_wp2
  go_ret
  exact ⟨by first | rfl | (simp; done) | exact congrArg Value.bool (ne_nil_b _) | exact congrArg Value.bool (eq_nil_b _) | (simp [*]; done), by repeat (first | exact Drawn0.refl _ | apply Drawn0.step)⟩
 ·
  rw [if_neg c2] at H
  have c2b0 : decide (0 ≤ a0) = false := decide_eq_false c2
  clear c2
  obtain rfl := Option.some.inj H
  go_enter Try.func107, Try.ntmps107
  go_wp2
  go_ret
  exact ⟨by first | rfl | (simp; done) | exact congrArg Value.bool (ne_nil_b _) | exact congrArg Value.bool (eq_nil_b _) | (simp [*]; done), by repeat (first | exact Drawn0.refl _ | apply Drawn0.step)⟩

end Go.Proofs.Ytkjkokljgbpbbaa.PFnRequestOf
