/- Go functions as plain Lean functions, and for each a proof that its call comes to what the function says; under the conditions that each theorem names. Written by a program of this session. -/
import Derived.Test.YtkjkokljgbpbbaaPFnRequestOfx0
import Derived.Test.YtkjkokljgbpbbaaPFnRequestOfx1
import Derived.Test.YtkjkokljgbpbbaaPFnRequestOfx2
import Derived.Test.YtkjkokljgbpbbaaPFnRequestOfx3
import Derived.Test.YtkjkokljgbpbbaaPFnRequestOfx5
import Derived.Test.YtkjkokljgbpbbaaPFnRequestOfx11
import Derived.Test.YtkjkokljgbpbbaaPFnRequestOfx14
import Derived.Test.YtkjkokljgbpbbaaPFnRequestOfx15
import Derived.Test.YtkjkokljgbpbbaaPFnRequestOfx16
namespace Go.Proofs.Ytkjkokljgbpbbaa.PFnRequestOf
open Go.RowKit Go.Proofs.YtkjkokljgbpbbaaW.PrintWords Go.Proofs.YtkjkokljgbpbbaaW.PrintLast Go.Proofs.YtkjkokljgbpbbaaW.PrintMore
attribute [local go_sem high] str_gtr str_leq str_geq
attribute [local go_sem] max2_int min2_int max_two min_two max_three min_three max_four min_four   -- for this text's walks alone
set_option linter.unusedVariables false
set_option linter.unusedSimpArgs false

attribute [local go_sem high] eqA39 eqA47
/-! ### spec_RequestOf: function 28 -/
def spec_RequestOf.f (k : Nat) (l0_0 : List (S35)) (a0_1 : Int) (a0_2 : Bool) (a0_3 : Int) (a0_4 : ByteArray) (a0_5 : Int) (a0_6 : Int) (a0_7 : Int) (a1 : Int) : Option (Int × Int × Int × ByteArray × Int × Int × Bool) := (spec_CallerValid.f k l0_0 a0_1 a0_2 a0_3 a0_4 a0_5 a0_6 a0_7).bind fun t398 => (if t398 = true then (if a0_2 = true then ((spec_l1In.f a1 0 3).bind fun t399 => (if t399 = true then (some (a1, a0_1, a0_3, a0_4, a0_5, a0_6, true)) else (some (0, 0, 0, (⟨#[]⟩ : ByteArray), 0, 0, false)))) else (some (0, 0, 0, (⟨#[]⟩ : ByteArray), 0, 0, false))) else (some (0, 0, 0, (⟨#[]⟩ : ByteArray), 0, 0, false)))
theorem spec_RequestOf.mono : ∀ a0 a1 a2 a3 a4 a5 a6 a7 a8 k, LeO (spec_RequestOf.f k a0 a1 a2 a3 a4 a5 a6 a7 a8) (spec_RequestOf.f (k + 1) a0 a1 a2 a3 a4 a5 a6 a7 a8) := by
 intro a0 a1 a2 a3 a4 a5 a6 a7 a8 k
 unfold spec_RequestOf.f
 repeat' first
   | (with_reducible exact spec_CallerValid.mono _ _ _ _ _ _ _ _ _)
   | (with_reducible exact LeO.refl _)
   | (with_reducible exact LeO.none _)
   | (with_reducible refine LeO.ite ?_ ?_)
   | (with_reducible refine LeO.bind ?_ (fun _ => ?_))
   | exact spec_CallerValid.mono _ _ _ _ _ _ _ _ _
   | exact LeO.none _
   | refine LeO.ite ?_ ?_
   | refine LeO.bind ?_ (fun _ => ?_)
set_option maxHeartbeats 8000000 in
set_option maxRecDepth 100000 in
theorem spec_RequestOf.calls (k : Nat) (A0_0 : Option Addr) (c0_0 : Nat) (l0_0 : List (S35)) (a0_1 : Int) (a0_2 : Bool) (a0_3 : Int) (a0_4 : ByteArray) (a0_5 : Int) (a0_6 : Int) (a0_7 : Int) (a1 : Int) (r1 : Int) (r2 : Int) (r3 : Int) (r4 : ByteArray) (r5 : Int) (r6 : Int) (r7 : Bool) (w : World) (hr0_0 : Kd.C k35 w A0_0 l0_0.length l0_0) (hc0_0 : l0_0.length ≤ c0_0) (h : spec_RequestOf.f k l0_0 a0_1 a0_2 a0_3 a0_4 a0_5 a0_6 a0_7 a1 = some (r1, r2, r3, r4, r5, r6, r7)) :
  Calls Try.prog 28 #[.agg #[.slice A0_0 l0_0.length c0_0, .int .i64 a0_1, .bool a0_2, .int .i64 a0_3, .string a0_4, .int .i64 a0_5, .int .i64 a0_6, .int .i64 a0_7], .int .i64 a1] w fun e w' => e = .returned (.tuple #[.agg #[.int .i64 r1, .int .i64 r2, .int .i64 r3, .string r4, .int .i64 r5, .int .i64 r6], .bool r7]) ∧ Below w.heap.size w w' := by
 have hu41 := Try.underlying41
 have hu47 := Try.underlying47
 have hu39 := Try.underlying39
 have HR0_0 := Aside0.mk hr0_0
 have HC0_0 := Aside0.mk hc0_0
 clear hr0_0 hc0_0
 have HB := Aside0.mk (Below.refl w.heap.size w)
 have H : ((spec_CallerValid.f k l0_0 a0_1 a0_2 a0_3 a0_4 a0_5 a0_6 a0_7).bind fun t398 => (if t398 = true then (if a0_2 = true then ((spec_l1In.f a1 0 3).bind fun t399 => (if t399 = true then (some (a1, a0_1, a0_3, a0_4, a0_5, a0_6, true)) else (some (0, 0, 0, (⟨#[]⟩ : ByteArray), 0, 0, false)))) else (some (0, 0, 0, (⟨#[]⟩ : ByteArray), 0, 0, false))) else (some (0, 0, 0, (⟨#[]⟩ : ByteArray), 0, 0, false)))) = some (r1, r2, r3, r4, r5, r6, r7) := h
 clear h
 replace H := Option.bind_eq_some_iff.mp H
 obtain ⟨t398, A30, H⟩ := H
 try dsimp only at H
 have A3 := Aside0.mk A30
 clear A30
 by_cases c4 : t398 = true
 ·
  subst c4
  rw [if_pos rfl] at H
  by_cases c5 : a0_2 = true
  ·
   subst c5
   rw [if_pos rfl] at H
   replace H := Option.bind_eq_some_iff.mp H
   obtain ⟨t399, A60, H⟩ := H
   try dsimp only at H
   have A6 := Aside0.mk A60
   clear A60
   by_cases c7 : t399 = true
   ·
    subst c7
    rw [if_pos rfl] at H
    simp only [Option.some.injEq, Prod.mk.injEq] at H
    obtain ⟨rfl, rfl, rfl, rfl, rfl, rfl, rfl⟩ := H
    go_enter Try.func28, Try.ntmps28
    go_wp2_with (first | ((with_reducible refine gate_dst (N := 2) rfl ?_); refine box_event ?hg (N := 2) ?hd (cs := #[.slice A0_0 l0_0.length c0_0, .int .i64 a0_1, .bool true, .int .i64 a0_3, .string a0_4, .int .i64 a0_5, .int .i64 a0_6, .int .i64 a0_7]) (t := 41) ?hr ?_; (case hd => rfl); (case hg => rfl); (case hr => first | (go_simp; done) | (go_simp; rfl)); intro gb396 hg w8 hbox hb; have n0_ := Aside0.mk (below_step (bz) hb); have n1_ := Aside0.mk (hbox); have n2_ : Aside0 (w.heap.size ≤ gb396) := bsg hg; have n3_ : Aside0 (w.heap.size ≤ gb396) := bsg hg; clear HB; have HB := n0_; have BK396 := n1_; have GW396 := n2_; have GE396 := n3_; clear n0_ n1_ n2_ n3_; clear hb hbox hg) | ((with_reducible refine gate_dst (N := 4) rfl ?_); refine box_event ?hg (N := 4) ?hd (cs := #[.int .i64 0, .int .i64 0, .int .i64 0, .string (⟨#[]⟩ : ByteArray), .int .i64 0, .int .i64 0]) (t := 47) ?hr ?_; (case hd => rfl); (case hg => rfl); (case hr => first | (go_simp; done) | (go_simp; rfl)); intro gb397 hg w9 hbox hb; have n0_ := bkb BK396 hb; have n1_ := Aside0.mk (below_step (bz) hb); have n2_ := Aside0.mk (hbox); have n3_ : Aside0 (w.heap.size ≤ gb397) := bsg hg; have n4_ : Aside0 (w.heap.size ≤ gb397) := bsg hg; have n5_ := nlt hg BK396; have n6_ := ngt hg BK396; clear BK396; clear HB; have BK396 := n0_; have HB := n1_; have BK397 := n2_; have GW397 := n3_; have GE397 := n4_; have NB396_397 := n5_; have NB397_396 := n6_; clear n0_ n1_ n2_ n3_ n4_ n5_ n6_; clear hb hbox hg; have hnb10 := NB396_397.out; have hnc10 := NB397_396.out; have hcz11_0 : w9.cell? ⟨gb396, 0, none⟩ = some (.slice A0_0 l0_0.length c0_0) := (blk_cell BK396.out 0).trans rfl; have hcz11_1 : w9.cell? ⟨gb396, 1, none⟩ = some (.int .i64 a0_1) := (blk_cell BK396.out 1).trans rfl; have hcz11_2 : w9.cell? ⟨gb396, 2, none⟩ = some (.bool true) := (blk_cell BK396.out 2).trans rfl; have hcz11_3 : w9.cell? ⟨gb396, 3, none⟩ = some (.int .i64 a0_3) := (blk_cell BK396.out 3).trans rfl; have hcz11_4 : w9.cell? ⟨gb396, 4, none⟩ = some (.string a0_4) := (blk_cell BK396.out 4).trans rfl; have hcz11_5 : w9.cell? ⟨gb396, 5, none⟩ = some (.int .i64 a0_5) := (blk_cell BK396.out 5).trans rfl; have hcz11_6 : w9.cell? ⟨gb396, 6, none⟩ = some (.int .i64 a0_6) := (blk_cell BK396.out 6).trans rfl; have hcz11_7 : w9.cell? ⟨gb396, 7, none⟩ = some (.int .i64 a0_7) := (blk_cell BK396.out 7).trans rfl; have hfz11_0 := blk_frozen BK396.out 0; have hfz11_1 := blk_frozen BK396.out 1; have hfz11_2 := blk_frozen BK396.out 2; have hfz11_3 := blk_frozen BK396.out 3; have hfz11_4 := blk_frozen BK396.out 4; have hfz11_5 := blk_frozen BK396.out 5; have hfz11_6 := blk_frozen BK396.out 6; have hfz11_7 := blk_frozen BK396.out 7) | ((with_reducible refine gate_callee (f := 25) rfl ?_); refine goesL_ (some 7) rfl rfl Try.func25 (by kernel_rfl) rfl #[.agg #[.slice A0_0 l0_0.length c0_0, .int .i64 a0_1, .bool true, .int .i64 a0_3, .string a0_4, .int .i64 a0_5, .int .i64 a0_6, .int .i64 a0_7]] rfl (by (try simp only [List.map_toArray, List.map_cons, List.map_nil]); first | done | rfl | (simp only [List.length_drop, List.length_take]; rfl)) ?_; (with_reducible refine (spec_CallerValid.calls k _ _ l0_0 a0_1 true a0_3 a0_4 a0_5 a0_6 a0_7 true _ ?side1 ?side2 A3.out).mono ?_); (case side1 => repeat (first | exact (Kd.C_below HR0_0.out HB.out) | (with_reducible refine Kd.C_alloc ?_ _) | (with_reducible refine Kd.C_drewN ?_ _) | (with_reducible refine Kd.C_drew ?_))); (case side2 => exact HC0_0.out); rintro e w12 ⟨rfl, hb⟩; refine ⟨_, rfl, ?_⟩; have n0_ := bkb BK396 hb; have n1_ := bkb BK397 hb; have n2_ := Aside0.mk (below_step (bz) hb); clear BK396; clear BK397; clear HB; have BK396 := n0_; have BK397 := n1_; have HB := n2_; clear n0_ n1_ n2_; (try clear hb); (try clear hb2); (try clear hk); (try clear hi); have hcz13_0 : w12.cell? ⟨gb396, 0, none⟩ = some (.slice A0_0 l0_0.length c0_0) := (blk_cell BK396.out 0).trans rfl; have hcz13_1 : w12.cell? ⟨gb396, 1, none⟩ = some (.int .i64 a0_1) := (blk_cell BK396.out 1).trans rfl; have hcz13_2 : w12.cell? ⟨gb396, 2, none⟩ = some (.bool true) := (blk_cell BK396.out 2).trans rfl; have hcz13_3 : w12.cell? ⟨gb396, 3, none⟩ = some (.int .i64 a0_3) := (blk_cell BK396.out 3).trans rfl; have hcz13_4 : w12.cell? ⟨gb396, 4, none⟩ = some (.string a0_4) := (blk_cell BK396.out 4).trans rfl; have hcz13_5 : w12.cell? ⟨gb396, 5, none⟩ = some (.int .i64 a0_5) := (blk_cell BK396.out 5).trans rfl; have hcz13_6 : w12.cell? ⟨gb396, 6, none⟩ = some (.int .i64 a0_6) := (blk_cell BK396.out 6).trans rfl; have hcz13_7 : w12.cell? ⟨gb396, 7, none⟩ = some (.int .i64 a0_7) := (blk_cell BK396.out 7).trans rfl; have hfz13_0 := blk_frozen BK396.out 0; have hfz13_1 := blk_frozen BK396.out 1; have hfz13_2 := blk_frozen BK396.out 2; have hfz13_3 := blk_frozen BK396.out 3; have hfz13_4 := blk_frozen BK396.out 4; have hfz13_5 := blk_frozen BK396.out 5; have hfz13_6 := blk_frozen BK396.out 6; have hfz13_7 := blk_frozen BK396.out 7) | (go_at_call 89; (with_reducible refine (spec_l1In.calls a1 0 3 true _ A6.out).mono ?_); rintro e w' ⟨rfl, ⟨nd, rfl⟩⟩; (try (rw [drewN_self w12]; generalize hq_ : World.drewN w12 _ = w12; have n0_ : Aside0 (w12.heap[gb396]? = some (.cells #[.slice A0_0 l0_0.length c0_0, .int .i64 a0_1, .bool true, .int .i64 a0_3, .string a0_4, .int .i64 a0_5, .int .i64 a0_6, .int .i64 a0_7] 41 (0, 0))) := ⟨by rw [← hq_]; exact (bq BK396)⟩; have n1_ : Aside0 (w12.heap[gb397]? = some (.cells #[.int .i64 0, .int .i64 0, .int .i64 0, .string (⟨#[]⟩ : ByteArray), .int .i64 0, .int .i64 0] 47 (0, 0))) := ⟨by rw [← hq_]; exact (bq BK397)⟩; have n2_ : Aside0 (Below w.heap.size w w12) := ⟨by rw [← hq_]; exact (bz)⟩; clear BK396 BK397 HB hq_; have BK396 := n0_; have BK397 := n1_; have HB := n2_; clear n0_ n1_ n2_)); (try have hcu396_0 : w12.cell? ⟨gb396, 0, none⟩ = some (.slice A0_0 l0_0.length c0_0) := (blk_cell BK396.out 0).trans rfl); (try have hcu396_1 : w12.cell? ⟨gb396, 1, none⟩ = some (.int .i64 a0_1) := (blk_cell BK396.out 1).trans rfl); (try have hcu396_2 : w12.cell? ⟨gb396, 2, none⟩ = some (.bool true) := (blk_cell BK396.out 2).trans rfl); (try have hcu396_3 : w12.cell? ⟨gb396, 3, none⟩ = some (.int .i64 a0_3) := (blk_cell BK396.out 3).trans rfl); (try have hcu396_4 : w12.cell? ⟨gb396, 4, none⟩ = some (.string a0_4) := (blk_cell BK396.out 4).trans rfl); (try have hcu396_5 : w12.cell? ⟨gb396, 5, none⟩ = some (.int .i64 a0_5) := (blk_cell BK396.out 5).trans rfl); (try have hcu396_6 : w12.cell? ⟨gb396, 6, none⟩ = some (.int .i64 a0_6) := (blk_cell BK396.out 6).trans rfl); (try have hcu396_7 : w12.cell? ⟨gb396, 7, none⟩ = some (.int .i64 a0_7) := (blk_cell BK396.out 7).trans rfl); (try have hfu396_0 := blk_frozen BK396.out 0); (try have hfu396_1 := blk_frozen BK396.out 1); (try have hfu396_2 := blk_frozen BK396.out 2); (try have hfu396_3 := blk_frozen BK396.out 3); (try have hfu396_4 := blk_frozen BK396.out 4); (try have hfu396_5 := blk_frozen BK396.out 5); (try have hfu396_6 := blk_frozen BK396.out 6); (try have hfu396_7 := blk_frozen BK396.out 7); (try have hcu397_0 : w12.cell? ⟨gb397, 0, none⟩ = some (.int .i64 0) := (blk_cell BK397.out 0).trans rfl); (try have hcu397_1 : w12.cell? ⟨gb397, 1, none⟩ = some (.int .i64 0) := (blk_cell BK397.out 1).trans rfl); (try have hcu397_2 : w12.cell? ⟨gb397, 2, none⟩ = some (.int .i64 0) := (blk_cell BK397.out 2).trans rfl); (try have hcu397_3 : w12.cell? ⟨gb397, 3, none⟩ = some (.string (⟨#[]⟩ : ByteArray)) := (blk_cell BK397.out 3).trans rfl); (try have hcu397_4 : w12.cell? ⟨gb397, 4, none⟩ = some (.int .i64 0) := (blk_cell BK397.out 4).trans rfl); (try have hcu397_5 : w12.cell? ⟨gb397, 5, none⟩ = some (.int .i64 0) := (blk_cell BK397.out 5).trans rfl); (try have hfu397_0 := blk_frozen BK397.out 0); (try have hfu397_1 := blk_frozen BK397.out 1); (try have hfu397_2 := blk_frozen BK397.out 2); (try have hfu397_3 := blk_frozen BK397.out 3); (try have hfu397_4 := blk_frozen BK397.out 4); (try have hfu397_5 := blk_frozen BK397.out 5); have hcz14_0 : w12.cell? ⟨gb397, 0, none⟩ = some (.int .i64 0) := (blk_cell BK397.out 0).trans rfl; have hcz14_1 : w12.cell? ⟨gb397, 1, none⟩ = some (.int .i64 0) := (blk_cell BK397.out 1).trans rfl; have hcz14_2 : w12.cell? ⟨gb397, 2, none⟩ = some (.int .i64 0) := (blk_cell BK397.out 2).trans rfl; have hcz14_3 : w12.cell? ⟨gb397, 3, none⟩ = some (.string (⟨#[]⟩ : ByteArray)) := (blk_cell BK397.out 3).trans rfl; have hcz14_4 : w12.cell? ⟨gb397, 4, none⟩ = some (.int .i64 0) := (blk_cell BK397.out 4).trans rfl; have hcz14_5 : w12.cell? ⟨gb397, 5, none⟩ = some (.int .i64 0) := (blk_cell BK397.out 5).trans rfl; have hfz14_0 := blk_frozen BK397.out 0; have hfz14_1 := blk_frozen BK397.out 1; have hfz14_2 := blk_frozen BK397.out 2; have hfz14_3 := blk_frozen BK397.out 3; have hfz14_4 := blk_frozen BK397.out 4; have hfz14_5 := blk_frozen BK397.out 5))
    refine bodyPost_ret (results_ct rfl _ _ gb397 47 #[.int .i64 a1, .int .i64 a0_1, .int .i64 a0_3, .string a0_4, .int .i64 a0_5, .int .i64 a0_6] (0, 0) _ rfl (by (with_reducible repeat (first | refine blk_drewN ?_ _ | refine blk_drew ?_ | refine blk_alloc ?_ _)); refine blk_put (cs := #[.int .i64 a1, .int .i64 a0_1, .int .i64 a0_3, .string a0_4, .int .i64 a0_5, .int .i64 0]) ?_ 5 _ rfl; (with_reducible repeat (first | refine blk_drewN ?_ _ | refine blk_drew ?_ | refine blk_alloc ?_ _)); refine blk_put (cs := #[.int .i64 a1, .int .i64 a0_1, .int .i64 a0_3, .string a0_4, .int .i64 0, .int .i64 0]) ?_ 4 _ rfl; (with_reducible repeat (first | refine blk_drewN ?_ _ | refine blk_drew ?_ | refine blk_alloc ?_ _)); refine blk_put (cs := #[.int .i64 a1, .int .i64 a0_1, .int .i64 a0_3, .string (⟨#[]⟩ : ByteArray), .int .i64 0, .int .i64 0]) ?_ 3 _ rfl; (with_reducible repeat (first | refine blk_drewN ?_ _ | refine blk_drew ?_ | refine blk_alloc ?_ _)); refine blk_put (cs := #[.int .i64 a1, .int .i64 a0_1, .int .i64 0, .string (⟨#[]⟩ : ByteArray), .int .i64 0, .int .i64 0]) ?_ 2 _ rfl; (with_reducible repeat (first | refine blk_drewN ?_ _ | refine blk_drew ?_ | refine blk_alloc ?_ _)); refine blk_put (cs := #[.int .i64 a1, .int .i64 0, .int .i64 0, .string (⟨#[]⟩ : ByteArray), .int .i64 0, .int .i64 0]) ?_ 1 _ rfl; (with_reducible repeat (first | refine blk_drewN ?_ _ | refine blk_drew ?_ | refine blk_alloc ?_ _)); refine blk_put (cs := #[.int .i64 0, .int .i64 0, .int .i64 0, .string (⟨#[]⟩ : ByteArray), .int .i64 0, .int .i64 0]) ?_ 0 _ rfl; (with_reducible repeat (first | refine blk_drewN ?_ _ | refine blk_drew ?_ | refine blk_alloc ?_ _)); exact BK397.out) Try.underlying47 rfl (by kernel_rfl)) rfl ?_
    exact ⟨by first | rfl | (simp only [u8w, w64m]; rfl) | (simp [errW_none, errW_some] <;> rfl) | (simp [*, errW_none, errW_some] <;> rfl), bz⟩
   ·
    replace c7 := Bool.eq_false_iff.mpr c7
    subst c7
    rw [if_neg (show ¬ (false = true) by decide)] at H
    simp only [Option.some.injEq, Prod.mk.injEq] at H
    obtain ⟨rfl, rfl, rfl, rfl, rfl, rfl, rfl⟩ := H
    go_enter Try.func28, Try.ntmps28
    go_wp2_with (first | ((with_reducible refine gate_dst (N := 2) rfl ?_); refine box_event ?hg (N := 2) ?hd (cs := #[.slice A0_0 l0_0.length c0_0, .int .i64 a0_1, .bool true, .int .i64 a0_3, .string a0_4, .int .i64 a0_5, .int .i64 a0_6, .int .i64 a0_7]) (t := 41) ?hr ?_; (case hd => rfl); (case hg => rfl); (case hr => first | (go_simp; done) | (go_simp; rfl)); intro gb396 hg w15 hbox hb; have n0_ := Aside0.mk (below_step (bz) hb); have n1_ := Aside0.mk (hbox); have n2_ : Aside0 (w.heap.size ≤ gb396) := bsg hg; have n3_ : Aside0 (w.heap.size ≤ gb396) := bsg hg; clear HB; have HB := n0_; have BK396 := n1_; have GW396 := n2_; have GE396 := n3_; clear n0_ n1_ n2_ n3_; clear hb hbox hg) | ((with_reducible refine gate_dst (N := 4) rfl ?_); refine box_event ?hg (N := 4) ?hd (cs := #[.int .i64 0, .int .i64 0, .int .i64 0, .string (⟨#[]⟩ : ByteArray), .int .i64 0, .int .i64 0]) (t := 47) ?hr ?_; (case hd => rfl); (case hg => rfl); (case hr => first | (go_simp; done) | (go_simp; rfl)); intro gb397 hg w16 hbox hb; have n0_ := bkb BK396 hb; have n1_ := Aside0.mk (below_step (bz) hb); have n2_ := Aside0.mk (hbox); have n3_ : Aside0 (w.heap.size ≤ gb397) := bsg hg; have n4_ : Aside0 (w.heap.size ≤ gb397) := bsg hg; have n5_ := nlt hg BK396; have n6_ := ngt hg BK396; clear BK396; clear HB; have BK396 := n0_; have HB := n1_; have BK397 := n2_; have GW397 := n3_; have GE397 := n4_; have NB396_397 := n5_; have NB397_396 := n6_; clear n0_ n1_ n2_ n3_ n4_ n5_ n6_; clear hb hbox hg; have hnb17 := NB396_397.out; have hnc17 := NB397_396.out; have hcz18_0 : w16.cell? ⟨gb396, 0, none⟩ = some (.slice A0_0 l0_0.length c0_0) := (blk_cell BK396.out 0).trans rfl; have hcz18_1 : w16.cell? ⟨gb396, 1, none⟩ = some (.int .i64 a0_1) := (blk_cell BK396.out 1).trans rfl; have hcz18_2 : w16.cell? ⟨gb396, 2, none⟩ = some (.bool true) := (blk_cell BK396.out 2).trans rfl; have hcz18_3 : w16.cell? ⟨gb396, 3, none⟩ = some (.int .i64 a0_3) := (blk_cell BK396.out 3).trans rfl; have hcz18_4 : w16.cell? ⟨gb396, 4, none⟩ = some (.string a0_4) := (blk_cell BK396.out 4).trans rfl; have hcz18_5 : w16.cell? ⟨gb396, 5, none⟩ = some (.int .i64 a0_5) := (blk_cell BK396.out 5).trans rfl; have hcz18_6 : w16.cell? ⟨gb396, 6, none⟩ = some (.int .i64 a0_6) := (blk_cell BK396.out 6).trans rfl; have hcz18_7 : w16.cell? ⟨gb396, 7, none⟩ = some (.int .i64 a0_7) := (blk_cell BK396.out 7).trans rfl; have hfz18_0 := blk_frozen BK396.out 0; have hfz18_1 := blk_frozen BK396.out 1; have hfz18_2 := blk_frozen BK396.out 2; have hfz18_3 := blk_frozen BK396.out 3; have hfz18_4 := blk_frozen BK396.out 4; have hfz18_5 := blk_frozen BK396.out 5; have hfz18_6 := blk_frozen BK396.out 6; have hfz18_7 := blk_frozen BK396.out 7) | ((with_reducible refine gate_callee (f := 25) rfl ?_); refine goesL_ (some 7) rfl rfl Try.func25 (by kernel_rfl) rfl #[.agg #[.slice A0_0 l0_0.length c0_0, .int .i64 a0_1, .bool true, .int .i64 a0_3, .string a0_4, .int .i64 a0_5, .int .i64 a0_6, .int .i64 a0_7]] rfl (by (try simp only [List.map_toArray, List.map_cons, List.map_nil]); first | done | rfl | (simp only [List.length_drop, List.length_take]; rfl)) ?_; (with_reducible refine (spec_CallerValid.calls k _ _ l0_0 a0_1 true a0_3 a0_4 a0_5 a0_6 a0_7 true _ ?side1 ?side2 A3.out).mono ?_); (case side1 => repeat (first | exact (Kd.C_below HR0_0.out HB.out) | (with_reducible refine Kd.C_alloc ?_ _) | (with_reducible refine Kd.C_drewN ?_ _) | (with_reducible refine Kd.C_drew ?_))); (case side2 => exact HC0_0.out); rintro e w19 ⟨rfl, hb⟩; refine ⟨_, rfl, ?_⟩; have n0_ := bkb BK396 hb; have n1_ := bkb BK397 hb; have n2_ := Aside0.mk (below_step (bz) hb); clear BK396; clear BK397; clear HB; have BK396 := n0_; have BK397 := n1_; have HB := n2_; clear n0_ n1_ n2_; (try clear hb); (try clear hb2); (try clear hk); (try clear hi); have hcz20_0 : w19.cell? ⟨gb396, 0, none⟩ = some (.slice A0_0 l0_0.length c0_0) := (blk_cell BK396.out 0).trans rfl; have hcz20_1 : w19.cell? ⟨gb396, 1, none⟩ = some (.int .i64 a0_1) := (blk_cell BK396.out 1).trans rfl; have hcz20_2 : w19.cell? ⟨gb396, 2, none⟩ = some (.bool true) := (blk_cell BK396.out 2).trans rfl; have hcz20_3 : w19.cell? ⟨gb396, 3, none⟩ = some (.int .i64 a0_3) := (blk_cell BK396.out 3).trans rfl; have hcz20_4 : w19.cell? ⟨gb396, 4, none⟩ = some (.string a0_4) := (blk_cell BK396.out 4).trans rfl; have hcz20_5 : w19.cell? ⟨gb396, 5, none⟩ = some (.int .i64 a0_5) := (blk_cell BK396.out 5).trans rfl; have hcz20_6 : w19.cell? ⟨gb396, 6, none⟩ = some (.int .i64 a0_6) := (blk_cell BK396.out 6).trans rfl; have hcz20_7 : w19.cell? ⟨gb396, 7, none⟩ = some (.int .i64 a0_7) := (blk_cell BK396.out 7).trans rfl; have hfz20_0 := blk_frozen BK396.out 0; have hfz20_1 := blk_frozen BK396.out 1; have hfz20_2 := blk_frozen BK396.out 2; have hfz20_3 := blk_frozen BK396.out 3; have hfz20_4 := blk_frozen BK396.out 4; have hfz20_5 := blk_frozen BK396.out 5; have hfz20_6 := blk_frozen BK396.out 6; have hfz20_7 := blk_frozen BK396.out 7) | (go_at_call 89; (with_reducible refine (spec_l1In.calls a1 0 3 false _ A6.out).mono ?_); rintro e w' ⟨rfl, ⟨nd, rfl⟩⟩; (try (rw [drewN_self w19]; generalize hq_ : World.drewN w19 _ = w19; have n0_ : Aside0 (w19.heap[gb396]? = some (.cells #[.slice A0_0 l0_0.length c0_0, .int .i64 a0_1, .bool true, .int .i64 a0_3, .string a0_4, .int .i64 a0_5, .int .i64 a0_6, .int .i64 a0_7] 41 (0, 0))) := ⟨by rw [← hq_]; exact (bq BK396)⟩; have n1_ : Aside0 (w19.heap[gb397]? = some (.cells #[.int .i64 0, .int .i64 0, .int .i64 0, .string (⟨#[]⟩ : ByteArray), .int .i64 0, .int .i64 0] 47 (0, 0))) := ⟨by rw [← hq_]; exact (bq BK397)⟩; have n2_ : Aside0 (Below w.heap.size w w19) := ⟨by rw [← hq_]; exact (bz)⟩; clear BK396 BK397 HB hq_; have BK396 := n0_; have BK397 := n1_; have HB := n2_; clear n0_ n1_ n2_)); (try have hcu396_0 : w19.cell? ⟨gb396, 0, none⟩ = some (.slice A0_0 l0_0.length c0_0) := (blk_cell BK396.out 0).trans rfl); (try have hcu396_1 : w19.cell? ⟨gb396, 1, none⟩ = some (.int .i64 a0_1) := (blk_cell BK396.out 1).trans rfl); (try have hcu396_2 : w19.cell? ⟨gb396, 2, none⟩ = some (.bool true) := (blk_cell BK396.out 2).trans rfl); (try have hcu396_3 : w19.cell? ⟨gb396, 3, none⟩ = some (.int .i64 a0_3) := (blk_cell BK396.out 3).trans rfl); (try have hcu396_4 : w19.cell? ⟨gb396, 4, none⟩ = some (.string a0_4) := (blk_cell BK396.out 4).trans rfl); (try have hcu396_5 : w19.cell? ⟨gb396, 5, none⟩ = some (.int .i64 a0_5) := (blk_cell BK396.out 5).trans rfl); (try have hcu396_6 : w19.cell? ⟨gb396, 6, none⟩ = some (.int .i64 a0_6) := (blk_cell BK396.out 6).trans rfl); (try have hcu396_7 : w19.cell? ⟨gb396, 7, none⟩ = some (.int .i64 a0_7) := (blk_cell BK396.out 7).trans rfl); (try have hfu396_0 := blk_frozen BK396.out 0); (try have hfu396_1 := blk_frozen BK396.out 1); (try have hfu396_2 := blk_frozen BK396.out 2); (try have hfu396_3 := blk_frozen BK396.out 3); (try have hfu396_4 := blk_frozen BK396.out 4); (try have hfu396_5 := blk_frozen BK396.out 5); (try have hfu396_6 := blk_frozen BK396.out 6); (try have hfu396_7 := blk_frozen BK396.out 7); (try have hcu397_0 : w19.cell? ⟨gb397, 0, none⟩ = some (.int .i64 0) := (blk_cell BK397.out 0).trans rfl); (try have hcu397_1 : w19.cell? ⟨gb397, 1, none⟩ = some (.int .i64 0) := (blk_cell BK397.out 1).trans rfl); (try have hcu397_2 : w19.cell? ⟨gb397, 2, none⟩ = some (.int .i64 0) := (blk_cell BK397.out 2).trans rfl); (try have hcu397_3 : w19.cell? ⟨gb397, 3, none⟩ = some (.string (⟨#[]⟩ : ByteArray)) := (blk_cell BK397.out 3).trans rfl); (try have hcu397_4 : w19.cell? ⟨gb397, 4, none⟩ = some (.int .i64 0) := (blk_cell BK397.out 4).trans rfl); (try have hcu397_5 : w19.cell? ⟨gb397, 5, none⟩ = some (.int .i64 0) := (blk_cell BK397.out 5).trans rfl); (try have hfu397_0 := blk_frozen BK397.out 0); (try have hfu397_1 := blk_frozen BK397.out 1); (try have hfu397_2 := blk_frozen BK397.out 2); (try have hfu397_3 := blk_frozen BK397.out 3); (try have hfu397_4 := blk_frozen BK397.out 4); (try have hfu397_5 := blk_frozen BK397.out 5); have hcz21_0 : w19.cell? ⟨gb397, 0, none⟩ = some (.int .i64 0) := (blk_cell BK397.out 0).trans rfl; have hcz21_1 : w19.cell? ⟨gb397, 1, none⟩ = some (.int .i64 0) := (blk_cell BK397.out 1).trans rfl; have hcz21_2 : w19.cell? ⟨gb397, 2, none⟩ = some (.int .i64 0) := (blk_cell BK397.out 2).trans rfl; have hcz21_3 : w19.cell? ⟨gb397, 3, none⟩ = some (.string (⟨#[]⟩ : ByteArray)) := (blk_cell BK397.out 3).trans rfl; have hcz21_4 : w19.cell? ⟨gb397, 4, none⟩ = some (.int .i64 0) := (blk_cell BK397.out 4).trans rfl; have hcz21_5 : w19.cell? ⟨gb397, 5, none⟩ = some (.int .i64 0) := (blk_cell BK397.out 5).trans rfl; have hfz21_0 := blk_frozen BK397.out 0; have hfz21_1 := blk_frozen BK397.out 1; have hfz21_2 := blk_frozen BK397.out 2; have hfz21_3 := blk_frozen BK397.out 3; have hfz21_4 := blk_frozen BK397.out 4; have hfz21_5 := blk_frozen BK397.out 5))
    refine bodyPost_ret (results_ct rfl _ _ gb397 47 #[.int .i64 0, .int .i64 0, .int .i64 0, .string (⟨#[]⟩ : ByteArray), .int .i64 0, .int .i64 0] (0, 0) _ rfl (by (with_reducible repeat (first | refine blk_drewN ?_ _ | refine blk_drew ?_ | refine blk_alloc ?_ _)); refine blk_put (cs := #[.int .i64 0, .int .i64 0, .int .i64 0, .string (⟨#[]⟩ : ByteArray), .int .i64 0, .int .i64 0]) ?_ 5 _ rfl; (with_reducible repeat (first | refine blk_drewN ?_ _ | refine blk_drew ?_ | refine blk_alloc ?_ _)); refine blk_put (cs := #[.int .i64 0, .int .i64 0, .int .i64 0, .string (⟨#[]⟩ : ByteArray), .int .i64 0, .int .i64 0]) ?_ 4 _ rfl; (with_reducible repeat (first | refine blk_drewN ?_ _ | refine blk_drew ?_ | refine blk_alloc ?_ _)); refine blk_put (cs := #[.int .i64 0, .int .i64 0, .int .i64 0, .string (⟨#[]⟩ : ByteArray), .int .i64 0, .int .i64 0]) ?_ 3 _ rfl; (with_reducible repeat (first | refine blk_drewN ?_ _ | refine blk_drew ?_ | refine blk_alloc ?_ _)); refine blk_put (cs := #[.int .i64 0, .int .i64 0, .int .i64 0, .string (⟨#[]⟩ : ByteArray), .int .i64 0, .int .i64 0]) ?_ 2 _ rfl; (with_reducible repeat (first | refine blk_drewN ?_ _ | refine blk_drew ?_ | refine blk_alloc ?_ _)); refine blk_put (cs := #[.int .i64 0, .int .i64 0, .int .i64 0, .string (⟨#[]⟩ : ByteArray), .int .i64 0, .int .i64 0]) ?_ 1 _ rfl; (with_reducible repeat (first | refine blk_drewN ?_ _ | refine blk_drew ?_ | refine blk_alloc ?_ _)); refine blk_put (cs := #[.int .i64 0, .int .i64 0, .int .i64 0, .string (⟨#[]⟩ : ByteArray), .int .i64 0, .int .i64 0]) ?_ 0 _ rfl; (with_reducible repeat (first | refine blk_drewN ?_ _ | refine blk_drew ?_ | refine blk_alloc ?_ _)); exact BK397.out) Try.underlying47 rfl (by kernel_rfl)) rfl ?_
    exact ⟨by first | rfl | (simp only [u8w, w64m]; rfl) | (simp [errW_none, errW_some] <;> rfl) | (simp [*, errW_none, errW_some] <;> rfl), bz⟩
  ·
   replace c5 := Bool.eq_false_iff.mpr c5
   subst c5
   rw [if_neg (show ¬ (false = true) by decide)] at H
   simp only [Option.some.injEq, Prod.mk.injEq] at H
   obtain ⟨rfl, rfl, rfl, rfl, rfl, rfl, rfl⟩ := H
   go_enter Try.func28, Try.ntmps28
   go_wp2_with (first | ((with_reducible refine gate_dst (N := 2) rfl ?_); refine box_event ?hg (N := 2) ?hd (cs := #[.slice A0_0 l0_0.length c0_0, .int .i64 a0_1, .bool false, .int .i64 a0_3, .string a0_4, .int .i64 a0_5, .int .i64 a0_6, .int .i64 a0_7]) (t := 41) ?hr ?_; (case hd => rfl); (case hg => rfl); (case hr => first | (go_simp; done) | (go_simp; rfl)); intro gb396 hg w22 hbox hb; have n0_ := Aside0.mk (below_step (bz) hb); have n1_ := Aside0.mk (hbox); have n2_ : Aside0 (w.heap.size ≤ gb396) := bsg hg; have n3_ : Aside0 (w.heap.size ≤ gb396) := bsg hg; clear HB; have HB := n0_; have BK396 := n1_; have GW396 := n2_; have GE396 := n3_; clear n0_ n1_ n2_ n3_; clear hb hbox hg) | ((with_reducible refine gate_dst (N := 4) rfl ?_); refine box_event ?hg (N := 4) ?hd (cs := #[.int .i64 0, .int .i64 0, .int .i64 0, .string (⟨#[]⟩ : ByteArray), .int .i64 0, .int .i64 0]) (t := 47) ?hr ?_; (case hd => rfl); (case hg => rfl); (case hr => first | (go_simp; done) | (go_simp; rfl)); intro gb397 hg w23 hbox hb; have n0_ := bkb BK396 hb; have n1_ := Aside0.mk (below_step (bz) hb); have n2_ := Aside0.mk (hbox); have n3_ : Aside0 (w.heap.size ≤ gb397) := bsg hg; have n4_ : Aside0 (w.heap.size ≤ gb397) := bsg hg; have n5_ := nlt hg BK396; have n6_ := ngt hg BK396; clear BK396; clear HB; have BK396 := n0_; have HB := n1_; have BK397 := n2_; have GW397 := n3_; have GE397 := n4_; have NB396_397 := n5_; have NB397_396 := n6_; clear n0_ n1_ n2_ n3_ n4_ n5_ n6_; clear hb hbox hg; have hnb24 := NB396_397.out; have hnc24 := NB397_396.out; have hcz25_0 : w23.cell? ⟨gb396, 0, none⟩ = some (.slice A0_0 l0_0.length c0_0) := (blk_cell BK396.out 0).trans rfl; have hcz25_1 : w23.cell? ⟨gb396, 1, none⟩ = some (.int .i64 a0_1) := (blk_cell BK396.out 1).trans rfl; have hcz25_2 : w23.cell? ⟨gb396, 2, none⟩ = some (.bool false) := (blk_cell BK396.out 2).trans rfl; have hcz25_3 : w23.cell? ⟨gb396, 3, none⟩ = some (.int .i64 a0_3) := (blk_cell BK396.out 3).trans rfl; have hcz25_4 : w23.cell? ⟨gb396, 4, none⟩ = some (.string a0_4) := (blk_cell BK396.out 4).trans rfl; have hcz25_5 : w23.cell? ⟨gb396, 5, none⟩ = some (.int .i64 a0_5) := (blk_cell BK396.out 5).trans rfl; have hcz25_6 : w23.cell? ⟨gb396, 6, none⟩ = some (.int .i64 a0_6) := (blk_cell BK396.out 6).trans rfl; have hcz25_7 : w23.cell? ⟨gb396, 7, none⟩ = some (.int .i64 a0_7) := (blk_cell BK396.out 7).trans rfl; have hfz25_0 := blk_frozen BK396.out 0; have hfz25_1 := blk_frozen BK396.out 1; have hfz25_2 := blk_frozen BK396.out 2; have hfz25_3 := blk_frozen BK396.out 3; have hfz25_4 := blk_frozen BK396.out 4; have hfz25_5 := blk_frozen BK396.out 5; have hfz25_6 := blk_frozen BK396.out 6; have hfz25_7 := blk_frozen BK396.out 7) | ((with_reducible refine gate_callee (f := 25) rfl ?_); refine goesL_ (some 7) rfl rfl Try.func25 (by kernel_rfl) rfl #[.agg #[.slice A0_0 l0_0.length c0_0, .int .i64 a0_1, .bool false, .int .i64 a0_3, .string a0_4, .int .i64 a0_5, .int .i64 a0_6, .int .i64 a0_7]] rfl (by (try simp only [List.map_toArray, List.map_cons, List.map_nil]); first | done | rfl | (simp only [List.length_drop, List.length_take]; rfl)) ?_; (with_reducible refine (spec_CallerValid.calls k _ _ l0_0 a0_1 false a0_3 a0_4 a0_5 a0_6 a0_7 true _ ?side1 ?side2 A3.out).mono ?_); (case side1 => repeat (first | exact (Kd.C_below HR0_0.out HB.out) | (with_reducible refine Kd.C_alloc ?_ _) | (with_reducible refine Kd.C_drewN ?_ _) | (with_reducible refine Kd.C_drew ?_))); (case side2 => exact HC0_0.out); rintro e w26 ⟨rfl, hb⟩; refine ⟨_, rfl, ?_⟩; have n0_ := bkb BK396 hb; have n1_ := bkb BK397 hb; have n2_ := Aside0.mk (below_step (bz) hb); clear BK396; clear BK397; clear HB; have BK396 := n0_; have BK397 := n1_; have HB := n2_; clear n0_ n1_ n2_; (try clear hb); (try clear hb2); (try clear hk); (try clear hi); have hcz27_0 : w26.cell? ⟨gb396, 0, none⟩ = some (.slice A0_0 l0_0.length c0_0) := (blk_cell BK396.out 0).trans rfl; have hcz27_1 : w26.cell? ⟨gb396, 1, none⟩ = some (.int .i64 a0_1) := (blk_cell BK396.out 1).trans rfl; have hcz27_2 : w26.cell? ⟨gb396, 2, none⟩ = some (.bool false) := (blk_cell BK396.out 2).trans rfl; have hcz27_3 : w26.cell? ⟨gb396, 3, none⟩ = some (.int .i64 a0_3) := (blk_cell BK396.out 3).trans rfl; have hcz27_4 : w26.cell? ⟨gb396, 4, none⟩ = some (.string a0_4) := (blk_cell BK396.out 4).trans rfl; have hcz27_5 : w26.cell? ⟨gb396, 5, none⟩ = some (.int .i64 a0_5) := (blk_cell BK396.out 5).trans rfl; have hcz27_6 : w26.cell? ⟨gb396, 6, none⟩ = some (.int .i64 a0_6) := (blk_cell BK396.out 6).trans rfl; have hcz27_7 : w26.cell? ⟨gb396, 7, none⟩ = some (.int .i64 a0_7) := (blk_cell BK396.out 7).trans rfl; have hfz27_0 := blk_frozen BK396.out 0; have hfz27_1 := blk_frozen BK396.out 1; have hfz27_2 := blk_frozen BK396.out 2; have hfz27_3 := blk_frozen BK396.out 3; have hfz27_4 := blk_frozen BK396.out 4; have hfz27_5 := blk_frozen BK396.out 5; have hfz27_6 := blk_frozen BK396.out 6; have hfz27_7 := blk_frozen BK396.out 7; have hcz28_0 : w26.cell? ⟨gb397, 0, none⟩ = some (.int .i64 0) := (blk_cell BK397.out 0).trans rfl; have hcz28_1 : w26.cell? ⟨gb397, 1, none⟩ = some (.int .i64 0) := (blk_cell BK397.out 1).trans rfl; have hcz28_2 : w26.cell? ⟨gb397, 2, none⟩ = some (.int .i64 0) := (blk_cell BK397.out 2).trans rfl; have hcz28_3 : w26.cell? ⟨gb397, 3, none⟩ = some (.string (⟨#[]⟩ : ByteArray)) := (blk_cell BK397.out 3).trans rfl; have hcz28_4 : w26.cell? ⟨gb397, 4, none⟩ = some (.int .i64 0) := (blk_cell BK397.out 4).trans rfl; have hcz28_5 : w26.cell? ⟨gb397, 5, none⟩ = some (.int .i64 0) := (blk_cell BK397.out 5).trans rfl; have hfz28_0 := blk_frozen BK397.out 0; have hfz28_1 := blk_frozen BK397.out 1; have hfz28_2 := blk_frozen BK397.out 2; have hfz28_3 := blk_frozen BK397.out 3; have hfz28_4 := blk_frozen BK397.out 4; have hfz28_5 := blk_frozen BK397.out 5))
   refine bodyPost_ret (results_ct rfl _ _ gb397 47 #[.int .i64 0, .int .i64 0, .int .i64 0, .string (⟨#[]⟩ : ByteArray), .int .i64 0, .int .i64 0] (0, 0) _ rfl (by (with_reducible repeat (first | refine blk_drewN ?_ _ | refine blk_drew ?_ | refine blk_alloc ?_ _)); refine blk_put (cs := #[.int .i64 0, .int .i64 0, .int .i64 0, .string (⟨#[]⟩ : ByteArray), .int .i64 0, .int .i64 0]) ?_ 5 _ rfl; (with_reducible repeat (first | refine blk_drewN ?_ _ | refine blk_drew ?_ | refine blk_alloc ?_ _)); refine blk_put (cs := #[.int .i64 0, .int .i64 0, .int .i64 0, .string (⟨#[]⟩ : ByteArray), .int .i64 0, .int .i64 0]) ?_ 4 _ rfl; (with_reducible repeat (first | refine blk_drewN ?_ _ | refine blk_drew ?_ | refine blk_alloc ?_ _)); refine blk_put (cs := #[.int .i64 0, .int .i64 0, .int .i64 0, .string (⟨#[]⟩ : ByteArray), .int .i64 0, .int .i64 0]) ?_ 3 _ rfl; (with_reducible repeat (first | refine blk_drewN ?_ _ | refine blk_drew ?_ | refine blk_alloc ?_ _)); refine blk_put (cs := #[.int .i64 0, .int .i64 0, .int .i64 0, .string (⟨#[]⟩ : ByteArray), .int .i64 0, .int .i64 0]) ?_ 2 _ rfl; (with_reducible repeat (first | refine blk_drewN ?_ _ | refine blk_drew ?_ | refine blk_alloc ?_ _)); refine blk_put (cs := #[.int .i64 0, .int .i64 0, .int .i64 0, .string (⟨#[]⟩ : ByteArray), .int .i64 0, .int .i64 0]) ?_ 1 _ rfl; (with_reducible repeat (first | refine blk_drewN ?_ _ | refine blk_drew ?_ | refine blk_alloc ?_ _)); refine blk_put (cs := #[.int .i64 0, .int .i64 0, .int .i64 0, .string (⟨#[]⟩ : ByteArray), .int .i64 0, .int .i64 0]) ?_ 0 _ rfl; (with_reducible repeat (first | refine blk_drewN ?_ _ | refine blk_drew ?_ | refine blk_alloc ?_ _)); exact BK397.out) Try.underlying47 rfl (by kernel_rfl)) rfl ?_
   exact ⟨by first | rfl | (simp only [u8w, w64m]; rfl) | (simp [errW_none, errW_some] <;> rfl) | (simp [*, errW_none, errW_some] <;> rfl), bz⟩
 ·
  replace c4 := Bool.eq_false_iff.mpr c4
  subst c4
  rw [if_neg (show ¬ (false = true) by decide)] at H
  simp only [Option.some.injEq, Prod.mk.injEq] at H
  obtain ⟨rfl, rfl, rfl, rfl, rfl, rfl, rfl⟩ := H
  go_enter Try.func28, Try.ntmps28
  go_wp2_with (first | ((with_reducible refine gate_dst (N := 2) rfl ?_); refine box_event ?hg (N := 2) ?hd (cs := #[.slice A0_0 l0_0.length c0_0, .int .i64 a0_1, .bool a0_2, .int .i64 a0_3, .string a0_4, .int .i64 a0_5, .int .i64 a0_6, .int .i64 a0_7]) (t := 41) ?hr ?_; (case hd => rfl); (case hg => rfl); (case hr => first | (go_simp; done) | (go_simp; rfl)); intro gb396 hg w29 hbox hb; have n0_ := Aside0.mk (below_step (bz) hb); have n1_ := Aside0.mk (hbox); have n2_ : Aside0 (w.heap.size ≤ gb396) := bsg hg; have n3_ : Aside0 (w.heap.size ≤ gb396) := bsg hg; clear HB; have HB := n0_; have BK396 := n1_; have GW396 := n2_; have GE396 := n3_; clear n0_ n1_ n2_ n3_; clear hb hbox hg) | ((with_reducible refine gate_dst (N := 4) rfl ?_); refine box_event ?hg (N := 4) ?hd (cs := #[.int .i64 0, .int .i64 0, .int .i64 0, .string (⟨#[]⟩ : ByteArray), .int .i64 0, .int .i64 0]) (t := 47) ?hr ?_; (case hd => rfl); (case hg => rfl); (case hr => first | (go_simp; done) | (go_simp; rfl)); intro gb397 hg w30 hbox hb; have n0_ := bkb BK396 hb; have n1_ := Aside0.mk (below_step (bz) hb); have n2_ := Aside0.mk (hbox); have n3_ : Aside0 (w.heap.size ≤ gb397) := bsg hg; have n4_ : Aside0 (w.heap.size ≤ gb397) := bsg hg; have n5_ := nlt hg BK396; have n6_ := ngt hg BK396; clear BK396; clear HB; have BK396 := n0_; have HB := n1_; have BK397 := n2_; have GW397 := n3_; have GE397 := n4_; have NB396_397 := n5_; have NB397_396 := n6_; clear n0_ n1_ n2_ n3_ n4_ n5_ n6_; clear hb hbox hg; have hnb31 := NB396_397.out; have hnc31 := NB397_396.out; have hcz32_0 : w30.cell? ⟨gb396, 0, none⟩ = some (.slice A0_0 l0_0.length c0_0) := (blk_cell BK396.out 0).trans rfl; have hcz32_1 : w30.cell? ⟨gb396, 1, none⟩ = some (.int .i64 a0_1) := (blk_cell BK396.out 1).trans rfl; have hcz32_2 : w30.cell? ⟨gb396, 2, none⟩ = some (.bool a0_2) := (blk_cell BK396.out 2).trans rfl; have hcz32_3 : w30.cell? ⟨gb396, 3, none⟩ = some (.int .i64 a0_3) := (blk_cell BK396.out 3).trans rfl; have hcz32_4 : w30.cell? ⟨gb396, 4, none⟩ = some (.string a0_4) := (blk_cell BK396.out 4).trans rfl; have hcz32_5 : w30.cell? ⟨gb396, 5, none⟩ = some (.int .i64 a0_5) := (blk_cell BK396.out 5).trans rfl; have hcz32_6 : w30.cell? ⟨gb396, 6, none⟩ = some (.int .i64 a0_6) := (blk_cell BK396.out 6).trans rfl; have hcz32_7 : w30.cell? ⟨gb396, 7, none⟩ = some (.int .i64 a0_7) := (blk_cell BK396.out 7).trans rfl; have hfz32_0 := blk_frozen BK396.out 0; have hfz32_1 := blk_frozen BK396.out 1; have hfz32_2 := blk_frozen BK396.out 2; have hfz32_3 := blk_frozen BK396.out 3; have hfz32_4 := blk_frozen BK396.out 4; have hfz32_5 := blk_frozen BK396.out 5; have hfz32_6 := blk_frozen BK396.out 6; have hfz32_7 := blk_frozen BK396.out 7) | ((with_reducible refine gate_callee (f := 25) rfl ?_); refine goesL_ (some 7) rfl rfl Try.func25 (by kernel_rfl) rfl #[.agg #[.slice A0_0 l0_0.length c0_0, .int .i64 a0_1, .bool a0_2, .int .i64 a0_3, .string a0_4, .int .i64 a0_5, .int .i64 a0_6, .int .i64 a0_7]] rfl (by (try simp only [List.map_toArray, List.map_cons, List.map_nil]); first | done | rfl | (simp only [List.length_drop, List.length_take]; rfl)) ?_; (with_reducible refine (spec_CallerValid.calls k _ _ l0_0 a0_1 a0_2 a0_3 a0_4 a0_5 a0_6 a0_7 false _ ?side1 ?side2 A3.out).mono ?_); (case side1 => repeat (first | exact (Kd.C_below HR0_0.out HB.out) | (with_reducible refine Kd.C_alloc ?_ _) | (with_reducible refine Kd.C_drewN ?_ _) | (with_reducible refine Kd.C_drew ?_))); (case side2 => exact HC0_0.out); rintro e w33 ⟨rfl, hb⟩; refine ⟨_, rfl, ?_⟩; have n0_ := bkb BK396 hb; have n1_ := bkb BK397 hb; have n2_ := Aside0.mk (below_step (bz) hb); clear BK396; clear BK397; clear HB; have BK396 := n0_; have BK397 := n1_; have HB := n2_; clear n0_ n1_ n2_; (try clear hb); (try clear hb2); (try clear hk); (try clear hi); have hcz34_0 : w33.cell? ⟨gb397, 0, none⟩ = some (.int .i64 0) := (blk_cell BK397.out 0).trans rfl; have hcz34_1 : w33.cell? ⟨gb397, 1, none⟩ = some (.int .i64 0) := (blk_cell BK397.out 1).trans rfl; have hcz34_2 : w33.cell? ⟨gb397, 2, none⟩ = some (.int .i64 0) := (blk_cell BK397.out 2).trans rfl; have hcz34_3 : w33.cell? ⟨gb397, 3, none⟩ = some (.string (⟨#[]⟩ : ByteArray)) := (blk_cell BK397.out 3).trans rfl; have hcz34_4 : w33.cell? ⟨gb397, 4, none⟩ = some (.int .i64 0) := (blk_cell BK397.out 4).trans rfl; have hcz34_5 : w33.cell? ⟨gb397, 5, none⟩ = some (.int .i64 0) := (blk_cell BK397.out 5).trans rfl; have hfz34_0 := blk_frozen BK397.out 0; have hfz34_1 := blk_frozen BK397.out 1; have hfz34_2 := blk_frozen BK397.out 2; have hfz34_3 := blk_frozen BK397.out 3; have hfz34_4 := blk_frozen BK397.out 4; have hfz34_5 := blk_frozen BK397.out 5))
  refine bodyPost_ret (results_ct rfl _ _ gb397 47 #[.int .i64 0, .int .i64 0, .int .i64 0, .string (⟨#[]⟩ : ByteArray), .int .i64 0, .int .i64 0] (0, 0) _ rfl (by (with_reducible repeat (first | refine blk_drewN ?_ _ | refine blk_drew ?_ | refine blk_alloc ?_ _)); refine blk_put (cs := #[.int .i64 0, .int .i64 0, .int .i64 0, .string (⟨#[]⟩ : ByteArray), .int .i64 0, .int .i64 0]) ?_ 5 _ rfl; (with_reducible repeat (first | refine blk_drewN ?_ _ | refine blk_drew ?_ | refine blk_alloc ?_ _)); refine blk_put (cs := #[.int .i64 0, .int .i64 0, .int .i64 0, .string (⟨#[]⟩ : ByteArray), .int .i64 0, .int .i64 0]) ?_ 4 _ rfl; (with_reducible repeat (first | refine blk_drewN ?_ _ | refine blk_drew ?_ | refine blk_alloc ?_ _)); refine blk_put (cs := #[.int .i64 0, .int .i64 0, .int .i64 0, .string (⟨#[]⟩ : ByteArray), .int .i64 0, .int .i64 0]) ?_ 3 _ rfl; (with_reducible repeat (first | refine blk_drewN ?_ _ | refine blk_drew ?_ | refine blk_alloc ?_ _)); refine blk_put (cs := #[.int .i64 0, .int .i64 0, .int .i64 0, .string (⟨#[]⟩ : ByteArray), .int .i64 0, .int .i64 0]) ?_ 2 _ rfl; (with_reducible repeat (first | refine blk_drewN ?_ _ | refine blk_drew ?_ | refine blk_alloc ?_ _)); refine blk_put (cs := #[.int .i64 0, .int .i64 0, .int .i64 0, .string (⟨#[]⟩ : ByteArray), .int .i64 0, .int .i64 0]) ?_ 1 _ rfl; (with_reducible repeat (first | refine blk_drewN ?_ _ | refine blk_drew ?_ | refine blk_alloc ?_ _)); refine blk_put (cs := #[.int .i64 0, .int .i64 0, .int .i64 0, .string (⟨#[]⟩ : ByteArray), .int .i64 0, .int .i64 0]) ?_ 0 _ rfl; (with_reducible repeat (first | refine blk_drewN ?_ _ | refine blk_drew ?_ | refine blk_alloc ?_ _)); exact BK397.out) Try.underlying47 rfl (by kernel_rfl)) rfl ?_
  exact ⟨by first | rfl | (simp only [u8w, w64m]; rfl) | (simp [errW_none, errW_some] <;> rfl) | (simp [*, errW_none, errW_some] <;> rfl), bz⟩

/-! ### impl_seqValid: function 91 -/
def impl_seqValid.f (a0 : Int) : Option (Bool) := if a0 ≥ 1 then (some (decide (a0 ≤ 999))) else (some false)
set_option maxHeartbeats 8000000 in
set_option maxRecDepth 100000 in
theorem impl_seqValid.calls (a0 : Int) (r : Bool) (w : World) (h : impl_seqValid.f a0 = some r) :
  Calls Try.prog 91 #[.int .i64 a0] w fun e w' => e = .returned (.bool r) ∧ Drawn0 w w' := by
 have H : (if a0 ≥ 1 then (some (decide (a0 ≤ 999))) else (some false)) = some r := h
 clear h
 by_cases c2 : a0 ≥ 1
 ·
  rw [if_pos c2] at H
  have c2b0 : decide (1 ≤ a0) = true := decide_eq_true c2
  clear c2
  obtain rfl := Option.some.inj H
  go_enter Try.func91, Try.ntmps91
  go_wp2
  go_ret
  exact ⟨by first | rfl | (simp; done) | exact congrArg Value.bool (ne_nil_b _) | exact congrArg Value.bool (eq_nil_b _) | (simp [*]; done), by repeat (first | exact Drawn0.refl _ | apply Drawn0.step)⟩
 ·
  rw [if_neg c2] at H
  have c2b0 : decide (1 ≤ a0) = false := decide_eq_false c2
  clear c2
  obtain rfl := Option.some.inj H
  go_enter Try.func91, Try.ntmps91
  go_wp2
  go_ret
  exact ⟨by first | rfl | (simp; done) | exact congrArg Value.bool (ne_nil_b _) | exact congrArg Value.bool (eq_nil_b _) | (simp [*]; done), by repeat (first | exact Drawn0.refl _ | apply Drawn0.step)⟩

/-! ### impl_EntryValid: function 29 -/
def impl_EntryValid.f (k : Nat) (a0_0 : Int) (a0_1 : Int) (a0_2 : Int) (a0_3 : ByteArray) (a0_4 : Int) (a0_5 : Int) : Option (Bool) := if a0_0 ≥ 0 then (if a0_0 < 4 then ((impl_seqValid.f a0_1).bind fun t401 => (if t401 = true then ((impl_CommandValid.f k a0_2 a0_3 a0_4 a0_5).bind fun t402 => (some t402)) else (some false))) else (some false)) else (some false)
theorem impl_EntryValid.mono : ∀ a0 a1 a2 a3 a4 a5 k, LeO (impl_EntryValid.f k a0 a1 a2 a3 a4 a5) (impl_EntryValid.f (k + 1) a0 a1 a2 a3 a4 a5) := by
 intro a0 a1 a2 a3 a4 a5 k
 unfold impl_EntryValid.f
 repeat' first
   | (with_reducible exact impl_CommandValid.mono _ _ _ _ _)
   | (with_reducible exact LeO.refl _)
   | (with_reducible exact LeO.none _)
   | (with_reducible refine LeO.ite ?_ ?_)
   | (with_reducible refine LeO.bind ?_ (fun _ => ?_))
   | exact impl_CommandValid.mono _ _ _ _ _
   | exact LeO.none _
   | refine LeO.ite ?_ ?_
   | refine LeO.bind ?_ (fun _ => ?_)
set_option maxHeartbeats 8000000 in
set_option maxRecDepth 100000 in
theorem impl_EntryValid.calls (k : Nat) (a0_0 : Int) (a0_1 : Int) (a0_2 : Int) (a0_3 : ByteArray) (a0_4 : Int) (a0_5 : Int) (r : Bool) (w : World) (h : impl_EntryValid.f k a0_0 a0_1 a0_2 a0_3 a0_4 a0_5 = some r) :
  Calls Try.prog 29 #[.agg #[.int .i64 a0_0, .int .i64 a0_1, .int .i64 a0_2, .string a0_3, .int .i64 a0_4, .int .i64 a0_5]] w fun e w' => e = .returned (.bool r) ∧ Below w.heap.size w w' := by
 have hu47 := Try.underlying47
 have hu39 := Try.underlying39
 have HB := Aside0.mk (Below.refl w.heap.size w)
 have H : (if a0_0 ≥ 0 then (if a0_0 < 4 then ((impl_seqValid.f a0_1).bind fun t401 => (if t401 = true then ((impl_CommandValid.f k a0_2 a0_3 a0_4 a0_5).bind fun t402 => (some t402)) else (some false))) else (some false)) else (some false)) = some r := h
 clear h
 by_cases c2 : a0_0 ≥ 0
 ·
  rw [if_pos c2] at H
  have c2b0 : decide (0 ≤ a0_0) = true := decide_eq_true c2
  clear c2
  by_cases c3 : a0_0 < 4
  ·
   rw [if_pos c3] at H
   have c3b0 : decide (a0_0 < 4) = true := decide_eq_true c3
   clear c3
   replace H := Option.bind_eq_some_iff.mp H
   obtain ⟨t401, A40, H⟩ := H
   try dsimp only at H
   have A4 := Aside0.mk A40
   clear A40
   by_cases c5 : t401 = true
   ·
    subst c5
    rw [if_pos rfl] at H
    replace H := Option.bind_eq_some_iff.mp H
    obtain ⟨t402, A60, H⟩ := H
    try dsimp only at H
    have A6 := Aside0.mk A60
    clear A60
    obtain rfl := Option.some.inj H
    go_enter Try.func29, Try.ntmps29
    go_wp2_with (first | ((with_reducible refine gate_dst (N := 1) rfl ?_); refine box_event ?hg (N := 1) ?hd (cs := #[.int .i64 a0_0, .int .i64 a0_1, .int .i64 a0_2, .string a0_3, .int .i64 a0_4, .int .i64 a0_5]) (t := 47) ?hr ?_; (case hd => rfl); (case hg => rfl); (case hr => first | (go_simp; done) | (go_simp; rfl)); intro gb400 hg w7 hbox hb; have n0_ := Aside0.mk (below_step (bz) hb); have n1_ := Aside0.mk (hbox); have n2_ : Aside0 (w.heap.size ≤ gb400) := bsg hg; have n3_ : Aside0 (w.heap.size ≤ gb400) := bsg hg; clear HB; have HB := n0_; have BK400 := n1_; have GW400 := n2_; have GE400 := n3_; clear n0_ n1_ n2_ n3_; clear hb hbox hg; have hcz8_0 : w7.cell? ⟨gb400, 0, none⟩ = some (.int .i64 a0_0) := (blk_cell BK400.out 0).trans rfl; have hcz8_1 : w7.cell? ⟨gb400, 1, none⟩ = some (.int .i64 a0_1) := (blk_cell BK400.out 1).trans rfl; have hcz8_2 : w7.cell? ⟨gb400, 2, none⟩ = some (.int .i64 a0_2) := (blk_cell BK400.out 2).trans rfl; have hcz8_3 : w7.cell? ⟨gb400, 3, none⟩ = some (.string a0_3) := (blk_cell BK400.out 3).trans rfl; have hcz8_4 : w7.cell? ⟨gb400, 4, none⟩ = some (.int .i64 a0_4) := (blk_cell BK400.out 4).trans rfl; have hcz8_5 : w7.cell? ⟨gb400, 5, none⟩ = some (.int .i64 a0_5) := (blk_cell BK400.out 5).trans rfl; have hfz8_0 := blk_frozen BK400.out 0; have hfz8_1 := blk_frozen BK400.out 1; have hfz8_2 := blk_frozen BK400.out 2; have hfz8_3 := blk_frozen BK400.out 3; have hfz8_4 := blk_frozen BK400.out 4; have hfz8_5 := blk_frozen BK400.out 5) | (go_at_call 91; (with_reducible refine (impl_seqValid.calls a0_1 true _ A4.out).mono ?_); rintro e w' ⟨rfl, ⟨nd, rfl⟩⟩) | (go_at_call 92; (with_reducible refine (impl_CommandValid.calls k a0_2 a0_3 a0_4 a0_5 t402 _ A6.out).mono ?_); rintro e w9 ⟨rfl, hb⟩; have n0_ := bkb BK400 hb; have n1_ := Aside0.mk (below_step (bz) hb); clear BK400; clear HB; have BK400 := n0_; have HB := n1_; clear n0_ n1_; (try clear hb); (try clear hb2); (try clear hk); (try clear hi)))
    go_ret
    exact ⟨by first | rfl | (simp only [u8w, w64m]; rfl) | (simp [errW_none, errW_some] <;> rfl) | (simp [*, errW_none, errW_some] <;> rfl), bz⟩
   ·
    replace c5 := Bool.eq_false_iff.mpr c5
    subst c5
    rw [if_neg (show ¬ (false = true) by decide)] at H
    obtain rfl := Option.some.inj H
    go_enter Try.func29, Try.ntmps29
    go_wp2_with (first | ((with_reducible refine gate_dst (N := 1) rfl ?_); refine box_event ?hg (N := 1) ?hd (cs := #[.int .i64 a0_0, .int .i64 a0_1, .int .i64 a0_2, .string a0_3, .int .i64 a0_4, .int .i64 a0_5]) (t := 47) ?hr ?_; (case hd => rfl); (case hg => rfl); (case hr => first | (go_simp; done) | (go_simp; rfl)); intro gb400 hg w10 hbox hb; have n0_ := Aside0.mk (below_step (bz) hb); have n1_ := Aside0.mk (hbox); have n2_ : Aside0 (w.heap.size ≤ gb400) := bsg hg; have n3_ : Aside0 (w.heap.size ≤ gb400) := bsg hg; clear HB; have HB := n0_; have BK400 := n1_; have GW400 := n2_; have GE400 := n3_; clear n0_ n1_ n2_ n3_; clear hb hbox hg; have hcz11_0 : w10.cell? ⟨gb400, 0, none⟩ = some (.int .i64 a0_0) := (blk_cell BK400.out 0).trans rfl; have hcz11_1 : w10.cell? ⟨gb400, 1, none⟩ = some (.int .i64 a0_1) := (blk_cell BK400.out 1).trans rfl; have hcz11_2 : w10.cell? ⟨gb400, 2, none⟩ = some (.int .i64 a0_2) := (blk_cell BK400.out 2).trans rfl; have hcz11_3 : w10.cell? ⟨gb400, 3, none⟩ = some (.string a0_3) := (blk_cell BK400.out 3).trans rfl; have hcz11_4 : w10.cell? ⟨gb400, 4, none⟩ = some (.int .i64 a0_4) := (blk_cell BK400.out 4).trans rfl; have hcz11_5 : w10.cell? ⟨gb400, 5, none⟩ = some (.int .i64 a0_5) := (blk_cell BK400.out 5).trans rfl; have hfz11_0 := blk_frozen BK400.out 0; have hfz11_1 := blk_frozen BK400.out 1; have hfz11_2 := blk_frozen BK400.out 2; have hfz11_3 := blk_frozen BK400.out 3; have hfz11_4 := blk_frozen BK400.out 4; have hfz11_5 := blk_frozen BK400.out 5) | (go_at_call 91; (with_reducible refine (impl_seqValid.calls a0_1 false _ A4.out).mono ?_); rintro e w' ⟨rfl, ⟨nd, rfl⟩⟩))
    go_ret
    exact ⟨by first | rfl | (simp only [u8w, w64m]; rfl) | (simp [errW_none, errW_some] <;> rfl) | (simp [*, errW_none, errW_some] <;> rfl), bz⟩
  ·
   rw [if_neg c3] at H
   have c3b0 : decide (a0_0 < 4) = false := decide_eq_false c3
   clear c3
   obtain rfl := Option.some.inj H
   go_enter Try.func29, Try.ntmps29
   go_wp2_with (first | ((with_reducible refine gate_dst (N := 1) rfl ?_); refine box_event ?hg (N := 1) ?hd (cs := #[.int .i64 a0_0, .int .i64 a0_1, .int .i64 a0_2, .string a0_3, .int .i64 a0_4, .int .i64 a0_5]) (t := 47) ?hr ?_; (case hd => rfl); (case hg => rfl); (case hr => first | (go_simp; done) | (go_simp; rfl)); intro gb400 hg w12 hbox hb; have n0_ := Aside0.mk (below_step (bz) hb); have n1_ := Aside0.mk (hbox); have n2_ : Aside0 (w.heap.size ≤ gb400) := bsg hg; have n3_ : Aside0 (w.heap.size ≤ gb400) := bsg hg; clear HB; have HB := n0_; have BK400 := n1_; have GW400 := n2_; have GE400 := n3_; clear n0_ n1_ n2_ n3_; clear hb hbox hg; have hcz13_0 : w12.cell? ⟨gb400, 0, none⟩ = some (.int .i64 a0_0) := (blk_cell BK400.out 0).trans rfl; have hcz13_1 : w12.cell? ⟨gb400, 1, none⟩ = some (.int .i64 a0_1) := (blk_cell BK400.out 1).trans rfl; have hcz13_2 : w12.cell? ⟨gb400, 2, none⟩ = some (.int .i64 a0_2) := (blk_cell BK400.out 2).trans rfl; have hcz13_3 : w12.cell? ⟨gb400, 3, none⟩ = some (.string a0_3) := (blk_cell BK400.out 3).trans rfl; have hcz13_4 : w12.cell? ⟨gb400, 4, none⟩ = some (.int .i64 a0_4) := (blk_cell BK400.out 4).trans rfl; have hcz13_5 : w12.cell? ⟨gb400, 5, none⟩ = some (.int .i64 a0_5) := (blk_cell BK400.out 5).trans rfl; have hfz13_0 := blk_frozen BK400.out 0; have hfz13_1 := blk_frozen BK400.out 1; have hfz13_2 := blk_frozen BK400.out 2; have hfz13_3 := blk_frozen BK400.out 3; have hfz13_4 := blk_frozen BK400.out 4; have hfz13_5 := blk_frozen BK400.out 5))
   go_ret
   exact ⟨by first | rfl | (simp only [u8w, w64m]; rfl) | (simp [errW_none, errW_some] <;> rfl) | (simp [*, errW_none, errW_some] <;> rfl), bz⟩
 ·
  rw [if_neg c2] at H
  have c2b0 : decide (0 ≤ a0_0) = false := decide_eq_false c2
  clear c2
  obtain rfl := Option.some.inj H
  go_enter Try.func29, Try.ntmps29
  go_wp2_with (first | ((with_reducible refine gate_dst (N := 1) rfl ?_); refine box_event ?hg (N := 1) ?hd (cs := #[.int .i64 a0_0, .int .i64 a0_1, .int .i64 a0_2, .string a0_3, .int .i64 a0_4, .int .i64 a0_5]) (t := 47) ?hr ?_; (case hd => rfl); (case hg => rfl); (case hr => first | (go_simp; done) | (go_simp; rfl)); intro gb400 hg w14 hbox hb; have n0_ := Aside0.mk (below_step (bz) hb); have n1_ := Aside0.mk (hbox); have n2_ : Aside0 (w.heap.size ≤ gb400) := bsg hg; have n3_ : Aside0 (w.heap.size ≤ gb400) := bsg hg; clear HB; have HB := n0_; have BK400 := n1_; have GW400 := n2_; have GE400 := n3_; clear n0_ n1_ n2_ n3_; clear hb hbox hg; have hcz15_0 : w14.cell? ⟨gb400, 0, none⟩ = some (.int .i64 a0_0) := (blk_cell BK400.out 0).trans rfl; have hcz15_1 : w14.cell? ⟨gb400, 1, none⟩ = some (.int .i64 a0_1) := (blk_cell BK400.out 1).trans rfl; have hcz15_2 : w14.cell? ⟨gb400, 2, none⟩ = some (.int .i64 a0_2) := (blk_cell BK400.out 2).trans rfl; have hcz15_3 : w14.cell? ⟨gb400, 3, none⟩ = some (.string a0_3) := (blk_cell BK400.out 3).trans rfl; have hcz15_4 : w14.cell? ⟨gb400, 4, none⟩ = some (.int .i64 a0_4) := (blk_cell BK400.out 4).trans rfl; have hcz15_5 : w14.cell? ⟨gb400, 5, none⟩ = some (.int .i64 a0_5) := (blk_cell BK400.out 5).trans rfl; have hfz15_0 := blk_frozen BK400.out 0; have hfz15_1 := blk_frozen BK400.out 1; have hfz15_2 := blk_frozen BK400.out 2; have hfz15_3 := blk_frozen BK400.out 3; have hfz15_4 := blk_frozen BK400.out 4; have hfz15_5 := blk_frozen BK400.out 5))
  go_ret
  exact ⟨by first | rfl | (simp only [u8w, w64m]; rfl) | (simp [errW_none, errW_some] <;> rfl) | (simp [*, errW_none, errW_some] <;> rfl), bz⟩

/-! ### laws_FnRequestOf: function 5 -/
def laws_FnRequestOf.j0 : Nat → Int → Bool → Bool → List (S35) → Int → Bool → Int → ByteArray → Int → Int → Int → Int → Int → Int → ByteArray → Int → Int → Option (Bool)
 | 0, _, _, _, _, _, _, _, _, _, _, _, _, _, _, _, _, _ => none
 | k + 1, x4, x6, x36, x415000, x415001, x415002, x415003, x415004, x415005, x415006, x415007, x423000, x423001, x423002, x423003, x423004, x423005 => if x36 = true then (some false) else (if x6 = true then ((impl_EntryValid.f k x423000 x423001 x423002 x423003 x423004 x423005).bind fun t431 => (if t431 = true then (if x415002 = true then (if x423000 = x4 then (if x423001 = x415001 then (some (x423002 == x415003 && (x423003.toList == x415004.toList && (x423004 == x415005 && (x423005 == x415006))))) else (some false)) else (some false)) else (some false)) else (some false))) else (if (x423000 == 0 && (x423001 == 0 && ((x423002 == 0 && (x423003.toList == ([] : List UInt8) && (x423004 == 0 && (x423005 == 0))))))) = true then ((laws_alive.f k).bind fun t432 => (some t432)) else (some false)))
def laws_FnRequestOf.f (k : Nat) (l0 : List Int) : Option (Bool) := if (l0.length : Int) > 1048576 then (some true) else ((spec_DrawRequestOf.f k l0).bind fun bt403 => ((impl_RequestOf.f k bt403.1 bt403.2.1 bt403.2.2.1 bt403.2.2.2.1 bt403.2.2.2.2.1 bt403.2.2.2.2.2.1 bt403.2.2.2.2.2.2.1 bt403.2.2.2.2.2.2.2.1 bt403.2.2.2.2.2.2.2.2).bind fun bt415 => ((spec_RequestOf.f k bt403.1 bt403.2.1 bt403.2.2.1 bt403.2.2.2.1 bt403.2.2.2.2.1 bt403.2.2.2.2.2.1 bt403.2.2.2.2.2.2.1 bt403.2.2.2.2.2.2.2.1 bt403.2.2.2.2.2.2.2.2).bind fun bt423 => (if (!(bt415.1 == bt423.1) || (!(bt415.2.1 == bt423.2.1) || ((!(bt415.2.2.1 == bt423.2.2.1) || (!(bt415.2.2.2.1.toList == bt423.2.2.2.1.toList) || (!(bt415.2.2.2.2.1 == bt423.2.2.2.2.1) || (!(bt415.2.2.2.2.2.1 == bt423.2.2.2.2.2.1)))))))) = true then (laws_FnRequestOf.j0 k bt403.2.2.2.2.2.2.2.2 bt415.2.2.2.2.2.2 true bt403.1 bt403.2.1 bt403.2.2.1 bt403.2.2.2.1 bt403.2.2.2.2.1 bt403.2.2.2.2.2.1 bt403.2.2.2.2.2.2.1 bt403.2.2.2.2.2.2.2.1 bt415.1 bt415.2.1 bt415.2.2.1 bt415.2.2.2.1 bt415.2.2.2.2.1 bt415.2.2.2.2.2.1) else (laws_FnRequestOf.j0 k bt403.2.2.2.2.2.2.2.2 bt415.2.2.2.2.2.2 (bt415.2.2.2.2.2.2 != bt423.2.2.2.2.2.2) bt403.1 bt403.2.1 bt403.2.2.1 bt403.2.2.2.1 bt403.2.2.2.2.1 bt403.2.2.2.2.2.1 bt403.2.2.2.2.2.2.1 bt403.2.2.2.2.2.2.2.1 bt415.1 bt415.2.1 bt415.2.2.1 bt415.2.2.2.1 bt415.2.2.2.2.1 bt415.2.2.2.2.2.1)))))
theorem laws_FnRequestOf.mono_l : ∀ k, (∀ y0 y1 y2 y3 y4 y5 y6 y7 y8 y9 y10 y11 y12 y13 y14 y15 y16, LeO (laws_FnRequestOf.j0 k y0 y1 y2 y3 y4 y5 y6 y7 y8 y9 y10 y11 y12 y13 y14 y15 y16) (laws_FnRequestOf.j0 (k + 1) y0 y1 y2 y3 y4 y5 y6 y7 y8 y9 y10 y11 y12 y13 y14 y15 y16))
 | 0 => fun _ _ _ _ _ _ _ _ _ _ _ _ _ _ _ _ _ r h => by simp [laws_FnRequestOf.j0] at h
 | k + 1 => by
  have ih0 := laws_FnRequestOf.mono_l k
  ·
   intro y0 y1 y2 y3 y4 y5 y6 y7 y8 y9 y10 y11 y12 y13 y14 y15 y16
   unfold laws_FnRequestOf.j0
   repeat' first
   | (with_reducible exact ih0 _ _ _ _ _ _ _ _ _ _ _ _ _ _ _ _ _)
   | (with_reducible exact impl_EntryValid.mono _ _ _ _ _ _ _)
   | (with_reducible exact impl_RequestOf.mono _ _ _ _ _ _ _ _ _ _)
   | (with_reducible exact laws_alive.mono _)
   | (with_reducible exact spec_DrawRequestOf.mono _ _)
   | (with_reducible exact spec_RequestOf.mono _ _ _ _ _ _ _ _ _ _)
   | (with_reducible exact LeO.refl _)
   | (with_reducible exact LeO.none _)
   | (with_reducible refine LeO.ite ?_ ?_)
   | (with_reducible refine LeO.bind ?_ (fun _ => ?_))
   | exact ih0 _ _ _ _ _ _ _ _ _ _ _ _ _ _ _ _ _
   | exact impl_EntryValid.mono _ _ _ _ _ _ _
   | exact impl_RequestOf.mono _ _ _ _ _ _ _ _ _ _
   | exact laws_alive.mono _
   | exact spec_DrawRequestOf.mono _ _
   | exact spec_RequestOf.mono _ _ _ _ _ _ _ _ _ _
   | exact LeO.none _
   | refine LeO.ite ?_ ?_
   | refine LeO.bind ?_ (fun _ => ?_)
theorem laws_FnRequestOf.mono : ∀ a0 k, LeO (laws_FnRequestOf.f k a0) (laws_FnRequestOf.f (k + 1) a0) := by
 intro a0 k
 have ih0 := laws_FnRequestOf.mono_l k
 unfold laws_FnRequestOf.f
 repeat' first
   | (with_reducible exact ih0 _ _ _ _ _ _ _ _ _ _ _ _ _ _ _ _ _)
   | (with_reducible exact impl_EntryValid.mono _ _ _ _ _ _ _)
   | (with_reducible exact impl_RequestOf.mono _ _ _ _ _ _ _ _ _ _)
   | (with_reducible exact laws_alive.mono _)
   | (with_reducible exact spec_DrawRequestOf.mono _ _)
   | (with_reducible exact spec_RequestOf.mono _ _ _ _ _ _ _ _ _ _)
   | (with_reducible exact LeO.refl _)
   | (with_reducible exact LeO.none _)
   | (with_reducible refine LeO.ite ?_ ?_)
   | (with_reducible refine LeO.bind ?_ (fun _ => ?_))
   | exact ih0 _ _ _ _ _ _ _ _ _ _ _ _ _ _ _ _ _
   | exact impl_EntryValid.mono _ _ _ _ _ _ _
   | exact impl_RequestOf.mono _ _ _ _ _ _ _ _ _ _
   | exact laws_alive.mono _
   | exact spec_DrawRequestOf.mono _ _
   | exact spec_RequestOf.mono _ _ _ _ _ _ _ _ _ _
   | exact LeO.none _
   | refine LeO.ite ?_ ?_
   | refine LeO.bind ?_ (fun _ => ?_)
set_option maxHeartbeats 8000000 in
set_option maxRecDepth 100000 in
theorem laws_FnRequestOf.calls (k : Nat) (A0 : Option Addr) (c0 : Nat) (l0 : List Int) (r : Bool) (w : World) (hr0 : Kd.C (Kd.int .u8) w A0 l0.length l0) (hc0 : l0.length ≤ c0) (h : laws_FnRequestOf.f k l0 = some r) :
  Calls Try.prog 5 #[.slice A0 l0.length c0] w fun e w' => e = .returned (.bool r) ∧ Below w.heap.size w w' := by
 have hu41 := Try.underlying41
 have hu47 := Try.underlying47
 have hu39 := Try.underlying39
 have HR0 := Aside0.mk hr0
 have HC0 := Aside0.mk hc0
 clear hr0 hc0
 have HB := Aside0.mk (Below.refl w.heap.size w)
 have H : (if (l0.length : Int) > 1048576 then (some true) else ((spec_DrawRequestOf.f k l0).bind fun bt403 => ((impl_RequestOf.f k bt403.1 bt403.2.1 bt403.2.2.1 bt403.2.2.2.1 bt403.2.2.2.2.1 bt403.2.2.2.2.2.1 bt403.2.2.2.2.2.2.1 bt403.2.2.2.2.2.2.2.1 bt403.2.2.2.2.2.2.2.2).bind fun bt415 => ((spec_RequestOf.f k bt403.1 bt403.2.1 bt403.2.2.1 bt403.2.2.2.1 bt403.2.2.2.2.1 bt403.2.2.2.2.2.1 bt403.2.2.2.2.2.2.1 bt403.2.2.2.2.2.2.2.1 bt403.2.2.2.2.2.2.2.2).bind fun bt423 => (if (!(bt415.1 == bt423.1) || (!(bt415.2.1 == bt423.2.1) || ((!(bt415.2.2.1 == bt423.2.2.1) || (!(bt415.2.2.2.1.toList == bt423.2.2.2.1.toList) || (!(bt415.2.2.2.2.1 == bt423.2.2.2.2.1) || (!(bt415.2.2.2.2.2.1 == bt423.2.2.2.2.2.1)))))))) = true then (laws_FnRequestOf.j0 k bt403.2.2.2.2.2.2.2.2 bt415.2.2.2.2.2.2 true bt403.1 bt403.2.1 bt403.2.2.1 bt403.2.2.2.1 bt403.2.2.2.2.1 bt403.2.2.2.2.2.1 bt403.2.2.2.2.2.2.1 bt403.2.2.2.2.2.2.2.1 bt415.1 bt415.2.1 bt415.2.2.1 bt415.2.2.2.1 bt415.2.2.2.2.1 bt415.2.2.2.2.2.1) else (laws_FnRequestOf.j0 k bt403.2.2.2.2.2.2.2.2 bt415.2.2.2.2.2.2 (bt415.2.2.2.2.2.2 != bt423.2.2.2.2.2.2) bt403.1 bt403.2.1 bt403.2.2.1 bt403.2.2.2.1 bt403.2.2.2.2.1 bt403.2.2.2.2.2.1 bt403.2.2.2.2.2.2.1 bt403.2.2.2.2.2.2.2.1 bt415.1 bt415.2.1 bt415.2.2.1 bt415.2.2.2.1 bt415.2.2.2.2.1 bt415.2.2.2.2.2.1)))))) = some r := h
 clear h
 by_cases c2 : (l0.length : Int) > 1048576
 ·
  rw [if_pos c2] at H
  have c2b0 : decide (1048576 < (l0.length : Int)) = true := decide_eq_true c2
  have c2b1 : decide (1048576 < l0.length) = true := decide_eq_true (by omega)
  clear c2
  obtain rfl := Option.some.inj H
  go_enter Try.func5, Try.ntmps5
  go_wp2
  go_ret
  exact ⟨by first | rfl | (simp only [u8w, w64m]; rfl) | (simp [errW_none, errW_some] <;> rfl) | (simp [*, errW_none, errW_some] <;> rfl), bz⟩
 ·
  rw [if_neg c2] at H
  have c2b0 : decide (1048576 < (l0.length : Int)) = false := decide_eq_false c2
  have c2b1 : decide (1048576 < l0.length) = false := decide_eq_false (by omega)
  clear c2
  replace H := Option.bind_eq_some_iff.mp H
  obtain ⟨⟨t403, t406, t407, t408, t409, t410, t411, t412, t413⟩, A30, H⟩ := H
  try dsimp only at H
  have A3 := Aside0.mk A30
  clear A30
  replace H := Option.bind_eq_some_iff.mp H
  obtain ⟨⟨t415, t416, t417, t418, t419, t420, t421⟩, A40, H⟩ := H
  try dsimp only at H
  have A4 := Aside0.mk A40
  clear A40
  replace H := Option.bind_eq_some_iff.mp H
  obtain ⟨⟨t423, t424, t425, t426, t427, t428, t429⟩, A50, H⟩ := H
  try dsimp only at H
  have A5 := Aside0.mk A50
  clear A50
  have HC6 := Aside0.mk H
  clear H
  go_enter Try.func5, Try.ntmps5
  go_upto_region 6 with (first | ((with_reducible refine gate_callee (f := 26) rfl ?_); refine goesL_ (some 14) rfl rfl Try.func26 (by kernel_rfl) rfl #[.slice A0 l0.length c0] rfl (by (try simp only [List.map_toArray, List.map_cons, List.map_nil]); first | done | rfl | (simp only [List.length_drop, List.length_take]; rfl)) ?_; (with_reducible refine (spec_DrawRequestOf.calls k _ _ l0 t403 t406 t407 t408 t409 t410 t411 t412 t413 _ ?side1 ?side2 A3.out).mono ?_); (case side1 => repeat (first | exact HR0.out | (with_reducible refine Kd.C_alloc ?_ _) | (with_reducible refine Kd.C_drewN ?_ _) | (with_reducible refine Kd.C_drew ?_))); (case side2 => exact HC0.out); rintro e w7 ⟨v404, rfl, ho0, hb⟩; refine ⟨_, rfl, ?_⟩; have n0_ := Aside0.mk (Kd.R_lower ho0 (below_size (bz))); have n1_ := Aside0.mk (below_step (bz) hb); clear HB; have HO405 := n0_; have HB := n1_; clear n0_ n1_; (try clear hb); (try clear hb2); (try clear hk); (try clear hi); (try clear ho0)) | ((with_reducible refine gate_dst (N := 3) rfl ?_); refine box_event ?hg (N := 3) ?hd (cs := #[.slice none 0 0, .int .i64 0, .bool false, .int .i64 0, .string (⟨#[]⟩ : ByteArray), .int .i64 0, .int .i64 0, .int .i64 0]) (t := 41) ?hr ?_; (case hd => rfl); (case hg => rfl); (case hr => first | (go_simp; done) | (go_simp; rfl)); intro gb414 hg w8 hbox hb; have n0_ := Aside0.mk (Kd.R_below (by (with_reducible repeat (first | apply Kd.R_alloc | apply Kd.R_drewN | apply Kd.R_drew)); exact HO405.out) hb); have n1_ := Aside0.mk (below_step (bz) hb); have n2_ := Aside0.mk (hbox); have n3_ : Aside0 (w.heap.size ≤ gb414) := bsg hg; have n4_ : Aside0 (w.heap.size ≤ gb414) := bsg hg; clear HO405; clear HB; have HO405 := n0_; have HB := n1_; have BK414 := n2_; have GW414 := n3_; have GE414 := n4_; clear n0_ n1_ n2_ n3_ n4_; clear hb hbox hg; obtain ⟨Ao9, co9, eo9⟩ := Kd.R_slice HO405.out; subst eo9; have hcz10_0 : w8.cell? ⟨gb414, 0, none⟩ = some (.slice none 0 0) := (blk_cell BK414.out 0).trans rfl; have hcz10_1 : w8.cell? ⟨gb414, 1, none⟩ = some (.int .i64 0) := (blk_cell BK414.out 1).trans rfl; have hcz10_2 : w8.cell? ⟨gb414, 2, none⟩ = some (.bool false) := (blk_cell BK414.out 2).trans rfl; have hcz10_3 : w8.cell? ⟨gb414, 3, none⟩ = some (.int .i64 0) := (blk_cell BK414.out 3).trans rfl; have hcz10_4 : w8.cell? ⟨gb414, 4, none⟩ = some (.string (⟨#[]⟩ : ByteArray)) := (blk_cell BK414.out 4).trans rfl; have hcz10_5 : w8.cell? ⟨gb414, 5, none⟩ = some (.int .i64 0) := (blk_cell BK414.out 5).trans rfl; have hcz10_6 : w8.cell? ⟨gb414, 6, none⟩ = some (.int .i64 0) := (blk_cell BK414.out 6).trans rfl; have hcz10_7 : w8.cell? ⟨gb414, 7, none⟩ = some (.int .i64 0) := (blk_cell BK414.out 7).trans rfl; have hfz10_0 := blk_frozen BK414.out 0; have hfz10_1 := blk_frozen BK414.out 1; have hfz10_2 := blk_frozen BK414.out 2; have hfz10_3 := blk_frozen BK414.out 3; have hfz10_4 := blk_frozen BK414.out 4; have hfz10_5 := blk_frozen BK414.out 5; have hfz10_6 := blk_frozen BK414.out 6; have hfz10_7 := blk_frozen BK414.out 7) | ((with_reducible refine gate_callee (f := 27) rfl ?_); refine goesL_ (some 20) rfl rfl Try.func27 (by kernel_rfl) rfl #[.agg #[.slice Ao9 t403.length co9, .int .i64 t406, .bool t407, .int .i64 t408, .string t409, .int .i64 t410, .int .i64 t411, .int .i64 t412], .int .i64 t413] rfl (by (try simp only [List.map_toArray, List.map_cons, List.map_nil]); first | done | rfl | (simp only [List.length_drop, List.length_take]; rfl)) ?_; (with_reducible refine (impl_RequestOf.calls k _ _ t403 t406 t407 t408 t409 t410 t411 t412 t413 t415 t416 t417 t418 t419 t420 t421 _ ?side1 ?side2 A4.out).mono ?_); (case side1 => refine (Kd.R_reads' (e := 35) (base := w.heap.size) (ok := fun k_ => True) (n := t403.length) (c := co9) ?_).2.2; exact (by (with_reducible repeat (first | apply Kd.R_alloc | apply Kd.R_drewN | apply Kd.R_drew)); exact (Kd.R_mono (Kd.R_far (p := ⟨gb414, 7, none⟩) (Kd.R_far (p := ⟨gb414, 6, none⟩) (Kd.R_far (p := ⟨gb414, 5, none⟩) (Kd.R_far (p := ⟨gb414, 4, none⟩) (Kd.R_far (p := ⟨gb414, 3, none⟩) (Kd.R_far (p := ⟨gb414, 2, none⟩) (Kd.R_far (p := ⟨gb414, 1, none⟩) (Kd.R_far (p := ⟨gb414, 0, none⟩) (Kd.R_types HO405.out BK414.out (by decide)) (fun _ hk => hk.2) (.slice Ao9 t403.length co9)) (fun _ hk => hk.2) (.int .i64 t406)) (fun _ hk => hk.2) (.bool t407)) (fun _ hk => hk.2) (.int .i64 t408)) (fun _ hk => hk.2) (.string t409)) (fun _ hk => hk.2) (.int .i64 t410)) (fun _ hk => hk.2) (.int .i64 t411)) (fun _ hk => hk.2) (.int .i64 t412)) (fun _ h_ => h_.1)))); (case side2 => exact (Kd.R_reads' HO405.out).2.1); rintro e w11 ⟨rfl, hb⟩; refine ⟨_, rfl, ?_⟩; have n0_ := Aside0.mk (Kd.R_below (by (with_reducible repeat (first | apply Kd.R_alloc | apply Kd.R_drewN | apply Kd.R_drew)); exact (Kd.R_mono (Kd.R_far (p := ⟨gb414, 7, none⟩) (Kd.R_far (p := ⟨gb414, 6, none⟩) (Kd.R_far (p := ⟨gb414, 5, none⟩) (Kd.R_far (p := ⟨gb414, 4, none⟩) (Kd.R_far (p := ⟨gb414, 3, none⟩) (Kd.R_far (p := ⟨gb414, 2, none⟩) (Kd.R_far (p := ⟨gb414, 1, none⟩) (Kd.R_far (p := ⟨gb414, 0, none⟩) (Kd.R_types HO405.out BK414.out (by decide)) (fun _ hk => hk.2) (.slice Ao9 t403.length co9)) (fun _ hk => hk.2) (.int .i64 t406)) (fun _ hk => hk.2) (.bool t407)) (fun _ hk => hk.2) (.int .i64 t408)) (fun _ hk => hk.2) (.string t409)) (fun _ hk => hk.2) (.int .i64 t410)) (fun _ hk => hk.2) (.int .i64 t411)) (fun _ hk => hk.2) (.int .i64 t412)) (fun _ h_ => h_.1))) hb); have n1_ := Aside0.mk (blk_below (g := gb414) (o := .cells #[.slice Ao9 t403.length co9, .int .i64 t406, .bool t407, .int .i64 t408, .string t409, .int .i64 t410, .int .i64 t411, .int .i64 t412] 41 (0, 0)) (by (with_reducible repeat (first | refine blk_drewN ?_ _ | refine blk_drew ?_ | refine blk_alloc ?_ _)); refine blk_put (cs := #[.slice Ao9 t403.length co9, .int .i64 t406, .bool t407, .int .i64 t408, .string t409, .int .i64 t410, .int .i64 t411, .int .i64 0]) ?_ 7 _ rfl; (with_reducible repeat (first | refine blk_drewN ?_ _ | refine blk_drew ?_ | refine blk_alloc ?_ _)); refine blk_put (cs := #[.slice Ao9 t403.length co9, .int .i64 t406, .bool t407, .int .i64 t408, .string t409, .int .i64 t410, .int .i64 0, .int .i64 0]) ?_ 6 _ rfl; (with_reducible repeat (first | refine blk_drewN ?_ _ | refine blk_drew ?_ | refine blk_alloc ?_ _)); refine blk_put (cs := #[.slice Ao9 t403.length co9, .int .i64 t406, .bool t407, .int .i64 t408, .string t409, .int .i64 0, .int .i64 0, .int .i64 0]) ?_ 5 _ rfl; (with_reducible repeat (first | refine blk_drewN ?_ _ | refine blk_drew ?_ | refine blk_alloc ?_ _)); refine blk_put (cs := #[.slice Ao9 t403.length co9, .int .i64 t406, .bool t407, .int .i64 t408, .string (⟨#[]⟩ : ByteArray), .int .i64 0, .int .i64 0, .int .i64 0]) ?_ 4 _ rfl; (with_reducible repeat (first | refine blk_drewN ?_ _ | refine blk_drew ?_ | refine blk_alloc ?_ _)); refine blk_put (cs := #[.slice Ao9 t403.length co9, .int .i64 t406, .bool t407, .int .i64 0, .string (⟨#[]⟩ : ByteArray), .int .i64 0, .int .i64 0, .int .i64 0]) ?_ 3 _ rfl; (with_reducible repeat (first | refine blk_drewN ?_ _ | refine blk_drew ?_ | refine blk_alloc ?_ _)); refine blk_put (cs := #[.slice Ao9 t403.length co9, .int .i64 t406, .bool false, .int .i64 0, .string (⟨#[]⟩ : ByteArray), .int .i64 0, .int .i64 0, .int .i64 0]) ?_ 2 _ rfl; (with_reducible repeat (first | refine blk_drewN ?_ _ | refine blk_drew ?_ | refine blk_alloc ?_ _)); refine blk_put (cs := #[.slice Ao9 t403.length co9, .int .i64 0, .bool false, .int .i64 0, .string (⟨#[]⟩ : ByteArray), .int .i64 0, .int .i64 0, .int .i64 0]) ?_ 1 _ rfl; (with_reducible repeat (first | refine blk_drewN ?_ _ | refine blk_drew ?_ | refine blk_alloc ?_ _)); refine blk_put (cs := #[.slice none 0 0, .int .i64 0, .bool false, .int .i64 0, .string (⟨#[]⟩ : ByteArray), .int .i64 0, .int .i64 0, .int .i64 0]) ?_ 0 _ rfl; (with_reducible repeat (first | refine blk_drewN ?_ _ | refine blk_drew ?_ | refine blk_alloc ?_ _)); exact BK414.out) hb); have n2_ := Aside0.mk (below_step (bz) hb); clear HO405; clear BK414; clear HB; have HO405 := n0_; have BK414 := n1_; have HB := n2_; clear n0_ n1_ n2_; (try clear hb); (try clear hb2); (try clear hk); (try clear hi)) | ((with_reducible refine gate_dst (N := 5) rfl ?_); refine box_event ?hg (N := 5) ?hd (cs := #[.int .i64 0, .int .i64 0, .int .i64 0, .string (⟨#[]⟩ : ByteArray), .int .i64 0, .int .i64 0]) (t := 47) ?hr ?_; (case hd => rfl); (case hg => rfl); (case hr => first | (go_simp; done) | (go_simp; rfl)); intro gb422 hg w12 hbox hb; have n0_ := Aside0.mk (Kd.R_below (by (with_reducible repeat (first | apply Kd.R_alloc | apply Kd.R_drewN | apply Kd.R_drew)); exact HO405.out) hb); have n1_ := bkb BK414 hb; have n2_ := Aside0.mk (below_step (bz) hb); have n3_ := Aside0.mk (hbox); have n4_ : Aside0 (w.heap.size ≤ gb422) := bsg hg; have n5_ : Aside0 (w.heap.size ≤ gb422) := bsg hg; have n6_ := nlt hg BK414; have n7_ := ngt hg BK414; clear HO405; clear BK414; clear HB; have HO405 := n0_; have BK414 := n1_; have HB := n2_; have BK422 := n3_; have GW422 := n4_; have GE422 := n5_; have NB414_422 := n6_; have NB422_414 := n7_; clear n0_ n1_ n2_ n3_ n4_ n5_ n6_ n7_; clear hb hbox hg; have hnb13 := NB422_414.out; have hnc13 := NB414_422.out; have hcz14_0 : w12.cell? ⟨gb422, 0, none⟩ = some (.int .i64 0) := (blk_cell BK422.out 0).trans rfl; have hcz14_1 : w12.cell? ⟨gb422, 1, none⟩ = some (.int .i64 0) := (blk_cell BK422.out 1).trans rfl; have hcz14_2 : w12.cell? ⟨gb422, 2, none⟩ = some (.int .i64 0) := (blk_cell BK422.out 2).trans rfl; have hcz14_3 : w12.cell? ⟨gb422, 3, none⟩ = some (.string (⟨#[]⟩ : ByteArray)) := (blk_cell BK422.out 3).trans rfl; have hcz14_4 : w12.cell? ⟨gb422, 4, none⟩ = some (.int .i64 0) := (blk_cell BK422.out 4).trans rfl; have hcz14_5 : w12.cell? ⟨gb422, 5, none⟩ = some (.int .i64 0) := (blk_cell BK422.out 5).trans rfl; have hfz14_0 := blk_frozen BK422.out 0; have hfz14_1 := blk_frozen BK422.out 1; have hfz14_2 := blk_frozen BK422.out 2; have hfz14_3 := blk_frozen BK422.out 3; have hfz14_4 := blk_frozen BK422.out 4; have hfz14_5 := blk_frozen BK422.out 5; have hcz15_0 : w12.cell? ⟨gb414, 0, none⟩ = some (.slice Ao9 t403.length co9) := (blk_cell BK414.out 0).trans rfl; have hcz15_1 : w12.cell? ⟨gb414, 1, none⟩ = some (.int .i64 t406) := (blk_cell BK414.out 1).trans rfl; have hcz15_2 : w12.cell? ⟨gb414, 2, none⟩ = some (.bool t407) := (blk_cell BK414.out 2).trans rfl; have hcz15_3 : w12.cell? ⟨gb414, 3, none⟩ = some (.int .i64 t408) := (blk_cell BK414.out 3).trans rfl; have hcz15_4 : w12.cell? ⟨gb414, 4, none⟩ = some (.string t409) := (blk_cell BK414.out 4).trans rfl; have hcz15_5 : w12.cell? ⟨gb414, 5, none⟩ = some (.int .i64 t410) := (blk_cell BK414.out 5).trans rfl; have hcz15_6 : w12.cell? ⟨gb414, 6, none⟩ = some (.int .i64 t411) := (blk_cell BK414.out 6).trans rfl; have hcz15_7 : w12.cell? ⟨gb414, 7, none⟩ = some (.int .i64 t412) := (blk_cell BK414.out 7).trans rfl; have hfz15_0 := blk_frozen BK414.out 0; have hfz15_1 := blk_frozen BK414.out 1; have hfz15_2 := blk_frozen BK414.out 2; have hfz15_3 := blk_frozen BK414.out 3; have hfz15_4 := blk_frozen BK414.out 4; have hfz15_5 := blk_frozen BK414.out 5; have hfz15_6 := blk_frozen BK414.out 6; have hfz15_7 := blk_frozen BK414.out 7) | ((with_reducible refine gate_callee (f := 28) rfl ?_); refine goesL_ (some 26) rfl rfl Try.func28 (by kernel_rfl) rfl #[.agg #[.slice Ao9 t403.length co9, .int .i64 t406, .bool t407, .int .i64 t408, .string t409, .int .i64 t410, .int .i64 t411, .int .i64 t412], .int .i64 t413] rfl (by (try simp only [List.map_toArray, List.map_cons, List.map_nil]); first | done | rfl | (simp only [List.length_drop, List.length_take]; rfl)) ?_; (with_reducible refine (spec_RequestOf.calls k _ _ t403 t406 t407 t408 t409 t410 t411 t412 t413 t423 t424 t425 t426 t427 t428 t429 _ ?side1 ?side2 A5.out).mono ?_); (case side1 => refine (Kd.R_reads' (e := 35) (base := w.heap.size) (ok := fun k_ => True) (n := t403.length) (c := co9) ?_).2.2; exact (by (with_reducible repeat (first | apply Kd.R_alloc | apply Kd.R_drewN | apply Kd.R_drew)); exact (Kd.R_mono (Kd.R_far (p := ⟨gb422, 5, none⟩) (Kd.R_far (p := ⟨gb422, 4, none⟩) (Kd.R_far (p := ⟨gb422, 3, none⟩) (Kd.R_far (p := ⟨gb422, 2, none⟩) (Kd.R_far (p := ⟨gb422, 1, none⟩) (Kd.R_far (p := ⟨gb422, 0, none⟩) (Kd.R_types HO405.out BK422.out (by decide)) (fun _ hk => hk.2) (.int .i64 t415)) (fun _ hk => hk.2) (.int .i64 t416)) (fun _ hk => hk.2) (.int .i64 t417)) (fun _ hk => hk.2) (.string t418)) (fun _ hk => hk.2) (.int .i64 t419)) (fun _ hk => hk.2) (.int .i64 t420)) (fun _ h_ => h_.1)))); (case side2 => exact (Kd.R_reads' HO405.out).2.1); rintro e w16 ⟨rfl, hb⟩; refine ⟨_, rfl, ?_⟩; have n0_ := Aside0.mk (Kd.R_below (by (with_reducible repeat (first | apply Kd.R_alloc | apply Kd.R_drewN | apply Kd.R_drew)); exact (Kd.R_mono (Kd.R_far (p := ⟨gb422, 5, none⟩) (Kd.R_far (p := ⟨gb422, 4, none⟩) (Kd.R_far (p := ⟨gb422, 3, none⟩) (Kd.R_far (p := ⟨gb422, 2, none⟩) (Kd.R_far (p := ⟨gb422, 1, none⟩) (Kd.R_far (p := ⟨gb422, 0, none⟩) (Kd.R_types HO405.out BK422.out (by decide)) (fun _ hk => hk.2) (.int .i64 t415)) (fun _ hk => hk.2) (.int .i64 t416)) (fun _ hk => hk.2) (.int .i64 t417)) (fun _ hk => hk.2) (.string t418)) (fun _ hk => hk.2) (.int .i64 t419)) (fun _ hk => hk.2) (.int .i64 t420)) (fun _ h_ => h_.1))) hb); have n1_ := Aside0.mk (blk_below (g := gb414) (o := .cells #[.slice Ao9 t403.length co9, .int .i64 t406, .bool t407, .int .i64 t408, .string t409, .int .i64 t410, .int .i64 t411, .int .i64 t412] 41 (0, 0)) (by (with_reducible repeat (first | refine blk_drewN ?_ _ | refine blk_drew ?_ | refine blk_alloc ?_ _)); refine blk_far ?_ NB414_422.out _; (with_reducible repeat (first | refine blk_drewN ?_ _ | refine blk_drew ?_ | refine blk_alloc ?_ _)); refine blk_far ?_ NB414_422.out _; (with_reducible repeat (first | refine blk_drewN ?_ _ | refine blk_drew ?_ | refine blk_alloc ?_ _)); refine blk_far ?_ NB414_422.out _; (with_reducible repeat (first | refine blk_drewN ?_ _ | refine blk_drew ?_ | refine blk_alloc ?_ _)); refine blk_far ?_ NB414_422.out _; (with_reducible repeat (first | refine blk_drewN ?_ _ | refine blk_drew ?_ | refine blk_alloc ?_ _)); refine blk_far ?_ NB414_422.out _; (with_reducible repeat (first | refine blk_drewN ?_ _ | refine blk_drew ?_ | refine blk_alloc ?_ _)); refine blk_far ?_ NB414_422.out _; (with_reducible repeat (first | refine blk_drewN ?_ _ | refine blk_drew ?_ | refine blk_alloc ?_ _)); exact BK414.out) hb); have n2_ := Aside0.mk (blk_below (g := gb422) (o := .cells #[.int .i64 t415, .int .i64 t416, .int .i64 t417, .string t418, .int .i64 t419, .int .i64 t420] 47 (0, 0)) (by (with_reducible repeat (first | refine blk_drewN ?_ _ | refine blk_drew ?_ | refine blk_alloc ?_ _)); refine blk_put (cs := #[.int .i64 t415, .int .i64 t416, .int .i64 t417, .string t418, .int .i64 t419, .int .i64 0]) ?_ 5 _ rfl; (with_reducible repeat (first | refine blk_drewN ?_ _ | refine blk_drew ?_ | refine blk_alloc ?_ _)); refine blk_put (cs := #[.int .i64 t415, .int .i64 t416, .int .i64 t417, .string t418, .int .i64 0, .int .i64 0]) ?_ 4 _ rfl; (with_reducible repeat (first | refine blk_drewN ?_ _ | refine blk_drew ?_ | refine blk_alloc ?_ _)); refine blk_put (cs := #[.int .i64 t415, .int .i64 t416, .int .i64 t417, .string (⟨#[]⟩ : ByteArray), .int .i64 0, .int .i64 0]) ?_ 3 _ rfl; (with_reducible repeat (first | refine blk_drewN ?_ _ | refine blk_drew ?_ | refine blk_alloc ?_ _)); refine blk_put (cs := #[.int .i64 t415, .int .i64 t416, .int .i64 0, .string (⟨#[]⟩ : ByteArray), .int .i64 0, .int .i64 0]) ?_ 2 _ rfl; (with_reducible repeat (first | refine blk_drewN ?_ _ | refine blk_drew ?_ | refine blk_alloc ?_ _)); refine blk_put (cs := #[.int .i64 t415, .int .i64 0, .int .i64 0, .string (⟨#[]⟩ : ByteArray), .int .i64 0, .int .i64 0]) ?_ 1 _ rfl; (with_reducible repeat (first | refine blk_drewN ?_ _ | refine blk_drew ?_ | refine blk_alloc ?_ _)); refine blk_put (cs := #[.int .i64 0, .int .i64 0, .int .i64 0, .string (⟨#[]⟩ : ByteArray), .int .i64 0, .int .i64 0]) ?_ 0 _ rfl; (with_reducible repeat (first | refine blk_drewN ?_ _ | refine blk_drew ?_ | refine blk_alloc ?_ _)); exact BK422.out) hb); have n3_ := Aside0.mk (below_step (bz) hb); clear HO405; clear BK414; clear BK422; clear HB; have HO405 := n0_; have BK414 := n1_; have BK422 := n2_; have HB := n3_; clear n0_ n1_ n2_ n3_; (try clear hb); (try clear hb2); (try clear hk); (try clear hi)) | ((with_reducible refine gate_dst (N := 7) rfl ?_); refine box_event ?hg (N := 7) ?hd (cs := #[.int .i64 0, .int .i64 0, .int .i64 0, .string (⟨#[]⟩ : ByteArray), .int .i64 0, .int .i64 0]) (t := 47) ?hr ?_; (case hd => rfl); (case hg => rfl); (case hr => first | (go_simp; done) | (go_simp; rfl)); intro gb430 hg w17 hbox hb; have n0_ := Aside0.mk (Kd.R_below (by (with_reducible repeat (first | apply Kd.R_alloc | apply Kd.R_drewN | apply Kd.R_drew)); exact HO405.out) hb); have n1_ := bkb BK414 hb; have n2_ := bkb BK422 hb; have n3_ := Aside0.mk (below_step (bz) hb); have n4_ := Aside0.mk (hbox); have n5_ : Aside0 (w.heap.size ≤ gb430) := bsg hg; have n6_ : Aside0 (w.heap.size ≤ gb430) := bsg hg; have n7_ := nlt hg BK414; have n8_ := ngt hg BK414; have n9_ := nlt hg BK422; have n10_ := ngt hg BK422; clear HO405; clear BK414; clear BK422; clear HB; have HO405 := n0_; have BK414 := n1_; have BK422 := n2_; have HB := n3_; have BK430 := n4_; have GW430 := n5_; have GE430 := n6_; have NB414_430 := n7_; have NB430_414 := n8_; have NB422_430 := n9_; have NB430_422 := n10_; clear n0_ n1_ n2_ n3_ n4_ n5_ n6_ n7_ n8_ n9_ n10_; clear hb hbox hg; have hnb18 := NB430_414.out; have hnc18 := NB414_430.out; have hnb19 := NB430_422.out; have hnc19 := NB422_430.out; have hcz20_0 : w17.cell? ⟨gb430, 0, none⟩ = some (.int .i64 0) := (blk_cell BK430.out 0).trans rfl; have hcz20_1 : w17.cell? ⟨gb430, 1, none⟩ = some (.int .i64 0) := (blk_cell BK430.out 1).trans rfl; have hcz20_2 : w17.cell? ⟨gb430, 2, none⟩ = some (.int .i64 0) := (blk_cell BK430.out 2).trans rfl; have hcz20_3 : w17.cell? ⟨gb430, 3, none⟩ = some (.string (⟨#[]⟩ : ByteArray)) := (blk_cell BK430.out 3).trans rfl; have hcz20_4 : w17.cell? ⟨gb430, 4, none⟩ = some (.int .i64 0) := (blk_cell BK430.out 4).trans rfl; have hcz20_5 : w17.cell? ⟨gb430, 5, none⟩ = some (.int .i64 0) := (blk_cell BK430.out 5).trans rfl; have hfz20_0 := blk_frozen BK430.out 0; have hfz20_1 := blk_frozen BK430.out 1; have hfz20_2 := blk_frozen BK430.out 2; have hfz20_3 := blk_frozen BK430.out 3; have hfz20_4 := blk_frozen BK430.out 4; have hfz20_5 := blk_frozen BK430.out 5))
  (try simp only [Act.put, List.setIfInBounds_toArray, List.set_cons_zero, List.set_cons_succ])
  go_cut [36] (fun v36 wc => ∃ (kq : Nat) (x36_5 : Bool), v36 = .bool x36_5 ∧ Aside0 (laws_FnRequestOf.j0 kq t413 t421 x36_5 t403 t406 t407 t408 t409 t410 t411 t412 t415 t416 t417 t418 t419 t420 = some r) ∧ Aside0 (kq ≤ k) ∧ Aside0 (Kd.R k35 35 wc w.heap.size (fun _ => True) (.slice Ao9 t403.length co9) t403) ∧ Aside0 (wc.heap[gb414]? = some (.cells #[(.slice Ao9 t403.length co9), .int .i64 t406, .bool t407, .int .i64 t408, .string t409, .int .i64 t410, .int .i64 t411, .int .i64 t412] 41 (0, 0))) ∧ Aside0 (wc.heap[gb422]? = some (.cells #[.int .i64 t415, .int .i64 t416, .int .i64 t417, .string t418, .int .i64 t419, .int .i64 t420] 47 (0, 0))) ∧ Aside0 (wc.heap[gb430]? = some (.cells #[.int .i64 t423, .int .i64 t424, .int .i64 t425, .string t426, .int .i64 t427, .int .i64 t428] 47 (0, 0))) ∧ Aside0 (Below w.heap.size w wc))
  case first =>
   have H := HC6.out
   clear HC6
   by_cases c21 : (!(t415 == t423) || (!(t416 == t424) || ((!(t417 == t425) || (!(t418.toList == t426.toList) || (!(t419 == t427) || (!(t420 == t428)))))))) = true
   ·
    rw [if_pos c21] at H
    have c21b0 : (!(t415 == t423) || (!(t416 == t424) || ((!(t417 == t425) || (!(t418.toList == t426.toList) || (!(t419 == t427) || (!(t420 == t428)))))))) = true := c21
    clear c21
    (first | rw [c21b0] | (simp only [i64_w, i32_w]; rw [c21b0]) | skip)
    have H' := Aside0.mk H
    clear H
    have hnb22 := NB422_414.out
    have hnc22 := NB414_422.out
    have hnb23 := NB422_430.out
    have hnc23 := NB430_422.out
    have hcz24_0 : w17.cell? ⟨gb422, 0, none⟩ = some (.int .i64 t415) := (blk_cell BK422.out 0).trans rfl
    have hcz24_1 : w17.cell? ⟨gb422, 1, none⟩ = some (.int .i64 t416) := (blk_cell BK422.out 1).trans rfl
    have hcz24_2 : w17.cell? ⟨gb422, 2, none⟩ = some (.int .i64 t417) := (blk_cell BK422.out 2).trans rfl
    have hcz24_3 : w17.cell? ⟨gb422, 3, none⟩ = some (.string t418) := (blk_cell BK422.out 3).trans rfl
    have hcz24_4 : w17.cell? ⟨gb422, 4, none⟩ = some (.int .i64 t419) := (blk_cell BK422.out 4).trans rfl
    have hcz24_5 : w17.cell? ⟨gb422, 5, none⟩ = some (.int .i64 t420) := (blk_cell BK422.out 5).trans rfl
    have hfz24_0 := blk_frozen BK422.out 0
    have hfz24_1 := blk_frozen BK422.out 1
    have hfz24_2 := blk_frozen BK422.out 2
    have hfz24_3 := blk_frozen BK422.out 3
    have hfz24_4 := blk_frozen BK422.out 4
    have hfz24_5 := blk_frozen BK422.out 5
    have hnb25 := NB430_414.out
    have hnc25 := NB414_430.out
    have hcz26_0 : w17.cell? ⟨gb430, 0, none⟩ = some (.int .i64 0) := (blk_cell BK430.out 0).trans rfl
    have hcz26_1 : w17.cell? ⟨gb430, 1, none⟩ = some (.int .i64 0) := (blk_cell BK430.out 1).trans rfl
    have hcz26_2 : w17.cell? ⟨gb430, 2, none⟩ = some (.int .i64 0) := (blk_cell BK430.out 2).trans rfl
    have hcz26_3 : w17.cell? ⟨gb430, 3, none⟩ = some (.string (⟨#[]⟩ : ByteArray)) := (blk_cell BK430.out 3).trans rfl
    have hcz26_4 : w17.cell? ⟨gb430, 4, none⟩ = some (.int .i64 0) := (blk_cell BK430.out 4).trans rfl
    have hcz26_5 : w17.cell? ⟨gb430, 5, none⟩ = some (.int .i64 0) := (blk_cell BK430.out 5).trans rfl
    have hfz26_0 := blk_frozen BK430.out 0
    have hfz26_1 := blk_frozen BK430.out 1
    have hfz26_2 := blk_frozen BK430.out 2
    have hfz26_3 := blk_frozen BK430.out 3
    have hfz26_4 := blk_frozen BK430.out 4
    have hfz26_5 := blk_frozen BK430.out 5
    go_wp2
    go_meet
    case rel => exact ⟨_, (true), (by first | rfl | (simp; done) | exact congrArg Value.bool (ne_nil_b _) | exact congrArg Value.bool (eq_nil_b _) | (simp [*]; done)), H', ⟨by first | omega | exact Nat.le_refl _⟩, ⟨by (with_reducible repeat (first | apply Kd.R_alloc | apply Kd.R_drewN | apply Kd.R_drew)); exact Kd.R_mono (Kd.R_far (p := ⟨gb430, 5, none⟩) (Kd.R_far (p := ⟨gb430, 4, none⟩) (Kd.R_far (p := ⟨gb430, 3, none⟩) (Kd.R_far (p := ⟨gb430, 2, none⟩) (Kd.R_far (p := ⟨gb430, 1, none⟩) (Kd.R_far (p := ⟨gb430, 0, none⟩) (Kd.R_types HO405.out BK430.out (by decide)) (fun _ hk => hk.2) (.int .i64 t423)) (fun _ hk => hk.2) (.int .i64 t424)) (fun _ hk => hk.2) (.int .i64 t425)) (fun _ hk => hk.2) (.string t426)) (fun _ hk => hk.2) (.int .i64 t427)) (fun _ hk => hk.2) (.int .i64 t428)) (fun _ hk => trivial)⟩, ⟨by (with_reducible repeat (first | refine blk_drewN ?_ _ | refine blk_drew ?_ | refine blk_alloc ?_ _)); refine blk_far ?_ NB414_430.out _; (with_reducible repeat (first | refine blk_drewN ?_ _ | refine blk_drew ?_ | refine blk_alloc ?_ _)); refine blk_far ?_ NB414_430.out _; (with_reducible repeat (first | refine blk_drewN ?_ _ | refine blk_drew ?_ | refine blk_alloc ?_ _)); refine blk_far ?_ NB414_430.out _; (with_reducible repeat (first | refine blk_drewN ?_ _ | refine blk_drew ?_ | refine blk_alloc ?_ _)); refine blk_far ?_ NB414_430.out _; (with_reducible repeat (first | refine blk_drewN ?_ _ | refine blk_drew ?_ | refine blk_alloc ?_ _)); refine blk_far ?_ NB414_430.out _; (with_reducible repeat (first | refine blk_drewN ?_ _ | refine blk_drew ?_ | refine blk_alloc ?_ _)); refine blk_far ?_ NB414_430.out _; (with_reducible repeat (first | refine blk_drewN ?_ _ | refine blk_drew ?_ | refine blk_alloc ?_ _)); exact BK414.out⟩, ⟨by (with_reducible repeat (first | refine blk_drewN ?_ _ | refine blk_drew ?_ | refine blk_alloc ?_ _)); refine blk_far ?_ NB422_430.out _; (with_reducible repeat (first | refine blk_drewN ?_ _ | refine blk_drew ?_ | refine blk_alloc ?_ _)); refine blk_far ?_ NB422_430.out _; (with_reducible repeat (first | refine blk_drewN ?_ _ | refine blk_drew ?_ | refine blk_alloc ?_ _)); refine blk_far ?_ NB422_430.out _; (with_reducible repeat (first | refine blk_drewN ?_ _ | refine blk_drew ?_ | refine blk_alloc ?_ _)); refine blk_far ?_ NB422_430.out _; (with_reducible repeat (first | refine blk_drewN ?_ _ | refine blk_drew ?_ | refine blk_alloc ?_ _)); refine blk_far ?_ NB422_430.out _; (with_reducible repeat (first | refine blk_drewN ?_ _ | refine blk_drew ?_ | refine blk_alloc ?_ _)); refine blk_far ?_ NB422_430.out _; (with_reducible repeat (first | refine blk_drewN ?_ _ | refine blk_drew ?_ | refine blk_alloc ?_ _)); exact BK422.out⟩, ⟨by (with_reducible repeat (first | refine blk_drewN ?_ _ | refine blk_drew ?_ | refine blk_alloc ?_ _)); refine blk_put (cs := #[.int .i64 t423, .int .i64 t424, .int .i64 t425, .string t426, .int .i64 t427, .int .i64 0]) ?_ 5 _ rfl; (with_reducible repeat (first | refine blk_drewN ?_ _ | refine blk_drew ?_ | refine blk_alloc ?_ _)); refine blk_put (cs := #[.int .i64 t423, .int .i64 t424, .int .i64 t425, .string t426, .int .i64 0, .int .i64 0]) ?_ 4 _ rfl; (with_reducible repeat (first | refine blk_drewN ?_ _ | refine blk_drew ?_ | refine blk_alloc ?_ _)); refine blk_put (cs := #[.int .i64 t423, .int .i64 t424, .int .i64 t425, .string (⟨#[]⟩ : ByteArray), .int .i64 0, .int .i64 0]) ?_ 3 _ rfl; (with_reducible repeat (first | refine blk_drewN ?_ _ | refine blk_drew ?_ | refine blk_alloc ?_ _)); refine blk_put (cs := #[.int .i64 t423, .int .i64 t424, .int .i64 0, .string (⟨#[]⟩ : ByteArray), .int .i64 0, .int .i64 0]) ?_ 2 _ rfl; (with_reducible repeat (first | refine blk_drewN ?_ _ | refine blk_drew ?_ | refine blk_alloc ?_ _)); refine blk_put (cs := #[.int .i64 t423, .int .i64 0, .int .i64 0, .string (⟨#[]⟩ : ByteArray), .int .i64 0, .int .i64 0]) ?_ 1 _ rfl; (with_reducible repeat (first | refine blk_drewN ?_ _ | refine blk_drew ?_ | refine blk_alloc ?_ _)); refine blk_put (cs := #[.int .i64 0, .int .i64 0, .int .i64 0, .string (⟨#[]⟩ : ByteArray), .int .i64 0, .int .i64 0]) ?_ 0 _ rfl; (with_reducible repeat (first | refine blk_drewN ?_ _ | refine blk_drew ?_ | refine blk_alloc ?_ _)); exact BK430.out⟩, ⟨bz⟩⟩
   ·
    rw [if_neg c21] at H
    have c21b0 : (!(t415 == t423) || (!(t416 == t424) || ((!(t417 == t425) || (!(t418.toList == t426.toList) || (!(t419 == t427) || (!(t420 == t428)))))))) = false := by simpa using c21
    clear c21
    (first | rw [c21b0] | (simp only [i64_w, i32_w]; rw [c21b0]) | skip)
    have H' := Aside0.mk H
    clear H
    have hnb27 := NB422_414.out
    have hnc27 := NB414_422.out
    have hnb28 := NB422_430.out
    have hnc28 := NB430_422.out
    have hcz29_0 : w17.cell? ⟨gb422, 0, none⟩ = some (.int .i64 t415) := (blk_cell BK422.out 0).trans rfl
    have hcz29_1 : w17.cell? ⟨gb422, 1, none⟩ = some (.int .i64 t416) := (blk_cell BK422.out 1).trans rfl
    have hcz29_2 : w17.cell? ⟨gb422, 2, none⟩ = some (.int .i64 t417) := (blk_cell BK422.out 2).trans rfl
    have hcz29_3 : w17.cell? ⟨gb422, 3, none⟩ = some (.string t418) := (blk_cell BK422.out 3).trans rfl
    have hcz29_4 : w17.cell? ⟨gb422, 4, none⟩ = some (.int .i64 t419) := (blk_cell BK422.out 4).trans rfl
    have hcz29_5 : w17.cell? ⟨gb422, 5, none⟩ = some (.int .i64 t420) := (blk_cell BK422.out 5).trans rfl
    have hfz29_0 := blk_frozen BK422.out 0
    have hfz29_1 := blk_frozen BK422.out 1
    have hfz29_2 := blk_frozen BK422.out 2
    have hfz29_3 := blk_frozen BK422.out 3
    have hfz29_4 := blk_frozen BK422.out 4
    have hfz29_5 := blk_frozen BK422.out 5
    have hnb30 := NB430_414.out
    have hnc30 := NB414_430.out
    have hcz31_0 : w17.cell? ⟨gb430, 0, none⟩ = some (.int .i64 0) := (blk_cell BK430.out 0).trans rfl
    have hcz31_1 : w17.cell? ⟨gb430, 1, none⟩ = some (.int .i64 0) := (blk_cell BK430.out 1).trans rfl
    have hcz31_2 : w17.cell? ⟨gb430, 2, none⟩ = some (.int .i64 0) := (blk_cell BK430.out 2).trans rfl
    have hcz31_3 : w17.cell? ⟨gb430, 3, none⟩ = some (.string (⟨#[]⟩ : ByteArray)) := (blk_cell BK430.out 3).trans rfl
    have hcz31_4 : w17.cell? ⟨gb430, 4, none⟩ = some (.int .i64 0) := (blk_cell BK430.out 4).trans rfl
    have hcz31_5 : w17.cell? ⟨gb430, 5, none⟩ = some (.int .i64 0) := (blk_cell BK430.out 5).trans rfl
    have hfz31_0 := blk_frozen BK430.out 0
    have hfz31_1 := blk_frozen BK430.out 1
    have hfz31_2 := blk_frozen BK430.out 2
    have hfz31_3 := blk_frozen BK430.out 3
    have hfz31_4 := blk_frozen BK430.out 4
    have hfz31_5 := blk_frozen BK430.out 5
    go_wp2
    go_meet
    case rel => exact ⟨_, ((t421 != t429)), (by first | rfl | (simp; done) | exact congrArg Value.bool (ne_nil_b _) | exact congrArg Value.bool (eq_nil_b _) | (simp [*]; done)), H', ⟨by first | omega | exact Nat.le_refl _⟩, ⟨by (with_reducible repeat (first | apply Kd.R_alloc | apply Kd.R_drewN | apply Kd.R_drew)); exact Kd.R_mono (Kd.R_far (p := ⟨gb430, 5, none⟩) (Kd.R_far (p := ⟨gb430, 4, none⟩) (Kd.R_far (p := ⟨gb430, 3, none⟩) (Kd.R_far (p := ⟨gb430, 2, none⟩) (Kd.R_far (p := ⟨gb430, 1, none⟩) (Kd.R_far (p := ⟨gb430, 0, none⟩) (Kd.R_types HO405.out BK430.out (by decide)) (fun _ hk => hk.2) (.int .i64 t423)) (fun _ hk => hk.2) (.int .i64 t424)) (fun _ hk => hk.2) (.int .i64 t425)) (fun _ hk => hk.2) (.string t426)) (fun _ hk => hk.2) (.int .i64 t427)) (fun _ hk => hk.2) (.int .i64 t428)) (fun _ hk => trivial)⟩, ⟨by (with_reducible repeat (first | refine blk_drewN ?_ _ | refine blk_drew ?_ | refine blk_alloc ?_ _)); refine blk_far ?_ NB414_430.out _; (with_reducible repeat (first | refine blk_drewN ?_ _ | refine blk_drew ?_ | refine blk_alloc ?_ _)); refine blk_far ?_ NB414_430.out _; (with_reducible repeat (first | refine blk_drewN ?_ _ | refine blk_drew ?_ | refine blk_alloc ?_ _)); refine blk_far ?_ NB414_430.out _; (with_reducible repeat (first | refine blk_drewN ?_ _ | refine blk_drew ?_ | refine blk_alloc ?_ _)); refine blk_far ?_ NB414_430.out _; (with_reducible repeat (first | refine blk_drewN ?_ _ | refine blk_drew ?_ | refine blk_alloc ?_ _)); refine blk_far ?_ NB414_430.out _; (with_reducible repeat (first | refine blk_drewN ?_ _ | refine blk_drew ?_ | refine blk_alloc ?_ _)); refine blk_far ?_ NB414_430.out _; (with_reducible repeat (first | refine blk_drewN ?_ _ | refine blk_drew ?_ | refine blk_alloc ?_ _)); exact BK414.out⟩, ⟨by (with_reducible repeat (first | refine blk_drewN ?_ _ | refine blk_drew ?_ | refine blk_alloc ?_ _)); refine blk_far ?_ NB422_430.out _; (with_reducible repeat (first | refine blk_drewN ?_ _ | refine blk_drew ?_ | refine blk_alloc ?_ _)); refine blk_far ?_ NB422_430.out _; (with_reducible repeat (first | refine blk_drewN ?_ _ | refine blk_drew ?_ | refine blk_alloc ?_ _)); refine blk_far ?_ NB422_430.out _; (with_reducible repeat (first | refine blk_drewN ?_ _ | refine blk_drew ?_ | refine blk_alloc ?_ _)); refine blk_far ?_ NB422_430.out _; (with_reducible repeat (first | refine blk_drewN ?_ _ | refine blk_drew ?_ | refine blk_alloc ?_ _)); refine blk_far ?_ NB422_430.out _; (with_reducible repeat (first | refine blk_drewN ?_ _ | refine blk_drew ?_ | refine blk_alloc ?_ _)); refine blk_far ?_ NB422_430.out _; (with_reducible repeat (first | refine blk_drewN ?_ _ | refine blk_drew ?_ | refine blk_alloc ?_ _)); exact BK422.out⟩, ⟨by (with_reducible repeat (first | refine blk_drewN ?_ _ | refine blk_drew ?_ | refine blk_alloc ?_ _)); refine blk_put (cs := #[.int .i64 t423, .int .i64 t424, .int .i64 t425, .string t426, .int .i64 t427, .int .i64 0]) ?_ 5 _ rfl; (with_reducible repeat (first | refine blk_drewN ?_ _ | refine blk_drew ?_ | refine blk_alloc ?_ _)); refine blk_put (cs := #[.int .i64 t423, .int .i64 t424, .int .i64 t425, .string t426, .int .i64 0, .int .i64 0]) ?_ 4 _ rfl; (with_reducible repeat (first | refine blk_drewN ?_ _ | refine blk_drew ?_ | refine blk_alloc ?_ _)); refine blk_put (cs := #[.int .i64 t423, .int .i64 t424, .int .i64 t425, .string (⟨#[]⟩ : ByteArray), .int .i64 0, .int .i64 0]) ?_ 3 _ rfl; (with_reducible repeat (first | refine blk_drewN ?_ _ | refine blk_drew ?_ | refine blk_alloc ?_ _)); refine blk_put (cs := #[.int .i64 t423, .int .i64 t424, .int .i64 0, .string (⟨#[]⟩ : ByteArray), .int .i64 0, .int .i64 0]) ?_ 2 _ rfl; (with_reducible repeat (first | refine blk_drewN ?_ _ | refine blk_drew ?_ | refine blk_alloc ?_ _)); refine blk_put (cs := #[.int .i64 t423, .int .i64 0, .int .i64 0, .string (⟨#[]⟩ : ByteArray), .int .i64 0, .int .i64 0]) ?_ 1 _ rfl; (with_reducible repeat (first | refine blk_drewN ?_ _ | refine blk_drew ?_ | refine blk_alloc ?_ _)); refine blk_put (cs := #[.int .i64 0, .int .i64 0, .int .i64 0, .string (⟨#[]⟩ : ByteArray), .int .i64 0, .int .i64 0]) ?_ 0 _ rfl; (with_reducible repeat (first | refine blk_drewN ?_ _ | refine blk_drew ?_ | refine blk_alloc ?_ _)); exact BK430.out⟩, ⟨bz⟩⟩
  case rest =>
   clear HC6
   try clear c1
   try clear c2
   try clear c2b0
   try clear c2b1
   try clear p2
   try clear c3
   try clear c5
   try clear c13
   try clear c18
   try clear c19
   try clear c21
   try clear c21b0
   try clear c22
   try clear c23
   try clear c25
   try clear c26
   try clear c27
   try clear c28
   try clear c30
   try clear hcz10_0
   try clear hcz10_1
   try clear hcz10_2
   try clear hcz10_3
   try clear hcz10_4
   try clear hcz10_5
   try clear hcz10_6
   try clear hcz10_7
   try clear hcz14_0
   try clear hcz14_1
   try clear hcz14_2
   try clear hcz14_3
   try clear hcz14_4
   try clear hcz14_5
   try clear hcz15_0
   try clear hcz15_1
   try clear hcz15_2
   try clear hcz15_3
   try clear hcz15_4
   try clear hcz15_5
   try clear hcz15_6
   try clear hcz15_7
   try clear hcz20_0
   try clear hcz20_1
   try clear hcz20_2
   try clear hcz20_3
   try clear hcz20_4
   try clear hcz20_5
   try clear hcz24_0
   try clear hcz24_1
   try clear hcz24_2
   try clear hcz24_3
   try clear hcz24_4
   try clear hcz24_5
   try clear hcz26_0
   try clear hcz26_1
   try clear hcz26_2
   try clear hcz26_3
   try clear hcz26_4
   try clear hcz26_5
   try clear hcz29_0
   try clear hcz29_1
   try clear hcz29_2
   try clear hcz29_3
   try clear hcz29_4
   try clear hcz29_5
   try clear hcz31_0
   try clear hcz31_1
   try clear hcz31_2
   try clear hcz31_3
   try clear hcz31_4
   try clear hcz31_5
   try clear hfz10_0
   try clear hfz10_1
   try clear hfz10_2
   try clear hfz10_3
   try clear hfz10_4
   try clear hfz10_5
   try clear hfz10_6
   try clear hfz10_7
   try clear hfz14_0
   try clear hfz14_1
   try clear hfz14_2
   try clear hfz14_3
   try clear hfz14_4
   try clear hfz14_5
   try clear hfz15_0
   try clear hfz15_1
   try clear hfz15_2
   try clear hfz15_3
   try clear hfz15_4
   try clear hfz15_5
   try clear hfz15_6
   try clear hfz15_7
   try clear hfz20_0
   try clear hfz20_1
   try clear hfz20_2
   try clear hfz20_3
   try clear hfz20_4
   try clear hfz20_5
   try clear hfz24_0
   try clear hfz24_1
   try clear hfz24_2
   try clear hfz24_3
   try clear hfz24_4
   try clear hfz24_5
   try clear hfz26_0
   try clear hfz26_1
   try clear hfz26_2
   try clear hfz26_3
   try clear hfz26_4
   try clear hfz26_5
   try clear hfz29_0
   try clear hfz29_1
   try clear hfz29_2
   try clear hfz29_3
   try clear hfz29_4
   try clear hfz29_5
   try clear hfz31_0
   try clear hfz31_1
   try clear hfz31_2
   try clear hfz31_3
   try clear hfz31_4
   try clear hfz31_5
   obtain ⟨kq, x36_5, rfl, HA, HJ5, HO_415000, BK414, BK422, BK430, HB⟩ := hcut
   cases kq with
   | zero => exact absurd HA.out (by simp [laws_FnRequestOf.j0])
   | succ kj5 =>
    have H := HA.out
    clear HA
    simp only [laws_FnRequestOf.j0] at H
    by_cases c32 : x36_5 = true
    ·
     subst c32
     rw [if_pos rfl] at H
     obtain rfl := Option.some.inj H
     go_wp2
     go_ret
     exact ⟨by first | rfl | (simp only [u8w, w64m]; rfl) | (simp [errW_none, errW_some] <;> rfl) | (simp [*, errW_none, errW_some] <;> rfl), bz⟩
    ·
     replace c32 := Bool.eq_false_iff.mpr c32
     subst c32
     rw [if_neg (show ¬ (false = true) by decide)] at H
     by_cases c33 : t421 = true
     ·
      subst c33
      rw [if_pos rfl] at H
      replace H := Option.bind_eq_some_iff.mp H
      obtain ⟨t431, A340, H⟩ := H
      try dsimp only at H
      have A34 := Aside0.mk A340
      clear A340
      by_cases c35 : t431 = true
      ·
       subst c35
       rw [if_pos rfl] at H
       by_cases c36 : t407 = true
       ·
        subst c36
        rw [if_pos rfl] at H
        by_cases c37 : t415 = t413
        ·
         rw [if_pos c37] at H
         have c37b0 : (t415 == t413) = true := beq_iff_eq.mpr c37
         have c37b1 : (t415 != t413) = false := bne_eq_false_iff_eq.mpr c37
         clear c37
         by_cases c38 : t416 = t406
         ·
          rw [if_pos c38] at H
          have c38b0 : (t416 == t406) = true := beq_iff_eq.mpr c38
          have c38b1 : (t416 != t406) = false := bne_eq_false_iff_eq.mpr c38
          clear c38
          obtain rfl := Option.some.inj H
          have hnb39 := NB422_414.out
          have hnc39 := NB414_422.out
          have hnb40 := NB422_430.out
          have hnc40 := NB430_422.out
          have hcz41_0 : wc.cell? ⟨gb422, 0, none⟩ = some (.int .i64 t415) := (blk_cell BK422.out 0).trans rfl
          have hcz41_1 : wc.cell? ⟨gb422, 1, none⟩ = some (.int .i64 t416) := (blk_cell BK422.out 1).trans rfl
          have hcz41_2 : wc.cell? ⟨gb422, 2, none⟩ = some (.int .i64 t417) := (blk_cell BK422.out 2).trans rfl
          have hcz41_3 : wc.cell? ⟨gb422, 3, none⟩ = some (.string t418) := (blk_cell BK422.out 3).trans rfl
          have hcz41_4 : wc.cell? ⟨gb422, 4, none⟩ = some (.int .i64 t419) := (blk_cell BK422.out 4).trans rfl
          have hcz41_5 : wc.cell? ⟨gb422, 5, none⟩ = some (.int .i64 t420) := (blk_cell BK422.out 5).trans rfl
          have hfz41_0 := blk_frozen BK422.out 0
          have hfz41_1 := blk_frozen BK422.out 1
          have hfz41_2 := blk_frozen BK422.out 2
          have hfz41_3 := blk_frozen BK422.out 3
          have hfz41_4 := blk_frozen BK422.out 4
          have hfz41_5 := blk_frozen BK422.out 5
          go_wp2_with (first | ((with_reducible refine gate_callee (f := 29) rfl ?_); refine goesL_ (some 46) rfl rfl Try.func29 (by kernel_rfl) rfl #[.agg #[.int .i64 t415, .int .i64 t416, .int .i64 t417, .string t418, .int .i64 t419, .int .i64 t420]] rfl (by (try simp only [List.map_toArray, List.map_cons, List.map_nil]); first | done | rfl | (simp only [List.length_drop, List.length_take]; rfl)) ?_; (with_reducible refine (impl_EntryValid.calls kj5 t415 t416 t417 t418 t419 t420 true _ A34.out).mono ?_); rintro e w42 ⟨rfl, hb⟩; refine ⟨_, rfl, ?_⟩; have n0_ := Aside0.mk (Kd.R_below (by (with_reducible repeat (first | apply Kd.R_alloc | apply Kd.R_drewN | apply Kd.R_drew)); exact HO_415000.out) hb); have n1_ := bkb BK414 hb; have n2_ := bkb BK422 hb; have n3_ := bkb BK430 hb; have n4_ := Aside0.mk (below_step (bz) hb); clear HO_415000; clear BK414; clear BK422; clear BK430; clear HB; have HO_415000 := n0_; have BK414 := n1_; have BK422 := n2_; have BK430 := n3_; have HB := n4_; clear n0_ n1_ n2_ n3_ n4_; (try clear hb); (try clear hb2); (try clear hk); (try clear hi); have hnb43 := NB414_430.out; have hnc43 := NB430_414.out; have hcz44_0 : w42.cell? ⟨gb414, 0, none⟩ = some (.slice Ao9 t403.length co9) := (blk_cell BK414.out 0).trans rfl; have hcz44_1 : w42.cell? ⟨gb414, 1, none⟩ = some (.int .i64 t406) := (blk_cell BK414.out 1).trans rfl; have hcz44_2 : w42.cell? ⟨gb414, 2, none⟩ = some (.bool true) := (blk_cell BK414.out 2).trans rfl; have hcz44_3 : w42.cell? ⟨gb414, 3, none⟩ = some (.int .i64 t408) := (blk_cell BK414.out 3).trans rfl; have hcz44_4 : w42.cell? ⟨gb414, 4, none⟩ = some (.string t409) := (blk_cell BK414.out 4).trans rfl; have hcz44_5 : w42.cell? ⟨gb414, 5, none⟩ = some (.int .i64 t410) := (blk_cell BK414.out 5).trans rfl; have hcz44_6 : w42.cell? ⟨gb414, 6, none⟩ = some (.int .i64 t411) := (blk_cell BK414.out 6).trans rfl; have hcz44_7 : w42.cell? ⟨gb414, 7, none⟩ = some (.int .i64 t412) := (blk_cell BK414.out 7).trans rfl; have hfz44_0 := blk_frozen BK414.out 0; have hfz44_1 := blk_frozen BK414.out 1; have hfz44_2 := blk_frozen BK414.out 2; have hfz44_3 := blk_frozen BK414.out 3; have hfz44_4 := blk_frozen BK414.out 4; have hfz44_5 := blk_frozen BK414.out 5; have hfz44_6 := blk_frozen BK414.out 6; have hfz44_7 := blk_frozen BK414.out 7; have hcz45_0 : w42.cell? ⟨gb422, 0, none⟩ = some (.int .i64 t415) := (blk_cell BK422.out 0).trans rfl; have hcz45_1 : w42.cell? ⟨gb422, 1, none⟩ = some (.int .i64 t416) := (blk_cell BK422.out 1).trans rfl; have hcz45_2 : w42.cell? ⟨gb422, 2, none⟩ = some (.int .i64 t417) := (blk_cell BK422.out 2).trans rfl; have hcz45_3 : w42.cell? ⟨gb422, 3, none⟩ = some (.string t418) := (blk_cell BK422.out 3).trans rfl; have hcz45_4 : w42.cell? ⟨gb422, 4, none⟩ = some (.int .i64 t419) := (blk_cell BK422.out 4).trans rfl; have hcz45_5 : w42.cell? ⟨gb422, 5, none⟩ = some (.int .i64 t420) := (blk_cell BK422.out 5).trans rfl; have hfz45_0 := blk_frozen BK422.out 0; have hfz45_1 := blk_frozen BK422.out 1; have hfz45_2 := blk_frozen BK422.out 2; have hfz45_3 := blk_frozen BK422.out 3; have hfz45_4 := blk_frozen BK422.out 4; have hfz45_5 := blk_frozen BK422.out 5))
          go_ret
          exact ⟨by first | rfl | (simp only [u8w, w64m]; rfl) | (simp [errW_none, errW_some] <;> rfl) | (simp [*, errW_none, errW_some] <;> rfl), bz⟩
         ·
          rw [if_neg c38] at H
          have c38b0 : (t416 == t406) = false := beq_eq_false_iff_ne.mpr c38
          have c38b1 : (t416 != t406) = true := bne_iff_ne.mpr c38
          obtain rfl := Option.some.inj H
          have hnb46 := NB422_414.out
          have hnc46 := NB414_422.out
          have hnb47 := NB422_430.out
          have hnc47 := NB430_422.out
          have hcz48_0 : wc.cell? ⟨gb422, 0, none⟩ = some (.int .i64 t415) := (blk_cell BK422.out 0).trans rfl
          have hcz48_1 : wc.cell? ⟨gb422, 1, none⟩ = some (.int .i64 t416) := (blk_cell BK422.out 1).trans rfl
          have hcz48_2 : wc.cell? ⟨gb422, 2, none⟩ = some (.int .i64 t417) := (blk_cell BK422.out 2).trans rfl
          have hcz48_3 : wc.cell? ⟨gb422, 3, none⟩ = some (.string t418) := (blk_cell BK422.out 3).trans rfl
          have hcz48_4 : wc.cell? ⟨gb422, 4, none⟩ = some (.int .i64 t419) := (blk_cell BK422.out 4).trans rfl
          have hcz48_5 : wc.cell? ⟨gb422, 5, none⟩ = some (.int .i64 t420) := (blk_cell BK422.out 5).trans rfl
          have hfz48_0 := blk_frozen BK422.out 0
          have hfz48_1 := blk_frozen BK422.out 1
          have hfz48_2 := blk_frozen BK422.out 2
          have hfz48_3 := blk_frozen BK422.out 3
          have hfz48_4 := blk_frozen BK422.out 4
          have hfz48_5 := blk_frozen BK422.out 5
          go_wp2_with (first | ((with_reducible refine gate_callee (f := 29) rfl ?_); refine goesL_ (some 46) rfl rfl Try.func29 (by kernel_rfl) rfl #[.agg #[.int .i64 t415, .int .i64 t416, .int .i64 t417, .string t418, .int .i64 t419, .int .i64 t420]] rfl (by (try simp only [List.map_toArray, List.map_cons, List.map_nil]); first | done | rfl | (simp only [List.length_drop, List.length_take]; rfl)) ?_; (with_reducible refine (impl_EntryValid.calls kj5 t415 t416 t417 t418 t419 t420 true _ A34.out).mono ?_); rintro e w49 ⟨rfl, hb⟩; refine ⟨_, rfl, ?_⟩; have n0_ := Aside0.mk (Kd.R_below (by (with_reducible repeat (first | apply Kd.R_alloc | apply Kd.R_drewN | apply Kd.R_drew)); exact HO_415000.out) hb); have n1_ := bkb BK414 hb; have n2_ := bkb BK422 hb; have n3_ := bkb BK430 hb; have n4_ := Aside0.mk (below_step (bz) hb); clear HO_415000; clear BK414; clear BK422; clear BK430; clear HB; have HO_415000 := n0_; have BK414 := n1_; have BK422 := n2_; have BK430 := n3_; have HB := n4_; clear n0_ n1_ n2_ n3_ n4_; (try clear hb); (try clear hb2); (try clear hk); (try clear hi); have hnb50 := NB414_430.out; have hnc50 := NB430_414.out; have hcz51_0 : w49.cell? ⟨gb414, 0, none⟩ = some (.slice Ao9 t403.length co9) := (blk_cell BK414.out 0).trans rfl; have hcz51_1 : w49.cell? ⟨gb414, 1, none⟩ = some (.int .i64 t406) := (blk_cell BK414.out 1).trans rfl; have hcz51_2 : w49.cell? ⟨gb414, 2, none⟩ = some (.bool true) := (blk_cell BK414.out 2).trans rfl; have hcz51_3 : w49.cell? ⟨gb414, 3, none⟩ = some (.int .i64 t408) := (blk_cell BK414.out 3).trans rfl; have hcz51_4 : w49.cell? ⟨gb414, 4, none⟩ = some (.string t409) := (blk_cell BK414.out 4).trans rfl; have hcz51_5 : w49.cell? ⟨gb414, 5, none⟩ = some (.int .i64 t410) := (blk_cell BK414.out 5).trans rfl; have hcz51_6 : w49.cell? ⟨gb414, 6, none⟩ = some (.int .i64 t411) := (blk_cell BK414.out 6).trans rfl; have hcz51_7 : w49.cell? ⟨gb414, 7, none⟩ = some (.int .i64 t412) := (blk_cell BK414.out 7).trans rfl; have hfz51_0 := blk_frozen BK414.out 0; have hfz51_1 := blk_frozen BK414.out 1; have hfz51_2 := blk_frozen BK414.out 2; have hfz51_3 := blk_frozen BK414.out 3; have hfz51_4 := blk_frozen BK414.out 4; have hfz51_5 := blk_frozen BK414.out 5; have hfz51_6 := blk_frozen BK414.out 6; have hfz51_7 := blk_frozen BK414.out 7; have hcz52_0 : w49.cell? ⟨gb422, 0, none⟩ = some (.int .i64 t415) := (blk_cell BK422.out 0).trans rfl; have hcz52_1 : w49.cell? ⟨gb422, 1, none⟩ = some (.int .i64 t416) := (blk_cell BK422.out 1).trans rfl; have hcz52_2 : w49.cell? ⟨gb422, 2, none⟩ = some (.int .i64 t417) := (blk_cell BK422.out 2).trans rfl; have hcz52_3 : w49.cell? ⟨gb422, 3, none⟩ = some (.string t418) := (blk_cell BK422.out 3).trans rfl; have hcz52_4 : w49.cell? ⟨gb422, 4, none⟩ = some (.int .i64 t419) := (blk_cell BK422.out 4).trans rfl; have hcz52_5 : w49.cell? ⟨gb422, 5, none⟩ = some (.int .i64 t420) := (blk_cell BK422.out 5).trans rfl; have hfz52_0 := blk_frozen BK422.out 0; have hfz52_1 := blk_frozen BK422.out 1; have hfz52_2 := blk_frozen BK422.out 2; have hfz52_3 := blk_frozen BK422.out 3; have hfz52_4 := blk_frozen BK422.out 4; have hfz52_5 := blk_frozen BK422.out 5))
          go_ret
          exact ⟨by first | rfl | (simp only [u8w, w64m]; rfl) | (simp [errW_none, errW_some] <;> rfl) | (simp [*, errW_none, errW_some] <;> rfl), bz⟩
        ·
         rw [if_neg c37] at H
         have c37b0 : (t415 == t413) = false := beq_eq_false_iff_ne.mpr c37
         have c37b1 : (t415 != t413) = true := bne_iff_ne.mpr c37
         obtain rfl := Option.some.inj H
         have hnb53 := NB422_414.out
         have hnc53 := NB414_422.out
         have hnb54 := NB422_430.out
         have hnc54 := NB430_422.out
         have hcz55_0 : wc.cell? ⟨gb422, 0, none⟩ = some (.int .i64 t415) := (blk_cell BK422.out 0).trans rfl
         have hcz55_1 : wc.cell? ⟨gb422, 1, none⟩ = some (.int .i64 t416) := (blk_cell BK422.out 1).trans rfl
         have hcz55_2 : wc.cell? ⟨gb422, 2, none⟩ = some (.int .i64 t417) := (blk_cell BK422.out 2).trans rfl
         have hcz55_3 : wc.cell? ⟨gb422, 3, none⟩ = some (.string t418) := (blk_cell BK422.out 3).trans rfl
         have hcz55_4 : wc.cell? ⟨gb422, 4, none⟩ = some (.int .i64 t419) := (blk_cell BK422.out 4).trans rfl
         have hcz55_5 : wc.cell? ⟨gb422, 5, none⟩ = some (.int .i64 t420) := (blk_cell BK422.out 5).trans rfl
         have hfz55_0 := blk_frozen BK422.out 0
         have hfz55_1 := blk_frozen BK422.out 1
         have hfz55_2 := blk_frozen BK422.out 2
         have hfz55_3 := blk_frozen BK422.out 3
         have hfz55_4 := blk_frozen BK422.out 4
         have hfz55_5 := blk_frozen BK422.out 5
         go_wp2_with (first | ((with_reducible refine gate_callee (f := 29) rfl ?_); refine goesL_ (some 46) rfl rfl Try.func29 (by kernel_rfl) rfl #[.agg #[.int .i64 t415, .int .i64 t416, .int .i64 t417, .string t418, .int .i64 t419, .int .i64 t420]] rfl (by (try simp only [List.map_toArray, List.map_cons, List.map_nil]); first | done | rfl | (simp only [List.length_drop, List.length_take]; rfl)) ?_; (with_reducible refine (impl_EntryValid.calls kj5 t415 t416 t417 t418 t419 t420 true _ A34.out).mono ?_); rintro e w56 ⟨rfl, hb⟩; refine ⟨_, rfl, ?_⟩; have n0_ := Aside0.mk (Kd.R_below (by (with_reducible repeat (first | apply Kd.R_alloc | apply Kd.R_drewN | apply Kd.R_drew)); exact HO_415000.out) hb); have n1_ := bkb BK414 hb; have n2_ := bkb BK422 hb; have n3_ := bkb BK430 hb; have n4_ := Aside0.mk (below_step (bz) hb); clear HO_415000; clear BK414; clear BK422; clear BK430; clear HB; have HO_415000 := n0_; have BK414 := n1_; have BK422 := n2_; have BK430 := n3_; have HB := n4_; clear n0_ n1_ n2_ n3_ n4_; (try clear hb); (try clear hb2); (try clear hk); (try clear hi); have hnb57 := NB414_430.out; have hnc57 := NB430_414.out; have hcz58_0 : w56.cell? ⟨gb414, 0, none⟩ = some (.slice Ao9 t403.length co9) := (blk_cell BK414.out 0).trans rfl; have hcz58_1 : w56.cell? ⟨gb414, 1, none⟩ = some (.int .i64 t406) := (blk_cell BK414.out 1).trans rfl; have hcz58_2 : w56.cell? ⟨gb414, 2, none⟩ = some (.bool true) := (blk_cell BK414.out 2).trans rfl; have hcz58_3 : w56.cell? ⟨gb414, 3, none⟩ = some (.int .i64 t408) := (blk_cell BK414.out 3).trans rfl; have hcz58_4 : w56.cell? ⟨gb414, 4, none⟩ = some (.string t409) := (blk_cell BK414.out 4).trans rfl; have hcz58_5 : w56.cell? ⟨gb414, 5, none⟩ = some (.int .i64 t410) := (blk_cell BK414.out 5).trans rfl; have hcz58_6 : w56.cell? ⟨gb414, 6, none⟩ = some (.int .i64 t411) := (blk_cell BK414.out 6).trans rfl; have hcz58_7 : w56.cell? ⟨gb414, 7, none⟩ = some (.int .i64 t412) := (blk_cell BK414.out 7).trans rfl; have hfz58_0 := blk_frozen BK414.out 0; have hfz58_1 := blk_frozen BK414.out 1; have hfz58_2 := blk_frozen BK414.out 2; have hfz58_3 := blk_frozen BK414.out 3; have hfz58_4 := blk_frozen BK414.out 4; have hfz58_5 := blk_frozen BK414.out 5; have hfz58_6 := blk_frozen BK414.out 6; have hfz58_7 := blk_frozen BK414.out 7; have hcz59_0 : w56.cell? ⟨gb422, 0, none⟩ = some (.int .i64 t415) := (blk_cell BK422.out 0).trans rfl; have hcz59_1 : w56.cell? ⟨gb422, 1, none⟩ = some (.int .i64 t416) := (blk_cell BK422.out 1).trans rfl; have hcz59_2 : w56.cell? ⟨gb422, 2, none⟩ = some (.int .i64 t417) := (blk_cell BK422.out 2).trans rfl; have hcz59_3 : w56.cell? ⟨gb422, 3, none⟩ = some (.string t418) := (blk_cell BK422.out 3).trans rfl; have hcz59_4 : w56.cell? ⟨gb422, 4, none⟩ = some (.int .i64 t419) := (blk_cell BK422.out 4).trans rfl; have hcz59_5 : w56.cell? ⟨gb422, 5, none⟩ = some (.int .i64 t420) := (blk_cell BK422.out 5).trans rfl; have hfz59_0 := blk_frozen BK422.out 0; have hfz59_1 := blk_frozen BK422.out 1; have hfz59_2 := blk_frozen BK422.out 2; have hfz59_3 := blk_frozen BK422.out 3; have hfz59_4 := blk_frozen BK422.out 4; have hfz59_5 := blk_frozen BK422.out 5))
         go_ret
         exact ⟨by first | rfl | (simp only [u8w, w64m]; rfl) | (simp [errW_none, errW_some] <;> rfl) | (simp [*, errW_none, errW_some] <;> rfl), bz⟩
       ·
        replace c36 := Bool.eq_false_iff.mpr c36
        subst c36
        rw [if_neg (show ¬ (false = true) by decide)] at H
        obtain rfl := Option.some.inj H
        have hnb60 := NB422_414.out
        have hnc60 := NB414_422.out
        have hnb61 := NB422_430.out
        have hnc61 := NB430_422.out
        have hcz62_0 : wc.cell? ⟨gb422, 0, none⟩ = some (.int .i64 t415) := (blk_cell BK422.out 0).trans rfl
        have hcz62_1 : wc.cell? ⟨gb422, 1, none⟩ = some (.int .i64 t416) := (blk_cell BK422.out 1).trans rfl
        have hcz62_2 : wc.cell? ⟨gb422, 2, none⟩ = some (.int .i64 t417) := (blk_cell BK422.out 2).trans rfl
        have hcz62_3 : wc.cell? ⟨gb422, 3, none⟩ = some (.string t418) := (blk_cell BK422.out 3).trans rfl
        have hcz62_4 : wc.cell? ⟨gb422, 4, none⟩ = some (.int .i64 t419) := (blk_cell BK422.out 4).trans rfl
        have hcz62_5 : wc.cell? ⟨gb422, 5, none⟩ = some (.int .i64 t420) := (blk_cell BK422.out 5).trans rfl
        have hfz62_0 := blk_frozen BK422.out 0
        have hfz62_1 := blk_frozen BK422.out 1
        have hfz62_2 := blk_frozen BK422.out 2
        have hfz62_3 := blk_frozen BK422.out 3
        have hfz62_4 := blk_frozen BK422.out 4
        have hfz62_5 := blk_frozen BK422.out 5
        go_wp2_with (first | ((with_reducible refine gate_callee (f := 29) rfl ?_); refine goesL_ (some 46) rfl rfl Try.func29 (by kernel_rfl) rfl #[.agg #[.int .i64 t415, .int .i64 t416, .int .i64 t417, .string t418, .int .i64 t419, .int .i64 t420]] rfl (by (try simp only [List.map_toArray, List.map_cons, List.map_nil]); first | done | rfl | (simp only [List.length_drop, List.length_take]; rfl)) ?_; (with_reducible refine (impl_EntryValid.calls kj5 t415 t416 t417 t418 t419 t420 true _ A34.out).mono ?_); rintro e w63 ⟨rfl, hb⟩; refine ⟨_, rfl, ?_⟩; have n0_ := Aside0.mk (Kd.R_below (by (with_reducible repeat (first | apply Kd.R_alloc | apply Kd.R_drewN | apply Kd.R_drew)); exact HO_415000.out) hb); have n1_ := bkb BK414 hb; have n2_ := bkb BK422 hb; have n3_ := bkb BK430 hb; have n4_ := Aside0.mk (below_step (bz) hb); clear HO_415000; clear BK414; clear BK422; clear BK430; clear HB; have HO_415000 := n0_; have BK414 := n1_; have BK422 := n2_; have BK430 := n3_; have HB := n4_; clear n0_ n1_ n2_ n3_ n4_; (try clear hb); (try clear hb2); (try clear hk); (try clear hi); have hnb64 := NB414_430.out; have hnc64 := NB430_414.out; have hcz65_0 : w63.cell? ⟨gb414, 0, none⟩ = some (.slice Ao9 t403.length co9) := (blk_cell BK414.out 0).trans rfl; have hcz65_1 : w63.cell? ⟨gb414, 1, none⟩ = some (.int .i64 t406) := (blk_cell BK414.out 1).trans rfl; have hcz65_2 : w63.cell? ⟨gb414, 2, none⟩ = some (.bool false) := (blk_cell BK414.out 2).trans rfl; have hcz65_3 : w63.cell? ⟨gb414, 3, none⟩ = some (.int .i64 t408) := (blk_cell BK414.out 3).trans rfl; have hcz65_4 : w63.cell? ⟨gb414, 4, none⟩ = some (.string t409) := (blk_cell BK414.out 4).trans rfl; have hcz65_5 : w63.cell? ⟨gb414, 5, none⟩ = some (.int .i64 t410) := (blk_cell BK414.out 5).trans rfl; have hcz65_6 : w63.cell? ⟨gb414, 6, none⟩ = some (.int .i64 t411) := (blk_cell BK414.out 6).trans rfl; have hcz65_7 : w63.cell? ⟨gb414, 7, none⟩ = some (.int .i64 t412) := (blk_cell BK414.out 7).trans rfl; have hfz65_0 := blk_frozen BK414.out 0; have hfz65_1 := blk_frozen BK414.out 1; have hfz65_2 := blk_frozen BK414.out 2; have hfz65_3 := blk_frozen BK414.out 3; have hfz65_4 := blk_frozen BK414.out 4; have hfz65_5 := blk_frozen BK414.out 5; have hfz65_6 := blk_frozen BK414.out 6; have hfz65_7 := blk_frozen BK414.out 7))
        go_ret
        exact ⟨by first | rfl | (simp only [u8w, w64m]; rfl) | (simp [errW_none, errW_some] <;> rfl) | (simp [*, errW_none, errW_some] <;> rfl), bz⟩
      ·
       replace c35 := Bool.eq_false_iff.mpr c35
       subst c35
       rw [if_neg (show ¬ (false = true) by decide)] at H
       obtain rfl := Option.some.inj H
       have hnb66 := NB422_414.out
       have hnc66 := NB414_422.out
       have hnb67 := NB422_430.out
       have hnc67 := NB430_422.out
       have hcz68_0 : wc.cell? ⟨gb422, 0, none⟩ = some (.int .i64 t415) := (blk_cell BK422.out 0).trans rfl
       have hcz68_1 : wc.cell? ⟨gb422, 1, none⟩ = some (.int .i64 t416) := (blk_cell BK422.out 1).trans rfl
       have hcz68_2 : wc.cell? ⟨gb422, 2, none⟩ = some (.int .i64 t417) := (blk_cell BK422.out 2).trans rfl
       have hcz68_3 : wc.cell? ⟨gb422, 3, none⟩ = some (.string t418) := (blk_cell BK422.out 3).trans rfl
       have hcz68_4 : wc.cell? ⟨gb422, 4, none⟩ = some (.int .i64 t419) := (blk_cell BK422.out 4).trans rfl
       have hcz68_5 : wc.cell? ⟨gb422, 5, none⟩ = some (.int .i64 t420) := (blk_cell BK422.out 5).trans rfl
       have hfz68_0 := blk_frozen BK422.out 0
       have hfz68_1 := blk_frozen BK422.out 1
       have hfz68_2 := blk_frozen BK422.out 2
       have hfz68_3 := blk_frozen BK422.out 3
       have hfz68_4 := blk_frozen BK422.out 4
       have hfz68_5 := blk_frozen BK422.out 5
       go_wp2_with (first | ((with_reducible refine gate_callee (f := 29) rfl ?_); refine goesL_ (some 46) rfl rfl Try.func29 (by kernel_rfl) rfl #[.agg #[.int .i64 t415, .int .i64 t416, .int .i64 t417, .string t418, .int .i64 t419, .int .i64 t420]] rfl (by (try simp only [List.map_toArray, List.map_cons, List.map_nil]); first | done | rfl | (simp only [List.length_drop, List.length_take]; rfl)) ?_; (with_reducible refine (impl_EntryValid.calls kj5 t415 t416 t417 t418 t419 t420 false _ A34.out).mono ?_); rintro e w69 ⟨rfl, hb⟩; refine ⟨_, rfl, ?_⟩; have n0_ := Aside0.mk (Kd.R_below (by (with_reducible repeat (first | apply Kd.R_alloc | apply Kd.R_drewN | apply Kd.R_drew)); exact HO_415000.out) hb); have n1_ := bkb BK414 hb; have n2_ := bkb BK422 hb; have n3_ := bkb BK430 hb; have n4_ := Aside0.mk (below_step (bz) hb); clear HO_415000; clear BK414; clear BK422; clear BK430; clear HB; have HO_415000 := n0_; have BK414 := n1_; have BK422 := n2_; have BK430 := n3_; have HB := n4_; clear n0_ n1_ n2_ n3_ n4_; (try clear hb); (try clear hb2); (try clear hk); (try clear hi)))
       go_ret
       exact ⟨by first | rfl | (simp only [u8w, w64m]; rfl) | (simp [errW_none, errW_some] <;> rfl) | (simp [*, errW_none, errW_some] <;> rfl), bz⟩
     ·
      replace c33 := Bool.eq_false_iff.mpr c33
      subst c33
      rw [if_neg (show ¬ (false = true) by decide)] at H
      by_cases c70 : (t415 == 0 && (t416 == 0 && ((t417 == 0 && (t418.toList == ([] : List UInt8) && (t419 == 0 && (t420 == 0))))))) = true
      ·
       rw [if_pos c70] at H
       have c70b0 : (t415 == 0 && (t416 == 0 && ((t417 == 0 && (t418.toList == ([] : List UInt8) && (t419 == 0 && (t420 == 0))))))) = true := c70
       (try (have c70b1 : decide (t415 = 0 && (t416 == 0 && ((t417 == 0 && (t418.toList == ([] : List UInt8) && (t419 == 0 && (t420 == 0))))))) = true := by simpa using c70))
       (try (have c70b2 : (t415 == 0 && (t416 == 0 && ((t417 == 0 && (t418.toList == ([] : List UInt8) && (t419 == 0 && (t420 == 0))))))) = true := by simpa using c70))
       (try (have c70b9 := c70b0; simp only [← eq_nil_b] at c70b9))
       clear c70
       replace H := Option.bind_eq_some_iff.mp H
       obtain ⟨t432, A710, H⟩ := H
       try dsimp only at H
       have A71 := Aside0.mk A710
       clear A710
       obtain rfl := Option.some.inj H
       have hnb72 := NB422_414.out
       have hnc72 := NB414_422.out
       have hnb73 := NB422_430.out
       have hnc73 := NB430_422.out
       have hcz74_0 : wc.cell? ⟨gb422, 0, none⟩ = some (.int .i64 t415) := (blk_cell BK422.out 0).trans rfl
       have hcz74_1 : wc.cell? ⟨gb422, 1, none⟩ = some (.int .i64 t416) := (blk_cell BK422.out 1).trans rfl
       have hcz74_2 : wc.cell? ⟨gb422, 2, none⟩ = some (.int .i64 t417) := (blk_cell BK422.out 2).trans rfl
       have hcz74_3 : wc.cell? ⟨gb422, 3, none⟩ = some (.string t418) := (blk_cell BK422.out 3).trans rfl
       have hcz74_4 : wc.cell? ⟨gb422, 4, none⟩ = some (.int .i64 t419) := (blk_cell BK422.out 4).trans rfl
       have hcz74_5 : wc.cell? ⟨gb422, 5, none⟩ = some (.int .i64 t420) := (blk_cell BK422.out 5).trans rfl
       have hfz74_0 := blk_frozen BK422.out 0
       have hfz74_1 := blk_frozen BK422.out 1
       have hfz74_2 := blk_frozen BK422.out 2
       have hfz74_3 := blk_frozen BK422.out 3
       have hfz74_4 := blk_frozen BK422.out 4
       have hfz74_5 := blk_frozen BK422.out 5
       go_wp2_with (first | (go_at_call 20; (with_reducible refine (laws_alive.calls kj5  t432 _ A71.out).mono ?_); rintro e w75 ⟨rfl, hb⟩; have n0_ := Aside0.mk (Kd.R_below (by (with_reducible repeat (first | apply Kd.R_alloc | apply Kd.R_drewN | apply Kd.R_drew)); exact HO_415000.out) hb); have n1_ := bkb BK414 hb; have n2_ := bkb BK422 hb; have n3_ := bkb BK430 hb; have n4_ := Aside0.mk (below_step (bz) hb); clear HO_415000; clear BK414; clear BK422; clear BK430; clear HB; have HO_415000 := n0_; have BK414 := n1_; have BK422 := n2_; have BK430 := n3_; have HB := n4_; clear n0_ n1_ n2_ n3_ n4_; (try clear hb); (try clear hb2); (try clear hk); (try clear hi)))
       go_ret
       exact ⟨by first | rfl | (simp only [u8w, w64m]; rfl) | (simp [errW_none, errW_some] <;> rfl) | (simp [*, errW_none, errW_some] <;> rfl), bz⟩
      ·
       rw [if_neg c70] at H
       have c70b0 : (t415 == 0 && (t416 == 0 && ((t417 == 0 && (t418.toList == ([] : List UInt8) && (t419 == 0 && (t420 == 0))))))) = false := by simpa using c70
       (try (have c70b1 : decide (t415 = 0 && (t416 == 0 && ((t417 == 0 && (t418.toList == ([] : List UInt8) && (t419 == 0 && (t420 == 0))))))) = false := by simpa using c70))
       (try (have c70b2 : (t415 == 0 && (t416 == 0 && ((t417 == 0 && (t418.toList == ([] : List UInt8) && (t419 == 0 && (t420 == 0))))))) = false := by simpa using c70))
       (try (have c70b3 : ¬ (t415 = 0 && (t416 == 0 && ((t417 == 0 && (t418.toList == ([] : List UInt8) && (t419 == 0 && (t420 == 0))))))) := by simpa using c70))
       (try (have c70b9 := c70b0; simp only [← eq_nil_b] at c70b9))
       clear c70
       obtain rfl := Option.some.inj H
       have hnb76 := NB422_414.out
       have hnc76 := NB414_422.out
       have hnb77 := NB422_430.out
       have hnc77 := NB430_422.out
       have hcz78_0 : wc.cell? ⟨gb422, 0, none⟩ = some (.int .i64 t415) := (blk_cell BK422.out 0).trans rfl
       have hcz78_1 : wc.cell? ⟨gb422, 1, none⟩ = some (.int .i64 t416) := (blk_cell BK422.out 1).trans rfl
       have hcz78_2 : wc.cell? ⟨gb422, 2, none⟩ = some (.int .i64 t417) := (blk_cell BK422.out 2).trans rfl
       have hcz78_3 : wc.cell? ⟨gb422, 3, none⟩ = some (.string t418) := (blk_cell BK422.out 3).trans rfl
       have hcz78_4 : wc.cell? ⟨gb422, 4, none⟩ = some (.int .i64 t419) := (blk_cell BK422.out 4).trans rfl
       have hcz78_5 : wc.cell? ⟨gb422, 5, none⟩ = some (.int .i64 t420) := (blk_cell BK422.out 5).trans rfl
       have hfz78_0 := blk_frozen BK422.out 0
       have hfz78_1 := blk_frozen BK422.out 1
       have hfz78_2 := blk_frozen BK422.out 2
       have hfz78_3 := blk_frozen BK422.out 3
       have hfz78_4 := blk_frozen BK422.out 4
       have hfz78_5 := blk_frozen BK422.out 5
       go_wp2
       go_ret
       exact ⟨by first | rfl | (simp only [u8w, w64m]; rfl) | (simp [errW_none, errW_some] <;> rfl) | (simp [*, errW_none, errW_some] <;> rfl), bz⟩

/-- THE ONE PURE STATEMENT of laws_FnRequestOf: yours. -/
def laws_FnRequestOf.Pure : Prop := ∀ (l0 : List Int), l0.length ≤ maxLen → l0.length * 1 ≤ 140737488351232 → (∀ x ∈ l0, (Lit.int .u8 x).wf = true) → ∃ k, laws_FnRequestOf.f k l0 = some true
theorem laws_FnRequestOf.walk (P : laws_FnRequestOf.Pure) (a0 : Option Addr) (len0 cap0 : Nat) (z0 : List Int) (w : World) (w0 : (a0 = none ∧ len0 = 0 ∧ cap0 = 0 ∧ z0 = []) ∨ ∃ x, a0 = some x ∧ len0 ≤ cap0 ∧ cap0 ≤ maxLen ∧ z0.length = cap0 ∧ (∀ i, i < z0.length → w.cell? (x.add i) = some (.int .u8 (z0.getD i 0))) ∧ ∀ n ∈ z0, (Lit.int .u8 n).wf = true) (y0 : len0 * 1 ≤ 140737488351232) :
  Calls Try.prog 5 #[.slice a0 len0 cap0] w fun e w' => e = .returned (.bool true) ∧ Below w.heap.size w w' := by
 obtain ⟨l0, rfl, hr0, hm0, hw0, hc0⟩ := ReadsInt.ofRowC w0
 obtain ⟨k, h⟩ := P l0 hm0 y0 hw0
 refine (laws_FnRequestOf.calls k _ _ l0 true w (Kd.C_of_reads (d := (0 : Int)) (h1 := fun _ => rfl) hr0) hc0 h).mono ?_
 rintro e w' ⟨rfl, hd⟩
 exact ⟨rfl, hd⟩

end Go.Proofs.Ytkjkokljgbpbbaa.PFnRequestOf
