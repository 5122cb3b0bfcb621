/- Go functions as plain Lean functions, and for each a proof that its call comes to what the function says; under the conditions that each theorem names. Written by a program of this session. -/
import Derived.Test.YtkjkokljgbpbbaaPFnGiveUpx0
import Derived.Test.YtkjkokljgbpbbaaPFnGiveUpx2
import Derived.Test.YtkjkokljgbpbbaaPFnGiveUpx7
import Derived.Test.YtkjkokljgbpbbaaPFnGiveUpx10
import Derived.Test.YtkjkokljgbpbbaaPFnGiveUpx11
import Derived.Test.YtkjkokljgbpbbaaPFnGiveUpx13
namespace Go.Proofs.Ytkjkokljgbpbbaa.PFnGiveUp
open Go.RowKit Go.Proofs.YtkjkokljgbpbbaaW.PrintWords Go.Proofs.YtkjkokljgbpbbaaW.PrintLast Go.Proofs.YtkjkokljgbpbbaaW.PrintMore
attribute [local go_sem high] str_gtr str_leq str_geq
attribute [local go_sem] max2_int min2_int max_two min_two max_three min_three max_four min_four   -- for this text's walks alone
set_option linter.unusedVariables false
set_option linter.unusedSimpArgs false

attribute [local go_sem high] eqA39
/-! ### spec_l20Client: function 84 -/
mutual
def spec_l20Client.j0 : Nat → Int → List Int → Int → List (S35) → Int → Bool → Int → ByteArray → Int → Int → Int → Option ((List (S35)) × Int × Bool × Int × ByteArray × Int × Int × Int × Int)
 | 0, _, _, _, _, _, _, _, _, _, _, _ => none
 | k + 1, x1, x1000, x1001, x387000, x387001, x387002, x387003, x387004, x387005, x387006, x387007 => (spec_l20Rd_pick.f k x1000 x1001 16).bind fun bt398 => (if bt398.1 = 15 then (spec_l20Client.j1 k x1 x1000 bt398.2 x387000 999 x387002 x387003 x387004 x387005 x387006 x387007) else (spec_l20Client.j1 k x1 x1000 bt398.2 x387000 x387001 x387002 x387003 x387004 x387005 x387006 x387007))
def spec_l20Client.j1 : Nat → Int → List Int → Int → List (S35) → Int → Bool → Int → ByteArray → Int → Int → Int → Option ((List (S35)) × Int × Bool × Int × ByteArray × Int × Int × Int × Int)
 | 0, _, _, _, _, _, _, _, _, _, _, _ => none
 | k + 1, x1, x1000, x1001, x387000, x387001, x387002, x387003, x387004, x387005, x387006, x387007 => (spec_l20Rd_odd.f k x1000 x1001 x1).bind fun bt400 => (if bt400.1 = true then ((spec_l20Rd_pick.f k x1000 bt400.2 6).bind fun bt402 => (if bt402.1 = 0 then ((spec_l20Cache.f k x1000 bt402.2 1).bind fun bt404 => (some (bt404.1, x387001, x387002, x387003, x387004, x387005, x387006, x387007, bt404.2))) else (if bt402.1 = 1 then ((some (([(-1), 1000] : List Int) : List Int)).bind fun y408 => ((spec_l20Rd_pick.f k x1000 bt402.2 2).bind fun bt411 => (if 0 ≤ bt411.1 then (if bt411.1 < (y408.length : Int) then (some (x387000, rd y408 bt411.1, x387002, x387003, x387004, x387005, x387006, x387007, bt411.2)) else (none)) else (none)))) else (if bt402.1 = 2 then (some (x387000, x387001, x387002, 5, (⟨#[]⟩ : ByteArray), 0, 0, x387007, bt402.2)) else (if bt402.1 = 3 then (some (x387000, x387001, !x387002, x387003, x387004, x387005, x387006, x387007, bt402.2)) else (if bt402.1 = 4 then ((some (([(-1), 201] : List Int) : List Int)).bind fun y414 => ((spec_l20Rd_pick.f k x1000 bt402.2 2).bind fun bt417 => (if 0 ≤ bt417.1 then (if bt417.1 < (y414.length : Int) then (some (x387000, x387001, x387002, x387003, x387004, x387005, x387006, rd y414 bt417.1, bt417.2)) else (none)) else (none)))) else (some (x387000, 0, true, x387003, x387004, x387005, x387006, x387007, bt402.2)))))))) else (some (x387000, x387001, x387002, x387003, x387004, x387005, x387006, x387007, bt400.2)))
end
def spec_l20Client.f (k : Nat) (s0_0 : List Int) (s0_1 : Int) (a1 : Int) : Option ((List (S35)) × Int × Bool × Int × ByteArray × Int × Int × Int × Int) := (spec_l20Cache.f k s0_0 s0_1 0).bind fun bt380 => ((spec_l20Rd_pick.f k s0_0 bt380.2 5).bind fun bt384 => ((spec_l20Rd_pick.f k s0_0 bt384.2 2).bind fun bt387 => (if bt387.1 = 0 then ((spec_l20Rd_pick.f k s0_0 bt387.2 5).bind fun bt389 => ((spec_l20Cmd.f k s0_0 bt389.2 0).bind fun bt391 => ((spec_l20Rd_pick.f k s0_0 bt391.2.2.2.2 20).bind fun bt396 => (spec_l20Client.j0 k a1 s0_0 bt396.2 bt380.1 (wrap64 (1 + bt389.1)) true bt391.1 bt391.2.1 bt391.2.2.1 bt391.2.2.2.1 bt396.1)))) else (spec_l20Client.j0 k a1 s0_0 bt387.2 bt380.1 bt384.1 false 0 (⟨#[]⟩ : ByteArray) 0 0 0))))
theorem spec_l20Client.mono_l : ∀ k, (∀ y0 y1 y2 y3 y4 y5 y6 y7 y8 y9 y10, LeO (spec_l20Client.j0 k y0 y1 y2 y3 y4 y5 y6 y7 y8 y9 y10) (spec_l20Client.j0 (k + 1) y0 y1 y2 y3 y4 y5 y6 y7 y8 y9 y10)) ∧ (∀ y0 y1 y2 y3 y4 y5 y6 y7 y8 y9 y10, LeO (spec_l20Client.j1 k y0 y1 y2 y3 y4 y5 y6 y7 y8 y9 y10) (spec_l20Client.j1 (k + 1) y0 y1 y2 y3 y4 y5 y6 y7 y8 y9 y10))
 | 0 => ⟨fun _ _ _ _ _ _ _ _ _ _ _ r h => by simp [spec_l20Client.j0] at h, fun _ _ _ _ _ _ _ _ _ _ _ r h => by simp [spec_l20Client.j1] at h⟩
 | k + 1 => by
  obtain ⟨ih0, ih1⟩ := spec_l20Client.mono_l k
  refine ⟨?_, ?_⟩
  ·
   intro y0 y1 y2 y3 y4 y5 y6 y7 y8 y9 y10
   unfold spec_l20Client.j0
   repeat' first
   | (with_reducible exact ih0 _ _ _ _ _ _ _ _ _ _ _)
   | (with_reducible exact ih1 _ _ _ _ _ _ _ _ _ _ _)
   | (with_reducible exact spec_l20Cache.mono _ _ _ _)
   | (with_reducible exact spec_l20Cmd.mono _ _ _ _)
   | (with_reducible exact spec_l20Rd_odd.mono _ _ _ _)
   | (with_reducible exact spec_l20Rd_pick.mono _ _ _ _)
   | (with_reducible exact LeO.refl _)
   | (with_reducible exact LeO.none _)
   | (with_reducible refine LeO.ite ?_ ?_)
   | (with_reducible refine LeO.bind ?_ (fun _ => ?_))
   | exact ih0 _ _ _ _ _ _ _ _ _ _ _
   | exact ih1 _ _ _ _ _ _ _ _ _ _ _
   | exact spec_l20Cache.mono _ _ _ _
   | exact spec_l20Cmd.mono _ _ _ _
   | exact spec_l20Rd_odd.mono _ _ _ _
   | exact spec_l20Rd_pick.mono _ _ _ _
   | exact LeO.none _
   | refine LeO.ite ?_ ?_
   | refine LeO.bind ?_ (fun _ => ?_)
  ·
   intro y0 y1 y2 y3 y4 y5 y6 y7 y8 y9 y10
   unfold spec_l20Client.j1
   repeat' first
   | (with_reducible exact ih0 _ _ _ _ _ _ _ _ _ _ _)
   | (with_reducible exact ih1 _ _ _ _ _ _ _ _ _ _ _)
   | (with_reducible exact spec_l20Cache.mono _ _ _ _)
   | (with_reducible exact spec_l20Cmd.mono _ _ _ _)
   | (with_reducible exact spec_l20Rd_odd.mono _ _ _ _)
   | (with_reducible exact spec_l20Rd_pick.mono _ _ _ _)
   | (with_reducible exact LeO.refl _)
   | (with_reducible exact LeO.none _)
   | (with_reducible refine LeO.ite ?_ ?_)
   | (with_reducible refine LeO.bind ?_ (fun _ => ?_))
   | exact ih0 _ _ _ _ _ _ _ _ _ _ _
   | exact ih1 _ _ _ _ _ _ _ _ _ _ _
   | exact spec_l20Cache.mono _ _ _ _
   | exact spec_l20Cmd.mono _ _ _ _
   | exact spec_l20Rd_odd.mono _ _ _ _
   | exact spec_l20Rd_pick.mono _ _ _ _
   | exact LeO.none _
   | refine LeO.ite ?_ ?_
   | refine LeO.bind ?_ (fun _ => ?_)
theorem spec_l20Client.mono : ∀ a0 a1 a2 k, LeO (spec_l20Client.f k a0 a1 a2) (spec_l20Client.f (k + 1) a0 a1 a2) := by
 intro a0 a1 a2 k
 obtain ⟨ih0, ih1⟩ := spec_l20Client.mono_l k
 unfold spec_l20Client.f
 repeat' first
   | (with_reducible exact ih0 _ _ _ _ _ _ _ _ _ _ _)
   | (with_reducible exact ih1 _ _ _ _ _ _ _ _ _ _ _)
   | (with_reducible exact spec_l20Cache.mono _ _ _ _)
   | (with_reducible exact spec_l20Cmd.mono _ _ _ _)
   | (with_reducible exact spec_l20Rd_odd.mono _ _ _ _)
   | (with_reducible exact spec_l20Rd_pick.mono _ _ _ _)
   | (with_reducible exact LeO.refl _)
   | (with_reducible exact LeO.none _)
   | (with_reducible refine LeO.ite ?_ ?_)
   | (with_reducible refine LeO.bind ?_ (fun _ => ?_))
   | exact ih0 _ _ _ _ _ _ _ _ _ _ _
   | exact ih1 _ _ _ _ _ _ _ _ _ _ _
   | exact spec_l20Cache.mono _ _ _ _
   | exact spec_l20Cmd.mono _ _ _ _
   | exact spec_l20Rd_odd.mono _ _ _ _
   | exact spec_l20Rd_pick.mono _ _ _ _
   | exact LeO.none _
   | refine LeO.ite ?_ ?_
   | refine LeO.bind ?_ (fun _ => ?_)
def spec_l20Client.T3 : Bool × List (List Nat × List Nat) := (true, [([], []), ([0], [0]), ([], []), ([2], [2]), ([3], [3]), ([], []), ([5, 3], [5]), ([], []), ([7, 6], [7]), ([1, 4, 6, 8], [1, 4, 6, 8]), ([9, 8, 0, 1, 2, 3, 4, 5, 6, 7, 8, 9], [9])])
def spec_l20Client.B3 : List Nat := [0, 1, 0, 4, 12, 0, 44, 0, 236, 511, 1023]
theorem spec_l20Client.tab3 : rtab .any (opsOf Try.f84 3) = spec_l20Client.T3 := by kernel_rfl
theorem spec_l20Client.bits3 : waitsOk spec_l20Client.T3.2 spec_l20Client.B3 = true := by kernel_rfl
set_option maxHeartbeats 8000000 in
set_option maxRecDepth 100000 in
theorem spec_l20Client.calls (k : Nat) (g : Nat) (s0_0 : List Int) (s0_1 : Int) (a1 : Int) (r1 : List (S35)) (r2 : Int) (r3 : Bool) (r4 : Int) (r5 : ByteArray) (r6 : Int) (r7 : Int) (r8 : Int) (r9 : Int) (w0 w : World) (hI : IsS131 w0 w g s0_0 s0_1) (hB : Below w0.heap.size w0 w) (h : spec_l20Client.f k s0_0 s0_1 a1 = some (r1, r2, r3, r4, r5, r6, r7, r8, r9)) :
  Calls Try.prog 84 #[.pointer (some ⟨g, 0, none⟩), .int .i64 a1] w fun e w' => ∃ v0_ : Value, e = .returned (.agg #[v0_, .int .i64 r2, .bool r3, .int .i64 r4, .string r5, .int .i64 r6, .int .i64 r7, .int .i64 r8]) ∧ Kd.R k35 35 w' w.heap.size (fun _ => True) v0_ r1 ∧ IsS131 w0 w' g s0_0 r9 ∧ Below w0.heap.size w0 w' ∧ KeepBut w w' g none := by
 have hu41 := Try.underlying41
 have hu39 := Try.underlying39
 have HI0 := Aside0.mk hI
 have HK := Aside0.mk (KeepBut.refl w g none)
 have HL := Aside0.mk hB.size
 clear hI
 have HW0 := Aside0.mk hB.size
 have HB := Aside0.mk hB
 clear hB
 have H : ((spec_l20Cache.f k s0_0 s0_1 0).bind fun bt380 => ((spec_l20Rd_pick.f k s0_0 bt380.2 5).bind fun bt384 => ((spec_l20Rd_pick.f k s0_0 bt384.2 2).bind fun bt387 => (if bt387.1 = 0 then ((spec_l20Rd_pick.f k s0_0 bt387.2 5).bind fun bt389 => ((spec_l20Cmd.f k s0_0 bt389.2 0).bind fun bt391 => ((spec_l20Rd_pick.f k s0_0 bt391.2.2.2.2 20).bind fun bt396 => (spec_l20Client.j0 k a1 s0_0 bt396.2 bt380.1 (wrap64 (1 + bt389.1)) true bt391.1 bt391.2.1 bt391.2.2.1 bt391.2.2.2.1 bt396.1)))) else (spec_l20Client.j0 k a1 s0_0 bt387.2 bt380.1 bt384.1 false 0 (⟨#[]⟩ : ByteArray) 0 0 0))))) = some (r1, r2, r3, r4, r5, r6, r7, r8, r9) := h
 clear h
 replace H := Option.bind_eq_some_iff.mp H
 obtain ⟨⟨t380, t383⟩, A30, H⟩ := H
 try dsimp only at H
 have A3 := Aside0.mk A30
 clear A30
 replace H := Option.bind_eq_some_iff.mp H
 obtain ⟨⟨t384, t385⟩, A40, H⟩ := H
 try dsimp only at H
 have A4 := Aside0.mk A40
 clear A40
 replace H := Option.bind_eq_some_iff.mp H
 obtain ⟨⟨t387, t388⟩, A50, H⟩ := H
 try dsimp only at H
 have A5 := Aside0.mk A50
 clear A50
 have HC6 := Aside0.mk H
 clear H
 go_enter Try.func84, Try.ntmps84
 go_upto_if 13 with (first | ((with_reducible refine gate_dst (N := 4) rfl ?_); refine box_event ?hg (N := 4) ?hd (cs := #[.slice none 0 0, .int .i64 0, .bool false, .int .i64 0, .string (⟨#[]⟩ : ByteArray), .int .i64 0, .int .i64 0, .int .i64 0]) (t := 41) ?hr ?_; (case hd => rfl); (case hg => rfl); (case hr => first | (go_simp; done) | (go_simp; rfl)); intro gb379 hg w7 hbox hb; have n0_ := Aside0.mk (IsS131.below (IsS131.run HI0) hb); have n1_ := Aside0.mk (KeepBut.trans (kk) (KeepBut.of_below hb g none) (.inl rfl)); have n2_ := Aside0.mk (below_step (IsS131.bz HI0) hb); have n3_ := Aside0.mk (hbox); have n4_ := Aside0.mk ((by rw [hg]; exact (keep_size (w := w) (g := g) (row := none) (kk)) : w.heap.size ≤ gb379)); have n5_ := Aside0.mk ((Nat.le_trans HW0.out (by rw [hg]; exact (keep_size (w := w) (g := g) (row := none) (kk)) : w.heap.size ≤ gb379) : w0.heap.size ≤ gb379)); have n6_ := Aside0.mk ((by rw [hg]; exact Nat.ne_of_lt (IsS131.lt (show IsS131 w0 _ g s0_0 s0_1 from IsS131.run HI0)) : g ≠ gb379)); have n7_ := Aside0.mk ((by rw [hg]; exact Nat.ne_of_gt (IsS131.lt (show IsS131 w0 _ g s0_0 s0_1 from IsS131.run HI0)) : gb379 ≠ g)); clear HI0 HK HB; have HI0 := n0_; have HK := n1_; have HB := n2_; have BK379 := n3_; have GW379 := n4_; have GE379 := n5_; have NB0_379 := n6_; have NB379_0 := n7_; clear n0_ n1_ n2_ n3_ n4_ n5_ n6_ n7_; clear hb hbox hg) | ((with_reducible refine gate_callee (f := 130) rfl ?_); refine goesL_ (some 7) rfl rfl Try.func130 (by kernel_rfl) rfl #[.pointer (some ⟨g, 0, none⟩), .int .i64 0] rfl ga ?_; (with_reducible refine (spec_l20Cache.calls k g s0_0 s0_1 0 t380 t383 w0 _ ?side1 ?side2 A3.out).mono ?_); (case side1 => exact IsS131.run HI0); (case side2 => repeat (first | (with_reducible first | exact HB.out | apply below_alloc | apply pw_below_drewN | apply below_drew1 | refine below_set ?_ (IsS131.ge HI0.out) | refine below_set ?_ GE379.out) | exact HB.out)); rintro e w8 ⟨v381, rfl, ho0, hi, hb, hk⟩; refine ⟨_, rfl, ?_⟩; have n0_ := Aside0.mk (KeepBut.blk hk (g' := gb379) (o := .cells #[.slice none 0 0, .int .i64 0, .bool false, .int .i64 0, .string (⟨#[]⟩ : ByteArray), .int .i64 0, .int .i64 0, .int .i64 0] 41 (0, 0)) (bq BK379) NB379_0.out (by simp)); have n1_ := Aside0.mk (Kd.R_lower ho0 (keep_size (w := w) (g := g) (row := none) (by repeat (first | (with_reducible first | exact HK.out | apply KeepBut.set_ | apply keep_drewN | apply keep_drew | apply keep_alloc | refine keep_far ?_ GW379.out _) | exact HK.out)))); have n2_ := Aside0.mk (KeepBut.trans (by repeat (first | (with_reducible first | exact HK.out | apply KeepBut.set_ | apply keep_drewN | apply keep_drew | apply keep_alloc | refine keep_far ?_ GW379.out _) | exact HK.out)) hk (.inl rfl)); have n3_ := Aside0.mk (hb); have n4_ := Aside0.mk (hi); clear BK379 HK HB HI0; have BK379 := n0_; have HO382 := n1_; have HK := n2_; have HB := n3_; have HI0 := n4_; clear n0_ n1_ n2_ n3_ n4_; (try clear hb); (try clear hb2); (try clear hk); (try clear hi); (try clear ho0)) | ((with_reducible refine gate_callee (f := 72) rfl ?_); refine goesL_ (some 9) rfl rfl Try.func72 (by kernel_rfl) rfl #[.pointer (some ⟨g, 0, none⟩), .int .i64 5] rfl ga ?_; (with_reducible refine (spec_l20Rd_pick.calls k g s0_0 t383 5 t384 t385 w0 _ ?side1 ?side2 A4.out).mono ?_); (case side1 => exact IsS131.run HI0); (case side2 => repeat (first | (with_reducible first | exact HB.out | apply below_alloc | apply pw_below_drewN | apply below_drew1 | refine below_set ?_ (IsS131.ge HI0.out) | refine below_set ?_ GE379.out) | exact HB.out)); rintro e w9 ⟨rfl, hi, hb, hk⟩; refine ⟨_, rfl, ?_⟩; have n0_ := Aside0.mk (KeepBut.blk hk (g' := gb379) (o := .cells #[.slice none 0 0, .int .i64 0, .bool false, .int .i64 0, .string (⟨#[]⟩ : ByteArray), .int .i64 0, .int .i64 0, .int .i64 0] 41 (0, 0)) (bq BK379) NB379_0.out (by simp)); have n1_ := Aside0.mk (Kd.R_mono (Kd.R_keep (IsS131.apart (show IsS131 w0 _ g s0_0 t383 from IsS131.run HI0) (by (with_reducible repeat (first | apply Kd.R_alloc | apply Kd.R_drewN | apply Kd.R_drew)); exact HO382.out) (by decide)) hk (fun _ h => h.2)) (fun _ h => h.1)); have n2_ := Aside0.mk (KeepBut.trans (by repeat (first | (with_reducible first | exact HK.out | apply KeepBut.set_ | apply keep_drewN | apply keep_drew | apply keep_alloc | refine keep_far ?_ GW379.out _) | exact HK.out)) hk (.inl rfl)); have n3_ := Aside0.mk (hb); have n4_ := Aside0.mk (hi); clear BK379 HO382 HK HB HI0; have BK379 := n0_; have HO382 := n1_; have HK := n2_; have HB := n3_; have HI0 := n4_; clear n0_ n1_ n2_ n3_ n4_; (try clear hb); (try clear hb2); (try clear hk); (try clear hi); obtain ⟨Ao10, co10, eo10⟩ := Kd.R_slice HO382.out; subst eo10) | ((with_reducible refine gate_dst (N := 5) rfl ?_); refine box_event ?hg (N := 5) ?hd (cs := #[.slice none 0 0, .int .i64 0, .bool false, .int .i64 0, .string (⟨#[]⟩ : ByteArray), .int .i64 0, .int .i64 0, .int .i64 0]) (t := 41) ?hr ?_; (case hd => rfl); (case hg => rfl); (case hr => first | (go_simp; done) | (go_simp; rfl)); intro gb386 hg w11 hbox hb; have n0_ := rbl HO382 hb; have n1_ := Aside0.mk (IsS131.below (IsS131.run HI0) hb); have n2_ := bkb BK379 hb; have n3_ := Aside0.mk (KeepBut.trans (by repeat (first | (with_reducible first | exact HK.out | apply KeepBut.set_ | apply keep_drewN | apply keep_drew | apply keep_alloc | refine keep_far ?_ GW379.out _) | exact HK.out)) (KeepBut.of_below hb g none) (.inl rfl)); have n4_ := Aside0.mk (below_step (IsS131.bz HI0) hb); have n5_ := Aside0.mk (hbox); have n6_ := Aside0.mk ((by rw [hg]; exact (keep_size (w := w) (g := g) (row := none) (by repeat (first | (with_reducible first | exact HK.out | apply KeepBut.set_ | apply keep_drewN | apply keep_drew | apply keep_alloc | refine keep_far ?_ GW379.out _) | exact HK.out))) : w.heap.size ≤ gb386)); have n7_ := Aside0.mk ((Nat.le_trans HW0.out (by rw [hg]; exact (keep_size (w := w) (g := g) (row := none) (by repeat (first | (with_reducible first | exact HK.out | apply KeepBut.set_ | apply keep_drewN | apply keep_drew | apply keep_alloc | refine keep_far ?_ GW379.out _) | exact HK.out))) : w.heap.size ≤ gb386) : w0.heap.size ≤ gb386)); have n8_ := nlt hg BK379; have n9_ := ngt hg BK379; have n10_ := Aside0.mk ((by rw [hg]; exact Nat.ne_of_lt (IsS131.lt (show IsS131 w0 _ g s0_0 t385 from IsS131.run HI0)) : g ≠ gb386)); have n11_ := Aside0.mk ((by rw [hg]; exact Nat.ne_of_gt (IsS131.lt (show IsS131 w0 _ g s0_0 t385 from IsS131.run HI0)) : gb386 ≠ g)); clear HO382 HI0 BK379 HK HB; have HO382 := n0_; have HI0 := n1_; have BK379 := n2_; have HK := n3_; have HB := n4_; have BK386 := n5_; have GW386 := n6_; have GE386 := n7_; have NB379_386 := n8_; have NB386_379 := n9_; have NB0_386 := n10_; have NB386_0 := n11_; clear n0_ n1_ n2_ n3_ n4_ n5_ n6_ n7_ n8_ n9_ n10_ n11_; clear hb hbox hg; have hnb12 := NB386_379.out; have hnc12 := NB379_386.out; have hnb13 := NB386_0.out; have hnc13 := NB0_386.out; obtain ⟨hcz14_0, hcz14_1, hcz14_2, hcz14_3, hcz14_4, hcz14_5, hcz14_6, hcz14_7⟩ := cl8 BK386; obtain ⟨hfz14_0, hfz14_1, hfz14_2, hfz14_3, hfz14_4, hfz14_5, hfz14_6, hfz14_7⟩ := fz8 BK386) | ((with_reducible refine gate_callee (f := 72) rfl ?_); refine goesL_ (some 12) rfl rfl Try.func72 (by kernel_rfl) rfl #[.pointer (some ⟨g, 0, none⟩), .int .i64 2] rfl ga ?_; (with_reducible refine (spec_l20Rd_pick.calls k g s0_0 t385 2 t387 t388 w0 _ ?side1 ?side2 A5.out).mono ?_); (case side1 => exact IsS131.run HI0); (case side2 => repeat (first | (with_reducible first | exact HB.out | apply below_alloc | apply pw_below_drewN | apply below_drew1 | refine below_set ?_ (IsS131.ge HI0.out) | refine below_set ?_ GE379.out | refine below_set ?_ GE386.out) | exact HB.out)); rintro e w15 ⟨rfl, hi, hb, hk⟩; refine ⟨_, rfl, ?_⟩; have n0_ := Aside0.mk (KeepBut.blk hk (g' := gb379) (o := .cells #[.slice none 0 0, .int .i64 0, .bool false, .int .i64 0, .string (⟨#[]⟩ : ByteArray), .int .i64 0, .int .i64 0, .int .i64 0] 41 (0, 0)) (bq BK379) NB379_0.out (by simp)); have n1_ := Aside0.mk (Kd.R_mono (Kd.R_keep (IsS131.apart (show IsS131 w0 _ g s0_0 t385 from IsS131.run HI0) (by (with_reducible repeat (first | apply Kd.R_alloc | apply Kd.R_drewN | apply Kd.R_drew)); exact (Kd.R_mono (kf 7 (kf 6 (kf 5 (kf 4 (kf 3 (kf 2 (kf 1 (kf 0 (Kd.R_types HO382.out BK386.out (by decide)) (.slice Ao10 t380.length co10)) (.int .i64 t384)) (.bool false)) (.int .i64 0)) (.string (⟨#[]⟩ : ByteArray))) (.int .i64 0)) (.int .i64 0)) (.int .i64 0)) (fun _ h_ => h_.1))) (by decide)) hk (fun _ h => h.2)) (fun _ h => h.1)); have n2_ := Aside0.mk (KeepBut.blk hk (g' := gb386) (o := .cells #[.slice Ao10 t380.length co10, .int .i64 t384, .bool false, .int .i64 0, .string (⟨#[]⟩ : ByteArray), .int .i64 0, .int .i64 0, .int .i64 0] 41 (0, 0)) (by (with_reducible repeat (first | refine blk_drewN ?_ _ | refine blk_drew ?_ | refine blk_alloc ?_ _)); refine blk_put (cs := #[.slice Ao10 t380.length co10, .int .i64 t384, .bool false, .int .i64 0, .string (⟨#[]⟩ : ByteArray), .int .i64 0, .int .i64 0, .int .i64 0]) ?_ 7 _ rfl; (with_reducible repeat (first | refine blk_drewN ?_ _ | refine blk_drew ?_ | refine blk_alloc ?_ _)); refine blk_put (cs := #[.slice Ao10 t380.length co10, .int .i64 t384, .bool false, .int .i64 0, .string (⟨#[]⟩ : ByteArray), .int .i64 0, .int .i64 0, .int .i64 0]) ?_ 6 _ rfl; (with_reducible repeat (first | refine blk_drewN ?_ _ | refine blk_drew ?_ | refine blk_alloc ?_ _)); refine blk_put (cs := #[.slice Ao10 t380.length co10, .int .i64 t384, .bool false, .int .i64 0, .string (⟨#[]⟩ : ByteArray), .int .i64 0, .int .i64 0, .int .i64 0]) ?_ 5 _ rfl; (with_reducible repeat (first | refine blk_drewN ?_ _ | refine blk_drew ?_ | refine blk_alloc ?_ _)); refine blk_put (cs := #[.slice Ao10 t380.length co10, .int .i64 t384, .bool false, .int .i64 0, .string (⟨#[]⟩ : ByteArray), .int .i64 0, .int .i64 0, .int .i64 0]) ?_ 4 _ rfl; (with_reducible repeat (first | refine blk_drewN ?_ _ | refine blk_drew ?_ | refine blk_alloc ?_ _)); refine blk_put (cs := #[.slice Ao10 t380.length co10, .int .i64 t384, .bool false, .int .i64 0, .string (⟨#[]⟩ : ByteArray), .int .i64 0, .int .i64 0, .int .i64 0]) ?_ 3 _ rfl; (with_reducible repeat (first | refine blk_drewN ?_ _ | refine blk_drew ?_ | refine blk_alloc ?_ _)); refine blk_put (cs := #[.slice Ao10 t380.length co10, .int .i64 t384, .bool false, .int .i64 0, .string (⟨#[]⟩ : ByteArray), .int .i64 0, .int .i64 0, .int .i64 0]) ?_ 2 _ rfl; (with_reducible repeat (first | refine blk_drewN ?_ _ | refine blk_drew ?_ | refine blk_alloc ?_ _)); refine blk_put (cs := #[.slice Ao10 t380.length co10, .int .i64 0, .bool false, .int .i64 0, .string (⟨#[]⟩ : ByteArray), .int .i64 0, .int .i64 0, .int .i64 0]) ?_ 1 _ rfl; (with_reducible repeat (first | refine blk_drewN ?_ _ | refine blk_drew ?_ | refine blk_alloc ?_ _)); refine blk_put (cs := #[.slice none 0 0, .int .i64 0, .bool false, .int .i64 0, .string (⟨#[]⟩ : ByteArray), .int .i64 0, .int .i64 0, .int .i64 0]) ?_ 0 _ rfl; (with_reducible repeat (first | refine blk_drewN ?_ _ | refine blk_drew ?_ | refine blk_alloc ?_ _)); exact BK386.out) NB386_0.out (by simp)); have n3_ := Aside0.mk (KeepBut.trans (by repeat (first | (with_reducible first | exact HK.out | apply KeepBut.set_ | apply keep_drewN | apply keep_drew | apply keep_alloc | refine keep_far ?_ GW379.out _ | refine keep_far ?_ GW386.out _) | exact HK.out)) hk (.inl rfl)); have n4_ := Aside0.mk (hb); have n5_ := Aside0.mk (hi); clear BK379 HO382 BK386 HK HB HI0; have BK379 := n0_; have HO382 := n1_; have BK386 := n2_; have HK := n3_; have HB := n4_; have HI0 := n5_; clear n0_ n1_ n2_ n3_ n4_ n5_; (try clear hb); (try clear hb2); (try clear hk); (try clear hi)))
 (try simp only [Act.put, List.setIfInBounds_toArray, List.set_cons_zero, List.set_cons_succ])
 go_cut [] (fun wc => ∃ (kq : Nat) (x1001_5 : Int) (x387000_5 : List (S35)) (x387001_5 : Int) (x387002_5 : Bool) (x387003_5 : Int) (x387004_5 : ByteArray) (x387005_5 : Int) (x387006_5 : Int) (x387007_5 : Int) (u387000 : Value), Aside0 (spec_l20Client.j0 kq a1 s0_0 x1001_5 x387000_5 x387001_5 x387002_5 x387003_5 x387004_5 x387005_5 x387006_5 x387007_5 = some (r1, r2, r3, r4, r5, r6, r7, r8, r9)) ∧ Aside0 (kq ≤ k) ∧ Aside0 (Kd.R k35 35 wc w.heap.size (fun _ => True) u387000 x387000_5) ∧ Aside0 (wc.heap[gb379]? = some (.cells #[(.slice none 0 0), .int .i64 0, .bool false, .int .i64 0, .string (⟨#[]⟩ : ByteArray), .int .i64 0, .int .i64 0, .int .i64 0] 41 (0, 0))) ∧ Aside0 (wc.heap[gb386]? = some (.cells #[u387000, .int .i64 x387001_5, .bool x387002_5, .int .i64 x387003_5, .string x387004_5, .int .i64 x387005_5, .int .i64 x387006_5, .int .i64 x387007_5] 41 (0, 0))) ∧ Aside0 (IsS131 w0 wc g s0_0 x1001_5) ∧ Aside0 (KeepBut w wc g none) ∧ Aside0 (Below w0.heap.size w0 wc))
 case first =>
  have H := HC6.out
  clear HC6
  by_cases c16 : t387 = 0
  ·
   rw [if_pos c16] at H
   have c16b0 : (t387 == 0) = true := beq_iff_eq.mpr c16
   have c16b1 : (t387 != 0) = false := bne_eq_false_iff_eq.mpr c16
   clear c16
   (first | rw [c16b0] | (simp only [i64_w, i32_w]; rw [c16b0]) | skip)
   replace H := Option.bind_eq_some_iff.mp H
   obtain ⟨⟨t389, t390⟩, A170, H⟩ := H
   try dsimp only at H
   have A17 := Aside0.mk A170
   clear A170
   replace H := Option.bind_eq_some_iff.mp H
   obtain ⟨⟨t391, t392, t393, t394, t395⟩, A180, H⟩ := H
   try dsimp only at H
   have A18 := Aside0.mk A180
   clear A180
   replace H := Option.bind_eq_some_iff.mp H
   obtain ⟨⟨t396, t397⟩, A190, H⟩ := H
   try dsimp only at H
   have A19 := Aside0.mk A190
   clear A190
   have H' := Aside0.mk H
   clear H
   try go_wp2
   have n0_ := Aside0.mk (Kd.R_drew HO382.out)
   have n1_ := Aside0.mk (blk_drew BK379.out)
   have n2_ := Aside0.mk (blk_drew BK386.out)
   have n3_ := Aside0.mk (IsS131.drew HI0.out)
   have n4_ := Aside0.mk (keep_drew HK.out)
   have n5_ := Aside0.mk (below_drew1 HB.out)
   clear HO382
   clear BK379
   clear BK386
   clear HI0
   clear HK
   clear HB
   have HO382 := n0_
   have BK379 := n1_
   have BK386 := n2_
   have HI0 := n3_
   have HK := n4_
   have HB := n5_
   clear n0_ n1_ n2_ n3_ n4_ n5_
   refine start_ (n := 11) (S := fun w' => w'.cell? ⟨gb386, 0, none⟩ = some (.slice Ao10 t380.length co10) ∧ w'.cell? ⟨gb386, 1, none⟩ = some (.int .i64 t384) ∧ w'.cell? ⟨gb386, 2, none⟩ = some (.bool false) ∧ w'.cell? ⟨gb386, 3, none⟩ = some (.int .i64 0) ∧ w'.cell? ⟨gb386, 4, none⟩ = some (.string (⟨#[]⟩ : ByteArray)) ∧ w'.cell? ⟨gb386, 5, none⟩ = some (.int .i64 0) ∧ w'.cell? ⟨gb386, 6, none⟩ = some (.int .i64 0) ∧ w'.cell? ⟨gb386, 7, none⟩ = some (.int .i64 0)) (ds := [10]) #[false, false, false, false, false, false, false, false, false, false, false] (by kernel_rfl) rfl rfl (cl8 BK386) (fun hHeld => ?_); refine with_tabW spec_l20Client.tab3 spec_l20Client.bits3 (fun HT_ HW_ => ?_)
   generalize w15.drew = w20 at HO382 BK379 BK386 HI0 HK HB hHeld ⊢
   refine pure_ (i := 0) (N := some 14) (v := ?_) (a' := ?_) #[true, false, false, false, false, false, false, false, false, false, false] rfl rfl (any_of HT_.out (by kernel_rfl)) (fun _ _ _ h => h) (Or.inl ⟨by rfl, ?_⟩) ?_ ?_
   rotate_left
   ·
    intro w'
    go_simp
    with_reducible rfl
   rotate_left
   ·
    simp only [sx]
    rfl
   refine pure_ (i := 2) (N := some 16) (v := ?_) (a' := ?_) #[true, false, true, false, false, false, false, false, false, false, false] rfl rfl (any_of HT_.out (by kernel_rfl)) (fun _ _ _ h => h) (Or.inl ⟨by rfl, ?_⟩) ?_ ?_
   rotate_left
   ·
    intro w'
    go_simp
    with_reducible rfl
   rotate_left
   ·
    simp only [sx]
    rfl
   refine pure_ (i := 5) (N := some 19) (v := ?_) (a' := ?_) #[true, false, true, false, false, true, false, false, false, false, false] rfl rfl (any_of HT_.out (by kernel_rfl)) (fun _ _ _ h => h) (Or.inl ⟨by rfl, ?_⟩) ?_ ?_
   rotate_left
   ·
    intro w'
    go_simp
    with_reducible rfl
   rotate_left
   ·
    simp only [sx]
    rfl
   refine pure_ (i := 7) (N := some 21) (v := ?_) (a' := ?_) #[true, false, true, false, false, true, false, true, false, false, false] rfl rfl (any_of HT_.out (by kernel_rfl)) (fun _ _ _ h => h) (Or.inl ⟨by rfl, ?_⟩) ?_ ?_
   rotate_left
   ·
    intro w'
    go_simp
    with_reducible rfl
   rotate_left
   ·
    simp only [sx]
    rfl
   refine take_ (i := 1) (N := some 15) (v := ?_) (a' := ?_) #[true, true, true, false, false, true, false, true, false, false, false] rfl rfl (take_ofW HT_.out HW_.out (by kernel_rfl)) (fun _ _ _ h => h) (Or.inl ⟨by rfl, ?_⟩) hHeld ?_ ?_
   rotate_left
   ·
    rintro w' ⟨s0, s1, s2, s3, s4, s5, s6, s7⟩
    go_simp
    with_reducible rfl
   rotate_left
   ·
    simp only [sx]
    rfl
   refine one_ (i := 3) (N := some 17) #[true, true, true, true, false, true, false, true, false, false, false] rfl rfl (one_of HT_.out (by kernel_rfl)) (by decide) (fun K hK => ?_)
   refine goes_ Try.func72 (by kernel_rfl) rfl #[.pointer (some ⟨g, 0, none⟩), .int .i64 5] (by rfl) rfl rfl ga ?_
   with_reducible refine (spec_l20Rd_pick.calls k g s0_0 t388 5 t389 t390 w0 _ ?side1 ?side2 A17.out).mono ?_
   (case side1 => exact IsS131.run HI0)
   (case side2 => repeat (first | (with_reducible first | exact HB.out | apply below_alloc | apply pw_below_drewN | apply below_drew1 | refine below_set ?_ (IsS131.ge HI0.out) | refine below_set ?_ GE379.out | refine below_set ?_ GE386.out) | exact HB.out))
   rintro e w21 ⟨rfl, hi, hb, hk⟩
   refine ⟨_, rfl, ?_⟩
   have n0_ := Aside0.mk (KeepBut.blk hk (g' := gb379) (o := .cells #[.slice none 0 0, .int .i64 0, .bool false, .int .i64 0, .string (⟨#[]⟩ : ByteArray), .int .i64 0, .int .i64 0, .int .i64 0] 41 (0, 0)) (bq BK379) NB379_0.out (by simp))
   have n1_ := Aside0.mk (Kd.R_mono (Kd.R_keep (IsS131.apart (show IsS131 w0 _ g s0_0 t388 from IsS131.run HI0) (by (with_reducible repeat (first | apply Kd.R_alloc | apply Kd.R_drewN | apply Kd.R_drew)); exact HO382.out) (by decide)) hk (fun _ h => h.2)) (fun _ h => h.1))
   have n2_ := Aside0.mk (KeepBut.blk hk (g' := gb386) (o := .cells #[.slice Ao10 t380.length co10, .int .i64 t384, .bool false, .int .i64 0, .string (⟨#[]⟩ : ByteArray), .int .i64 0, .int .i64 0, .int .i64 0] 41 (0, 0)) (bq BK386) NB386_0.out (by simp))
   have n3_ := Aside0.mk (KeepBut.trans (by repeat (first | (with_reducible first | exact HK.out | apply KeepBut.set_ | apply keep_drewN | apply keep_drew | apply keep_alloc | refine keep_far ?_ GW379.out _ | refine keep_far ?_ GW386.out _) | exact HK.out)) hk (.inl rfl))
   have n4_ := Aside0.mk (hb)
   have n5_ := Aside0.mk (hi)
   clear BK379
   clear HO382
   clear BK386
   clear HK
   clear HB
   clear HI0
   have BK379 := n0_
   have HO382 := n1_
   have BK386 := n2_
   have HK := n3_
   have HB := n4_
   have HI0 := n5_
   clear n0_ n1_ n2_ n3_ n4_ n5_
   (try clear hb)
   (try clear hb2)
   (try clear hk)
   (try clear hi)
   refine hK.out _ _ (cl8 BK386) (fun hHeld => ?_)
   clear hK K
   refine norm_ (a' := ?_) ?_ ?_
   rotate_left
   ·
    show Act.put _ (some 17) _ = _
    simp only [sx]
    rfl
   refine pure_ (i := 4) (N := some 18) (v := ?_) (a' := ?_) #[true, true, true, true, true, true, false, true, false, false, false] rfl rfl (any_of HT_.out (by kernel_rfl)) (fun _ _ _ h => h) (Or.inl ⟨by rfl, ?_⟩) ?_ ?_
   rotate_left
   ·
    intro w'
    go_simp
    with_reducible rfl
   rotate_left
   ·
    simp only [sx]
    rfl
   refine one_ (i := 6) (N := some 20) #[true, true, true, true, true, true, true, true, false, false, false] rfl rfl (one_of HT_.out (by kernel_rfl)) (by decide) (fun K hK => ?_)
   refine goes_ Try.func115 (by kernel_rfl) rfl #[.pointer (some ⟨g, 0, none⟩), .int .i64 0] (by rfl) rfl rfl ga ?_
   with_reducible refine (spec_l20Cmd.calls k g s0_0 t390 0 t391 t392 t393 t394 t395 w0 _ ?side1 ?side2 A18.out).mono ?_
   (case side1 => exact IsS131.run HI0)
   (case side2 => repeat (first | (with_reducible first | exact HB.out | apply below_alloc | apply pw_below_drewN | apply below_drew1 | refine below_set ?_ (IsS131.ge HI0.out) | refine below_set ?_ GE379.out | refine below_set ?_ GE386.out) | exact HB.out))
   rintro e w22 ⟨rfl, hi, hb, hk⟩
   refine ⟨_, rfl, ?_⟩
   have n0_ := Aside0.mk (KeepBut.blk hk (g' := gb379) (o := .cells #[.slice none 0 0, .int .i64 0, .bool false, .int .i64 0, .string (⟨#[]⟩ : ByteArray), .int .i64 0, .int .i64 0, .int .i64 0] 41 (0, 0)) (bq BK379) NB379_0.out (by simp))
   have n1_ := Aside0.mk (Kd.R_mono (Kd.R_keep (IsS131.apart (show IsS131 w0 _ g s0_0 t390 from IsS131.run HI0) (by (with_reducible repeat (first | apply Kd.R_alloc | apply Kd.R_drewN | apply Kd.R_drew)); exact HO382.out) (by decide)) hk (fun _ h => h.2)) (fun _ h => h.1))
   have n2_ := Aside0.mk (KeepBut.blk hk (g' := gb386) (o := .cells #[.slice Ao10 t380.length co10, .int .i64 t384, .bool false, .int .i64 0, .string (⟨#[]⟩ : ByteArray), .int .i64 0, .int .i64 0, .int .i64 0] 41 (0, 0)) (bq BK386) NB386_0.out (by simp))
   have n3_ := Aside0.mk (KeepBut.trans (by repeat (first | (with_reducible first | exact HK.out | apply KeepBut.set_ | apply keep_drewN | apply keep_drew | apply keep_alloc | refine keep_far ?_ GW379.out _ | refine keep_far ?_ GW386.out _) | exact HK.out)) hk (.inl rfl))
   have n4_ := Aside0.mk (hb)
   have n5_ := Aside0.mk (hi)
   clear BK379
   clear HO382
   clear BK386
   clear HK
   clear HB
   clear HI0
   have BK379 := n0_
   have HO382 := n1_
   have BK386 := n2_
   have HK := n3_
   have HB := n4_
   have HI0 := n5_
   clear n0_ n1_ n2_ n3_ n4_ n5_
   (try clear hb)
   (try clear hb2)
   (try clear hk)
   (try clear hi)
   refine hK.out _ _ (cl8 BK386) (fun hHeld => ?_)
   clear hK K
   refine norm_ (a' := ?_) ?_ ?_
   rotate_left
   ·
    show Act.put _ (some 20) _ = _
    simp only [sx]
    rfl
   refine one_ (i := 8) (N := some 22) #[true, true, true, true, true, true, true, true, true, false, false] rfl rfl (one_of HT_.out (by kernel_rfl)) (by decide) (fun K hK => ?_)
   refine goes_ Try.func72 (by kernel_rfl) rfl #[.pointer (some ⟨g, 0, none⟩), .int .i64 20] (by rfl) rfl rfl ga ?_
   with_reducible refine (spec_l20Rd_pick.calls k g s0_0 t395 20 t396 t397 w0 _ ?side1 ?side2 A19.out).mono ?_
   (case side1 => exact IsS131.run HI0)
   (case side2 => repeat (first | (with_reducible first | exact HB.out | apply below_alloc | apply pw_below_drewN | apply below_drew1 | refine below_set ?_ (IsS131.ge HI0.out) | refine below_set ?_ GE379.out | refine below_set ?_ GE386.out) | exact HB.out))
   rintro e w23 ⟨rfl, hi, hb, hk⟩
   refine ⟨_, rfl, ?_⟩
   have n0_ := Aside0.mk (KeepBut.blk hk (g' := gb379) (o := .cells #[.slice none 0 0, .int .i64 0, .bool false, .int .i64 0, .string (⟨#[]⟩ : ByteArray), .int .i64 0, .int .i64 0, .int .i64 0] 41 (0, 0)) (bq BK379) NB379_0.out (by simp))
   have n1_ := Aside0.mk (Kd.R_mono (Kd.R_keep (IsS131.apart (show IsS131 w0 _ g s0_0 t395 from IsS131.run HI0) (by (with_reducible repeat (first | apply Kd.R_alloc | apply Kd.R_drewN | apply Kd.R_drew)); exact HO382.out) (by decide)) hk (fun _ h => h.2)) (fun _ h => h.1))
   have n2_ := Aside0.mk (KeepBut.blk hk (g' := gb386) (o := .cells #[.slice Ao10 t380.length co10, .int .i64 t384, .bool false, .int .i64 0, .string (⟨#[]⟩ : ByteArray), .int .i64 0, .int .i64 0, .int .i64 0] 41 (0, 0)) (bq BK386) NB386_0.out (by simp))
   have n3_ := Aside0.mk (KeepBut.trans (by repeat (first | (with_reducible first | exact HK.out | apply KeepBut.set_ | apply keep_drewN | apply keep_drew | apply keep_alloc | refine keep_far ?_ GW379.out _ | refine keep_far ?_ GW386.out _) | exact HK.out)) hk (.inl rfl))
   have n4_ := Aside0.mk (hb)
   have n5_ := Aside0.mk (hi)
   clear BK379
   clear HO382
   clear BK386
   clear HK
   clear HB
   clear HI0
   have BK379 := n0_
   have HO382 := n1_
   have BK386 := n2_
   have HK := n3_
   have HB := n4_
   have HI0 := n5_
   clear n0_ n1_ n2_ n3_ n4_ n5_
   (try clear hb)
   (try clear hb2)
   (try clear hk)
   (try clear hi)
   refine hK.out _ _ (cl8 BK386) (fun hHeld => ?_)
   clear hK K
   refine norm_ (a' := ?_) ?_ ?_
   rotate_left
   ·
    show Act.put _ (some 22) _ = _
    simp only [sx]
    rfl
   refine pure_ (i := 9) (N := some 23) (v := ?_) (a' := ?_) #[true, true, true, true, true, true, true, true, true, true, false] rfl rfl (any_of HT_.out (by kernel_rfl)) (fun _ _ _ h => h) (Or.inl ⟨by rfl, ?_⟩) ?_ ?_
   rotate_left
   ·
    intro w'
    go_simp
    with_reducible rfl
   rotate_left
   ·
    simp only [sx]
    rfl
   refine last_ (i := 10) (N := none) #[true, true, true, true, true, true, true, true, true, true, true] rfl rfl (one_of HT_.out (by kernel_rfl)) (by decide) (fun K hK => ?_)
   have hs24 : w23.cell? ⟨gb386, 0, none⟩ = some (.slice Ao10 t380.length co10) := (blk_cell BK386.out 0).trans rfl
   have hfs24 := blk_frozen BK386.out 0
   have hns24_0 := NB379_386.out
   have hms24_0 := NB386_379.out
   have hs25 : w23.cell? ⟨gb386, 1, none⟩ = some (.int .i64 t384) := (blk_cell BK386.out 1).trans rfl
   have hfs25 := blk_frozen BK386.out 1
   have hns25_0 := NB379_386.out
   have hms25_0 := NB386_379.out
   have hs26 : w23.cell? ⟨gb386, 2, none⟩ = some (.bool false) := (blk_cell BK386.out 2).trans rfl
   have hfs26 := blk_frozen BK386.out 2
   have hns26_0 := NB379_386.out
   have hms26_0 := NB386_379.out
   have hs27 : w23.cell? ⟨gb386, 3, none⟩ = some (.int .i64 0) := (blk_cell BK386.out 3).trans rfl
   have hfs27 := blk_frozen BK386.out 3
   have hns27_0 := NB379_386.out
   have hms27_0 := NB386_379.out
   have hs28 : w23.cell? ⟨gb386, 4, none⟩ = some (.string (⟨#[]⟩ : ByteArray)) := (blk_cell BK386.out 4).trans rfl
   have hfs28 := blk_frozen BK386.out 4
   have hns28_0 := NB379_386.out
   have hms28_0 := NB386_379.out
   have hs29 : w23.cell? ⟨gb386, 5, none⟩ = some (.int .i64 0) := (blk_cell BK386.out 5).trans rfl
   have hfs29 := blk_frozen BK386.out 5
   have hns29_0 := NB379_386.out
   have hms29_0 := NB386_379.out
   have hs30 : w23.cell? ⟨gb386, 6, none⟩ = some (.int .i64 0) := (blk_cell BK386.out 6).trans rfl
   have hfs30 := blk_frozen BK386.out 6
   have hns30_0 := NB379_386.out
   have hms30_0 := NB386_379.out
   have hs31 : w23.cell? ⟨gb386, 7, none⟩ = some (.int .i64 0) := (blk_cell BK386.out 7).trans rfl
   have hfs31 := blk_frozen BK386.out 7
   have hns31_0 := NB379_386.out
   have hms31_0 := NB386_379.out
   refine skip_ (w1 := ?_) (by rfl) rfl ?_ ?_
   rotate_left
   ·
    go_simp
    rfl
   refine hK.out _ _ ?_
   clear hK K
   refine done_ (done_of HT_.out (by kernel_rfl)) ?_
   try go_wp2
   go_meet
   case rel => exact ⟨_, (t397), (t380), (wrap64 (1 + t389)), (true), (t391), (t392), (t393), (t394), (t396), (.slice Ao10 t380.length co10), H', ⟨by first | omega | exact Nat.le_refl _⟩, ⟨by (with_reducible repeat (first | apply Kd.R_alloc | apply Kd.R_drewN | apply Kd.R_drew)); exact Kd.R_mono (kf 7 (kf 6 (kf 5 (kf 4 (kf 3 (kf 2 (kf 1 (kf 0 (Kd.R_types HO382.out BK386.out (by decide)) (.slice Ao10 t380.length co10)) (.int .i64 (wrap64 (1 + t389)))) (.bool true)) (.int .i64 t391)) (.string t392)) (.int .i64 t393)) (.int .i64 t394)) (.int .i64 t396)) (fun _ hk => trivial)⟩, ⟨by (with_reducible repeat (first | refine blk_drewN ?_ _ | refine blk_drew ?_ | refine blk_alloc ?_ _)); refine blk_far ?_ NB379_386.out _; (with_reducible repeat (first | refine blk_drewN ?_ _ | refine blk_drew ?_ | refine blk_alloc ?_ _)); refine blk_far ?_ NB379_386.out _; (with_reducible repeat (first | refine blk_drewN ?_ _ | refine blk_drew ?_ | refine blk_alloc ?_ _)); refine blk_far ?_ NB379_386.out _; (with_reducible repeat (first | refine blk_drewN ?_ _ | refine blk_drew ?_ | refine blk_alloc ?_ _)); refine blk_far ?_ NB379_386.out _; (with_reducible repeat (first | refine blk_drewN ?_ _ | refine blk_drew ?_ | refine blk_alloc ?_ _)); refine blk_far ?_ NB379_386.out _; (with_reducible repeat (first | refine blk_drewN ?_ _ | refine blk_drew ?_ | refine blk_alloc ?_ _)); refine blk_far ?_ NB379_386.out _; (with_reducible repeat (first | refine blk_drewN ?_ _ | refine blk_drew ?_ | refine blk_alloc ?_ _)); refine blk_far ?_ NB379_386.out _; (with_reducible repeat (first | refine blk_drewN ?_ _ | refine blk_drew ?_ | refine blk_alloc ?_ _)); refine blk_far ?_ NB379_386.out _; (with_reducible repeat (first | refine blk_drewN ?_ _ | refine blk_drew ?_ | refine blk_alloc ?_ _)); exact BK379.out⟩, ⟨by (with_reducible repeat (first | refine blk_drewN ?_ _ | refine blk_drew ?_ | refine blk_alloc ?_ _)); refine blk_put (cs := #[.slice Ao10 t380.length co10, .int .i64 (wrap64 (1 + t389)), .bool true, .int .i64 t391, .string t392, .int .i64 t393, .int .i64 t394, .int .i64 0]) ?_ 7 _ rfl; (with_reducible repeat (first | refine blk_drewN ?_ _ | refine blk_drew ?_ | refine blk_alloc ?_ _)); refine blk_put (cs := #[.slice Ao10 t380.length co10, .int .i64 (wrap64 (1 + t389)), .bool true, .int .i64 t391, .string t392, .int .i64 t393, .int .i64 0, .int .i64 0]) ?_ 6 _ rfl; (with_reducible repeat (first | refine blk_drewN ?_ _ | refine blk_drew ?_ | refine blk_alloc ?_ _)); refine blk_put (cs := #[.slice Ao10 t380.length co10, .int .i64 (wrap64 (1 + t389)), .bool true, .int .i64 t391, .string t392, .int .i64 0, .int .i64 0, .int .i64 0]) ?_ 5 _ rfl; (with_reducible repeat (first | refine blk_drewN ?_ _ | refine blk_drew ?_ | refine blk_alloc ?_ _)); refine blk_put (cs := #[.slice Ao10 t380.length co10, .int .i64 (wrap64 (1 + t389)), .bool true, .int .i64 t391, .string (⟨#[]⟩ : ByteArray), .int .i64 0, .int .i64 0, .int .i64 0]) ?_ 4 _ rfl; (with_reducible repeat (first | refine blk_drewN ?_ _ | refine blk_drew ?_ | refine blk_alloc ?_ _)); refine blk_put (cs := #[.slice Ao10 t380.length co10, .int .i64 (wrap64 (1 + t389)), .bool true, .int .i64 0, .string (⟨#[]⟩ : ByteArray), .int .i64 0, .int .i64 0, .int .i64 0]) ?_ 3 _ rfl; (with_reducible repeat (first | refine blk_drewN ?_ _ | refine blk_drew ?_ | refine blk_alloc ?_ _)); refine blk_put (cs := #[.slice Ao10 t380.length co10, .int .i64 (wrap64 (1 + t389)), .bool false, .int .i64 0, .string (⟨#[]⟩ : ByteArray), .int .i64 0, .int .i64 0, .int .i64 0]) ?_ 2 _ rfl; (with_reducible repeat (first | refine blk_drewN ?_ _ | refine blk_drew ?_ | refine blk_alloc ?_ _)); refine blk_put (cs := #[.slice Ao10 t380.length co10, .int .i64 t384, .bool false, .int .i64 0, .string (⟨#[]⟩ : ByteArray), .int .i64 0, .int .i64 0, .int .i64 0]) ?_ 1 _ rfl; (with_reducible repeat (first | refine blk_drewN ?_ _ | refine blk_drew ?_ | refine blk_alloc ?_ _)); refine blk_put (cs := #[.slice Ao10 t380.length co10, .int .i64 t384, .bool false, .int .i64 0, .string (⟨#[]⟩ : ByteArray), .int .i64 0, .int .i64 0, .int .i64 0]) ?_ 0 _ rfl; (with_reducible repeat (first | refine blk_drewN ?_ _ | refine blk_drew ?_ | refine blk_alloc ?_ _)); exact BK386.out⟩, ⟨IsS131.run HI0⟩, ⟨by repeat (first | (with_reducible first | exact HK.out | apply KeepBut.set_ | apply keep_drewN | apply keep_drew | apply keep_alloc | refine keep_far ?_ GW379.out _ | refine keep_far ?_ GW386.out _) | exact HK.out)⟩, ⟨IsS131.bz HI0⟩⟩
  ·
   rw [if_neg c16] at H
   have c16b0 : (t387 == 0) = false := beq_eq_false_iff_ne.mpr c16
   have c16b1 : (t387 != 0) = true := bne_iff_ne.mpr c16
   (first | rw [c16b0] | (simp only [i64_w, i32_w]; rw [c16b0]) | skip)
   have H' := Aside0.mk H
   clear H
   go_wp2
   go_meet
   case rel => exact ⟨_, (t388), (t380), (t384), (false), (0), ((⟨#[]⟩ : ByteArray)), (0), (0), (0), (.slice Ao10 t380.length co10), H', ⟨by first | omega | exact Nat.le_refl _⟩, ⟨by (with_reducible repeat (first | apply Kd.R_alloc | apply Kd.R_drewN | apply Kd.R_drew)); exact HO382.out⟩, ⟨by (with_reducible repeat (first | refine blk_drewN ?_ _ | refine blk_drew ?_ | refine blk_alloc ?_ _)); exact BK379.out⟩, ⟨by (with_reducible repeat (first | refine blk_drewN ?_ _ | refine blk_drew ?_ | refine blk_alloc ?_ _)); exact BK386.out⟩, ⟨IsS131.run HI0⟩, ⟨by repeat (first | (with_reducible first | exact HK.out | apply KeepBut.set_ | apply keep_drewN | apply keep_drew | apply keep_alloc | refine keep_far ?_ GW379.out _ | refine keep_far ?_ GW386.out _) | exact HK.out)⟩, ⟨IsS131.bz HI0⟩⟩
 case rest =>
  clear HC6
  try clear c1
  try clear p2
  try clear p6
  try clear c7
  try clear c8
  try clear c11
  try clear c12
  try clear c13
  try clear c16
  try clear c16b0
  try clear c16b1
  try clear hcz14_0 hcz14_1 hcz14_2 hcz14_3 hcz14_4 hcz14_5 hcz14_6 hcz14_7
  try clear hfz14_0 hfz14_1 hfz14_2 hfz14_3 hfz14_4 hfz14_5 hfz14_6 hfz14_7
  obtain ⟨kq, x1001_5, x387000_5, x387001_5, x387002_5, x387003_5, x387004_5, x387005_5, x387006_5, x387007_5, u387000, HA, HJ5, HO_387000, BK379, BK386, HI0, HK, HB⟩ := hcut
  cases kq with
  | zero => exact absurd HA.out (by simp [spec_l20Client.j0])
  | succ kj5 =>
   have H := HA.out
   clear HA
   simp only [spec_l20Client.j0] at H
   replace H := Option.bind_eq_some_iff.mp H
   obtain ⟨⟨t398, t399⟩, A320, H⟩ := H
   try dsimp only at H
   have A32 := Aside0.mk A320
   clear A320
   have HC33 := Aside0.mk H
   clear H
   go_upto_if 26 with (first | ((with_reducible refine gate_callee (f := 72) rfl ?_); refine goesL_ (some 25) rfl rfl Try.func72 (by kernel_rfl) rfl #[.pointer (some ⟨g, 0, none⟩), .int .i64 16] rfl ga ?_; (with_reducible refine (spec_l20Rd_pick.calls kj5 g s0_0 x1001_5 16 t398 t399 w0 _ ?side1 ?side2 A32.out).mono ?_); (case side1 => exact IsS131.run HI0); (case side2 => repeat (first | (with_reducible first | exact HB.out | apply below_alloc | apply pw_below_drewN | apply below_drew1 | refine below_set ?_ (IsS131.ge HI0.out) | refine below_set ?_ GE379.out | refine below_set ?_ GE386.out) | exact HB.out)); rintro e w34 ⟨rfl, hi, hb, hk⟩; refine ⟨_, rfl, ?_⟩; have n0_ := Aside0.mk (Kd.R_mono (Kd.R_keep (IsS131.apart (show IsS131 w0 _ g s0_0 x1001_5 from IsS131.run HI0) (by (with_reducible repeat (first | apply Kd.R_alloc | apply Kd.R_drewN | apply Kd.R_drew)); exact HO_387000.out) (by decide)) hk (fun _ h => h.2)) (fun _ h => h.1)); have n1_ := Aside0.mk (KeepBut.blk hk (g' := gb379) (o := .cells #[.slice none 0 0, .int .i64 0, .bool false, .int .i64 0, .string (⟨#[]⟩ : ByteArray), .int .i64 0, .int .i64 0, .int .i64 0] 41 (0, 0)) (bq BK379) NB379_0.out (by simp)); have n2_ := Aside0.mk (KeepBut.blk hk (g' := gb386) (o := .cells #[u387000, .int .i64 x387001_5, .bool x387002_5, .int .i64 x387003_5, .string x387004_5, .int .i64 x387005_5, .int .i64 x387006_5, .int .i64 x387007_5] 41 (0, 0)) (bq BK386) NB386_0.out (by simp)); have n3_ := Aside0.mk (KeepBut.trans (by repeat (first | (with_reducible first | exact HK.out | apply KeepBut.set_ | apply keep_drewN | apply keep_drew | apply keep_alloc | refine keep_far ?_ GW379.out _ | refine keep_far ?_ GW386.out _) | exact HK.out)) hk (.inl rfl)); have n4_ := Aside0.mk (hb); have n5_ := Aside0.mk (hi); clear HO_387000 BK379 BK386 HK HB HI0; have HO_387000 := n0_; have BK379 := n1_; have BK386 := n2_; have HK := n3_; have HB := n4_; have HI0 := n5_; clear n0_ n1_ n2_ n3_ n4_ n5_; (try clear hb); (try clear hb2); (try clear hk); (try clear hi)))
   (try simp only [Act.put, List.setIfInBounds_toArray, List.set_cons_zero, List.set_cons_succ])
   go_cut [] (fun wc => ∃ (kq : Nat) (x387001_32 : Int), Aside0 (spec_l20Client.j1 kq a1 s0_0 t399 x387000_5 x387001_32 x387002_5 x387003_5 x387004_5 x387005_5 x387006_5 x387007_5 = some (r1, r2, r3, r4, r5, r6, r7, r8, r9)) ∧ Aside0 (kq ≤ kj5) ∧ Aside0 (Kd.R k35 35 wc w.heap.size (fun _ => True) u387000 x387000_5) ∧ Aside0 (wc.heap[gb379]? = some (.cells #[(.slice none 0 0), .int .i64 0, .bool false, .int .i64 0, .string (⟨#[]⟩ : ByteArray), .int .i64 0, .int .i64 0, .int .i64 0] 41 (0, 0))) ∧ Aside0 (wc.heap[gb386]? = some (.cells #[u387000, .int .i64 x387001_32, .bool x387002_5, .int .i64 x387003_5, .string x387004_5, .int .i64 x387005_5, .int .i64 x387006_5, .int .i64 x387007_5] 41 (0, 0))) ∧ Aside0 (IsS131 w0 wc g s0_0 t399) ∧ Aside0 (KeepBut w wc g none) ∧ Aside0 (Below w0.heap.size w0 wc))
   case first =>
    have H := HC33.out
    clear HC33
    by_cases c35 : t398 = 15
    ·
     rw [if_pos c35] at H
     have c35b0 : (t398 == 15) = true := beq_iff_eq.mpr c35
     have c35b1 : (t398 != 15) = false := bne_eq_false_iff_eq.mpr c35
     clear c35
     (first | rw [c35b0] | (simp only [i64_w, i32_w]; rw [c35b0]) | skip)
     have H' := Aside0.mk H
     clear H
     have hnb36 := NB386_379.out
     have hnc36 := NB379_386.out
     have hnb37 := NB386_0.out
     have hnc37 := NB0_386.out
     obtain ⟨hcz38_0, hcz38_1, hcz38_2, hcz38_3, hcz38_4, hcz38_5, hcz38_6, hcz38_7⟩ := cl8 BK386
     obtain ⟨hfz38_0, hfz38_1, hfz38_2, hfz38_3, hfz38_4, hfz38_5, hfz38_6, hfz38_7⟩ := fz8 BK386
     go_wp2
     go_meet
     case rel => exact ⟨_, (999), H', ⟨by have := HJ5.out; first | omega | exact Nat.le_refl _⟩, ⟨by (with_reducible repeat (first | apply Kd.R_alloc | apply Kd.R_drewN | apply Kd.R_drew)); exact Kd.R_mono (kf 1 (Kd.R_types HO_387000.out BK386.out (by decide)) (.int .i64 999)) (fun _ hk => trivial)⟩, ⟨by (with_reducible repeat (first | refine blk_drewN ?_ _ | refine blk_drew ?_ | refine blk_alloc ?_ _)); refine blk_far ?_ NB379_386.out _; (with_reducible repeat (first | refine blk_drewN ?_ _ | refine blk_drew ?_ | refine blk_alloc ?_ _)); exact BK379.out⟩, ⟨by (with_reducible repeat (first | refine blk_drewN ?_ _ | refine blk_drew ?_ | refine blk_alloc ?_ _)); refine blk_put (cs := #[u387000, .int .i64 x387001_5, .bool x387002_5, .int .i64 x387003_5, .string x387004_5, .int .i64 x387005_5, .int .i64 x387006_5, .int .i64 x387007_5]) ?_ 1 _ rfl; (with_reducible repeat (first | refine blk_drewN ?_ _ | refine blk_drew ?_ | refine blk_alloc ?_ _)); exact BK386.out⟩, ⟨IsS131.run HI0⟩, ⟨by repeat (first | (with_reducible first | exact HK.out | apply KeepBut.set_ | apply keep_drewN | apply keep_drew | apply keep_alloc | refine keep_far ?_ GW379.out _ | refine keep_far ?_ GW386.out _) | exact HK.out)⟩, ⟨IsS131.bz HI0⟩⟩
    ·
     rw [if_neg c35] at H
     have c35b0 : (t398 == 15) = false := beq_eq_false_iff_ne.mpr c35
     have c35b1 : (t398 != 15) = true := bne_iff_ne.mpr c35
     (first | rw [c35b0] | (simp only [i64_w, i32_w]; rw [c35b0]) | skip)
     have H' := Aside0.mk H
     clear H
     go_wp2
     go_meet
     case rel => exact ⟨_, (x387001_5), H', ⟨by have := HJ5.out; first | omega | exact Nat.le_refl _⟩, ⟨by (with_reducible repeat (first | apply Kd.R_alloc | apply Kd.R_drewN | apply Kd.R_drew)); exact HO_387000.out⟩, ⟨by (with_reducible repeat (first | refine blk_drewN ?_ _ | refine blk_drew ?_ | refine blk_alloc ?_ _)); exact BK379.out⟩, ⟨by (with_reducible repeat (first | refine blk_drewN ?_ _ | refine blk_drew ?_ | refine blk_alloc ?_ _)); exact BK386.out⟩, ⟨IsS131.run HI0⟩, ⟨by repeat (first | (with_reducible first | exact HK.out | apply KeepBut.set_ | apply keep_drewN | apply keep_drew | apply keep_alloc | refine keep_far ?_ GW379.out _ | refine keep_far ?_ GW386.out _) | exact HK.out)⟩, ⟨IsS131.bz HI0⟩⟩
   case rest =>
    clear HC33
    try clear c1
    try clear p2
    try clear c3
    try clear p6
    try clear c7
    try clear c8
    try clear c11
    try clear c12
    try clear c13
    try clear c16
    try clear c16b0
    try clear c16b1
    try clear c35
    try clear c35b0
    try clear c35b1
    try clear c36
    try clear c37
    try clear hcz14_0 hcz14_1 hcz14_2 hcz14_3 hcz14_4 hcz14_5 hcz14_6 hcz14_7
    try clear hcz38_0 hcz38_1 hcz38_2 hcz38_3 hcz38_4 hcz38_5 hcz38_6 hcz38_7
    try clear hfz14_0 hfz14_1 hfz14_2 hfz14_3 hfz14_4 hfz14_5 hfz14_6 hfz14_7
    try clear hfz38_0 hfz38_1 hfz38_2 hfz38_3 hfz38_4 hfz38_5 hfz38_6 hfz38_7
    try clear p2
    try clear p6
    obtain ⟨kq, x387001_32, HA, HJ32, HO_387000, BK379, BK386, HI0, HK, HB⟩ := hcut
    cases kq with
    | zero => exact absurd HA.out (by simp [spec_l20Client.j1])
    | succ kj32 =>
     have H := HA.out
     clear HA
     simp only [spec_l20Client.j1] at H
     replace H := Option.bind_eq_some_iff.mp H
     obtain ⟨⟨t400, t401⟩, A390, H⟩ := H
     try dsimp only at H
     have A39 := Aside0.mk A390
     clear A390
     by_cases c40 : t400 = true
     ·
      subst c40
      rw [if_pos rfl] at H
      replace H := Option.bind_eq_some_iff.mp H
      obtain ⟨⟨t402, t403⟩, A410, H⟩ := H
      try dsimp only at H
      have A41 := Aside0.mk A410
      clear A410
      by_cases c42 : t402 = 0
      ·
       rw [if_pos c42] at H
       have c42b0 : (t402 == 0) = true := beq_iff_eq.mpr c42
       have c42b1 : (t402 != 0) = false := bne_eq_false_iff_eq.mpr c42
       clear c42
       replace H := Option.bind_eq_some_iff.mp H
       obtain ⟨⟨t404, t407⟩, A430, H⟩ := H
       try dsimp only at H
       have A43 := Aside0.mk A430
       clear A430
       simp only [Option.some.injEq, Prod.mk.injEq] at H
       obtain ⟨rfl, rfl, rfl, rfl, rfl, rfl, rfl, rfl, rfl⟩ := H
       go_wp2_with (first | ((with_reducible refine gate_callee (f := 126) rfl ?_); refine goesL_ (some 30) rfl rfl Try.func126 (by kernel_rfl) rfl #[.pointer (some ⟨g, 0, none⟩), .int .i64 a1] rfl ga ?_; (with_reducible refine (spec_l20Rd_odd.calls kj32 g s0_0 t399 a1 true t401 w0 _ ?side1 ?side2 A39.out).mono ?_); (case side1 => exact IsS131.run HI0); (case side2 => repeat (first | (with_reducible first | exact HB.out | apply below_alloc | apply pw_below_drewN | apply below_drew1 | refine below_set ?_ (IsS131.ge HI0.out) | refine below_set ?_ GE379.out | refine below_set ?_ GE386.out) | exact HB.out)); rintro e w44 ⟨rfl, hi, hb, hk⟩; refine ⟨_, rfl, ?_⟩; have n0_ := Aside0.mk (Kd.R_mono (Kd.R_keep (IsS131.apart (show IsS131 w0 _ g s0_0 t399 from IsS131.run HI0) (by (with_reducible repeat (first | apply Kd.R_alloc | apply Kd.R_drewN | apply Kd.R_drew)); exact HO_387000.out) (by decide)) hk (fun _ h => h.2)) (fun _ h => h.1)); have n1_ := Aside0.mk (KeepBut.blk hk (g' := gb379) (o := .cells #[.slice none 0 0, .int .i64 0, .bool false, .int .i64 0, .string (⟨#[]⟩ : ByteArray), .int .i64 0, .int .i64 0, .int .i64 0] 41 (0, 0)) (bq BK379) NB379_0.out (by simp)); have n2_ := Aside0.mk (KeepBut.blk hk (g' := gb386) (o := .cells #[u387000, .int .i64 x387001_32, .bool x387002_5, .int .i64 x387003_5, .string x387004_5, .int .i64 x387005_5, .int .i64 x387006_5, .int .i64 x387007_5] 41 (0, 0)) (bq BK386) NB386_0.out (by simp)); have n3_ := Aside0.mk (KeepBut.trans (by repeat (first | (with_reducible first | exact HK.out | apply KeepBut.set_ | apply keep_drewN | apply keep_drew | apply keep_alloc | refine keep_far ?_ GW379.out _ | refine keep_far ?_ GW386.out _) | exact HK.out)) hk (.inl rfl)); have n4_ := Aside0.mk (hb); have n5_ := Aside0.mk (hi); clear HO_387000 BK379 BK386 HK HB HI0; have HO_387000 := n0_; have BK379 := n1_; have BK386 := n2_; have HK := n3_; have HB := n4_; have HI0 := n5_; clear n0_ n1_ n2_ n3_ n4_ n5_; (try clear hb); (try clear hb2); (try clear hk); (try clear hi)) | ((with_reducible refine gate_callee (f := 72) rfl ?_); refine goesL_ (some 32) rfl rfl Try.func72 (by kernel_rfl) rfl #[.pointer (some ⟨g, 0, none⟩), .int .i64 6] rfl ga ?_; (with_reducible refine (spec_l20Rd_pick.calls kj32 g s0_0 t401 6 t402 t403 w0 _ ?side1 ?side2 A41.out).mono ?_); (case side1 => exact IsS131.run HI0); (case side2 => repeat (first | (with_reducible first | exact HB.out | apply below_alloc | apply pw_below_drewN | apply below_drew1 | refine below_set ?_ (IsS131.ge HI0.out) | refine below_set ?_ GE379.out | refine below_set ?_ GE386.out) | exact HB.out)); rintro e w45 ⟨rfl, hi, hb, hk⟩; refine ⟨_, rfl, ?_⟩; have n0_ := Aside0.mk (Kd.R_mono (Kd.R_keep (IsS131.apart (show IsS131 w0 _ g s0_0 t401 from IsS131.run HI0) (by (with_reducible repeat (first | apply Kd.R_alloc | apply Kd.R_drewN | apply Kd.R_drew)); exact HO_387000.out) (by decide)) hk (fun _ h => h.2)) (fun _ h => h.1)); have n1_ := Aside0.mk (KeepBut.blk hk (g' := gb379) (o := .cells #[.slice none 0 0, .int .i64 0, .bool false, .int .i64 0, .string (⟨#[]⟩ : ByteArray), .int .i64 0, .int .i64 0, .int .i64 0] 41 (0, 0)) (bq BK379) NB379_0.out (by simp)); have n2_ := Aside0.mk (KeepBut.blk hk (g' := gb386) (o := .cells #[u387000, .int .i64 x387001_32, .bool x387002_5, .int .i64 x387003_5, .string x387004_5, .int .i64 x387005_5, .int .i64 x387006_5, .int .i64 x387007_5] 41 (0, 0)) (bq BK386) NB386_0.out (by simp)); have n3_ := Aside0.mk (KeepBut.trans (by repeat (first | (with_reducible first | exact HK.out | apply KeepBut.set_ | apply keep_drewN | apply keep_drew | apply keep_alloc | refine keep_far ?_ GW379.out _ | refine keep_far ?_ GW386.out _) | exact HK.out)) hk (.inl rfl)); have n4_ := Aside0.mk (hb); have n5_ := Aside0.mk (hi); clear HO_387000 BK379 BK386 HK HB HI0; have HO_387000 := n0_; have BK379 := n1_; have BK386 := n2_; have HK := n3_; have HB := n4_; have HI0 := n5_; clear n0_ n1_ n2_ n3_ n4_ n5_; (try clear hb); (try clear hb2); (try clear hk); (try clear hi)) | ((with_reducible refine gate_callee (f := 130) rfl ?_); refine goesL_ (some 38) rfl rfl Try.func130 (by kernel_rfl) rfl #[.pointer (some ⟨g, 0, none⟩), .int .i64 1] rfl ga ?_; (with_reducible refine (spec_l20Cache.calls kj32 g s0_0 t403 1 t404 t407 w0 _ ?side1 ?side2 A43.out).mono ?_); (case side1 => exact IsS131.run HI0); (case side2 => repeat (first | (with_reducible first | exact HB.out | apply below_alloc | apply pw_below_drewN | apply below_drew1 | refine below_set ?_ (IsS131.ge HI0.out) | refine below_set ?_ GE379.out | refine below_set ?_ GE386.out) | exact HB.out)); rintro e w46 ⟨v405, rfl, ho0, hi, hb, hk⟩; refine ⟨_, rfl, ?_⟩; have n0_ := Aside0.mk (Kd.R_mono (Kd.R_told (Kd.R_oldK (IsS131.apart (show IsS131 w0 _ g s0_0 t403 from IsS131.run HI0) (by (with_reducible repeat (first | apply Kd.R_alloc | apply Kd.R_drewN | apply Kd.R_drew)); exact HO_387000.out) (by decide)) hk) (Kd.R_base ho0)) (fun _ h_ => h_.1)); have n1_ := Aside0.mk (KeepBut.blk hk (g' := gb379) (o := .cells #[.slice none 0 0, .int .i64 0, .bool false, .int .i64 0, .string (⟨#[]⟩ : ByteArray), .int .i64 0, .int .i64 0, .int .i64 0] 41 (0, 0)) (bq BK379) NB379_0.out (by simp)); have n2_ := Aside0.mk (KeepBut.blk hk (g' := gb386) (o := .cells #[u387000, .int .i64 x387001_32, .bool x387002_5, .int .i64 x387003_5, .string x387004_5, .int .i64 x387005_5, .int .i64 x387006_5, .int .i64 x387007_5] 41 (0, 0)) (bq BK386) NB386_0.out (by simp)); have n3_ := Aside0.mk (Kd.R_lower (Kd.R_new' ho0 (Kd.R_lt (by (with_reducible repeat (first | apply Kd.R_alloc | apply Kd.R_drewN | apply Kd.R_drew)); exact HO_387000.out))) (keep_size (w := w) (g := g) (row := none) (by repeat (first | (with_reducible first | exact HK.out | apply KeepBut.set_ | apply keep_drewN | apply keep_drew | apply keep_alloc | refine keep_far ?_ GW379.out _ | refine keep_far ?_ GW386.out _) | exact HK.out)))); have n4_ := Aside0.mk (KeepBut.trans (by repeat (first | (with_reducible first | exact HK.out | apply KeepBut.set_ | apply keep_drewN | apply keep_drew | apply keep_alloc | refine keep_far ?_ GW379.out _ | refine keep_far ?_ GW386.out _) | exact HK.out)) hk (.inl rfl)); have n5_ := Aside0.mk (hb); have n6_ := Aside0.mk (hi); clear HO_387000 BK379 BK386 HK HB HI0; have HO_387000 := n0_; have BK379 := n1_; have BK386 := n2_; have HO406 := n3_; have HK := n4_; have HB := n5_; have HI0 := n6_; clear n0_ n1_ n2_ n3_ n4_ n5_ n6_; (try clear hb); (try clear hb2); (try clear hk); (try clear hi); (try clear ho0); obtain ⟨Ao47, co47, eo47⟩ := Kd.R_slice HO406.out; subst eo47; have hnb48 := NB386_379.out; have hnc48 := NB379_386.out; have hnb49 := NB386_0.out; have hnc49 := NB0_386.out; obtain ⟨hcz50_0, hcz50_1, hcz50_2, hcz50_3, hcz50_4, hcz50_5, hcz50_6, hcz50_7⟩ := cl8 BK386; obtain ⟨hfz50_0, hfz50_1, hfz50_2, hfz50_3, hfz50_4, hfz50_5, hfz50_6, hfz50_7⟩ := fz8 BK386; have hnb51 := NB379_0.out; have hnc51 := NB0_379.out; obtain ⟨hcz52_0, hcz52_1, hcz52_2, hcz52_3, hcz52_4, hcz52_5, hcz52_6, hcz52_7⟩ := cl8 BK379; obtain ⟨hfz52_0, hfz52_1, hfz52_2, hfz52_3, hfz52_4, hfz52_5, hfz52_6, hfz52_7⟩ := fz8 BK379))
       refine bodyPost_ret (results_cell_row rfl _ _ gb379 41 #[.slice Ao47 t404.length co47, .int .i64 x387001_32, .bool x387002_5, .int .i64 x387003_5, .string x387004_5, .int .i64 x387005_5, .int .i64 x387006_5, .int .i64 x387007_5] (0, 0) _ rfl (by (with_reducible repeat (first | refine blk_drewN ?_ _ | refine blk_drew ?_ | refine blk_alloc ?_ _)); refine blk_put (cs := #[.slice Ao47 t404.length co47, .int .i64 x387001_32, .bool x387002_5, .int .i64 x387003_5, .string x387004_5, .int .i64 x387005_5, .int .i64 x387006_5, .int .i64 0]) ?_ 7 _ rfl; (with_reducible repeat (first | refine blk_drewN ?_ _ | refine blk_drew ?_ | refine blk_alloc ?_ _)); refine blk_put (cs := #[.slice Ao47 t404.length co47, .int .i64 x387001_32, .bool x387002_5, .int .i64 x387003_5, .string x387004_5, .int .i64 x387005_5, .int .i64 0, .int .i64 0]) ?_ 6 _ rfl; (with_reducible repeat (first | refine blk_drewN ?_ _ | refine blk_drew ?_ | refine blk_alloc ?_ _)); refine blk_put (cs := #[.slice Ao47 t404.length co47, .int .i64 x387001_32, .bool x387002_5, .int .i64 x387003_5, .string x387004_5, .int .i64 0, .int .i64 0, .int .i64 0]) ?_ 5 _ rfl; (with_reducible repeat (first | refine blk_drewN ?_ _ | refine blk_drew ?_ | refine blk_alloc ?_ _)); refine blk_put (cs := #[.slice Ao47 t404.length co47, .int .i64 x387001_32, .bool x387002_5, .int .i64 x387003_5, .string (⟨#[]⟩ : ByteArray), .int .i64 0, .int .i64 0, .int .i64 0]) ?_ 4 _ rfl; (with_reducible repeat (first | refine blk_drewN ?_ _ | refine blk_drew ?_ | refine blk_alloc ?_ _)); refine blk_put (cs := #[.slice Ao47 t404.length co47, .int .i64 x387001_32, .bool x387002_5, .int .i64 0, .string (⟨#[]⟩ : ByteArray), .int .i64 0, .int .i64 0, .int .i64 0]) ?_ 3 _ rfl; (with_reducible repeat (first | refine blk_drewN ?_ _ | refine blk_drew ?_ | refine blk_alloc ?_ _)); refine blk_put (cs := #[.slice Ao47 t404.length co47, .int .i64 x387001_32, .bool false, .int .i64 0, .string (⟨#[]⟩ : ByteArray), .int .i64 0, .int .i64 0, .int .i64 0]) ?_ 2 _ rfl; (with_reducible repeat (first | refine blk_drewN ?_ _ | refine blk_drew ?_ | refine blk_alloc ?_ _)); refine blk_put (cs := #[.slice Ao47 t404.length co47, .int .i64 0, .bool false, .int .i64 0, .string (⟨#[]⟩ : ByteArray), .int .i64 0, .int .i64 0, .int .i64 0]) ?_ 1 _ rfl; (with_reducible repeat (first | refine blk_drewN ?_ _ | refine blk_drew ?_ | refine blk_alloc ?_ _)); refine blk_put (cs := #[.slice none 0 0, .int .i64 0, .bool false, .int .i64 0, .string (⟨#[]⟩ : ByteArray), .int .i64 0, .int .i64 0, .int .i64 0]) ?_ 0 _ rfl; (with_reducible repeat (first | refine blk_drewN ?_ _ | refine blk_drew ?_ | refine blk_alloc ?_ _)); refine blk_far ?_ NB379_386.out _; (with_reducible repeat (first | refine blk_drewN ?_ _ | refine blk_drew ?_ | refine blk_alloc ?_ _)); exact BK379.out) Try.underlying41 rfl (by kernel_rfl)) rfl ?_
       exact ⟨_, by first | rfl | (simp only [u8w, w64m]; rfl) | (simp [errW_none, errW_some] <;> rfl) | (simp [*, errW_none, errW_some] <;> rfl), by (with_reducible repeat (first | apply Kd.R_alloc | apply Kd.R_drewN | apply Kd.R_drew)); exact Kd.R_mono (kf 7 (kf 6 (kf 5 (kf 4 (kf 3 (kf 2 (kf 1 (kf 0 (Kd.R_far  (p := ⟨gb386, 0, none⟩) (Kd.R_types (Kd.R_types HO406.out BK386.out (by decide)) BK379.out (by decide)) (fun _ hk => hk.1.2) (.slice Ao47 t404.length co47)) (.slice Ao47 t404.length co47)) (.int .i64 x387001_32)) (.bool x387002_5)) (.int .i64 x387003_5)) (.string x387004_5)) (.int .i64 x387005_5)) (.int .i64 x387006_5)) (.int .i64 x387007_5)) (fun _ hk => trivial), IsS131.run HI0, IsS131.bz HI0, by repeat (first | (with_reducible first | exact HK.out | apply KeepBut.set_ | apply keep_drewN | apply keep_drew | apply keep_alloc | refine keep_far ?_ GW379.out _ | refine keep_far ?_ GW386.out _) | exact HK.out)⟩
      ·
       rw [if_neg c42] at H
       have c42b0 : (t402 == 0) = false := beq_eq_false_iff_ne.mpr c42
       have c42b1 : (t402 != 0) = true := bne_iff_ne.mpr c42
       by_cases c53 : t402 = 1
       ·
        rw [if_pos c53] at H
        have c53b0 : (t402 == 1) = true := beq_iff_eq.mpr c53
        have c53b1 : (t402 != 1) = false := bne_eq_false_iff_eq.mpr c53
        clear c53
        obtain ⟨y408, hy408⟩ : ∃ y_ : List Int, y_ = (([(-1), 1000] : List Int)) := ⟨_, rfl⟩
        replace H : ((spec_l20Rd_pick.f kj32 s0_0 t403 2).bind fun bt411 => (if 0 ≤ bt411.1 then (if bt411.1 < (y408.length : Int) then (some (x387000_5, rd y408 bt411.1, x387002_5, x387003_5, x387004_5, x387005_5, x387006_5, x387007_5, bt411.2)) else (none)) else (none))) = some (r1, r2, r3, r4, r5, r6, r7, r8, r9) := by first | (rw [hy408]; with_reducible exact H) | (have H2_ := (Option.bind_some _ _).symm.trans H; rw [hy408]; with_reducible exact H2_) | (have H2_ := (Option.bind_some _ _).symm.trans H; with_reducible exact H2_) | with_reducible exact H | (rw [hy408]; exact H) | exact H
        have Ny408 := Aside0.mk hy408
        clear hy408
        replace H := Option.bind_eq_some_iff.mp H
        obtain ⟨⟨t411, t412⟩, A540, H⟩ := H
        try dsimp only at H
        have A54 := Aside0.mk A540
        clear A540
        by_cases c55 : 0 ≤ t411
        ·
         rw [if_pos c55] at H
         have c55b0 : decide (0 ≤ t411) = true := decide_eq_true c55
         clear c55
         by_cases c56 : t411 < (y408.length : Int)
         ·
          rw [if_pos c56] at H
          have c56b0 : decide (t411 < (y408.length : Int)) = true := decide_eq_true c56
          clear c56
          simp only [Option.some.injEq, Prod.mk.injEq] at H
          obtain ⟨rfl, rfl, rfl, rfl, rfl, rfl, rfl, rfl, rfl⟩ := H
          go_wp2_with (first | ((with_reducible refine gate_callee (f := 126) rfl ?_); refine goesL_ (some 30) rfl rfl Try.func126 (by kernel_rfl) rfl #[.pointer (some ⟨g, 0, none⟩), .int .i64 a1] rfl ga ?_; (with_reducible refine (spec_l20Rd_odd.calls kj32 g s0_0 t399 a1 true t401 w0 _ ?side1 ?side2 A39.out).mono ?_); (case side1 => exact IsS131.run HI0); (case side2 => repeat (first | (with_reducible first | exact HB.out | apply below_alloc | apply pw_below_drewN | apply below_drew1 | refine below_set ?_ (IsS131.ge HI0.out) | refine below_set ?_ GE379.out | refine below_set ?_ GE386.out) | exact HB.out)); rintro e w57 ⟨rfl, hi, hb, hk⟩; refine ⟨_, rfl, ?_⟩; have n0_ := Aside0.mk (Kd.R_mono (Kd.R_keep (IsS131.apart (show IsS131 w0 _ g s0_0 t399 from IsS131.run HI0) (by (with_reducible repeat (first | apply Kd.R_alloc | apply Kd.R_drewN | apply Kd.R_drew)); exact HO_387000.out) (by decide)) hk (fun _ h => h.2)) (fun _ h => h.1)); have n1_ := Aside0.mk (KeepBut.blk hk (g' := gb379) (o := .cells #[.slice none 0 0, .int .i64 0, .bool false, .int .i64 0, .string (⟨#[]⟩ : ByteArray), .int .i64 0, .int .i64 0, .int .i64 0] 41 (0, 0)) (bq BK379) NB379_0.out (by simp)); have n2_ := Aside0.mk (KeepBut.blk hk (g' := gb386) (o := .cells #[u387000, .int .i64 x387001_32, .bool x387002_5, .int .i64 x387003_5, .string x387004_5, .int .i64 x387005_5, .int .i64 x387006_5, .int .i64 x387007_5] 41 (0, 0)) (bq BK386) NB386_0.out (by simp)); have n3_ := Aside0.mk (KeepBut.trans (by repeat (first | (with_reducible first | exact HK.out | apply KeepBut.set_ | apply keep_drewN | apply keep_drew | apply keep_alloc | refine keep_far ?_ GW379.out _ | refine keep_far ?_ GW386.out _) | exact HK.out)) hk (.inl rfl)); have n4_ := Aside0.mk (hb); have n5_ := Aside0.mk (hi); clear HO_387000 BK379 BK386 HK HB HI0; have HO_387000 := n0_; have BK379 := n1_; have BK386 := n2_; have HK := n3_; have HB := n4_; have HI0 := n5_; clear n0_ n1_ n2_ n3_ n4_ n5_; (try clear hb); (try clear hb2); (try clear hk); (try clear hi)) | ((with_reducible refine gate_callee (f := 72) rfl ?_); refine goesL_ (some 32) rfl rfl Try.func72 (by kernel_rfl) rfl #[.pointer (some ⟨g, 0, none⟩), .int .i64 6] rfl ga ?_; (with_reducible refine (spec_l20Rd_pick.calls kj32 g s0_0 t401 6 t402 t403 w0 _ ?side1 ?side2 A41.out).mono ?_); (case side1 => exact IsS131.run HI0); (case side2 => repeat (first | (with_reducible first | exact HB.out | apply below_alloc | apply pw_below_drewN | apply below_drew1 | refine below_set ?_ (IsS131.ge HI0.out) | refine below_set ?_ GE379.out | refine below_set ?_ GE386.out) | exact HB.out)); rintro e w58 ⟨rfl, hi, hb, hk⟩; refine ⟨_, rfl, ?_⟩; have n0_ := Aside0.mk (Kd.R_mono (Kd.R_keep (IsS131.apart (show IsS131 w0 _ g s0_0 t401 from IsS131.run HI0) (by (with_reducible repeat (first | apply Kd.R_alloc | apply Kd.R_drewN | apply Kd.R_drew)); exact HO_387000.out) (by decide)) hk (fun _ h => h.2)) (fun _ h => h.1)); have n1_ := Aside0.mk (KeepBut.blk hk (g' := gb379) (o := .cells #[.slice none 0 0, .int .i64 0, .bool false, .int .i64 0, .string (⟨#[]⟩ : ByteArray), .int .i64 0, .int .i64 0, .int .i64 0] 41 (0, 0)) (bq BK379) NB379_0.out (by simp)); have n2_ := Aside0.mk (KeepBut.blk hk (g' := gb386) (o := .cells #[u387000, .int .i64 x387001_32, .bool x387002_5, .int .i64 x387003_5, .string x387004_5, .int .i64 x387005_5, .int .i64 x387006_5, .int .i64 x387007_5] 41 (0, 0)) (bq BK386) NB386_0.out (by simp)); have n3_ := Aside0.mk (KeepBut.trans (by repeat (first | (with_reducible first | exact HK.out | apply KeepBut.set_ | apply keep_drewN | apply keep_drew | apply keep_alloc | refine keep_far ?_ GW379.out _ | refine keep_far ?_ GW386.out _) | exact HK.out)) hk (.inl rfl)); have n4_ := Aside0.mk (hb); have n5_ := Aside0.mk (hi); clear HO_387000 BK379 BK386 HK HB HI0; have HO_387000 := n0_; have BK379 := n1_; have BK386 := n2_; have HK := n3_; have HB := n4_; have HI0 := n5_; clear n0_ n1_ n2_ n3_ n4_ n5_; (try clear hb); (try clear hb2); (try clear hk); (try clear hi)) | ((with_reducible refine gate_dst (N := 42) rfl ?_); refine Kd.R_lit (Kd.int .i64) _ 3 ?hg (N := 42) ?hd (xs := ([(-1), 1000] : List Int)) (inner := [.int .i64 (-1), .int .i64 1000]) (ok := fun _ => True) (okp := fun _ => True) ?hr ?hp (fun _ hk => hk) trivial (Below.refl _ _) (Nat.le_refl _) (by simp) ?_; (case hd => rfl); (case hg => rfl); (case hr => first | (go_simp; done) | (go_simp; rfl)); (case hp => exact (Reps.one (show Kd.M (Kd.int .i64) _ _ _ (-1) [.int .i64 (-1)] from rfl) (Reps.one (show Kd.M (Kd.int .i64) _ _ _ 1000 [.int .i64 1000] from rfl) (Reps.none _ _)))); intro v409 w59 ho60 hb hg_ hnew_; clear hg_ hnew_; (first | rw [← Ny408.out] at ho60 | (simp only [Int.reduceToNat] at ho60; rw [← Ny408.out] at ho60)); have n0_ := rbl HO_387000 hb; have n1_ := Aside0.mk (Kd.R_lower ho60 (keep_size (w := w) (g := g) (row := none) (by repeat (first | (with_reducible first | exact HK.out | apply KeepBut.set_ | apply keep_drewN | apply keep_drew | apply keep_alloc | refine keep_far ?_ GW379.out _ | refine keep_far ?_ GW386.out _) | exact HK.out)))); have n2_ := bkb BK379 hb; have n3_ := bkb BK386 hb; have n4_ := Aside0.mk (IsS131.below (IsS131.run HI0) hb); have n5_ := Aside0.mk (KeepBut.trans (by repeat (first | (with_reducible first | exact HK.out | apply KeepBut.set_ | apply keep_drewN | apply keep_drew | apply keep_alloc | refine keep_far ?_ GW379.out _ | refine keep_far ?_ GW386.out _) | exact HK.out)) (KeepBut.of_below hb g none) (.inl rfl)); have n6_ := Aside0.mk (below_step (IsS131.bz HI0) hb); clear HO_387000 BK379 BK386 HI0 HK HB; have HO_387000 := n0_; have HO410 := n1_; have BK379 := n2_; have BK386 := n3_; have HI0 := n4_; have HK := n5_; have HB := n6_; clear n0_ n1_ n2_ n3_ n4_ n5_ n6_; clear hb ho60) | ((with_reducible refine gate_callee (f := 72) rfl ?_); refine goesL_ (some 44) rfl rfl Try.func72 (by kernel_rfl) rfl #[.pointer (some ⟨g, 0, none⟩), .int .i64 2] rfl ga ?_; (with_reducible refine (spec_l20Rd_pick.calls kj32 g s0_0 t403 2 t411 t412 w0 _ ?side1 ?side2 A54.out).mono ?_); (case side1 => exact IsS131.run HI0); (case side2 => repeat (first | (with_reducible first | exact HB.out | apply below_alloc | apply pw_below_drewN | apply below_drew1 | refine below_set ?_ (IsS131.ge HI0.out) | refine below_set ?_ GE379.out | refine below_set ?_ GE386.out) | exact HB.out)); rintro e w61 ⟨rfl, hi, hb, hk⟩; refine ⟨_, rfl, ?_⟩; have n0_ := Aside0.mk (Kd.R_mono (Kd.R_keep (IsS131.apart (show IsS131 w0 _ g s0_0 t403 from IsS131.run HI0) (by (with_reducible repeat (first | apply Kd.R_alloc | apply Kd.R_drewN | apply Kd.R_drew)); exact HO_387000.out) (by decide)) hk (fun _ h => h.2)) (fun _ h => h.1)); have n1_ := Aside0.mk (KeepBut.blk hk (g' := gb379) (o := .cells #[.slice none 0 0, .int .i64 0, .bool false, .int .i64 0, .string (⟨#[]⟩ : ByteArray), .int .i64 0, .int .i64 0, .int .i64 0] 41 (0, 0)) (bq BK379) NB379_0.out (by simp)); have n2_ := Aside0.mk (KeepBut.blk hk (g' := gb386) (o := .cells #[u387000, .int .i64 x387001_32, .bool x387002_5, .int .i64 x387003_5, .string x387004_5, .int .i64 x387005_5, .int .i64 x387006_5, .int .i64 x387007_5] 41 (0, 0)) (bq BK386) NB386_0.out (by simp)); have n3_ := Aside0.mk (Kd.R_mono (Kd.R_keep (IsS131.apart (show IsS131 w0 _ g s0_0 t403 from IsS131.run HI0) (by (with_reducible repeat (first | apply Kd.R_alloc | apply Kd.R_drewN | apply Kd.R_drew)); exact HO410.out) (by decide)) hk (fun _ h => h.2)) (fun _ h => h.1)); have n4_ := Aside0.mk (KeepBut.trans (by repeat (first | (with_reducible first | exact HK.out | apply KeepBut.set_ | apply keep_drewN | apply keep_drew | apply keep_alloc | refine keep_far ?_ GW379.out _ | refine keep_far ?_ GW386.out _) | exact HK.out)) hk (.inl rfl)); have n5_ := Aside0.mk (hb); have n6_ := Aside0.mk (hi); clear HO_387000 BK379 BK386 HO410 HK HB HI0; have HO_387000 := n0_; have BK379 := n1_; have BK386 := n2_; have HO410 := n3_; have HK := n4_; have HB := n5_; have HI0 := n6_; clear n0_ n1_ n2_ n3_ n4_ n5_ n6_; (try clear hb); (try clear hb2); (try clear hk); (try clear hi); obtain ⟨Ao62, co62, eo62⟩ := Kd.R_slice HO410.out; subst eo62; have p413 : 0 ≤ (t411 : Int) := of_decide_eq_true (by first | (with_reducible assumption) | assumption); have q413 : t411 < (y408.length : Int) := of_decide_eq_true (by first | (with_reducible assumption) | assumption); obtain ⟨ad413, e413, hx413_0⟩ := Kd.at_int (Kd.R_reads' HO410.out).2.2 t411 p413 q413; cases e413; replace p413 := eq_true p413; replace q413 := eq_true q413; have hnb63 := NB386_379.out; have hnc63 := NB379_386.out; have hnb64 := NB386_0.out; have hnc64 := NB0_386.out; obtain ⟨hcz65_0, hcz65_1, hcz65_2, hcz65_3, hcz65_4, hcz65_5, hcz65_6, hcz65_7⟩ := cl8 BK386; obtain ⟨hfz65_0, hfz65_1, hfz65_2, hfz65_3, hfz65_4, hfz65_5, hfz65_6, hfz65_7⟩ := fz8 BK386; obtain ⟨Ao66, co66, eo66⟩ := Kd.R_slice HO_387000.out; subst eo66; have hnb67 := NB379_0.out; have hnc67 := NB0_379.out; obtain ⟨hcz68_0, hcz68_1, hcz68_2, hcz68_3, hcz68_4, hcz68_5, hcz68_6, hcz68_7⟩ := cl8 BK379; obtain ⟨hfz68_0, hfz68_1, hfz68_2, hfz68_3, hfz68_4, hfz68_5, hfz68_6, hfz68_7⟩ := fz8 BK379))
          refine bodyPost_ret (results_cell_row rfl _ _ gb379 41 #[.slice Ao66 x387000_5.length co66, .int .i64 (rd y408 t411), .bool x387002_5, .int .i64 x387003_5, .string x387004_5, .int .i64 x387005_5, .int .i64 x387006_5, .int .i64 x387007_5] (0, 0) _ rfl (by (with_reducible repeat (first | refine blk_drewN ?_ _ | refine blk_drew ?_ | refine blk_alloc ?_ _)); refine blk_put (cs := #[.slice Ao66 x387000_5.length co66, .int .i64 (rd y408 t411), .bool x387002_5, .int .i64 x387003_5, .string x387004_5, .int .i64 x387005_5, .int .i64 x387006_5, .int .i64 0]) ?_ 7 _ rfl; (with_reducible repeat (first | refine blk_drewN ?_ _ | refine blk_drew ?_ | refine blk_alloc ?_ _)); refine blk_put (cs := #[.slice Ao66 x387000_5.length co66, .int .i64 (rd y408 t411), .bool x387002_5, .int .i64 x387003_5, .string x387004_5, .int .i64 x387005_5, .int .i64 0, .int .i64 0]) ?_ 6 _ rfl; (with_reducible repeat (first | refine blk_drewN ?_ _ | refine blk_drew ?_ | refine blk_alloc ?_ _)); refine blk_put (cs := #[.slice Ao66 x387000_5.length co66, .int .i64 (rd y408 t411), .bool x387002_5, .int .i64 x387003_5, .string x387004_5, .int .i64 0, .int .i64 0, .int .i64 0]) ?_ 5 _ rfl; (with_reducible repeat (first | refine blk_drewN ?_ _ | refine blk_drew ?_ | refine blk_alloc ?_ _)); refine blk_put (cs := #[.slice Ao66 x387000_5.length co66, .int .i64 (rd y408 t411), .bool x387002_5, .int .i64 x387003_5, .string (⟨#[]⟩ : ByteArray), .int .i64 0, .int .i64 0, .int .i64 0]) ?_ 4 _ rfl; (with_reducible repeat (first | refine blk_drewN ?_ _ | refine blk_drew ?_ | refine blk_alloc ?_ _)); refine blk_put (cs := #[.slice Ao66 x387000_5.length co66, .int .i64 (rd y408 t411), .bool x387002_5, .int .i64 0, .string (⟨#[]⟩ : ByteArray), .int .i64 0, .int .i64 0, .int .i64 0]) ?_ 3 _ rfl; (with_reducible repeat (first | refine blk_drewN ?_ _ | refine blk_drew ?_ | refine blk_alloc ?_ _)); refine blk_put (cs := #[.slice Ao66 x387000_5.length co66, .int .i64 (rd y408 t411), .bool false, .int .i64 0, .string (⟨#[]⟩ : ByteArray), .int .i64 0, .int .i64 0, .int .i64 0]) ?_ 2 _ rfl; (with_reducible repeat (first | refine blk_drewN ?_ _ | refine blk_drew ?_ | refine blk_alloc ?_ _)); refine blk_put (cs := #[.slice Ao66 x387000_5.length co66, .int .i64 0, .bool false, .int .i64 0, .string (⟨#[]⟩ : ByteArray), .int .i64 0, .int .i64 0, .int .i64 0]) ?_ 1 _ rfl; (with_reducible repeat (first | refine blk_drewN ?_ _ | refine blk_drew ?_ | refine blk_alloc ?_ _)); refine blk_put (cs := #[.slice none 0 0, .int .i64 0, .bool false, .int .i64 0, .string (⟨#[]⟩ : ByteArray), .int .i64 0, .int .i64 0, .int .i64 0]) ?_ 0 _ rfl; (with_reducible repeat (first | refine blk_drewN ?_ _ | refine blk_drew ?_ | refine blk_alloc ?_ _)); refine blk_far ?_ NB379_386.out _; (with_reducible repeat (first | refine blk_drewN ?_ _ | refine blk_drew ?_ | refine blk_alloc ?_ _)); exact BK379.out) Try.underlying41 rfl (by kernel_rfl)) rfl ?_
          exact ⟨_, by first | rfl | (simp only [u8w, w64m]; rfl) | (simp [errW_none, errW_some] <;> rfl) | (simp [*, errW_none, errW_some] <;> rfl), by (with_reducible repeat (first | apply Kd.R_alloc | apply Kd.R_drewN | apply Kd.R_drew)); exact Kd.R_mono (kf 7 (kf 6 (kf 5 (kf 4 (kf 3 (kf 2 (kf 1 (kf 0 (Kd.R_far  (p := ⟨gb386, 1, none⟩) (Kd.R_types (Kd.R_types HO_387000.out BK386.out (by decide)) BK379.out (by decide)) (fun _ hk => hk.1.2) (.int .i64 (rd y408 t411))) (.slice Ao66 x387000_5.length co66)) (.int .i64 (rd y408 t411))) (.bool x387002_5)) (.int .i64 x387003_5)) (.string x387004_5)) (.int .i64 x387005_5)) (.int .i64 x387006_5)) (.int .i64 x387007_5)) (fun _ hk => trivial), IsS131.run HI0, IsS131.bz HI0, by repeat (first | (with_reducible first | exact HK.out | apply KeepBut.set_ | apply keep_drewN | apply keep_drew | apply keep_alloc | refine keep_far ?_ GW379.out _ | refine keep_far ?_ GW386.out _) | exact HK.out)⟩
         ·
          rw [if_neg c56] at H
          exact absurd H (by simp)
        ·
         rw [if_neg c55] at H
         exact absurd H (by simp)
       ·
        rw [if_neg c53] at H
        have c53b0 : (t402 == 1) = false := beq_eq_false_iff_ne.mpr c53
        have c53b1 : (t402 != 1) = true := bne_iff_ne.mpr c53
        by_cases c69 : t402 = 2
        ·
         rw [if_pos c69] at H
         have c69b0 : (t402 == 2) = true := beq_iff_eq.mpr c69
         have c69b1 : (t402 != 2) = false := bne_eq_false_iff_eq.mpr c69
         clear c69
         simp only [Option.some.injEq, Prod.mk.injEq] at H
         obtain ⟨rfl, rfl, rfl, rfl, rfl, rfl, rfl, rfl, rfl⟩ := H
         go_wp2_with (first | ((with_reducible refine gate_callee (f := 126) rfl ?_); refine goesL_ (some 30) rfl rfl Try.func126 (by kernel_rfl) rfl #[.pointer (some ⟨g, 0, none⟩), .int .i64 a1] rfl ga ?_; (with_reducible refine (spec_l20Rd_odd.calls kj32 g s0_0 t399 a1 true t401 w0 _ ?side1 ?side2 A39.out).mono ?_); (case side1 => exact IsS131.run HI0); (case side2 => repeat (first | (with_reducible first | exact HB.out | apply below_alloc | apply pw_below_drewN | apply below_drew1 | refine below_set ?_ (IsS131.ge HI0.out) | refine below_set ?_ GE379.out | refine below_set ?_ GE386.out) | exact HB.out)); rintro e w70 ⟨rfl, hi, hb, hk⟩; refine ⟨_, rfl, ?_⟩; have n0_ := Aside0.mk (Kd.R_mono (Kd.R_keep (IsS131.apart (show IsS131 w0 _ g s0_0 t399 from IsS131.run HI0) (by (with_reducible repeat (first | apply Kd.R_alloc | apply Kd.R_drewN | apply Kd.R_drew)); exact HO_387000.out) (by decide)) hk (fun _ h => h.2)) (fun _ h => h.1)); have n1_ := Aside0.mk (KeepBut.blk hk (g' := gb379) (o := .cells #[.slice none 0 0, .int .i64 0, .bool false, .int .i64 0, .string (⟨#[]⟩ : ByteArray), .int .i64 0, .int .i64 0, .int .i64 0] 41 (0, 0)) (bq BK379) NB379_0.out (by simp)); have n2_ := Aside0.mk (KeepBut.blk hk (g' := gb386) (o := .cells #[u387000, .int .i64 x387001_32, .bool x387002_5, .int .i64 x387003_5, .string x387004_5, .int .i64 x387005_5, .int .i64 x387006_5, .int .i64 x387007_5] 41 (0, 0)) (bq BK386) NB386_0.out (by simp)); have n3_ := Aside0.mk (KeepBut.trans (by repeat (first | (with_reducible first | exact HK.out | apply KeepBut.set_ | apply keep_drewN | apply keep_drew | apply keep_alloc | refine keep_far ?_ GW379.out _ | refine keep_far ?_ GW386.out _) | exact HK.out)) hk (.inl rfl)); have n4_ := Aside0.mk (hb); have n5_ := Aside0.mk (hi); clear HO_387000 BK379 BK386 HK HB HI0; have HO_387000 := n0_; have BK379 := n1_; have BK386 := n2_; have HK := n3_; have HB := n4_; have HI0 := n5_; clear n0_ n1_ n2_ n3_ n4_ n5_; (try clear hb); (try clear hb2); (try clear hk); (try clear hi)) | ((with_reducible refine gate_callee (f := 72) rfl ?_); refine goesL_ (some 32) rfl rfl Try.func72 (by kernel_rfl) rfl #[.pointer (some ⟨g, 0, none⟩), .int .i64 6] rfl ga ?_; (with_reducible refine (spec_l20Rd_pick.calls kj32 g s0_0 t401 6 t402 t403 w0 _ ?side1 ?side2 A41.out).mono ?_); (case side1 => exact IsS131.run HI0); (case side2 => repeat (first | (with_reducible first | exact HB.out | apply below_alloc | apply pw_below_drewN | apply below_drew1 | refine below_set ?_ (IsS131.ge HI0.out) | refine below_set ?_ GE379.out | refine below_set ?_ GE386.out) | exact HB.out)); rintro e w71 ⟨rfl, hi, hb, hk⟩; refine ⟨_, rfl, ?_⟩; have n0_ := Aside0.mk (Kd.R_mono (Kd.R_keep (IsS131.apart (show IsS131 w0 _ g s0_0 t401 from IsS131.run HI0) (by (with_reducible repeat (first | apply Kd.R_alloc | apply Kd.R_drewN | apply Kd.R_drew)); exact HO_387000.out) (by decide)) hk (fun _ h => h.2)) (fun _ h => h.1)); have n1_ := Aside0.mk (KeepBut.blk hk (g' := gb379) (o := .cells #[.slice none 0 0, .int .i64 0, .bool false, .int .i64 0, .string (⟨#[]⟩ : ByteArray), .int .i64 0, .int .i64 0, .int .i64 0] 41 (0, 0)) (bq BK379) NB379_0.out (by simp)); have n2_ := Aside0.mk (KeepBut.blk hk (g' := gb386) (o := .cells #[u387000, .int .i64 x387001_32, .bool x387002_5, .int .i64 x387003_5, .string x387004_5, .int .i64 x387005_5, .int .i64 x387006_5, .int .i64 x387007_5] 41 (0, 0)) (bq BK386) NB386_0.out (by simp)); have n3_ := Aside0.mk (KeepBut.trans (by repeat (first | (with_reducible first | exact HK.out | apply KeepBut.set_ | apply keep_drewN | apply keep_drew | apply keep_alloc | refine keep_far ?_ GW379.out _ | refine keep_far ?_ GW386.out _) | exact HK.out)) hk (.inl rfl)); have n4_ := Aside0.mk (hb); have n5_ := Aside0.mk (hi); clear HO_387000 BK379 BK386 HK HB HI0; have HO_387000 := n0_; have BK379 := n1_; have BK386 := n2_; have HK := n3_; have HB := n4_; have HI0 := n5_; clear n0_ n1_ n2_ n3_ n4_ n5_; (try clear hb); (try clear hb2); (try clear hk); (try clear hi); have hnb72 := NB386_379.out; have hnc72 := NB379_386.out; have hnb73 := NB386_0.out; have hnc73 := NB0_386.out; obtain ⟨hcz74_0, hcz74_1, hcz74_2, hcz74_3, hcz74_4, hcz74_5, hcz74_6, hcz74_7⟩ := cl8 BK386; obtain ⟨hfz74_0, hfz74_1, hfz74_2, hfz74_3, hfz74_4, hfz74_5, hfz74_6, hfz74_7⟩ := fz8 BK386; obtain ⟨Ao75, co75, eo75⟩ := Kd.R_slice HO_387000.out; subst eo75; have hnb76 := NB379_0.out; have hnc76 := NB0_379.out; obtain ⟨hcz77_0, hcz77_1, hcz77_2, hcz77_3, hcz77_4, hcz77_5, hcz77_6, hcz77_7⟩ := cl8 BK379; obtain ⟨hfz77_0, hfz77_1, hfz77_2, hfz77_3, hfz77_4, hfz77_5, hfz77_6, hfz77_7⟩ := fz8 BK379))
         refine bodyPost_ret (results_cell_row rfl _ _ gb379 41 #[.slice Ao75 x387000_5.length co75, .int .i64 x387001_32, .bool x387002_5, .int .i64 5, .string (⟨#[]⟩ : ByteArray), .int .i64 0, .int .i64 0, .int .i64 x387007_5] (0, 0) _ rfl (by (with_reducible repeat (first | refine blk_drewN ?_ _ | refine blk_drew ?_ | refine blk_alloc ?_ _)); refine blk_put (cs := #[.slice Ao75 x387000_5.length co75, .int .i64 x387001_32, .bool x387002_5, .int .i64 5, .string (⟨#[]⟩ : ByteArray), .int .i64 0, .int .i64 0, .int .i64 0]) ?_ 7 _ rfl; (with_reducible repeat (first | refine blk_drewN ?_ _ | refine blk_drew ?_ | refine blk_alloc ?_ _)); refine blk_put (cs := #[.slice Ao75 x387000_5.length co75, .int .i64 x387001_32, .bool x387002_5, .int .i64 5, .string (⟨#[]⟩ : ByteArray), .int .i64 0, .int .i64 0, .int .i64 0]) ?_ 6 _ rfl; (with_reducible repeat (first | refine blk_drewN ?_ _ | refine blk_drew ?_ | refine blk_alloc ?_ _)); refine blk_put (cs := #[.slice Ao75 x387000_5.length co75, .int .i64 x387001_32, .bool x387002_5, .int .i64 5, .string (⟨#[]⟩ : ByteArray), .int .i64 0, .int .i64 0, .int .i64 0]) ?_ 5 _ rfl; (with_reducible repeat (first | refine blk_drewN ?_ _ | refine blk_drew ?_ | refine blk_alloc ?_ _)); refine blk_put (cs := #[.slice Ao75 x387000_5.length co75, .int .i64 x387001_32, .bool x387002_5, .int .i64 5, .string (⟨#[]⟩ : ByteArray), .int .i64 0, .int .i64 0, .int .i64 0]) ?_ 4 _ rfl; (with_reducible repeat (first | refine blk_drewN ?_ _ | refine blk_drew ?_ | refine blk_alloc ?_ _)); refine blk_put (cs := #[.slice Ao75 x387000_5.length co75, .int .i64 x387001_32, .bool x387002_5, .int .i64 0, .string (⟨#[]⟩ : ByteArray), .int .i64 0, .int .i64 0, .int .i64 0]) ?_ 3 _ rfl; (with_reducible repeat (first | refine blk_drewN ?_ _ | refine blk_drew ?_ | refine blk_alloc ?_ _)); refine blk_put (cs := #[.slice Ao75 x387000_5.length co75, .int .i64 x387001_32, .bool false, .int .i64 0, .string (⟨#[]⟩ : ByteArray), .int .i64 0, .int .i64 0, .int .i64 0]) ?_ 2 _ rfl; (with_reducible repeat (first | refine blk_drewN ?_ _ | refine blk_drew ?_ | refine blk_alloc ?_ _)); refine blk_put (cs := #[.slice Ao75 x387000_5.length co75, .int .i64 0, .bool false, .int .i64 0, .string (⟨#[]⟩ : ByteArray), .int .i64 0, .int .i64 0, .int .i64 0]) ?_ 1 _ rfl; (with_reducible repeat (first | refine blk_drewN ?_ _ | refine blk_drew ?_ | refine blk_alloc ?_ _)); refine blk_put (cs := #[.slice none 0 0, .int .i64 0, .bool false, .int .i64 0, .string (⟨#[]⟩ : ByteArray), .int .i64 0, .int .i64 0, .int .i64 0]) ?_ 0 _ rfl; (with_reducible repeat (first | refine blk_drewN ?_ _ | refine blk_drew ?_ | refine blk_alloc ?_ _)); refine blk_far ?_ NB379_386.out _; (with_reducible repeat (first | refine blk_drewN ?_ _ | refine blk_drew ?_ | refine blk_alloc ?_ _)); refine blk_far ?_ NB379_386.out _; (with_reducible repeat (first | refine blk_drewN ?_ _ | refine blk_drew ?_ | refine blk_alloc ?_ _)); refine blk_far ?_ NB379_386.out _; (with_reducible repeat (first | refine blk_drewN ?_ _ | refine blk_drew ?_ | refine blk_alloc ?_ _)); refine blk_far ?_ NB379_386.out _; (with_reducible repeat (first | refine blk_drewN ?_ _ | refine blk_drew ?_ | refine blk_alloc ?_ _)); exact BK379.out) Try.underlying41 rfl (by kernel_rfl)) rfl ?_
         exact ⟨_, by first | rfl | (simp only [u8w, w64m]; rfl) | (simp [errW_none, errW_some] <;> rfl) | (simp [*, errW_none, errW_some] <;> rfl), by (with_reducible repeat (first | apply Kd.R_alloc | apply Kd.R_drewN | apply Kd.R_drew)); exact Kd.R_mono (kf 7 (kf 6 (kf 5 (kf 4 (kf 3 (kf 2 (kf 1 (kf 0 (Kd.R_far  (p := ⟨gb386, 6, none⟩) (Kd.R_far  (p := ⟨gb386, 5, none⟩) (Kd.R_far  (p := ⟨gb386, 4, none⟩) (Kd.R_far  (p := ⟨gb386, 3, none⟩) (Kd.R_types (Kd.R_types HO_387000.out BK386.out (by decide)) BK379.out (by decide)) (fun _ hk => hk.1.2) (.int .i64 5)) (fun _ hk => hk.1.2) (.string (⟨#[]⟩ : ByteArray))) (fun _ hk => hk.1.2) (.int .i64 0)) (fun _ hk => hk.1.2) (.int .i64 0)) (.slice Ao75 x387000_5.length co75)) (.int .i64 x387001_32)) (.bool x387002_5)) (.int .i64 5)) (.string (⟨#[]⟩ : ByteArray))) (.int .i64 0)) (.int .i64 0)) (.int .i64 x387007_5)) (fun _ hk => trivial), IsS131.run HI0, IsS131.bz HI0, by repeat (first | (with_reducible first | exact HK.out | apply KeepBut.set_ | apply keep_drewN | apply keep_drew | apply keep_alloc | refine keep_far ?_ GW379.out _ | refine keep_far ?_ GW386.out _) | exact HK.out)⟩
        ·
         rw [if_neg c69] at H
         have c69b0 : (t402 == 2) = false := beq_eq_false_iff_ne.mpr c69
         have c69b1 : (t402 != 2) = true := bne_iff_ne.mpr c69
         by_cases c78 : t402 = 3
         ·
          rw [if_pos c78] at H
          have c78b0 : (t402 == 3) = true := beq_iff_eq.mpr c78
          have c78b1 : (t402 != 3) = false := bne_eq_false_iff_eq.mpr c78
          clear c78
          simp only [Option.some.injEq, Prod.mk.injEq] at H
          obtain ⟨rfl, rfl, rfl, rfl, rfl, rfl, rfl, rfl, rfl⟩ := H
          go_wp2_with (first | ((with_reducible refine gate_callee (f := 126) rfl ?_); refine goesL_ (some 30) rfl rfl Try.func126 (by kernel_rfl) rfl #[.pointer (some ⟨g, 0, none⟩), .int .i64 a1] rfl ga ?_; (with_reducible refine (spec_l20Rd_odd.calls kj32 g s0_0 t399 a1 true t401 w0 _ ?side1 ?side2 A39.out).mono ?_); (case side1 => exact IsS131.run HI0); (case side2 => repeat (first | (with_reducible first | exact HB.out | apply below_alloc | apply pw_below_drewN | apply below_drew1 | refine below_set ?_ (IsS131.ge HI0.out) | refine below_set ?_ GE379.out | refine below_set ?_ GE386.out) | exact HB.out)); rintro e w79 ⟨rfl, hi, hb, hk⟩; refine ⟨_, rfl, ?_⟩; have n0_ := Aside0.mk (Kd.R_mono (Kd.R_keep (IsS131.apart (show IsS131 w0 _ g s0_0 t399 from IsS131.run HI0) (by (with_reducible repeat (first | apply Kd.R_alloc | apply Kd.R_drewN | apply Kd.R_drew)); exact HO_387000.out) (by decide)) hk (fun _ h => h.2)) (fun _ h => h.1)); have n1_ := Aside0.mk (KeepBut.blk hk (g' := gb379) (o := .cells #[.slice none 0 0, .int .i64 0, .bool false, .int .i64 0, .string (⟨#[]⟩ : ByteArray), .int .i64 0, .int .i64 0, .int .i64 0] 41 (0, 0)) (bq BK379) NB379_0.out (by simp)); have n2_ := Aside0.mk (KeepBut.blk hk (g' := gb386) (o := .cells #[u387000, .int .i64 x387001_32, .bool x387002_5, .int .i64 x387003_5, .string x387004_5, .int .i64 x387005_5, .int .i64 x387006_5, .int .i64 x387007_5] 41 (0, 0)) (bq BK386) NB386_0.out (by simp)); have n3_ := Aside0.mk (KeepBut.trans (by repeat (first | (with_reducible first | exact HK.out | apply KeepBut.set_ | apply keep_drewN | apply keep_drew | apply keep_alloc | refine keep_far ?_ GW379.out _ | refine keep_far ?_ GW386.out _) | exact HK.out)) hk (.inl rfl)); have n4_ := Aside0.mk (hb); have n5_ := Aside0.mk (hi); clear HO_387000 BK379 BK386 HK HB HI0; have HO_387000 := n0_; have BK379 := n1_; have BK386 := n2_; have HK := n3_; have HB := n4_; have HI0 := n5_; clear n0_ n1_ n2_ n3_ n4_ n5_; (try clear hb); (try clear hb2); (try clear hk); (try clear hi)) | ((with_reducible refine gate_callee (f := 72) rfl ?_); refine goesL_ (some 32) rfl rfl Try.func72 (by kernel_rfl) rfl #[.pointer (some ⟨g, 0, none⟩), .int .i64 6] rfl ga ?_; (with_reducible refine (spec_l20Rd_pick.calls kj32 g s0_0 t401 6 t402 t403 w0 _ ?side1 ?side2 A41.out).mono ?_); (case side1 => exact IsS131.run HI0); (case side2 => repeat (first | (with_reducible first | exact HB.out | apply below_alloc | apply pw_below_drewN | apply below_drew1 | refine below_set ?_ (IsS131.ge HI0.out) | refine below_set ?_ GE379.out | refine below_set ?_ GE386.out) | exact HB.out)); rintro e w80 ⟨rfl, hi, hb, hk⟩; refine ⟨_, rfl, ?_⟩; have n0_ := Aside0.mk (Kd.R_mono (Kd.R_keep (IsS131.apart (show IsS131 w0 _ g s0_0 t401 from IsS131.run HI0) (by (with_reducible repeat (first | apply Kd.R_alloc | apply Kd.R_drewN | apply Kd.R_drew)); exact HO_387000.out) (by decide)) hk (fun _ h => h.2)) (fun _ h => h.1)); have n1_ := Aside0.mk (KeepBut.blk hk (g' := gb379) (o := .cells #[.slice none 0 0, .int .i64 0, .bool false, .int .i64 0, .string (⟨#[]⟩ : ByteArray), .int .i64 0, .int .i64 0, .int .i64 0] 41 (0, 0)) (bq BK379) NB379_0.out (by simp)); have n2_ := Aside0.mk (KeepBut.blk hk (g' := gb386) (o := .cells #[u387000, .int .i64 x387001_32, .bool x387002_5, .int .i64 x387003_5, .string x387004_5, .int .i64 x387005_5, .int .i64 x387006_5, .int .i64 x387007_5] 41 (0, 0)) (bq BK386) NB386_0.out (by simp)); have n3_ := Aside0.mk (KeepBut.trans (by repeat (first | (with_reducible first | exact HK.out | apply KeepBut.set_ | apply keep_drewN | apply keep_drew | apply keep_alloc | refine keep_far ?_ GW379.out _ | refine keep_far ?_ GW386.out _) | exact HK.out)) hk (.inl rfl)); have n4_ := Aside0.mk (hb); have n5_ := Aside0.mk (hi); clear HO_387000 BK379 BK386 HK HB HI0; have HO_387000 := n0_; have BK379 := n1_; have BK386 := n2_; have HK := n3_; have HB := n4_; have HI0 := n5_; clear n0_ n1_ n2_ n3_ n4_ n5_; (try clear hb); (try clear hb2); (try clear hk); (try clear hi); have hnb81 := NB386_379.out; have hnc81 := NB379_386.out; have hnb82 := NB386_0.out; have hnc82 := NB0_386.out; obtain ⟨hcz83_0, hcz83_1, hcz83_2, hcz83_3, hcz83_4, hcz83_5, hcz83_6, hcz83_7⟩ := cl8 BK386; obtain ⟨hfz83_0, hfz83_1, hfz83_2, hfz83_3, hfz83_4, hfz83_5, hfz83_6, hfz83_7⟩ := fz8 BK386; obtain ⟨Ao84, co84, eo84⟩ := Kd.R_slice HO_387000.out; subst eo84; have hnb85 := NB379_0.out; have hnc85 := NB0_379.out; obtain ⟨hcz86_0, hcz86_1, hcz86_2, hcz86_3, hcz86_4, hcz86_5, hcz86_6, hcz86_7⟩ := cl8 BK379; obtain ⟨hfz86_0, hfz86_1, hfz86_2, hfz86_3, hfz86_4, hfz86_5, hfz86_6, hfz86_7⟩ := fz8 BK379))
          refine bodyPost_ret (results_cell_row rfl _ _ gb379 41 #[.slice Ao84 x387000_5.length co84, .int .i64 x387001_32, .bool (!x387002_5), .int .i64 x387003_5, .string x387004_5, .int .i64 x387005_5, .int .i64 x387006_5, .int .i64 x387007_5] (0, 0) _ rfl (by (with_reducible repeat (first | refine blk_drewN ?_ _ | refine blk_drew ?_ | refine blk_alloc ?_ _)); refine blk_put (cs := #[.slice Ao84 x387000_5.length co84, .int .i64 x387001_32, .bool (!x387002_5), .int .i64 x387003_5, .string x387004_5, .int .i64 x387005_5, .int .i64 x387006_5, .int .i64 0]) ?_ 7 _ rfl; (with_reducible repeat (first | refine blk_drewN ?_ _ | refine blk_drew ?_ | refine blk_alloc ?_ _)); refine blk_put (cs := #[.slice Ao84 x387000_5.length co84, .int .i64 x387001_32, .bool (!x387002_5), .int .i64 x387003_5, .string x387004_5, .int .i64 x387005_5, .int .i64 0, .int .i64 0]) ?_ 6 _ rfl; (with_reducible repeat (first | refine blk_drewN ?_ _ | refine blk_drew ?_ | refine blk_alloc ?_ _)); refine blk_put (cs := #[.slice Ao84 x387000_5.length co84, .int .i64 x387001_32, .bool (!x387002_5), .int .i64 x387003_5, .string x387004_5, .int .i64 0, .int .i64 0, .int .i64 0]) ?_ 5 _ rfl; (with_reducible repeat (first | refine blk_drewN ?_ _ | refine blk_drew ?_ | refine blk_alloc ?_ _)); refine blk_put (cs := #[.slice Ao84 x387000_5.length co84, .int .i64 x387001_32, .bool (!x387002_5), .int .i64 x387003_5, .string (⟨#[]⟩ : ByteArray), .int .i64 0, .int .i64 0, .int .i64 0]) ?_ 4 _ rfl; (with_reducible repeat (first | refine blk_drewN ?_ _ | refine blk_drew ?_ | refine blk_alloc ?_ _)); refine blk_put (cs := #[.slice Ao84 x387000_5.length co84, .int .i64 x387001_32, .bool (!x387002_5), .int .i64 0, .string (⟨#[]⟩ : ByteArray), .int .i64 0, .int .i64 0, .int .i64 0]) ?_ 3 _ rfl; (with_reducible repeat (first | refine blk_drewN ?_ _ | refine blk_drew ?_ | refine blk_alloc ?_ _)); refine blk_put (cs := #[.slice Ao84 x387000_5.length co84, .int .i64 x387001_32, .bool false, .int .i64 0, .string (⟨#[]⟩ : ByteArray), .int .i64 0, .int .i64 0, .int .i64 0]) ?_ 2 _ rfl; (with_reducible repeat (first | refine blk_drewN ?_ _ | refine blk_drew ?_ | refine blk_alloc ?_ _)); refine blk_put (cs := #[.slice Ao84 x387000_5.length co84, .int .i64 0, .bool false, .int .i64 0, .string (⟨#[]⟩ : ByteArray), .int .i64 0, .int .i64 0, .int .i64 0]) ?_ 1 _ rfl; (with_reducible repeat (first | refine blk_drewN ?_ _ | refine blk_drew ?_ | refine blk_alloc ?_ _)); refine blk_put (cs := #[.slice none 0 0, .int .i64 0, .bool false, .int .i64 0, .string (⟨#[]⟩ : ByteArray), .int .i64 0, .int .i64 0, .int .i64 0]) ?_ 0 _ rfl; (with_reducible repeat (first | refine blk_drewN ?_ _ | refine blk_drew ?_ | refine blk_alloc ?_ _)); refine blk_far ?_ NB379_386.out _; (with_reducible repeat (first | refine blk_drewN ?_ _ | refine blk_drew ?_ | refine blk_alloc ?_ _)); exact BK379.out) Try.underlying41 rfl (by kernel_rfl)) rfl ?_
          exact ⟨_, by first | rfl | (simp only [u8w, w64m]; rfl) | (simp [errW_none, errW_some] <;> rfl) | (simp [*, errW_none, errW_some] <;> rfl), by (with_reducible repeat (first | apply Kd.R_alloc | apply Kd.R_drewN | apply Kd.R_drew)); exact Kd.R_mono (kf 7 (kf 6 (kf 5 (kf 4 (kf 3 (kf 2 (kf 1 (kf 0 (Kd.R_far  (p := ⟨gb386, 2, none⟩) (Kd.R_types (Kd.R_types HO_387000.out BK386.out (by decide)) BK379.out (by decide)) (fun _ hk => hk.1.2) (.bool (!x387002_5))) (.slice Ao84 x387000_5.length co84)) (.int .i64 x387001_32)) (.bool (!x387002_5))) (.int .i64 x387003_5)) (.string x387004_5)) (.int .i64 x387005_5)) (.int .i64 x387006_5)) (.int .i64 x387007_5)) (fun _ hk => trivial), IsS131.run HI0, IsS131.bz HI0, by repeat (first | (with_reducible first | exact HK.out | apply KeepBut.set_ | apply keep_drewN | apply keep_drew | apply keep_alloc | refine keep_far ?_ GW379.out _ | refine keep_far ?_ GW386.out _) | exact HK.out)⟩
         ·
          rw [if_neg c78] at H
          have c78b0 : (t402 == 3) = false := beq_eq_false_iff_ne.mpr c78
          have c78b1 : (t402 != 3) = true := bne_iff_ne.mpr c78
          by_cases c87 : t402 = 4
          ·
           rw [if_pos c87] at H
           have c87b0 : (t402 == 4) = true := beq_iff_eq.mpr c87
           have c87b1 : (t402 != 4) = false := bne_eq_false_iff_eq.mpr c87
           clear c87
           obtain ⟨y414, hy414⟩ : ∃ y_ : List Int, y_ = (([(-1), 201] : List Int)) := ⟨_, rfl⟩
           replace H : ((spec_l20Rd_pick.f kj32 s0_0 t403 2).bind fun bt417 => (if 0 ≤ bt417.1 then (if bt417.1 < (y414.length : Int) then (some (x387000_5, x387001_32, x387002_5, x387003_5, x387004_5, x387005_5, x387006_5, rd y414 bt417.1, bt417.2)) else (none)) else (none))) = some (r1, r2, r3, r4, r5, r6, r7, r8, r9) := by first | (rw [hy414]; with_reducible exact H) | (have H2_ := (Option.bind_some _ _).symm.trans H; rw [hy414]; with_reducible exact H2_) | (have H2_ := (Option.bind_some _ _).symm.trans H; with_reducible exact H2_) | with_reducible exact H | (rw [hy414]; exact H) | exact H
           have Ny414 := Aside0.mk hy414
           clear hy414
           replace H := Option.bind_eq_some_iff.mp H
           obtain ⟨⟨t417, t418⟩, A880, H⟩ := H
           try dsimp only at H
           have A88 := Aside0.mk A880
           clear A880
           by_cases c89 : 0 ≤ t417
           ·
            rw [if_pos c89] at H
            have c89b0 : decide (0 ≤ t417) = true := decide_eq_true c89
            clear c89
            by_cases c90 : t417 < (y414.length : Int)
            ·
             rw [if_pos c90] at H
             have c90b0 : decide (t417 < (y414.length : Int)) = true := decide_eq_true c90
             clear c90
             simp only [Option.some.injEq, Prod.mk.injEq] at H
             obtain ⟨rfl, rfl, rfl, rfl, rfl, rfl, rfl, rfl, rfl⟩ := H
             go_wp2_with (first | ((with_reducible refine gate_callee (f := 126) rfl ?_); refine goesL_ (some 30) rfl rfl Try.func126 (by kernel_rfl) rfl #[.pointer (some ⟨g, 0, none⟩), .int .i64 a1] rfl ga ?_; (with_reducible refine (spec_l20Rd_odd.calls kj32 g s0_0 t399 a1 true t401 w0 _ ?side1 ?side2 A39.out).mono ?_); (case side1 => exact IsS131.run HI0); (case side2 => repeat (first | (with_reducible first | exact HB.out | apply below_alloc | apply pw_below_drewN | apply below_drew1 | refine below_set ?_ (IsS131.ge HI0.out) | refine below_set ?_ GE379.out | refine below_set ?_ GE386.out) | exact HB.out)); rintro e w91 ⟨rfl, hi, hb, hk⟩; refine ⟨_, rfl, ?_⟩; have n0_ := Aside0.mk (Kd.R_mono (Kd.R_keep (IsS131.apart (show IsS131 w0 _ g s0_0 t399 from IsS131.run HI0) (by (with_reducible repeat (first | apply Kd.R_alloc | apply Kd.R_drewN | apply Kd.R_drew)); exact HO_387000.out) (by decide)) hk (fun _ h => h.2)) (fun _ h => h.1)); have n1_ := Aside0.mk (KeepBut.blk hk (g' := gb379) (o := .cells #[.slice none 0 0, .int .i64 0, .bool false, .int .i64 0, .string (⟨#[]⟩ : ByteArray), .int .i64 0, .int .i64 0, .int .i64 0] 41 (0, 0)) (bq BK379) NB379_0.out (by simp)); have n2_ := Aside0.mk (KeepBut.blk hk (g' := gb386) (o := .cells #[u387000, .int .i64 x387001_32, .bool x387002_5, .int .i64 x387003_5, .string x387004_5, .int .i64 x387005_5, .int .i64 x387006_5, .int .i64 x387007_5] 41 (0, 0)) (bq BK386) NB386_0.out (by simp)); have n3_ := Aside0.mk (KeepBut.trans (by repeat (first | (with_reducible first | exact HK.out | apply KeepBut.set_ | apply keep_drewN | apply keep_drew | apply keep_alloc | refine keep_far ?_ GW379.out _ | refine keep_far ?_ GW386.out _) | exact HK.out)) hk (.inl rfl)); have n4_ := Aside0.mk (hb); have n5_ := Aside0.mk (hi); clear HO_387000 BK379 BK386 HK HB HI0; have HO_387000 := n0_; have BK379 := n1_; have BK386 := n2_; have HK := n3_; have HB := n4_; have HI0 := n5_; clear n0_ n1_ n2_ n3_ n4_ n5_; (try clear hb); (try clear hb2); (try clear hk); (try clear hi)) | ((with_reducible refine gate_callee (f := 72) rfl ?_); refine goesL_ (some 32) rfl rfl Try.func72 (by kernel_rfl) rfl #[.pointer (some ⟨g, 0, none⟩), .int .i64 6] rfl ga ?_; (with_reducible refine (spec_l20Rd_pick.calls kj32 g s0_0 t401 6 t402 t403 w0 _ ?side1 ?side2 A41.out).mono ?_); (case side1 => exact IsS131.run HI0); (case side2 => repeat (first | (with_reducible first | exact HB.out | apply below_alloc | apply pw_below_drewN | apply below_drew1 | refine below_set ?_ (IsS131.ge HI0.out) | refine below_set ?_ GE379.out | refine below_set ?_ GE386.out) | exact HB.out)); rintro e w92 ⟨rfl, hi, hb, hk⟩; refine ⟨_, rfl, ?_⟩; have n0_ := Aside0.mk (Kd.R_mono (Kd.R_keep (IsS131.apart (show IsS131 w0 _ g s0_0 t401 from IsS131.run HI0) (by (with_reducible repeat (first | apply Kd.R_alloc | apply Kd.R_drewN | apply Kd.R_drew)); exact HO_387000.out) (by decide)) hk (fun _ h => h.2)) (fun _ h => h.1)); have n1_ := Aside0.mk (KeepBut.blk hk (g' := gb379) (o := .cells #[.slice none 0 0, .int .i64 0, .bool false, .int .i64 0, .string (⟨#[]⟩ : ByteArray), .int .i64 0, .int .i64 0, .int .i64 0] 41 (0, 0)) (bq BK379) NB379_0.out (by simp)); have n2_ := Aside0.mk (KeepBut.blk hk (g' := gb386) (o := .cells #[u387000, .int .i64 x387001_32, .bool x387002_5, .int .i64 x387003_5, .string x387004_5, .int .i64 x387005_5, .int .i64 x387006_5, .int .i64 x387007_5] 41 (0, 0)) (bq BK386) NB386_0.out (by simp)); have n3_ := Aside0.mk (KeepBut.trans (by repeat (first | (with_reducible first | exact HK.out | apply KeepBut.set_ | apply keep_drewN | apply keep_drew | apply keep_alloc | refine keep_far ?_ GW379.out _ | refine keep_far ?_ GW386.out _) | exact HK.out)) hk (.inl rfl)); have n4_ := Aside0.mk (hb); have n5_ := Aside0.mk (hi); clear HO_387000 BK379 BK386 HK HB HI0; have HO_387000 := n0_; have BK379 := n1_; have BK386 := n2_; have HK := n3_; have HB := n4_; have HI0 := n5_; clear n0_ n1_ n2_ n3_ n4_ n5_; (try clear hb); (try clear hb2); (try clear hk); (try clear hi)) | ((with_reducible refine gate_dst (N := 60) rfl ?_); refine Kd.R_lit (Kd.int .i64) _ 3 ?hg (N := 60) ?hd (xs := ([(-1), 201] : List Int)) (inner := [.int .i64 (-1), .int .i64 201]) (ok := fun _ => True) (okp := fun _ => True) ?hr ?hp (fun _ hk => hk) trivial (Below.refl _ _) (Nat.le_refl _) (by simp) ?_; (case hd => rfl); (case hg => rfl); (case hr => first | (go_simp; done) | (go_simp; rfl)); (case hp => exact (Reps.one (show Kd.M (Kd.int .i64) _ _ _ (-1) [.int .i64 (-1)] from rfl) (Reps.one (show Kd.M (Kd.int .i64) _ _ _ 201 [.int .i64 201] from rfl) (Reps.none _ _)))); intro v415 w93 ho94 hb hg_ hnew_; clear hg_ hnew_; (first | rw [← Ny414.out] at ho94 | (simp only [Int.reduceToNat] at ho94; rw [← Ny414.out] at ho94)); have n0_ := rbl HO_387000 hb; have n1_ := Aside0.mk (Kd.R_lower ho94 (keep_size (w := w) (g := g) (row := none) (by repeat (first | (with_reducible first | exact HK.out | apply KeepBut.set_ | apply keep_drewN | apply keep_drew | apply keep_alloc | refine keep_far ?_ GW379.out _ | refine keep_far ?_ GW386.out _) | exact HK.out)))); have n2_ := bkb BK379 hb; have n3_ := bkb BK386 hb; have n4_ := Aside0.mk (IsS131.below (IsS131.run HI0) hb); have n5_ := Aside0.mk (KeepBut.trans (by repeat (first | (with_reducible first | exact HK.out | apply KeepBut.set_ | apply keep_drewN | apply keep_drew | apply keep_alloc | refine keep_far ?_ GW379.out _ | refine keep_far ?_ GW386.out _) | exact HK.out)) (KeepBut.of_below hb g none) (.inl rfl)); have n6_ := Aside0.mk (below_step (IsS131.bz HI0) hb); clear HO_387000 BK379 BK386 HI0 HK HB; have HO_387000 := n0_; have HO416 := n1_; have BK379 := n2_; have BK386 := n3_; have HI0 := n4_; have HK := n5_; have HB := n6_; clear n0_ n1_ n2_ n3_ n4_ n5_ n6_; clear hb ho94) | ((with_reducible refine gate_callee (f := 72) rfl ?_); refine goesL_ (some 62) rfl rfl Try.func72 (by kernel_rfl) rfl #[.pointer (some ⟨g, 0, none⟩), .int .i64 2] rfl ga ?_; (with_reducible refine (spec_l20Rd_pick.calls kj32 g s0_0 t403 2 t417 t418 w0 _ ?side1 ?side2 A88.out).mono ?_); (case side1 => exact IsS131.run HI0); (case side2 => repeat (first | (with_reducible first | exact HB.out | apply below_alloc | apply pw_below_drewN | apply below_drew1 | refine below_set ?_ (IsS131.ge HI0.out) | refine below_set ?_ GE379.out | refine below_set ?_ GE386.out) | exact HB.out)); rintro e w95 ⟨rfl, hi, hb, hk⟩; refine ⟨_, rfl, ?_⟩; have n0_ := Aside0.mk (Kd.R_mono (Kd.R_keep (IsS131.apart (show IsS131 w0 _ g s0_0 t403 from IsS131.run HI0) (by (with_reducible repeat (first | apply Kd.R_alloc | apply Kd.R_drewN | apply Kd.R_drew)); exact HO_387000.out) (by decide)) hk (fun _ h => h.2)) (fun _ h => h.1)); have n1_ := Aside0.mk (KeepBut.blk hk (g' := gb379) (o := .cells #[.slice none 0 0, .int .i64 0, .bool false, .int .i64 0, .string (⟨#[]⟩ : ByteArray), .int .i64 0, .int .i64 0, .int .i64 0] 41 (0, 0)) (bq BK379) NB379_0.out (by simp)); have n2_ := Aside0.mk (KeepBut.blk hk (g' := gb386) (o := .cells #[u387000, .int .i64 x387001_32, .bool x387002_5, .int .i64 x387003_5, .string x387004_5, .int .i64 x387005_5, .int .i64 x387006_5, .int .i64 x387007_5] 41 (0, 0)) (bq BK386) NB386_0.out (by simp)); have n3_ := Aside0.mk (Kd.R_mono (Kd.R_keep (IsS131.apart (show IsS131 w0 _ g s0_0 t403 from IsS131.run HI0) (by (with_reducible repeat (first | apply Kd.R_alloc | apply Kd.R_drewN | apply Kd.R_drew)); exact HO416.out) (by decide)) hk (fun _ h => h.2)) (fun _ h => h.1)); have n4_ := Aside0.mk (KeepBut.trans (by repeat (first | (with_reducible first | exact HK.out | apply KeepBut.set_ | apply keep_drewN | apply keep_drew | apply keep_alloc | refine keep_far ?_ GW379.out _ | refine keep_far ?_ GW386.out _) | exact HK.out)) hk (.inl rfl)); have n5_ := Aside0.mk (hb); have n6_ := Aside0.mk (hi); clear HO_387000 BK379 BK386 HO416 HK HB HI0; have HO_387000 := n0_; have BK379 := n1_; have BK386 := n2_; have HO416 := n3_; have HK := n4_; have HB := n5_; have HI0 := n6_; clear n0_ n1_ n2_ n3_ n4_ n5_ n6_; (try clear hb); (try clear hb2); (try clear hk); (try clear hi); obtain ⟨Ao96, co96, eo96⟩ := Kd.R_slice HO416.out; subst eo96; have p419 : 0 ≤ (t417 : Int) := of_decide_eq_true (by first | (with_reducible assumption) | assumption); have q419 : t417 < (y414.length : Int) := of_decide_eq_true (by first | (with_reducible assumption) | assumption); obtain ⟨ad419, e419, hx419_0⟩ := Kd.at_int (Kd.R_reads' HO416.out).2.2 t417 p419 q419; cases e419; replace p419 := eq_true p419; replace q419 := eq_true q419; have hnb97 := NB386_379.out; have hnc97 := NB379_386.out; have hnb98 := NB386_0.out; have hnc98 := NB0_386.out; obtain ⟨hcz99_0, hcz99_1, hcz99_2, hcz99_3, hcz99_4, hcz99_5, hcz99_6, hcz99_7⟩ := cl8 BK386; obtain ⟨hfz99_0, hfz99_1, hfz99_2, hfz99_3, hfz99_4, hfz99_5, hfz99_6, hfz99_7⟩ := fz8 BK386; obtain ⟨Ao100, co100, eo100⟩ := Kd.R_slice HO_387000.out; subst eo100; have hnb101 := NB379_0.out; have hnc101 := NB0_379.out; obtain ⟨hcz102_0, hcz102_1, hcz102_2, hcz102_3, hcz102_4, hcz102_5, hcz102_6, hcz102_7⟩ := cl8 BK379; obtain ⟨hfz102_0, hfz102_1, hfz102_2, hfz102_3, hfz102_4, hfz102_5, hfz102_6, hfz102_7⟩ := fz8 BK379))
             refine bodyPost_ret (results_cell_row rfl _ _ gb379 41 #[.slice Ao100 x387000_5.length co100, .int .i64 x387001_32, .bool x387002_5, .int .i64 x387003_5, .string x387004_5, .int .i64 x387005_5, .int .i64 x387006_5, .int .i64 (rd y414 t417)] (0, 0) _ rfl (by (with_reducible repeat (first | refine blk_drewN ?_ _ | refine blk_drew ?_ | refine blk_alloc ?_ _)); refine blk_put (cs := #[.slice Ao100 x387000_5.length co100, .int .i64 x387001_32, .bool x387002_5, .int .i64 x387003_5, .string x387004_5, .int .i64 x387005_5, .int .i64 x387006_5, .int .i64 0]) ?_ 7 _ rfl; (with_reducible repeat (first | refine blk_drewN ?_ _ | refine blk_drew ?_ | refine blk_alloc ?_ _)); refine blk_put (cs := #[.slice Ao100 x387000_5.length co100, .int .i64 x387001_32, .bool x387002_5, .int .i64 x387003_5, .string x387004_5, .int .i64 x387005_5, .int .i64 0, .int .i64 0]) ?_ 6 _ rfl; (with_reducible repeat (first | refine blk_drewN ?_ _ | refine blk_drew ?_ | refine blk_alloc ?_ _)); refine blk_put (cs := #[.slice Ao100 x387000_5.length co100, .int .i64 x387001_32, .bool x387002_5, .int .i64 x387003_5, .string x387004_5, .int .i64 0, .int .i64 0, .int .i64 0]) ?_ 5 _ rfl; (with_reducible repeat (first | refine blk_drewN ?_ _ | refine blk_drew ?_ | refine blk_alloc ?_ _)); refine blk_put (cs := #[.slice Ao100 x387000_5.length co100, .int .i64 x387001_32, .bool x387002_5, .int .i64 x387003_5, .string (⟨#[]⟩ : ByteArray), .int .i64 0, .int .i64 0, .int .i64 0]) ?_ 4 _ rfl; (with_reducible repeat (first | refine blk_drewN ?_ _ | refine blk_drew ?_ | refine blk_alloc ?_ _)); refine blk_put (cs := #[.slice Ao100 x387000_5.length co100, .int .i64 x387001_32, .bool x387002_5, .int .i64 0, .string (⟨#[]⟩ : ByteArray), .int .i64 0, .int .i64 0, .int .i64 0]) ?_ 3 _ rfl; (with_reducible repeat (first | refine blk_drewN ?_ _ | refine blk_drew ?_ | refine blk_alloc ?_ _)); refine blk_put (cs := #[.slice Ao100 x387000_5.length co100, .int .i64 x387001_32, .bool false, .int .i64 0, .string (⟨#[]⟩ : ByteArray), .int .i64 0, .int .i64 0, .int .i64 0]) ?_ 2 _ rfl; (with_reducible repeat (first | refine blk_drewN ?_ _ | refine blk_drew ?_ | refine blk_alloc ?_ _)); refine blk_put (cs := #[.slice Ao100 x387000_5.length co100, .int .i64 0, .bool false, .int .i64 0, .string (⟨#[]⟩ : ByteArray), .int .i64 0, .int .i64 0, .int .i64 0]) ?_ 1 _ rfl; (with_reducible repeat (first | refine blk_drewN ?_ _ | refine blk_drew ?_ | refine blk_alloc ?_ _)); refine blk_put (cs := #[.slice none 0 0, .int .i64 0, .bool false, .int .i64 0, .string (⟨#[]⟩ : ByteArray), .int .i64 0, .int .i64 0, .int .i64 0]) ?_ 0 _ rfl; (with_reducible repeat (first | refine blk_drewN ?_ _ | refine blk_drew ?_ | refine blk_alloc ?_ _)); refine blk_far ?_ NB379_386.out _; (with_reducible repeat (first | refine blk_drewN ?_ _ | refine blk_drew ?_ | refine blk_alloc ?_ _)); exact BK379.out) Try.underlying41 rfl (by kernel_rfl)) rfl ?_
             exact ⟨_, by first | rfl | (simp only [u8w, w64m]; rfl) | (simp [errW_none, errW_some] <;> rfl) | (simp [*, errW_none, errW_some] <;> rfl), by (with_reducible repeat (first | apply Kd.R_alloc | apply Kd.R_drewN | apply Kd.R_drew)); exact Kd.R_mono (kf 7 (kf 6 (kf 5 (kf 4 (kf 3 (kf 2 (kf 1 (kf 0 (Kd.R_far  (p := ⟨gb386, 7, none⟩) (Kd.R_types (Kd.R_types HO_387000.out BK386.out (by decide)) BK379.out (by decide)) (fun _ hk => hk.1.2) (.int .i64 (rd y414 t417))) (.slice Ao100 x387000_5.length co100)) (.int .i64 x387001_32)) (.bool x387002_5)) (.int .i64 x387003_5)) (.string x387004_5)) (.int .i64 x387005_5)) (.int .i64 x387006_5)) (.int .i64 (rd y414 t417))) (fun _ hk => trivial), IsS131.run HI0, IsS131.bz HI0, by repeat (first | (with_reducible first | exact HK.out | apply KeepBut.set_ | apply keep_drewN | apply keep_drew | apply keep_alloc | refine keep_far ?_ GW379.out _ | refine keep_far ?_ GW386.out _) | exact HK.out)⟩
            ·
             rw [if_neg c90] at H
             exact absurd H (by simp)
           ·
            rw [if_neg c89] at H
            exact absurd H (by simp)
          ·
           rw [if_neg c87] at H
           have c87b0 : (t402 == 4) = false := beq_eq_false_iff_ne.mpr c87
           have c87b1 : (t402 != 4) = true := bne_iff_ne.mpr c87
           simp only [Option.some.injEq, Prod.mk.injEq] at H
           obtain ⟨rfl, rfl, rfl, rfl, rfl, rfl, rfl, rfl, rfl⟩ := H
           go_wp2_with (first | ((with_reducible refine gate_callee (f := 126) rfl ?_); refine goesL_ (some 30) rfl rfl Try.func126 (by kernel_rfl) rfl #[.pointer (some ⟨g, 0, none⟩), .int .i64 a1] rfl ga ?_; (with_reducible refine (spec_l20Rd_odd.calls kj32 g s0_0 t399 a1 true t401 w0 _ ?side1 ?side2 A39.out).mono ?_); (case side1 => exact IsS131.run HI0); (case side2 => repeat (first | (with_reducible first | exact HB.out | apply below_alloc | apply pw_below_drewN | apply below_drew1 | refine below_set ?_ (IsS131.ge HI0.out) | refine below_set ?_ GE379.out | refine below_set ?_ GE386.out) | exact HB.out)); rintro e w103 ⟨rfl, hi, hb, hk⟩; refine ⟨_, rfl, ?_⟩; have n0_ := Aside0.mk (Kd.R_mono (Kd.R_keep (IsS131.apart (show IsS131 w0 _ g s0_0 t399 from IsS131.run HI0) (by (with_reducible repeat (first | apply Kd.R_alloc | apply Kd.R_drewN | apply Kd.R_drew)); exact HO_387000.out) (by decide)) hk (fun _ h => h.2)) (fun _ h => h.1)); have n1_ := Aside0.mk (KeepBut.blk hk (g' := gb379) (o := .cells #[.slice none 0 0, .int .i64 0, .bool false, .int .i64 0, .string (⟨#[]⟩ : ByteArray), .int .i64 0, .int .i64 0, .int .i64 0] 41 (0, 0)) (bq BK379) NB379_0.out (by simp)); have n2_ := Aside0.mk (KeepBut.blk hk (g' := gb386) (o := .cells #[u387000, .int .i64 x387001_32, .bool x387002_5, .int .i64 x387003_5, .string x387004_5, .int .i64 x387005_5, .int .i64 x387006_5, .int .i64 x387007_5] 41 (0, 0)) (bq BK386) NB386_0.out (by simp)); have n3_ := Aside0.mk (KeepBut.trans (by repeat (first | (with_reducible first | exact HK.out | apply KeepBut.set_ | apply keep_drewN | apply keep_drew | apply keep_alloc | refine keep_far ?_ GW379.out _ | refine keep_far ?_ GW386.out _) | exact HK.out)) hk (.inl rfl)); have n4_ := Aside0.mk (hb); have n5_ := Aside0.mk (hi); clear HO_387000 BK379 BK386 HK HB HI0; have HO_387000 := n0_; have BK379 := n1_; have BK386 := n2_; have HK := n3_; have HB := n4_; have HI0 := n5_; clear n0_ n1_ n2_ n3_ n4_ n5_; (try clear hb); (try clear hb2); (try clear hk); (try clear hi)) | ((with_reducible refine gate_callee (f := 72) rfl ?_); refine goesL_ (some 32) rfl rfl Try.func72 (by kernel_rfl) rfl #[.pointer (some ⟨g, 0, none⟩), .int .i64 6] rfl ga ?_; (with_reducible refine (spec_l20Rd_pick.calls kj32 g s0_0 t401 6 t402 t403 w0 _ ?side1 ?side2 A41.out).mono ?_); (case side1 => exact IsS131.run HI0); (case side2 => repeat (first | (with_reducible first | exact HB.out | apply below_alloc | apply pw_below_drewN | apply below_drew1 | refine below_set ?_ (IsS131.ge HI0.out) | refine below_set ?_ GE379.out | refine below_set ?_ GE386.out) | exact HB.out)); rintro e w104 ⟨rfl, hi, hb, hk⟩; refine ⟨_, rfl, ?_⟩; have n0_ := Aside0.mk (Kd.R_mono (Kd.R_keep (IsS131.apart (show IsS131 w0 _ g s0_0 t401 from IsS131.run HI0) (by (with_reducible repeat (first | apply Kd.R_alloc | apply Kd.R_drewN | apply Kd.R_drew)); exact HO_387000.out) (by decide)) hk (fun _ h => h.2)) (fun _ h => h.1)); have n1_ := Aside0.mk (KeepBut.blk hk (g' := gb379) (o := .cells #[.slice none 0 0, .int .i64 0, .bool false, .int .i64 0, .string (⟨#[]⟩ : ByteArray), .int .i64 0, .int .i64 0, .int .i64 0] 41 (0, 0)) (bq BK379) NB379_0.out (by simp)); have n2_ := Aside0.mk (KeepBut.blk hk (g' := gb386) (o := .cells #[u387000, .int .i64 x387001_32, .bool x387002_5, .int .i64 x387003_5, .string x387004_5, .int .i64 x387005_5, .int .i64 x387006_5, .int .i64 x387007_5] 41 (0, 0)) (bq BK386) NB386_0.out (by simp)); have n3_ := Aside0.mk (KeepBut.trans (by repeat (first | (with_reducible first | exact HK.out | apply KeepBut.set_ | apply keep_drewN | apply keep_drew | apply keep_alloc | refine keep_far ?_ GW379.out _ | refine keep_far ?_ GW386.out _) | exact HK.out)) hk (.inl rfl)); have n4_ := Aside0.mk (hb); have n5_ := Aside0.mk (hi); clear HO_387000 BK379 BK386 HK HB HI0; have HO_387000 := n0_; have BK379 := n1_; have BK386 := n2_; have HK := n3_; have HB := n4_; have HI0 := n5_; clear n0_ n1_ n2_ n3_ n4_ n5_; (try clear hb); (try clear hb2); (try clear hk); (try clear hi); have hnb105 := NB386_379.out; have hnc105 := NB379_386.out; have hnb106 := NB386_0.out; have hnc106 := NB0_386.out; obtain ⟨hcz107_0, hcz107_1, hcz107_2, hcz107_3, hcz107_4, hcz107_5, hcz107_6, hcz107_7⟩ := cl8 BK386; obtain ⟨hfz107_0, hfz107_1, hfz107_2, hfz107_3, hfz107_4, hfz107_5, hfz107_6, hfz107_7⟩ := fz8 BK386; obtain ⟨Ao108, co108, eo108⟩ := Kd.R_slice HO_387000.out; subst eo108; have hnb109 := NB379_0.out; have hnc109 := NB0_379.out; obtain ⟨hcz110_0, hcz110_1, hcz110_2, hcz110_3, hcz110_4, hcz110_5, hcz110_6, hcz110_7⟩ := cl8 BK379; obtain ⟨hfz110_0, hfz110_1, hfz110_2, hfz110_3, hfz110_4, hfz110_5, hfz110_6, hfz110_7⟩ := fz8 BK379))
           refine bodyPost_ret (results_cell_row rfl _ _ gb379 41 #[.slice Ao108 x387000_5.length co108, .int .i64 0, .bool true, .int .i64 x387003_5, .string x387004_5, .int .i64 x387005_5, .int .i64 x387006_5, .int .i64 x387007_5] (0, 0) _ rfl (by (with_reducible repeat (first | refine blk_drewN ?_ _ | refine blk_drew ?_ | refine blk_alloc ?_ _)); refine blk_put (cs := #[.slice Ao108 x387000_5.length co108, .int .i64 0, .bool true, .int .i64 x387003_5, .string x387004_5, .int .i64 x387005_5, .int .i64 x387006_5, .int .i64 0]) ?_ 7 _ rfl; (with_reducible repeat (first | refine blk_drewN ?_ _ | refine blk_drew ?_ | refine blk_alloc ?_ _)); refine blk_put (cs := #[.slice Ao108 x387000_5.length co108, .int .i64 0, .bool true, .int .i64 x387003_5, .string x387004_5, .int .i64 x387005_5, .int .i64 0, .int .i64 0]) ?_ 6 _ rfl; (with_reducible repeat (first | refine blk_drewN ?_ _ | refine blk_drew ?_ | refine blk_alloc ?_ _)); refine blk_put (cs := #[.slice Ao108 x387000_5.length co108, .int .i64 0, .bool true, .int .i64 x387003_5, .string x387004_5, .int .i64 0, .int .i64 0, .int .i64 0]) ?_ 5 _ rfl; (with_reducible repeat (first | refine blk_drewN ?_ _ | refine blk_drew ?_ | refine blk_alloc ?_ _)); refine blk_put (cs := #[.slice Ao108 x387000_5.length co108, .int .i64 0, .bool true, .int .i64 x387003_5, .string (⟨#[]⟩ : ByteArray), .int .i64 0, .int .i64 0, .int .i64 0]) ?_ 4 _ rfl; (with_reducible repeat (first | refine blk_drewN ?_ _ | refine blk_drew ?_ | refine blk_alloc ?_ _)); refine blk_put (cs := #[.slice Ao108 x387000_5.length co108, .int .i64 0, .bool true, .int .i64 0, .string (⟨#[]⟩ : ByteArray), .int .i64 0, .int .i64 0, .int .i64 0]) ?_ 3 _ rfl; (with_reducible repeat (first | refine blk_drewN ?_ _ | refine blk_drew ?_ | refine blk_alloc ?_ _)); refine blk_put (cs := #[.slice Ao108 x387000_5.length co108, .int .i64 0, .bool false, .int .i64 0, .string (⟨#[]⟩ : ByteArray), .int .i64 0, .int .i64 0, .int .i64 0]) ?_ 2 _ rfl; (with_reducible repeat (first | refine blk_drewN ?_ _ | refine blk_drew ?_ | refine blk_alloc ?_ _)); refine blk_put (cs := #[.slice Ao108 x387000_5.length co108, .int .i64 0, .bool false, .int .i64 0, .string (⟨#[]⟩ : ByteArray), .int .i64 0, .int .i64 0, .int .i64 0]) ?_ 1 _ rfl; (with_reducible repeat (first | refine blk_drewN ?_ _ | refine blk_drew ?_ | refine blk_alloc ?_ _)); refine blk_put (cs := #[.slice none 0 0, .int .i64 0, .bool false, .int .i64 0, .string (⟨#[]⟩ : ByteArray), .int .i64 0, .int .i64 0, .int .i64 0]) ?_ 0 _ rfl; (with_reducible repeat (first | refine blk_drewN ?_ _ | refine blk_drew ?_ | refine blk_alloc ?_ _)); refine blk_far ?_ NB379_386.out _; (with_reducible repeat (first | refine blk_drewN ?_ _ | refine blk_drew ?_ | refine blk_alloc ?_ _)); refine blk_far ?_ NB379_386.out _; (with_reducible repeat (first | refine blk_drewN ?_ _ | refine blk_drew ?_ | refine blk_alloc ?_ _)); exact BK379.out) Try.underlying41 rfl (by kernel_rfl)) rfl ?_
           exact ⟨_, by first | rfl | (simp only [u8w, w64m]; rfl) | (simp [errW_none, errW_some] <;> rfl) | (simp [*, errW_none, errW_some] <;> rfl), by (with_reducible repeat (first | apply Kd.R_alloc | apply Kd.R_drewN | apply Kd.R_drew)); exact Kd.R_mono (kf 7 (kf 6 (kf 5 (kf 4 (kf 3 (kf 2 (kf 1 (kf 0 (Kd.R_far  (p := ⟨gb386, 1, none⟩) (Kd.R_far  (p := ⟨gb386, 2, none⟩) (Kd.R_types (Kd.R_types HO_387000.out BK386.out (by decide)) BK379.out (by decide)) (fun _ hk => hk.1.2) (.bool true)) (fun _ hk => hk.1.2) (.int .i64 0)) (.slice Ao108 x387000_5.length co108)) (.int .i64 0)) (.bool true)) (.int .i64 x387003_5)) (.string x387004_5)) (.int .i64 x387005_5)) (.int .i64 x387006_5)) (.int .i64 x387007_5)) (fun _ hk => trivial), IsS131.run HI0, IsS131.bz HI0, by repeat (first | (with_reducible first | exact HK.out | apply KeepBut.set_ | apply keep_drewN | apply keep_drew | apply keep_alloc | refine keep_far ?_ GW379.out _ | refine keep_far ?_ GW386.out _) | exact HK.out)⟩
     ·
      replace c40 := Bool.eq_false_iff.mpr c40
      subst c40
      rw [if_neg (show ¬ (false = true) by decide)] at H
      simp only [Option.some.injEq, Prod.mk.injEq] at H
      obtain ⟨rfl, rfl, rfl, rfl, rfl, rfl, rfl, rfl, rfl⟩ := H
      go_wp2_with (first | ((with_reducible refine gate_callee (f := 126) rfl ?_); refine goesL_ (some 30) rfl rfl Try.func126 (by kernel_rfl) rfl #[.pointer (some ⟨g, 0, none⟩), .int .i64 a1] rfl ga ?_; (with_reducible refine (spec_l20Rd_odd.calls kj32 g s0_0 t399 a1 false t401 w0 _ ?side1 ?side2 A39.out).mono ?_); (case side1 => exact IsS131.run HI0); (case side2 => repeat (first | (with_reducible first | exact HB.out | apply below_alloc | apply pw_below_drewN | apply below_drew1 | refine below_set ?_ (IsS131.ge HI0.out) | refine below_set ?_ GE379.out | refine below_set ?_ GE386.out) | exact HB.out)); rintro e w111 ⟨rfl, hi, hb, hk⟩; refine ⟨_, rfl, ?_⟩; have n0_ := Aside0.mk (Kd.R_mono (Kd.R_keep (IsS131.apart (show IsS131 w0 _ g s0_0 t399 from IsS131.run HI0) (by (with_reducible repeat (first | apply Kd.R_alloc | apply Kd.R_drewN | apply Kd.R_drew)); exact HO_387000.out) (by decide)) hk (fun _ h => h.2)) (fun _ h => h.1)); have n1_ := Aside0.mk (KeepBut.blk hk (g' := gb379) (o := .cells #[.slice none 0 0, .int .i64 0, .bool false, .int .i64 0, .string (⟨#[]⟩ : ByteArray), .int .i64 0, .int .i64 0, .int .i64 0] 41 (0, 0)) (bq BK379) NB379_0.out (by simp)); have n2_ := Aside0.mk (KeepBut.blk hk (g' := gb386) (o := .cells #[u387000, .int .i64 x387001_32, .bool x387002_5, .int .i64 x387003_5, .string x387004_5, .int .i64 x387005_5, .int .i64 x387006_5, .int .i64 x387007_5] 41 (0, 0)) (bq BK386) NB386_0.out (by simp)); have n3_ := Aside0.mk (KeepBut.trans (by repeat (first | (with_reducible first | exact HK.out | apply KeepBut.set_ | apply keep_drewN | apply keep_drew | apply keep_alloc | refine keep_far ?_ GW379.out _ | refine keep_far ?_ GW386.out _) | exact HK.out)) hk (.inl rfl)); have n4_ := Aside0.mk (hb); have n5_ := Aside0.mk (hi); clear HO_387000 BK379 BK386 HK HB HI0; have HO_387000 := n0_; have BK379 := n1_; have BK386 := n2_; have HK := n3_; have HB := n4_; have HI0 := n5_; clear n0_ n1_ n2_ n3_ n4_ n5_; (try clear hb); (try clear hb2); (try clear hk); (try clear hi); have hnb112 := NB386_379.out; have hnc112 := NB379_386.out; have hnb113 := NB386_0.out; have hnc113 := NB0_386.out; obtain ⟨hcz114_0, hcz114_1, hcz114_2, hcz114_3, hcz114_4, hcz114_5, hcz114_6, hcz114_7⟩ := cl8 BK386; obtain ⟨hfz114_0, hfz114_1, hfz114_2, hfz114_3, hfz114_4, hfz114_5, hfz114_6, hfz114_7⟩ := fz8 BK386; obtain ⟨Ao115, co115, eo115⟩ := Kd.R_slice HO_387000.out; subst eo115; have hnb116 := NB379_0.out; have hnc116 := NB0_379.out; obtain ⟨hcz117_0, hcz117_1, hcz117_2, hcz117_3, hcz117_4, hcz117_5, hcz117_6, hcz117_7⟩ := cl8 BK379; obtain ⟨hfz117_0, hfz117_1, hfz117_2, hfz117_3, hfz117_4, hfz117_5, hfz117_6, hfz117_7⟩ := fz8 BK379))
      refine bodyPost_ret (results_cell_row rfl _ _ gb379 41 #[.slice Ao115 x387000_5.length co115, .int .i64 x387001_32, .bool x387002_5, .int .i64 x387003_5, .string x387004_5, .int .i64 x387005_5, .int .i64 x387006_5, .int .i64 x387007_5] (0, 0) _ rfl (by (with_reducible repeat (first | refine blk_drewN ?_ _ | refine blk_drew ?_ | refine blk_alloc ?_ _)); refine blk_put (cs := #[.slice Ao115 x387000_5.length co115, .int .i64 x387001_32, .bool x387002_5, .int .i64 x387003_5, .string x387004_5, .int .i64 x387005_5, .int .i64 x387006_5, .int .i64 0]) ?_ 7 _ rfl; (with_reducible repeat (first | refine blk_drewN ?_ _ | refine blk_drew ?_ | refine blk_alloc ?_ _)); refine blk_put (cs := #[.slice Ao115 x387000_5.length co115, .int .i64 x387001_32, .bool x387002_5, .int .i64 x387003_5, .string x387004_5, .int .i64 x387005_5, .int .i64 0, .int .i64 0]) ?_ 6 _ rfl; (with_reducible repeat (first | refine blk_drewN ?_ _ | refine blk_drew ?_ | refine blk_alloc ?_ _)); refine blk_put (cs := #[.slice Ao115 x387000_5.length co115, .int .i64 x387001_32, .bool x387002_5, .int .i64 x387003_5, .string x387004_5, .int .i64 0, .int .i64 0, .int .i64 0]) ?_ 5 _ rfl; (with_reducible repeat (first | refine blk_drewN ?_ _ | refine blk_drew ?_ | refine blk_alloc ?_ _)); refine blk_put (cs := #[.slice Ao115 x387000_5.length co115, .int .i64 x387001_32, .bool x387002_5, .int .i64 x387003_5, .string (⟨#[]⟩ : ByteArray), .int .i64 0, .int .i64 0, .int .i64 0]) ?_ 4 _ rfl; (with_reducible repeat (first | refine blk_drewN ?_ _ | refine blk_drew ?_ | refine blk_alloc ?_ _)); refine blk_put (cs := #[.slice Ao115 x387000_5.length co115, .int .i64 x387001_32, .bool x387002_5, .int .i64 0, .string (⟨#[]⟩ : ByteArray), .int .i64 0, .int .i64 0, .int .i64 0]) ?_ 3 _ rfl; (with_reducible repeat (first | refine blk_drewN ?_ _ | refine blk_drew ?_ | refine blk_alloc ?_ _)); refine blk_put (cs := #[.slice Ao115 x387000_5.length co115, .int .i64 x387001_32, .bool false, .int .i64 0, .string (⟨#[]⟩ : ByteArray), .int .i64 0, .int .i64 0, .int .i64 0]) ?_ 2 _ rfl; (with_reducible repeat (first | refine blk_drewN ?_ _ | refine blk_drew ?_ | refine blk_alloc ?_ _)); refine blk_put (cs := #[.slice Ao115 x387000_5.length co115, .int .i64 0, .bool false, .int .i64 0, .string (⟨#[]⟩ : ByteArray), .int .i64 0, .int .i64 0, .int .i64 0]) ?_ 1 _ rfl; (with_reducible repeat (first | refine blk_drewN ?_ _ | refine blk_drew ?_ | refine blk_alloc ?_ _)); refine blk_put (cs := #[.slice none 0 0, .int .i64 0, .bool false, .int .i64 0, .string (⟨#[]⟩ : ByteArray), .int .i64 0, .int .i64 0, .int .i64 0]) ?_ 0 _ rfl; (with_reducible repeat (first | refine blk_drewN ?_ _ | refine blk_drew ?_ | refine blk_alloc ?_ _)); exact BK379.out) Try.underlying41 rfl (by kernel_rfl)) rfl ?_
      exact ⟨_, by first | rfl | (simp only [u8w, w64m]; rfl) | (simp [errW_none, errW_some] <;> rfl) | (simp [*, errW_none, errW_some] <;> rfl), by (with_reducible repeat (first | apply Kd.R_alloc | apply Kd.R_drewN | apply Kd.R_drew)); exact Kd.R_mono (kf 7 (kf 6 (kf 5 (kf 4 (kf 3 (kf 2 (kf 1 (kf 0 (Kd.R_types HO_387000.out BK379.out (by decide)) (.slice Ao115 x387000_5.length co115)) (.int .i64 x387001_32)) (.bool x387002_5)) (.int .i64 x387003_5)) (.string x387004_5)) (.int .i64 x387005_5)) (.int .i64 x387006_5)) (.int .i64 x387007_5)) (fun _ hk => trivial), IsS131.run HI0, IsS131.bz HI0, by repeat (first | (with_reducible first | exact HK.out | apply KeepBut.set_ | apply keep_drewN | apply keep_drew | apply keep_alloc | refine keep_far ?_ GW379.out _ | refine keep_far ?_ GW386.out _) | exact HK.out)⟩

/-! ### spec_DrawGiveUp: function 42 -/
def spec_DrawGiveUp.f (k : Nat) (l0 : List Int) : Option ((List (S35)) × Int × Bool × Int × ByteArray × Int × Int × Int) := (spec_l20Open.f l0).bind fun bt421 => ((spec_l20Client.f k bt421.1 bt421.2 6).bind fun bt424 => (some (bt424.1, bt424.2.1, bt424.2.2.1, bt424.2.2.2.1, bt424.2.2.2.2.1, bt424.2.2.2.2.2.1, bt424.2.2.2.2.2.2.1, bt424.2.2.2.2.2.2.2.1)))
theorem spec_DrawGiveUp.mono : ∀ a0 k, LeO (spec_DrawGiveUp.f k a0) (spec_DrawGiveUp.f (k + 1) a0) := by
 intro a0 k
 unfold spec_DrawGiveUp.f
 repeat' first
   | (with_reducible exact spec_l20Client.mono _ _ _ _)
   | (with_reducible exact LeO.refl _)
   | (with_reducible exact LeO.none _)
   | (with_reducible refine LeO.ite ?_ ?_)
   | (with_reducible refine LeO.bind ?_ (fun _ => ?_))
   | exact spec_l20Client.mono _ _ _ _
   | exact LeO.none _
   | refine LeO.ite ?_ ?_
   | refine LeO.bind ?_ (fun _ => ?_)
set_option maxHeartbeats 8000000 in
set_option maxRecDepth 100000 in
theorem spec_DrawGiveUp.calls (k : Nat) (A0 : Option Addr) (c0 : Nat) (l0 : List Int) (r1 : List (S35)) (r2 : Int) (r3 : Bool) (r4 : Int) (r5 : ByteArray) (r6 : Int) (r7 : Int) (r8 : Int) (w : World) (hr0 : Kd.C (Kd.int .u8) w A0 l0.length l0) (hc0 : l0.length ≤ c0) (h : spec_DrawGiveUp.f k l0 = some (r1, r2, r3, r4, r5, r6, r7, r8)) :
  Calls Try.prog 42 #[.slice A0 l0.length c0] w fun e w' => ∃ v0_ : Value, e = .returned (.agg #[v0_, .int .i64 r2, .bool r3, .int .i64 r4, .string r5, .int .i64 r6, .int .i64 r7, .int .i64 r8]) ∧ Kd.R k35 35 w' w.heap.size (fun _ => True) v0_ r1 ∧ Below w.heap.size w w' := by
 have hu41 := Try.underlying41
 have HR0 := Aside0.mk hr0
 have HC0 := Aside0.mk hc0
 clear hr0 hc0
 have HB := Aside0.mk (Below.refl w.heap.size w)
 have H : ((spec_l20Open.f l0).bind fun bt421 => ((spec_l20Client.f k bt421.1 bt421.2 6).bind fun bt424 => (some (bt424.1, bt424.2.1, bt424.2.2.1, bt424.2.2.2.1, bt424.2.2.2.2.1, bt424.2.2.2.2.2.1, bt424.2.2.2.2.2.2.1, bt424.2.2.2.2.2.2.2.1)))) = some (r1, r2, r3, r4, r5, r6, r7, r8) := h
 clear h
 replace H := Option.bind_eq_some_iff.mp H
 obtain ⟨⟨t421, t422⟩, A20, H⟩ := H
 try dsimp only at H
 have A2 := Aside0.mk A20
 clear A20
 replace H := Option.bind_eq_some_iff.mp H
 obtain ⟨⟨t424, t427, t428, t429, t430, t431, t432, t433, t434⟩, A30, H⟩ := H
 try dsimp only at H
 have A3 := Aside0.mk A30
 clear A30
 simp only [Option.some.injEq, Prod.mk.injEq] at H
 obtain ⟨rfl, rfl, rfl, rfl, rfl, rfl, rfl, rfl⟩ := H
 go_enter Try.func42, Try.ntmps42
 go_wp2_with (first | ((with_reducible refine gate_dst (N := 2) rfl ?_); refine box_event ?hg (N := 2) ?hd (cs := #[.slice none 0 0, .int .i64 0, .bool false, .int .i64 0, .string (⟨#[]⟩ : ByteArray), .int .i64 0, .int .i64 0, .int .i64 0]) (t := 41) ?hr ?_; (case hd => rfl); (case hg => rfl); (case hr => first | (go_simp; done) | (go_simp; rfl)); intro gb420 hg w4 hbox hb; have n0_ := Aside0.mk (below_step (bz) hb); have n1_ := Aside0.mk (hbox); have n2_ : Aside0 (w.heap.size ≤ gb420) := bsg hg; have n3_ : Aside0 (w.heap.size ≤ gb420) := bsg hg; clear HB; have HB := n0_; have BK420 := n1_; have GW420 := n2_; have GE420 := n3_; clear n0_ n1_ n2_ n3_; clear hb hbox hg) | ((with_reducible refine gate_callee (f := 69) rfl ?_); refine goesL_ (some 4) rfl rfl Try.func69 (by kernel_rfl) rfl #[.slice A0 l0.length c0] rfl ga ?_; (with_reducible refine (spec_l20Open.calls _ _ l0 t421 t422 w _ ?side1 ?side2 ?side3 A2.out).mono ?_); (case side1 => repeat (first | (with_reducible first | exact HB.out | apply below_alloc | apply pw_below_drewN | apply below_drew1 | refine below_set ?_ GE420.out) | exact HB.out)); (case side2 => exact HR0.out); (case side3 => exact HC0.out); rintro e w5 ⟨g423, rfl, hi, hb, hb2⟩; refine ⟨_, rfl, ?_⟩; have n0_ := Aside0.mk (blk_below (g := gb420) (o := .cells #[.slice none 0 0, .int .i64 0, .bool false, .int .i64 0, .string (⟨#[]⟩ : ByteArray), .int .i64 0, .int .i64 0, .int .i64 0] 41 (0, 0)) (bq BK420) hb2); have n1_ := Aside0.mk (hb); have n2_ := Aside0.mk (hi); have n3_ := Aside0.mk (IsS131.ne_blk hi (blk_below (g := gb420) (o := .cells #[.slice none 0 0, .int .i64 0, .bool false, .int .i64 0, .string (⟨#[]⟩ : ByteArray), .int .i64 0, .int .i64 0, .int .i64 0] 41 (0, 0)) (bq BK420) hb2) (by decide)); have n4_ := Aside0.mk (Ne.symm (IsS131.ne_blk hi (blk_below (g := gb420) (o := .cells #[.slice none 0 0, .int .i64 0, .bool false, .int .i64 0, .string (⟨#[]⟩ : ByteArray), .int .i64 0, .int .i64 0, .int .i64 0] 41 (0, 0)) (bq BK420) hb2) (by decide))); clear BK420 HB; have BK420 := n0_; have HB := n1_; have HI423 := n2_; have NB423_420 := n3_; have NB420_423 := n4_; clear n0_ n1_ n2_ n3_ n4_; (try clear hb); (try clear hb2); (try clear hk); (try clear hi)) | ((with_reducible refine gate_callee (f := 84) rfl ?_); refine goesL_ (some 5) rfl rfl Try.func84 (by kernel_rfl) rfl #[.pointer (some ⟨g423, 0, none⟩), .int .i64 6] rfl ga ?_; (with_reducible refine (spec_l20Client.calls k g423 t421 t422 6 t424 t427 t428 t429 t430 t431 t432 t433 t434 w _ ?side1 ?side2 A3.out).mono ?_); (case side1 => exact IsS131.run HI423); (case side2 => repeat (first | (with_reducible first | exact HB.out | apply below_alloc | apply pw_below_drewN | apply below_drew1 | refine below_set ?_ (IsS131.ge HI423.out) | refine below_set ?_ GE420.out) | exact HB.out)); rintro e w6 ⟨v425, rfl, ho0, hi, hb, hk⟩; refine ⟨_, rfl, ?_⟩; have n0_ := Aside0.mk (KeepBut.blk hk (g' := gb420) (o := .cells #[.slice none 0 0, .int .i64 0, .bool false, .int .i64 0, .string (⟨#[]⟩ : ByteArray), .int .i64 0, .int .i64 0, .int .i64 0] 41 (0, 0)) (bq BK420) NB420_423.out (by simp)); have n1_ := Aside0.mk (Kd.R_lower ho0 (below_size (IsS131.bz HI423))); have n2_ := Aside0.mk (hb); have n3_ := Aside0.mk (hi); clear BK420 HB HI423; have BK420 := n0_; have HO426 := n1_; have HB := n2_; have HI423 := n3_; clear n0_ n1_ n2_ n3_; (try clear hb); (try clear hb2); (try clear hk); (try clear hi); (try clear ho0); obtain ⟨Ao7, co7, eo7⟩ := Kd.R_slice HO426.out; subst eo7; have hnb8 := NB420_423.out; have hnc8 := NB423_420.out; obtain ⟨hcz9_0, hcz9_1, hcz9_2, hcz9_3, hcz9_4, hcz9_5, hcz9_6, hcz9_7⟩ := cl8 BK420; obtain ⟨hfz9_0, hfz9_1, hfz9_2, hfz9_3, hfz9_4, hfz9_5, hfz9_6, hfz9_7⟩ := fz8 BK420))
 refine bodyPost_ret (results_cell_row rfl _ _ gb420 41 #[.slice Ao7 t424.length co7, .int .i64 t427, .bool t428, .int .i64 t429, .string t430, .int .i64 t431, .int .i64 t432, .int .i64 t433] (0, 0) _ rfl (by (with_reducible repeat (first | refine blk_drewN ?_ _ | refine blk_drew ?_ | refine blk_alloc ?_ _)); refine blk_put (cs := #[.slice Ao7 t424.length co7, .int .i64 t427, .bool t428, .int .i64 t429, .string t430, .int .i64 t431, .int .i64 t432, .int .i64 0]) ?_ 7 _ rfl; (with_reducible repeat (first | refine blk_drewN ?_ _ | refine blk_drew ?_ | refine blk_alloc ?_ _)); refine blk_put (cs := #[.slice Ao7 t424.length co7, .int .i64 t427, .bool t428, .int .i64 t429, .string t430, .int .i64 t431, .int .i64 0, .int .i64 0]) ?_ 6 _ rfl; (with_reducible repeat (first | refine blk_drewN ?_ _ | refine blk_drew ?_ | refine blk_alloc ?_ _)); refine blk_put (cs := #[.slice Ao7 t424.length co7, .int .i64 t427, .bool t428, .int .i64 t429, .string t430, .int .i64 0, .int .i64 0, .int .i64 0]) ?_ 5 _ rfl; (with_reducible repeat (first | refine blk_drewN ?_ _ | refine blk_drew ?_ | refine blk_alloc ?_ _)); refine blk_put (cs := #[.slice Ao7 t424.length co7, .int .i64 t427, .bool t428, .int .i64 t429, .string (⟨#[]⟩ : ByteArray), .int .i64 0, .int .i64 0, .int .i64 0]) ?_ 4 _ rfl; (with_reducible repeat (first | refine blk_drewN ?_ _ | refine blk_drew ?_ | refine blk_alloc ?_ _)); refine blk_put (cs := #[.slice Ao7 t424.length co7, .int .i64 t427, .bool t428, .int .i64 0, .string (⟨#[]⟩ : ByteArray), .int .i64 0, .int .i64 0, .int .i64 0]) ?_ 3 _ rfl; (with_reducible repeat (first | refine blk_drewN ?_ _ | refine blk_drew ?_ | refine blk_alloc ?_ _)); refine blk_put (cs := #[.slice Ao7 t424.length co7, .int .i64 t427, .bool false, .int .i64 0, .string (⟨#[]⟩ : ByteArray), .int .i64 0, .int .i64 0, .int .i64 0]) ?_ 2 _ rfl; (with_reducible repeat (first | refine blk_drewN ?_ _ | refine blk_drew ?_ | refine blk_alloc ?_ _)); refine blk_put (cs := #[.slice Ao7 t424.length co7, .int .i64 0, .bool false, .int .i64 0, .string (⟨#[]⟩ : ByteArray), .int .i64 0, .int .i64 0, .int .i64 0]) ?_ 1 _ rfl; (with_reducible repeat (first | refine blk_drewN ?_ _ | refine blk_drew ?_ | refine blk_alloc ?_ _)); refine blk_put (cs := #[.slice none 0 0, .int .i64 0, .bool false, .int .i64 0, .string (⟨#[]⟩ : ByteArray), .int .i64 0, .int .i64 0, .int .i64 0]) ?_ 0 _ rfl; (with_reducible repeat (first | refine blk_drewN ?_ _ | refine blk_drew ?_ | refine blk_alloc ?_ _)); exact BK420.out) Try.underlying41 rfl (by kernel_rfl)) rfl ?_
 exact ⟨_, by first | rfl | (simp only [u8w, w64m]; rfl) | (simp [errW_none, errW_some] <;> rfl) | (simp [*, errW_none, errW_some] <;> rfl), by (with_reducible repeat (first | apply Kd.R_alloc | apply Kd.R_drewN | apply Kd.R_drew)); exact Kd.R_mono (kf 7 (kf 6 (kf 5 (kf 4 (kf 3 (kf 2 (kf 1 (kf 0 (Kd.R_types HO426.out BK420.out (by decide)) (.slice Ao7 t424.length co7)) (.int .i64 t427)) (.bool t428)) (.int .i64 t429)) (.string t430)) (.int .i64 t431)) (.int .i64 t432)) (.int .i64 t433)) (fun _ hk => trivial), IsS131.bz HI423⟩

/-! ### laws_sameClient: function 43 -/
def laws_sameClient.f (k : Nat) (l0_0 : List (S35)) (a0_1 : Int) (a0_2 : Bool) (a0_3 : Int) (a0_4 : ByteArray) (a0_5 : Int) (a0_6 : Int) (a0_7 : Int) (l1_0 : List (S35)) (a1_1 : Int) (a1_2 : Bool) (a1_3 : Int) (a1_4 : ByteArray) (a1_5 : Int) (a1_6 : Int) (a1_7 : Int) : Option (Bool) := (laws_sameRoutes.f k l0_0 l1_0).bind fun t437 => (if t437 = true then (if a0_1 = a1_1 then (if (a0_2 == a1_2) = true then (if (a0_3 == a1_3 && (a0_4.toList == a1_4.toList && (a0_5 == a1_5 && (a0_6 == a1_6)))) = true then (some (a0_7 == a1_7)) else (some false)) else (some false)) else (some false)) else (some false))
theorem laws_sameClient.mono : ∀ a0 a1 a2 a3 a4 a5 a6 a7 a8 a9 a10 a11 a12 a13 a14 a15 k, LeO (laws_sameClient.f k a0 a1 a2 a3 a4 a5 a6 a7 a8 a9 a10 a11 a12 a13 a14 a15) (laws_sameClient.f (k + 1) a0 a1 a2 a3 a4 a5 a6 a7 a8 a9 a10 a11 a12 a13 a14 a15) := by
 intro a0 a1 a2 a3 a4 a5 a6 a7 a8 a9 a10 a11 a12 a13 a14 a15 k
 unfold laws_sameClient.f
 repeat' first
   | (with_reducible exact laws_sameRoutes.mono _ _ _)
   | (with_reducible exact LeO.refl _)
   | (with_reducible exact LeO.none _)
   | (with_reducible refine LeO.ite ?_ ?_)
   | (with_reducible refine LeO.bind ?_ (fun _ => ?_))
   | exact laws_sameRoutes.mono _ _ _
   | exact LeO.none _
   | refine LeO.ite ?_ ?_
   | refine LeO.bind ?_ (fun _ => ?_)
set_option maxHeartbeats 8000000 in
set_option maxRecDepth 100000 in
theorem laws_sameClient.calls (k : Nat) (A0_0 : Option Addr) (c0_0 : Nat) (l0_0 : List (S35)) (a0_1 : Int) (a0_2 : Bool) (a0_3 : Int) (a0_4 : ByteArray) (a0_5 : Int) (a0_6 : Int) (a0_7 : Int) (A1_0 : Option Addr) (c1_0 : Nat) (l1_0 : List (S35)) (a1_1 : Int) (a1_2 : Bool) (a1_3 : Int) (a1_4 : ByteArray) (a1_5 : Int) (a1_6 : Int) (a1_7 : Int) (r : Bool) (w : World) (hr0_0 : Kd.C k35 w A0_0 l0_0.length l0_0) (hc0_0 : l0_0.length ≤ c0_0) (hr1_0 : Kd.C k35 w A1_0 l1_0.length l1_0) (hc1_0 : l1_0.length ≤ c1_0) (h : laws_sameClient.f k l0_0 a0_1 a0_2 a0_3 a0_4 a0_5 a0_6 a0_7 l1_0 a1_1 a1_2 a1_3 a1_4 a1_5 a1_6 a1_7 = some r) :
  Calls Try.prog 43 #[.agg #[.slice A0_0 l0_0.length c0_0, .int .i64 a0_1, .bool a0_2, .int .i64 a0_3, .string a0_4, .int .i64 a0_5, .int .i64 a0_6, .int .i64 a0_7], .agg #[.slice A1_0 l1_0.length c1_0, .int .i64 a1_1, .bool a1_2, .int .i64 a1_3, .string a1_4, .int .i64 a1_5, .int .i64 a1_6, .int .i64 a1_7]] w fun e w' => e = .returned (.bool r) ∧ Below w.heap.size w w' := by
 have hu41 := Try.underlying41
 have hu39 := Try.underlying39
 have HR0_0 := Aside0.mk hr0_0
 have HC0_0 := Aside0.mk hc0_0
 clear hr0_0 hc0_0
 have HR1_0 := Aside0.mk hr1_0
 have HC1_0 := Aside0.mk hc1_0
 clear hr1_0 hc1_0
 have HB := Aside0.mk (Below.refl w.heap.size w)
 have H : ((laws_sameRoutes.f k l0_0 l1_0).bind fun t437 => (if t437 = true then (if a0_1 = a1_1 then (if (a0_2 == a1_2) = true then (if (a0_3 == a1_3 && (a0_4.toList == a1_4.toList && (a0_5 == a1_5 && (a0_6 == a1_6)))) = true then (some (a0_7 == a1_7)) else (some false)) else (some false)) else (some false)) else (some false))) = some r := h
 clear h
 replace H := Option.bind_eq_some_iff.mp H
 obtain ⟨t437, A30, H⟩ := H
 try dsimp only at H
 have A3 := Aside0.mk A30
 clear A30
 by_cases c4 : t437 = true
 ·
  subst c4
  rw [if_pos rfl] at H
  by_cases c5 : a0_1 = a1_1
  ·
   rw [if_pos c5] at H
   have c5b0 : (a0_1 == a1_1) = true := beq_iff_eq.mpr c5
   have c5b1 : (a0_1 != a1_1) = false := bne_eq_false_iff_eq.mpr c5
   clear c5
   by_cases c6 : (a0_2 == a1_2) = true
   ·
    rw [if_pos c6] at H
    have c6b0 : (a0_2 == a1_2) = true := c6
    (try (have c6b1 : decide (a0_2 = a1_2) = true := by simpa using c6))
    (try (have c6b2 : (a0_2 == a1_2) = true := by simpa using c6))
    clear c6
    by_cases c7 : (a0_3 == a1_3 && (a0_4.toList == a1_4.toList && (a0_5 == a1_5 && (a0_6 == a1_6)))) = true
    ·
     rw [if_pos c7] at H
     have c7b0 : (a0_3 == a1_3 && (a0_4.toList == a1_4.toList && (a0_5 == a1_5 && (a0_6 == a1_6)))) = true := c7
     (try (have c7b1 : decide (a0_3 = a1_3 && (a0_4.toList == a1_4.toList && (a0_5 == a1_5 && (a0_6 == a1_6)))) = true := by simpa using c7))
     (try (have c7b2 : (a0_3 == a1_3 && (a0_4.toList == a1_4.toList && (a0_5 == a1_5 && (a0_6 == a1_6)))) = true := by simpa using c7))
     clear c7
     obtain rfl := Option.some.inj H
     go_enter Try.func43, Try.ntmps43
     go_wp2_with (first | ((with_reducible refine gate_dst (N := 2) rfl ?_); refine box_event ?hg (N := 2) ?hd (cs := #[.slice A0_0 l0_0.length c0_0, .int .i64 a0_1, .bool a0_2, .int .i64 a0_3, .string a0_4, .int .i64 a0_5, .int .i64 a0_6, .int .i64 a0_7]) (t := 41) ?hr ?_; (case hd => rfl); (case hg => rfl); (case hr => first | (go_simp; done) | (go_simp; rfl)); intro gb435 hg w8 hbox hb; have n0_ := Aside0.mk (below_step (bz) hb); have n1_ := Aside0.mk (hbox); have n2_ : Aside0 (w.heap.size ≤ gb435) := bsg hg; have n3_ : Aside0 (w.heap.size ≤ gb435) := bsg hg; clear HB; have HB := n0_; have BK435 := n1_; have GW435 := n2_; have GE435 := n3_; clear n0_ n1_ n2_ n3_; clear hb hbox hg) | ((with_reducible refine gate_dst (N := 3) rfl ?_); refine box_event ?hg (N := 3) ?hd (cs := #[.slice A1_0 l1_0.length c1_0, .int .i64 a1_1, .bool a1_2, .int .i64 a1_3, .string a1_4, .int .i64 a1_5, .int .i64 a1_6, .int .i64 a1_7]) (t := 41) ?hr ?_; (case hd => rfl); (case hg => rfl); (case hr => first | (go_simp; done) | (go_simp; rfl)); intro gb436 hg w9 hbox hb; have n0_ := bkb BK435 hb; have n1_ := Aside0.mk (below_step (bz) hb); have n2_ := Aside0.mk (hbox); have n3_ : Aside0 (w.heap.size ≤ gb436) := bsg hg; have n4_ : Aside0 (w.heap.size ≤ gb436) := bsg hg; have n5_ := nlt hg BK435; have n6_ := ngt hg BK435; clear BK435 HB; have BK435 := n0_; have HB := n1_; have BK436 := n2_; have GW436 := n3_; have GE436 := n4_; have NB435_436 := n5_; have NB436_435 := n6_; clear n0_ n1_ n2_ n3_ n4_ n5_ n6_; clear hb hbox hg; have hnb10 := NB435_436.out; have hnc10 := NB436_435.out; obtain ⟨hcz11_0, hcz11_1, hcz11_2, hcz11_3, hcz11_4, hcz11_5, hcz11_6, hcz11_7⟩ := cl8 BK435; obtain ⟨hfz11_0, hfz11_1, hfz11_2, hfz11_3, hfz11_4, hfz11_5, hfz11_6, hfz11_7⟩ := fz8 BK435; obtain ⟨hcz12_0, hcz12_1, hcz12_2, hcz12_3, hcz12_4, hcz12_5, hcz12_6, hcz12_7⟩ := cl8 BK436; obtain ⟨hfz12_0, hfz12_1, hfz12_2, hfz12_3, hfz12_4, hfz12_5, hfz12_6, hfz12_7⟩ := fz8 BK436) | ((with_reducible refine gate_callee (f := 33) rfl ?_); refine goesL_ (some 9) rfl rfl Try.func33 (by kernel_rfl) rfl #[.slice A0_0 l0_0.length c0_0, .slice A1_0 l1_0.length c1_0] rfl ga ?_; (with_reducible refine (laws_sameRoutes.calls k _ _ l0_0 _ _ l1_0 true _ ?side1 ?side2 ?side3 ?side4 A3.out).mono ?_); (case side1 => repeat (first | exact (Kd.C_below HR0_0.out HB.out) | (with_reducible refine Kd.C_alloc ?_ _) | (with_reducible refine Kd.C_drewN ?_ _) | (with_reducible refine Kd.C_drew ?_))); (case side2 => exact HC0_0.out); (case side3 => repeat (first | exact (Kd.C_below HR1_0.out HB.out) | (with_reducible refine Kd.C_alloc ?_ _) | (with_reducible refine Kd.C_drewN ?_ _) | (with_reducible refine Kd.C_drew ?_))); (case side4 => exact HC1_0.out); rintro e w' ⟨rfl, ⟨nd, rfl⟩⟩; refine ⟨_, rfl, ?_⟩))
     go_ret
     exact ⟨by first | rfl | (simp only [u8w, w64m]; rfl) | (simp [errW_none, errW_some] <;> rfl) | (simp [*, errW_none, errW_some] <;> rfl), bz⟩
    ·
     rw [if_neg c7] at H
     have c7b0 : (a0_3 == a1_3 && (a0_4.toList == a1_4.toList && (a0_5 == a1_5 && (a0_6 == a1_6)))) = false := by simpa using c7
     (try (have c7b1 : decide (a0_3 = a1_3 && (a0_4.toList == a1_4.toList && (a0_5 == a1_5 && (a0_6 == a1_6)))) = false := by simpa using c7))
     (try (have c7b2 : (a0_3 == a1_3 && (a0_4.toList == a1_4.toList && (a0_5 == a1_5 && (a0_6 == a1_6)))) = false := by simpa using c7))
     (try (have c7b3 : ¬ (a0_3 = a1_3 && (a0_4.toList == a1_4.toList && (a0_5 == a1_5 && (a0_6 == a1_6)))) := by simpa using c7))
     clear c7
     obtain rfl := Option.some.inj H
     go_enter Try.func43, Try.ntmps43
     go_wp2_with (first | ((with_reducible refine gate_dst (N := 2) rfl ?_); refine box_event ?hg (N := 2) ?hd (cs := #[.slice A0_0 l0_0.length c0_0, .int .i64 a0_1, .bool a0_2, .int .i64 a0_3, .string a0_4, .int .i64 a0_5, .int .i64 a0_6, .int .i64 a0_7]) (t := 41) ?hr ?_; (case hd => rfl); (case hg => rfl); (case hr => first | (go_simp; done) | (go_simp; rfl)); intro gb435 hg w13 hbox hb; have n0_ := Aside0.mk (below_step (bz) hb); have n1_ := Aside0.mk (hbox); have n2_ : Aside0 (w.heap.size ≤ gb435) := bsg hg; have n3_ : Aside0 (w.heap.size ≤ gb435) := bsg hg; clear HB; have HB := n0_; have BK435 := n1_; have GW435 := n2_; have GE435 := n3_; clear n0_ n1_ n2_ n3_; clear hb hbox hg) | ((with_reducible refine gate_dst (N := 3) rfl ?_); refine box_event ?hg (N := 3) ?hd (cs := #[.slice A1_0 l1_0.length c1_0, .int .i64 a1_1, .bool a1_2, .int .i64 a1_3, .string a1_4, .int .i64 a1_5, .int .i64 a1_6, .int .i64 a1_7]) (t := 41) ?hr ?_; (case hd => rfl); (case hg => rfl); (case hr => first | (go_simp; done) | (go_simp; rfl)); intro gb436 hg w14 hbox hb; have n0_ := bkb BK435 hb; have n1_ := Aside0.mk (below_step (bz) hb); have n2_ := Aside0.mk (hbox); have n3_ : Aside0 (w.heap.size ≤ gb436) := bsg hg; have n4_ : Aside0 (w.heap.size ≤ gb436) := bsg hg; have n5_ := nlt hg BK435; have n6_ := ngt hg BK435; clear BK435 HB; have BK435 := n0_; have HB := n1_; have BK436 := n2_; have GW436 := n3_; have GE436 := n4_; have NB435_436 := n5_; have NB436_435 := n6_; clear n0_ n1_ n2_ n3_ n4_ n5_ n6_; clear hb hbox hg; have hnb15 := NB435_436.out; have hnc15 := NB436_435.out; obtain ⟨hcz16_0, hcz16_1, hcz16_2, hcz16_3, hcz16_4, hcz16_5, hcz16_6, hcz16_7⟩ := cl8 BK435; obtain ⟨hfz16_0, hfz16_1, hfz16_2, hfz16_3, hfz16_4, hfz16_5, hfz16_6, hfz16_7⟩ := fz8 BK435; obtain ⟨hcz17_0, hcz17_1, hcz17_2, hcz17_3, hcz17_4, hcz17_5, hcz17_6, hcz17_7⟩ := cl8 BK436; obtain ⟨hfz17_0, hfz17_1, hfz17_2, hfz17_3, hfz17_4, hfz17_5, hfz17_6, hfz17_7⟩ := fz8 BK436) | ((with_reducible refine gate_callee (f := 33) rfl ?_); refine goesL_ (some 9) rfl rfl Try.func33 (by kernel_rfl) rfl #[.slice A0_0 l0_0.length c0_0, .slice A1_0 l1_0.length c1_0] rfl ga ?_; (with_reducible refine (laws_sameRoutes.calls k _ _ l0_0 _ _ l1_0 true _ ?side1 ?side2 ?side3 ?side4 A3.out).mono ?_); (case side1 => repeat (first | exact (Kd.C_below HR0_0.out HB.out) | (with_reducible refine Kd.C_alloc ?_ _) | (with_reducible refine Kd.C_drewN ?_ _) | (with_reducible refine Kd.C_drew ?_))); (case side2 => exact HC0_0.out); (case side3 => repeat (first | exact (Kd.C_below HR1_0.out HB.out) | (with_reducible refine Kd.C_alloc ?_ _) | (with_reducible refine Kd.C_drewN ?_ _) | (with_reducible refine Kd.C_drew ?_))); (case side4 => exact HC1_0.out); rintro e w' ⟨rfl, ⟨nd, rfl⟩⟩; refine ⟨_, rfl, ?_⟩))
     go_ret
     exact ⟨by first | rfl | (simp only [u8w, w64m]; rfl) | (simp [errW_none, errW_some] <;> rfl) | (simp [*, errW_none, errW_some] <;> rfl), bz⟩
   ·
    rw [if_neg c6] at H
    have c6b0 : (a0_2 == a1_2) = false := by simpa using c6
    (try (have c6b1 : decide (a0_2 = a1_2) = false := by simpa using c6))
    (try (have c6b2 : (a0_2 == a1_2) = false := by simpa using c6))
    (try (have c6b3 : ¬ (a0_2 = a1_2) := by simpa using c6))
    clear c6
    obtain rfl := Option.some.inj H
    go_enter Try.func43, Try.ntmps43
    go_wp2_with (first | ((with_reducible refine gate_dst (N := 2) rfl ?_); refine box_event ?hg (N := 2) ?hd (cs := #[.slice A0_0 l0_0.length c0_0, .int .i64 a0_1, .bool a0_2, .int .i64 a0_3, .string a0_4, .int .i64 a0_5, .int .i64 a0_6, .int .i64 a0_7]) (t := 41) ?hr ?_; (case hd => rfl); (case hg => rfl); (case hr => first | (go_simp; done) | (go_simp; rfl)); intro gb435 hg w18 hbox hb; have n0_ := Aside0.mk (below_step (bz) hb); have n1_ := Aside0.mk (hbox); have n2_ : Aside0 (w.heap.size ≤ gb435) := bsg hg; have n3_ : Aside0 (w.heap.size ≤ gb435) := bsg hg; clear HB; have HB := n0_; have BK435 := n1_; have GW435 := n2_; have GE435 := n3_; clear n0_ n1_ n2_ n3_; clear hb hbox hg) | ((with_reducible refine gate_dst (N := 3) rfl ?_); refine box_event ?hg (N := 3) ?hd (cs := #[.slice A1_0 l1_0.length c1_0, .int .i64 a1_1, .bool a1_2, .int .i64 a1_3, .string a1_4, .int .i64 a1_5, .int .i64 a1_6, .int .i64 a1_7]) (t := 41) ?hr ?_; (case hd => rfl); (case hg => rfl); (case hr => first | (go_simp; done) | (go_simp; rfl)); intro gb436 hg w19 hbox hb; have n0_ := bkb BK435 hb; have n1_ := Aside0.mk (below_step (bz) hb); have n2_ := Aside0.mk (hbox); have n3_ : Aside0 (w.heap.size ≤ gb436) := bsg hg; have n4_ : Aside0 (w.heap.size ≤ gb436) := bsg hg; have n5_ := nlt hg BK435; have n6_ := ngt hg BK435; clear BK435 HB; have BK435 := n0_; have HB := n1_; have BK436 := n2_; have GW436 := n3_; have GE436 := n4_; have NB435_436 := n5_; have NB436_435 := n6_; clear n0_ n1_ n2_ n3_ n4_ n5_ n6_; clear hb hbox hg; have hnb20 := NB435_436.out; have hnc20 := NB436_435.out; obtain ⟨hcz21_0, hcz21_1, hcz21_2, hcz21_3, hcz21_4, hcz21_5, hcz21_6, hcz21_7⟩ := cl8 BK435; obtain ⟨hfz21_0, hfz21_1, hfz21_2, hfz21_3, hfz21_4, hfz21_5, hfz21_6, hfz21_7⟩ := fz8 BK435; obtain ⟨hcz22_0, hcz22_1, hcz22_2, hcz22_3, hcz22_4, hcz22_5, hcz22_6, hcz22_7⟩ := cl8 BK436; obtain ⟨hfz22_0, hfz22_1, hfz22_2, hfz22_3, hfz22_4, hfz22_5, hfz22_6, hfz22_7⟩ := fz8 BK436) | ((with_reducible refine gate_callee (f := 33) rfl ?_); refine goesL_ (some 9) rfl rfl Try.func33 (by kernel_rfl) rfl #[.slice A0_0 l0_0.length c0_0, .slice A1_0 l1_0.length c1_0] rfl ga ?_; (with_reducible refine (laws_sameRoutes.calls k _ _ l0_0 _ _ l1_0 true _ ?side1 ?side2 ?side3 ?side4 A3.out).mono ?_); (case side1 => repeat (first | exact (Kd.C_below HR0_0.out HB.out) | (with_reducible refine Kd.C_alloc ?_ _) | (with_reducible refine Kd.C_drewN ?_ _) | (with_reducible refine Kd.C_drew ?_))); (case side2 => exact HC0_0.out); (case side3 => repeat (first | exact (Kd.C_below HR1_0.out HB.out) | (with_reducible refine Kd.C_alloc ?_ _) | (with_reducible refine Kd.C_drewN ?_ _) | (with_reducible refine Kd.C_drew ?_))); (case side4 => exact HC1_0.out); rintro e w' ⟨rfl, ⟨nd, rfl⟩⟩; refine ⟨_, rfl, ?_⟩))
    go_ret
    exact ⟨by first | rfl | (simp only [u8w, w64m]; rfl) | (simp [errW_none, errW_some] <;> rfl) | (simp [*, errW_none, errW_some] <;> rfl), bz⟩
  ·
   rw [if_neg c5] at H
   have c5b0 : (a0_1 == a1_1) = false := beq_eq_false_iff_ne.mpr c5
   have c5b1 : (a0_1 != a1_1) = true := bne_iff_ne.mpr c5
   obtain rfl := Option.some.inj H
   go_enter Try.func43, Try.ntmps43
   go_wp2_with (first | ((with_reducible refine gate_dst (N := 2) rfl ?_); refine box_event ?hg (N := 2) ?hd (cs := #[.slice A0_0 l0_0.length c0_0, .int .i64 a0_1, .bool a0_2, .int .i64 a0_3, .string a0_4, .int .i64 a0_5, .int .i64 a0_6, .int .i64 a0_7]) (t := 41) ?hr ?_; (case hd => rfl); (case hg => rfl); (case hr => first | (go_simp; done) | (go_simp; rfl)); intro gb435 hg w23 hbox hb; have n0_ := Aside0.mk (below_step (bz) hb); have n1_ := Aside0.mk (hbox); have n2_ : Aside0 (w.heap.size ≤ gb435) := bsg hg; have n3_ : Aside0 (w.heap.size ≤ gb435) := bsg hg; clear HB; have HB := n0_; have BK435 := n1_; have GW435 := n2_; have GE435 := n3_; clear n0_ n1_ n2_ n3_; clear hb hbox hg) | ((with_reducible refine gate_dst (N := 3) rfl ?_); refine box_event ?hg (N := 3) ?hd (cs := #[.slice A1_0 l1_0.length c1_0, .int .i64 a1_1, .bool a1_2, .int .i64 a1_3, .string a1_4, .int .i64 a1_5, .int .i64 a1_6, .int .i64 a1_7]) (t := 41) ?hr ?_; (case hd => rfl); (case hg => rfl); (case hr => first | (go_simp; done) | (go_simp; rfl)); intro gb436 hg w24 hbox hb; have n0_ := bkb BK435 hb; have n1_ := Aside0.mk (below_step (bz) hb); have n2_ := Aside0.mk (hbox); have n3_ : Aside0 (w.heap.size ≤ gb436) := bsg hg; have n4_ : Aside0 (w.heap.size ≤ gb436) := bsg hg; have n5_ := nlt hg BK435; have n6_ := ngt hg BK435; clear BK435 HB; have BK435 := n0_; have HB := n1_; have BK436 := n2_; have GW436 := n3_; have GE436 := n4_; have NB435_436 := n5_; have NB436_435 := n6_; clear n0_ n1_ n2_ n3_ n4_ n5_ n6_; clear hb hbox hg; have hnb25 := NB435_436.out; have hnc25 := NB436_435.out; obtain ⟨hcz26_0, hcz26_1, hcz26_2, hcz26_3, hcz26_4, hcz26_5, hcz26_6, hcz26_7⟩ := cl8 BK435; obtain ⟨hfz26_0, hfz26_1, hfz26_2, hfz26_3, hfz26_4, hfz26_5, hfz26_6, hfz26_7⟩ := fz8 BK435; obtain ⟨hcz27_0, hcz27_1, hcz27_2, hcz27_3, hcz27_4, hcz27_5, hcz27_6, hcz27_7⟩ := cl8 BK436; obtain ⟨hfz27_0, hfz27_1, hfz27_2, hfz27_3, hfz27_4, hfz27_5, hfz27_6, hfz27_7⟩ := fz8 BK436) | ((with_reducible refine gate_callee (f := 33) rfl ?_); refine goesL_ (some 9) rfl rfl Try.func33 (by kernel_rfl) rfl #[.slice A0_0 l0_0.length c0_0, .slice A1_0 l1_0.length c1_0] rfl ga ?_; (with_reducible refine (laws_sameRoutes.calls k _ _ l0_0 _ _ l1_0 true _ ?side1 ?side2 ?side3 ?side4 A3.out).mono ?_); (case side1 => repeat (first | exact (Kd.C_below HR0_0.out HB.out) | (with_reducible refine Kd.C_alloc ?_ _) | (with_reducible refine Kd.C_drewN ?_ _) | (with_reducible refine Kd.C_drew ?_))); (case side2 => exact HC0_0.out); (case side3 => repeat (first | exact (Kd.C_below HR1_0.out HB.out) | (with_reducible refine Kd.C_alloc ?_ _) | (with_reducible refine Kd.C_drewN ?_ _) | (with_reducible refine Kd.C_drew ?_))); (case side4 => exact HC1_0.out); rintro e w' ⟨rfl, ⟨nd, rfl⟩⟩; refine ⟨_, rfl, ?_⟩))
   go_ret
   exact ⟨by first | rfl | (simp only [u8w, w64m]; rfl) | (simp [errW_none, errW_some] <;> rfl) | (simp [*, errW_none, errW_some] <;> rfl), bz⟩
 ·
  replace c4 := Bool.eq_false_iff.mpr c4
  subst c4
  rw [if_neg (show ¬ (false = true) by decide)] at H
  obtain rfl := Option.some.inj H
  go_enter Try.func43, Try.ntmps43
  go_wp2_with (first | ((with_reducible refine gate_dst (N := 2) rfl ?_); refine box_event ?hg (N := 2) ?hd (cs := #[.slice A0_0 l0_0.length c0_0, .int .i64 a0_1, .bool a0_2, .int .i64 a0_3, .string a0_4, .int .i64 a0_5, .int .i64 a0_6, .int .i64 a0_7]) (t := 41) ?hr ?_; (case hd => rfl); (case hg => rfl); (case hr => first | (go_simp; done) | (go_simp; rfl)); intro gb435 hg w28 hbox hb; have n0_ := Aside0.mk (below_step (bz) hb); have n1_ := Aside0.mk (hbox); have n2_ : Aside0 (w.heap.size ≤ gb435) := bsg hg; have n3_ : Aside0 (w.heap.size ≤ gb435) := bsg hg; clear HB; have HB := n0_; have BK435 := n1_; have GW435 := n2_; have GE435 := n3_; clear n0_ n1_ n2_ n3_; clear hb hbox hg) | ((with_reducible refine gate_dst (N := 3) rfl ?_); refine box_event ?hg (N := 3) ?hd (cs := #[.slice A1_0 l1_0.length c1_0, .int .i64 a1_1, .bool a1_2, .int .i64 a1_3, .string a1_4, .int .i64 a1_5, .int .i64 a1_6, .int .i64 a1_7]) (t := 41) ?hr ?_; (case hd => rfl); (case hg => rfl); (case hr => first | (go_simp; done) | (go_simp; rfl)); intro gb436 hg w29 hbox hb; have n0_ := bkb BK435 hb; have n1_ := Aside0.mk (below_step (bz) hb); have n2_ := Aside0.mk (hbox); have n3_ : Aside0 (w.heap.size ≤ gb436) := bsg hg; have n4_ : Aside0 (w.heap.size ≤ gb436) := bsg hg; have n5_ := nlt hg BK435; have n6_ := ngt hg BK435; clear BK435 HB; have BK435 := n0_; have HB := n1_; have BK436 := n2_; have GW436 := n3_; have GE436 := n4_; have NB435_436 := n5_; have NB436_435 := n6_; clear n0_ n1_ n2_ n3_ n4_ n5_ n6_; clear hb hbox hg; have hnb30 := NB435_436.out; have hnc30 := NB436_435.out; obtain ⟨hcz31_0, hcz31_1, hcz31_2, hcz31_3, hcz31_4, hcz31_5, hcz31_6, hcz31_7⟩ := cl8 BK435; obtain ⟨hfz31_0, hfz31_1, hfz31_2, hfz31_3, hfz31_4, hfz31_5, hfz31_6, hfz31_7⟩ := fz8 BK435; obtain ⟨hcz32_0, hcz32_1, hcz32_2, hcz32_3, hcz32_4, hcz32_5, hcz32_6, hcz32_7⟩ := cl8 BK436; obtain ⟨hfz32_0, hfz32_1, hfz32_2, hfz32_3, hfz32_4, hfz32_5, hfz32_6, hfz32_7⟩ := fz8 BK436) | ((with_reducible refine gate_callee (f := 33) rfl ?_); refine goesL_ (some 9) rfl rfl Try.func33 (by kernel_rfl) rfl #[.slice A0_0 l0_0.length c0_0, .slice A1_0 l1_0.length c1_0] rfl ga ?_; (with_reducible refine (laws_sameRoutes.calls k _ _ l0_0 _ _ l1_0 false _ ?side1 ?side2 ?side3 ?side4 A3.out).mono ?_); (case side1 => repeat (first | exact (Kd.C_below HR0_0.out HB.out) | (with_reducible refine Kd.C_alloc ?_ _) | (with_reducible refine Kd.C_drewN ?_ _) | (with_reducible refine Kd.C_drew ?_))); (case side2 => exact HC0_0.out); (case side3 => repeat (first | exact (Kd.C_below HR1_0.out HB.out) | (with_reducible refine Kd.C_alloc ?_ _) | (with_reducible refine Kd.C_drewN ?_ _) | (with_reducible refine Kd.C_drew ?_))); (case side4 => exact HC1_0.out); rintro e w' ⟨rfl, ⟨nd, rfl⟩⟩; refine ⟨_, rfl, ?_⟩))
  go_ret
  exact ⟨by first | rfl | (simp only [u8w, w64m]; rfl) | (simp [errW_none, errW_some] <;> rfl) | (simp [*, errW_none, errW_some] <;> rfl), bz⟩

end Go.Proofs.Ytkjkokljgbpbbaa.PFnGiveUp
