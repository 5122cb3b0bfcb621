/- Go functions as plain Lean functions, and for each a proof that its call comes to what the function says; under the conditions that each theorem names. Written by a program of this session. -/
import Derived.Test.YtoajkkfnblpnlaaPFnPlanValidx0
import Derived.Test.YtoajkkfnblpnlaaPFnPlanValidx2
import Derived.Test.YtoajkkfnblpnlaaPFnPlanValidx3
namespace Go.Proofs.Ytoajkkfnblpnlaa.PFnPlanValid
open Go.RowKit Go.Proofs.YtoajkkfnblpnlaaW.PrintWords Go.Proofs.YtoajkkfnblpnlaaW.PrintLast Go.Proofs.YtoajkkfnblpnlaaW.PrintMore
attribute [local go_sem high] str_gtr str_leq str_geq
attribute [local go_sem] max2_int min2_int max_two min_two max_three min_three max_four min_four   -- for this text's walks alone
set_option linter.unusedVariables false
set_option linter.unusedSimpArgs false

/-! ### spec_l20Plan: function 65 -/
def spec_l20Plan.j0 : Nat → Int → List Int → Int → Int → Int → Int → ByteArray → Int → Int → Int → Option (Int × Int × Int × ByteArray × Int × Int × Int × Int)
 | 0, _, _, _, _, _, _, _, _, _, _ => none
 | k + 1, x2, x1000, x1001, x151000, x151001, x151002, x151003, x151004, x151005, x151006 => (spec_l20Rd_odd.f k x1000 x1001 x2).bind fun bt165 => (if bt165.1 = true then ((spec_l20Rd_pick.f k x1000 bt165.2 6).bind fun bt167 => (if bt167.1 = 0 then ((some (([0, 4] : List Int) : List Int)).bind fun y169 => ((spec_l20Rd_pick.f k x1000 bt167.2 2).bind fun bt172 => (if 0 ≤ bt172.1 then (if bt172.1 < (y169.length : Int) then (some (rd y169 bt172.1, x151001, x151002, x151003, x151004, x151005, x151006, bt172.2)) else (none)) else (none)))) else (if bt167.1 = 1 then ((some (([(-1), 8] : List Int) : List Int)).bind fun y175 => ((spec_l20Rd_pick.f k x1000 bt167.2 2).bind fun bt178 => (if 0 ≤ bt178.1 then (if bt178.1 < (y175.length : Int) then (some (x151000, rd y175 bt178.1, x151002, x151003, x151004, x151005, x151006, bt178.2)) else (none)) else (none)))) else (if bt167.1 = 2 then (some (x151000, x151001, wrap64 (x151001 + 1), (⟨#[98]⟩ : ByteArray), x151004, x151005, x151006, bt167.2)) else (if bt167.1 = 3 then (some (x151000, x151001, x151002, x151003, x151005, x151005, x151006, bt167.2)) else (if bt167.1 = 4 then (some (x151000, x151001, x151002, x151003, x151004, x151005, 2, bt167.2)) else (some (x151000, x151001, x151002, (⟨#[66]⟩ : ByteArray), x151004, x151005, x151006, bt167.2)))))))) else (some (x151000, x151001, x151002, x151003, x151004, x151005, x151006, bt165.2)))
def spec_l20Plan.f (k : Nat) (s0_0 : List Int) (s0_1 : Int) (a1 : Int) (a2 : Int) : Option (Int × Int × Int × ByteArray × Int × Int × Int × Int) := (spec_l20Rd_pick.f k s0_0 s0_1 a1).bind fun bt146 => ((spec_l20Key.f k s0_0 bt146.2 0).bind fun bt148 => ((spec_l20Rd_pick.f k s0_0 bt148.2 3).bind fun bt151 => (if bt151.1 = 0 then ((spec_l20Rd_pick.f k s0_0 bt151.2 a1).bind fun bt153 => ((spec_l20Rd_pick.f k s0_0 bt153.2 7).bind fun bt155 => (spec_l20Plan.j0 k a2 s0_0 bt155.2 2 bt153.1 (Int.tmod (wrap64 ((wrap64 (bt153.1 + 1)) + bt155.1)) 8) (⟨#[]⟩ : ByteArray) 0 0 0))) else (if bt151.1 = 1 then ((spec_l20Rd_pick.f k s0_0 bt151.2 5).bind fun bt157 => ((spec_l20Rd_pick.f k s0_0 bt157.2 a1).bind fun bt159 => ((spec_l20Rd_pick.f k s0_0 bt159.2 4).bind fun bt161 => ((spec_l20Rd_pick.f k s0_0 bt161.2 2).bind fun bt163 => (spec_l20Plan.j0 k a2 s0_0 bt163.2 3 bt159.1 0 (⟨#[]⟩ : ByteArray) bt157.1 (Int.tmod (wrap64 ((wrap64 (bt157.1 + 1)) + bt161.1)) 5) bt163.1))))) else (spec_l20Plan.j0 k a2 s0_0 bt151.2 1 bt146.1 0 bt148.1 0 0 0)))))
theorem spec_l20Plan.mono_l : ∀ k, (∀ y0 y1 y2 y3 y4 y5 y6 y7 y8 y9, LeO (spec_l20Plan.j0 k y0 y1 y2 y3 y4 y5 y6 y7 y8 y9) (spec_l20Plan.j0 (k + 1) y0 y1 y2 y3 y4 y5 y6 y7 y8 y9))
 | 0 => fun _ _ _ _ _ _ _ _ _ _ r h => by simp [spec_l20Plan.j0] at h
 | k + 1 => by
  have ih0 := spec_l20Plan.mono_l k
  ·
   intro y0 y1 y2 y3 y4 y5 y6 y7 y8 y9
   unfold spec_l20Plan.j0
   repeat' first
   | (with_reducible exact ih0 _ _ _ _ _ _ _ _ _ _)
   | (with_reducible exact spec_l20Key.mono _ _ _ _)
   | (with_reducible exact spec_l20Rd_odd.mono _ _ _ _)
   | (with_reducible exact spec_l20Rd_pick.mono _ _ _ _)
   | (with_reducible exact LeO.refl _)
   | (with_reducible exact LeO.none _)
   | (with_reducible refine LeO.ite ?_ ?_)
   | (with_reducible refine LeO.bind ?_ (fun _ => ?_))
   | exact ih0 _ _ _ _ _ _ _ _ _ _
   | exact spec_l20Key.mono _ _ _ _
   | exact spec_l20Rd_odd.mono _ _ _ _
   | exact spec_l20Rd_pick.mono _ _ _ _
   | exact LeO.none _
   | refine LeO.ite ?_ ?_
   | refine LeO.bind ?_ (fun _ => ?_)
theorem spec_l20Plan.mono : ∀ a0 a1 a2 a3 k, LeO (spec_l20Plan.f k a0 a1 a2 a3) (spec_l20Plan.f (k + 1) a0 a1 a2 a3) := by
 intro a0 a1 a2 a3 k
 have ih0 := spec_l20Plan.mono_l k
 unfold spec_l20Plan.f
 repeat' first
   | (with_reducible exact ih0 _ _ _ _ _ _ _ _ _ _)
   | (with_reducible exact spec_l20Key.mono _ _ _ _)
   | (with_reducible exact spec_l20Rd_odd.mono _ _ _ _)
   | (with_reducible exact spec_l20Rd_pick.mono _ _ _ _)
   | (with_reducible exact LeO.refl _)
   | (with_reducible exact LeO.none _)
   | (with_reducible refine LeO.ite ?_ ?_)
   | (with_reducible refine LeO.bind ?_ (fun _ => ?_))
   | exact ih0 _ _ _ _ _ _ _ _ _ _
   | exact spec_l20Key.mono _ _ _ _
   | exact spec_l20Rd_odd.mono _ _ _ _
   | exact spec_l20Rd_pick.mono _ _ _ _
   | exact LeO.none _
   | refine LeO.ite ?_ ?_
   | refine LeO.bind ?_ (fun _ => ?_)
set_option maxHeartbeats 8000000 in
set_option maxRecDepth 100000 in
theorem spec_l20Plan.calls (k : Nat) (g : Nat) (s0_0 : List Int) (s0_1 : Int) (a1 : Int) (a2 : Int) (r1 : Int) (r2 : Int) (r3 : Int) (r4 : ByteArray) (r5 : Int) (r6 : Int) (r7 : Int) (r8 : Int) (w0 w : World) (hI : IsS111 w0 w g s0_0 s0_1) (hB : Below w0.heap.size w0 w) (h : spec_l20Plan.f k s0_0 s0_1 a1 a2 = some (r1, r2, r3, r4, r5, r6, r7, r8)) :
  Calls Try.prog 65 #[.pointer (some ⟨g, 0, none⟩), .int .i64 a1, .int .i64 a2] w fun e w' => e = .returned (.agg #[.int .i64 r1, .int .i64 r2, .int .i64 r3, .string r4, .int .i64 r5, .int .i64 r6, .int .i64 r7]) ∧ IsS111 w0 w' g s0_0 r8 ∧ Below w0.heap.size w0 w' ∧ KeepBut w w' g none := by
 have hu26 := Try.underlying26
 have HI0 := Aside0.mk hI
 have HK := Aside0.mk (KeepBut.refl w g none)
 have HL := Aside0.mk hB.size
 clear hI
 have HW0 := Aside0.mk hB.size
 have HB := Aside0.mk hB
 clear hB
 have H : ((spec_l20Rd_pick.f k s0_0 s0_1 a1).bind fun bt146 => ((spec_l20Key.f k s0_0 bt146.2 0).bind fun bt148 => ((spec_l20Rd_pick.f k s0_0 bt148.2 3).bind fun bt151 => (if bt151.1 = 0 then ((spec_l20Rd_pick.f k s0_0 bt151.2 a1).bind fun bt153 => ((spec_l20Rd_pick.f k s0_0 bt153.2 7).bind fun bt155 => (spec_l20Plan.j0 k a2 s0_0 bt155.2 2 bt153.1 (Int.tmod (wrap64 ((wrap64 (bt153.1 + 1)) + bt155.1)) 8) (⟨#[]⟩ : ByteArray) 0 0 0))) else (if bt151.1 = 1 then ((spec_l20Rd_pick.f k s0_0 bt151.2 5).bind fun bt157 => ((spec_l20Rd_pick.f k s0_0 bt157.2 a1).bind fun bt159 => ((spec_l20Rd_pick.f k s0_0 bt159.2 4).bind fun bt161 => ((spec_l20Rd_pick.f k s0_0 bt161.2 2).bind fun bt163 => (spec_l20Plan.j0 k a2 s0_0 bt163.2 3 bt159.1 0 (⟨#[]⟩ : ByteArray) bt157.1 (Int.tmod (wrap64 ((wrap64 (bt157.1 + 1)) + bt161.1)) 5) bt163.1))))) else (spec_l20Plan.j0 k a2 s0_0 bt151.2 1 bt146.1 0 bt148.1 0 0 0)))))) = some (r1, r2, r3, r4, r5, r6, r7, r8) := h
 clear h
 replace H := Option.bind_eq_some_iff.mp H
 obtain ⟨⟨t146, t147⟩, A40, H⟩ := H
 try dsimp only at H
 have A4 := Aside0.mk A40
 clear A40
 replace H := Option.bind_eq_some_iff.mp H
 obtain ⟨⟨t148, t149⟩, A50, H⟩ := H
 try dsimp only at H
 have A5 := Aside0.mk A50
 clear A50
 replace H := Option.bind_eq_some_iff.mp H
 obtain ⟨⟨t151, t152⟩, A60, H⟩ := H
 try dsimp only at H
 have A6 := Aside0.mk A60
 clear A60
 have HC7 := Aside0.mk H
 clear H
 go_enter Try.func65, Try.ntmps65
 go_upto_block 0 with (first | ((with_reducible refine gate_dst (N := 6) rfl ?_); refine box_event ?hg (N := 6) ?hd (cs := #[.int .i64 0, .int .i64 0, .int .i64 0, .string (⟨#[]⟩ : ByteArray), .int .i64 0, .int .i64 0, .int .i64 0]) (t := 26) ?hr ?_; (case hd => rfl); (case hg => rfl); (case hr => first | (go_simp; done) | (go_simp; rfl)); intro gb145 hg w8 hbox hb; have n0_ := Aside0.mk (IsS111.below (by repeat (first | (with_reducible first | exact HI0.out | apply IsS111.alloc | apply IsS111.drewN | apply IsS111.drew | apply IsS111.set_1) | exact HI0.out)) hb); have n1_ := Aside0.mk (KeepBut.trans (by repeat (first | (with_reducible first | exact HK.out | apply KeepBut.set_ | apply keep_drewN | apply keep_drew | apply keep_alloc) | exact HK.out)) (KeepBut.of_below hb g none) (.inl rfl)); have n2_ := Aside0.mk (below_step (by repeat (first | (with_reducible first | exact HB.out | apply below_alloc | apply pw_below_drewN | apply below_drew1 | refine below_set ?_ (IsS111.ge HI0.out)) | exact HB.out)) hb); have n3_ := Aside0.mk (hbox); have n4_ := Aside0.mk ((by rw [hg]; exact (keep_size (w := w) (g := g) (row := none) (by repeat (first | (with_reducible first | exact HK.out | apply KeepBut.set_ | apply keep_drewN | apply keep_drew | apply keep_alloc) | exact HK.out))) : w.heap.size ≤ gb145)); have n5_ := Aside0.mk ((Nat.le_trans HW0.out (by rw [hg]; exact (keep_size (w := w) (g := g) (row := none) (by repeat (first | (with_reducible first | exact HK.out | apply KeepBut.set_ | apply keep_drewN | apply keep_drew | apply keep_alloc) | exact HK.out))) : w.heap.size ≤ gb145) : w0.heap.size ≤ gb145)); have n6_ := Aside0.mk ((by rw [hg]; exact Nat.ne_of_lt (IsS111.lt (show IsS111 w0 _ g s0_0 s0_1 from by repeat (first | (with_reducible first | exact HI0.out | apply IsS111.alloc | apply IsS111.drewN | apply IsS111.drew | apply IsS111.set_1) | exact HI0.out))) : g ≠ gb145)); have n7_ := Aside0.mk ((by rw [hg]; exact Nat.ne_of_gt (IsS111.lt (show IsS111 w0 _ g s0_0 s0_1 from by repeat (first | (with_reducible first | exact HI0.out | apply IsS111.alloc | apply IsS111.drewN | apply IsS111.drew | apply IsS111.set_1) | exact HI0.out))) : gb145 ≠ g)); clear HI0; clear HK; clear HB; have HI0 := n0_; have HK := n1_; have HB := n2_; have BK145 := n3_; have GW145 := n4_; have GE145 := n5_; have NB0_145 := n6_; have NB145_0 := n7_; clear n0_ n1_ n2_ n3_ n4_ n5_ n6_ n7_; clear hb hbox hg) | ((with_reducible refine gate_callee (f := 75) rfl ?_); refine goesL_ (some 12) rfl rfl Try.func75 (by kernel_rfl) rfl #[.pointer (some ⟨g, 0, none⟩), .int .i64 a1] rfl (by (try simp only [List.map_toArray, List.map_cons, List.map_nil]); first | done | rfl | (simp only [List.length_drop, List.length_take]; rfl)) ?_; (with_reducible refine (spec_l20Rd_pick.calls k g s0_0 s0_1 a1 t146 t147 w0 _ ?side1 ?side2 A4.out).mono ?_); (case side1 => repeat (first | (with_reducible first | exact HI0.out | apply IsS111.alloc | apply IsS111.drewN | apply IsS111.drew | apply IsS111.set_1 | refine IsS111.far ?_ NB0_145.out _) | exact HI0.out)); (case side2 => repeat (first | (with_reducible first | exact HB.out | apply below_alloc | apply pw_below_drewN | apply below_drew1 | refine below_set ?_ (IsS111.ge HI0.out) | refine below_set ?_ GE145.out) | exact HB.out)); rintro e w9 ⟨rfl, hi, hb, hk⟩; refine ⟨_, rfl, ?_⟩; have n0_ := Aside0.mk (KeepBut.blk hk (g' := gb145) (o := .cells #[.int .i64 0, .int .i64 0, .int .i64 0, .string (⟨#[]⟩ : ByteArray), .int .i64 0, .int .i64 0, .int .i64 0] 26 (0, 0)) (bq BK145) NB145_0.out (by simp)); have n1_ := Aside0.mk (KeepBut.trans (by repeat (first | (with_reducible first | exact HK.out | apply KeepBut.set_ | apply keep_drewN | apply keep_drew | apply keep_alloc | refine keep_far ?_ GW145.out _) | exact HK.out)) hk (.inl rfl)); have n2_ := Aside0.mk (hb); have n3_ := Aside0.mk (hi); clear BK145; clear HK; clear HB; clear HI0; have BK145 := n0_; have HK := n1_; have HB := n2_; have HI0 := n3_; clear n0_ n1_ n2_ n3_; (try clear hb); (try clear hb2); (try clear hk); (try clear hi)) | ((with_reducible refine gate_callee (f := 89) rfl ?_); refine goesL_ (some 14) rfl rfl Try.func89 (by kernel_rfl) rfl #[.pointer (some ⟨g, 0, none⟩), .int .i64 0] rfl (by (try simp only [List.map_toArray, List.map_cons, List.map_nil]); first | done | rfl | (simp only [List.length_drop, List.length_take]; rfl)) ?_; (with_reducible refine (spec_l20Key.calls k g s0_0 t147 0 t148 t149 w0 _ ?side1 ?side2 A5.out).mono ?_); (case side1 => repeat (first | (with_reducible first | exact HI0.out | apply IsS111.alloc | apply IsS111.drewN | apply IsS111.drew | apply IsS111.set_1 | refine IsS111.far ?_ NB0_145.out _) | exact HI0.out)); (case side2 => repeat (first | (with_reducible first | exact HB.out | apply below_alloc | apply pw_below_drewN | apply below_drew1 | refine below_set ?_ (IsS111.ge HI0.out) | refine below_set ?_ GE145.out) | exact HB.out)); rintro e w10 ⟨rfl, hi, hb, hk⟩; refine ⟨_, rfl, ?_⟩; have n0_ := Aside0.mk (KeepBut.blk hk (g' := gb145) (o := .cells #[.int .i64 0, .int .i64 0, .int .i64 0, .string (⟨#[]⟩ : ByteArray), .int .i64 0, .int .i64 0, .int .i64 0] 26 (0, 0)) (bq BK145) NB145_0.out (by simp)); have n1_ := Aside0.mk (KeepBut.trans (by repeat (first | (with_reducible first | exact HK.out | apply KeepBut.set_ | apply keep_drewN | apply keep_drew | apply keep_alloc | refine keep_far ?_ GW145.out _) | exact HK.out)) hk (.inl rfl)); have n2_ := Aside0.mk (hb); have n3_ := Aside0.mk (hi); clear BK145; clear HK; clear HB; clear HI0; have BK145 := n0_; have HK := n1_; have HB := n2_; have HI0 := n3_; clear n0_ n1_ n2_ n3_; (try clear hb); (try clear hb2); (try clear hk); (try clear hi)) | ((with_reducible refine gate_dst (N := 7) rfl ?_); refine box_event ?hg (N := 7) ?hd (cs := #[.int .i64 0, .int .i64 0, .int .i64 0, .string (⟨#[]⟩ : ByteArray), .int .i64 0, .int .i64 0, .int .i64 0]) (t := 26) ?hr ?_; (case hd => rfl); (case hg => rfl); (case hr => first | (go_simp; done) | (go_simp; rfl)); intro gb150 hg w11 hbox hb; have n0_ := Aside0.mk (IsS111.below (by repeat (first | (with_reducible first | exact HI0.out | apply IsS111.alloc | apply IsS111.drewN | apply IsS111.drew | apply IsS111.set_1 | refine IsS111.far ?_ NB0_145.out _) | exact HI0.out)) hb); have n1_ := bkb BK145 hb; have n2_ := Aside0.mk (KeepBut.trans (by repeat (first | (with_reducible first | exact HK.out | apply KeepBut.set_ | apply keep_drewN | apply keep_drew | apply keep_alloc | refine keep_far ?_ GW145.out _) | exact HK.out)) (KeepBut.of_below hb g none) (.inl rfl)); have n3_ := Aside0.mk (below_step (by repeat (first | (with_reducible first | exact HB.out | apply below_alloc | apply pw_below_drewN | apply below_drew1 | refine below_set ?_ (IsS111.ge HI0.out) | refine below_set ?_ GE145.out) | exact HB.out)) hb); have n4_ := Aside0.mk (hbox); have n5_ := Aside0.mk ((by rw [hg]; exact (keep_size (w := w) (g := g) (row := none) (by repeat (first | (with_reducible first | exact HK.out | apply KeepBut.set_ | apply keep_drewN | apply keep_drew | apply keep_alloc | refine keep_far ?_ GW145.out _) | exact HK.out))) : w.heap.size ≤ gb150)); have n6_ := Aside0.mk ((Nat.le_trans HW0.out (by rw [hg]; exact (keep_size (w := w) (g := g) (row := none) (by repeat (first | (with_reducible first | exact HK.out | apply KeepBut.set_ | apply keep_drewN | apply keep_drew | apply keep_alloc | refine keep_far ?_ GW145.out _) | exact HK.out))) : w.heap.size ≤ gb150) : w0.heap.size ≤ gb150)); have n7_ := nlt hg BK145; have n8_ := ngt hg BK145; have n9_ := Aside0.mk ((by rw [hg]; exact Nat.ne_of_lt (IsS111.lt (show IsS111 w0 _ g s0_0 t149 from by repeat (first | (with_reducible first | exact HI0.out | apply IsS111.alloc | apply IsS111.drewN | apply IsS111.drew | apply IsS111.set_1 | refine IsS111.far ?_ NB0_145.out _) | exact HI0.out))) : g ≠ gb150)); have n10_ := Aside0.mk ((by rw [hg]; exact Nat.ne_of_gt (IsS111.lt (show IsS111 w0 _ g s0_0 t149 from by repeat (first | (with_reducible first | exact HI0.out | apply IsS111.alloc | apply IsS111.drewN | apply IsS111.drew | apply IsS111.set_1 | refine IsS111.far ?_ NB0_145.out _) | exact HI0.out))) : gb150 ≠ g)); clear HI0; clear BK145; clear HK; clear HB; have HI0 := n0_; have BK145 := n1_; have HK := n2_; have HB := n3_; have BK150 := n4_; have GW150 := n5_; have GE150 := n6_; have NB145_150 := n7_; have NB150_145 := n8_; have NB0_150 := n9_; have NB150_0 := n10_; clear n0_ n1_ n2_ n3_ n4_ n5_ n6_ n7_ n8_ n9_ n10_; clear hb hbox hg; have hnb12 := NB150_145.out; have hnc12 := NB145_150.out; have hnb13 := NB150_0.out; have hnc13 := NB0_150.out; have hcz14_0 : w11.cell? ⟨gb150, 0, none⟩ = some (.int .i64 0) := (blk_cell BK150.out 0).trans rfl; have hcz14_1 : w11.cell? ⟨gb150, 1, none⟩ = some (.int .i64 0) := (blk_cell BK150.out 1).trans rfl; have hcz14_2 : w11.cell? ⟨gb150, 2, none⟩ = some (.int .i64 0) := (blk_cell BK150.out 2).trans rfl; have hcz14_3 : w11.cell? ⟨gb150, 3, none⟩ = some (.string (⟨#[]⟩ : ByteArray)) := (blk_cell BK150.out 3).trans rfl; have hcz14_4 : w11.cell? ⟨gb150, 4, none⟩ = some (.int .i64 0) := (blk_cell BK150.out 4).trans rfl; have hcz14_5 : w11.cell? ⟨gb150, 5, none⟩ = some (.int .i64 0) := (blk_cell BK150.out 5).trans rfl; have hcz14_6 : w11.cell? ⟨gb150, 6, none⟩ = some (.int .i64 0) := (blk_cell BK150.out 6).trans rfl; have hfz14_0 := blk_frozen BK150.out 0; have hfz14_1 := blk_frozen BK150.out 1; have hfz14_2 := blk_frozen BK150.out 2; have hfz14_3 := blk_frozen BK150.out 3; have hfz14_4 := blk_frozen BK150.out 4; have hfz14_5 := blk_frozen BK150.out 5; have hfz14_6 := blk_frozen BK150.out 6) | ((with_reducible refine gate_callee (f := 75) rfl ?_); refine goesL_ (some 17) rfl rfl Try.func75 (by kernel_rfl) rfl #[.pointer (some ⟨g, 0, none⟩), .int .i64 3] rfl (by (try simp only [List.map_toArray, List.map_cons, List.map_nil]); first | done | rfl | (simp only [List.length_drop, List.length_take]; rfl)) ?_; (with_reducible refine (spec_l20Rd_pick.calls k g s0_0 t149 3 t151 t152 w0 _ ?side1 ?side2 A6.out).mono ?_); (case side1 => repeat (first | (with_reducible first | exact HI0.out | apply IsS111.alloc | apply IsS111.drewN | apply IsS111.drew | apply IsS111.set_1 | refine IsS111.far ?_ NB0_145.out _ | refine IsS111.far ?_ NB0_150.out _) | exact HI0.out)); (case side2 => repeat (first | (with_reducible first | exact HB.out | apply below_alloc | apply pw_below_drewN | apply below_drew1 | refine below_set ?_ (IsS111.ge HI0.out) | refine below_set ?_ GE145.out | refine below_set ?_ GE150.out) | exact HB.out)); rintro e w15 ⟨rfl, hi, hb, hk⟩; refine ⟨_, rfl, ?_⟩; have n0_ := Aside0.mk (KeepBut.blk hk (g' := gb145) (o := .cells #[.int .i64 0, .int .i64 0, .int .i64 0, .string (⟨#[]⟩ : ByteArray), .int .i64 0, .int .i64 0, .int .i64 0] 26 (0, 0)) (by (with_reducible repeat (first | refine blk_drewN ?_ _ | refine blk_drew ?_ | refine blk_alloc ?_ _)); refine blk_far ?_ NB145_150.out _; (with_reducible repeat (first | refine blk_drewN ?_ _ | refine blk_drew ?_ | refine blk_alloc ?_ _)); refine blk_far ?_ NB145_150.out _; (with_reducible repeat (first | refine blk_drewN ?_ _ | refine blk_drew ?_ | refine blk_alloc ?_ _)); refine blk_far ?_ NB145_150.out _; (with_reducible repeat (first | refine blk_drewN ?_ _ | refine blk_drew ?_ | refine blk_alloc ?_ _)); refine blk_far ?_ NB145_150.out _; (with_reducible repeat (first | refine blk_drewN ?_ _ | refine blk_drew ?_ | refine blk_alloc ?_ _)); refine blk_far ?_ NB145_150.out _; (with_reducible repeat (first | refine blk_drewN ?_ _ | refine blk_drew ?_ | refine blk_alloc ?_ _)); refine blk_far ?_ NB145_150.out _; (with_reducible repeat (first | refine blk_drewN ?_ _ | refine blk_drew ?_ | refine blk_alloc ?_ _)); refine blk_far ?_ NB145_150.out _; (with_reducible repeat (first | refine blk_drewN ?_ _ | refine blk_drew ?_ | refine blk_alloc ?_ _)); exact BK145.out) NB145_0.out (by simp)); have n1_ := Aside0.mk (KeepBut.blk hk (g' := gb150) (o := .cells #[.int .i64 1, .int .i64 t146, .int .i64 0, .string t148, .int .i64 0, .int .i64 0, .int .i64 0] 26 (0, 0)) (by (with_reducible repeat (first | refine blk_drewN ?_ _ | refine blk_drew ?_ | refine blk_alloc ?_ _)); refine blk_put (cs := #[.int .i64 1, .int .i64 t146, .int .i64 0, .string t148, .int .i64 0, .int .i64 0, .int .i64 0]) ?_ 6 _ rfl; (with_reducible repeat (first | refine blk_drewN ?_ _ | refine blk_drew ?_ | refine blk_alloc ?_ _)); refine blk_put (cs := #[.int .i64 1, .int .i64 t146, .int .i64 0, .string t148, .int .i64 0, .int .i64 0, .int .i64 0]) ?_ 5 _ rfl; (with_reducible repeat (first | refine blk_drewN ?_ _ | refine blk_drew ?_ | refine blk_alloc ?_ _)); refine blk_put (cs := #[.int .i64 1, .int .i64 t146, .int .i64 0, .string t148, .int .i64 0, .int .i64 0, .int .i64 0]) ?_ 4 _ rfl; (with_reducible repeat (first | refine blk_drewN ?_ _ | refine blk_drew ?_ | refine blk_alloc ?_ _)); refine blk_put (cs := #[.int .i64 1, .int .i64 t146, .int .i64 0, .string (⟨#[]⟩ : ByteArray), .int .i64 0, .int .i64 0, .int .i64 0]) ?_ 3 _ rfl; (with_reducible repeat (first | refine blk_drewN ?_ _ | refine blk_drew ?_ | refine blk_alloc ?_ _)); refine blk_put (cs := #[.int .i64 1, .int .i64 t146, .int .i64 0, .string (⟨#[]⟩ : ByteArray), .int .i64 0, .int .i64 0, .int .i64 0]) ?_ 2 _ rfl; (with_reducible repeat (first | refine blk_drewN ?_ _ | refine blk_drew ?_ | refine blk_alloc ?_ _)); refine blk_put (cs := #[.int .i64 1, .int .i64 0, .int .i64 0, .string (⟨#[]⟩ : ByteArray), .int .i64 0, .int .i64 0, .int .i64 0]) ?_ 1 _ rfl; (with_reducible repeat (first | refine blk_drewN ?_ _ | refine blk_drew ?_ | refine blk_alloc ?_ _)); refine blk_put (cs := #[.int .i64 0, .int .i64 0, .int .i64 0, .string (⟨#[]⟩ : ByteArray), .int .i64 0, .int .i64 0, .int .i64 0]) ?_ 0 _ rfl; (with_reducible repeat (first | refine blk_drewN ?_ _ | refine blk_drew ?_ | refine blk_alloc ?_ _)); exact BK150.out) NB150_0.out (by simp)); have n2_ := Aside0.mk (KeepBut.trans (by repeat (first | (with_reducible first | exact HK.out | apply KeepBut.set_ | apply keep_drewN | apply keep_drew | apply keep_alloc | refine keep_far ?_ GW145.out _ | refine keep_far ?_ GW150.out _) | exact HK.out)) hk (.inl rfl)); have n3_ := Aside0.mk (hb); have n4_ := Aside0.mk (hi); clear BK145; clear BK150; clear HK; clear HB; clear HI0; have BK145 := n0_; have BK150 := n1_; have HK := n2_; have HB := n3_; have HI0 := n4_; clear n0_ n1_ n2_ n3_ n4_; (try clear hb); (try clear hb2); (try clear hk); (try clear hi)))
 (try simp only [Act.put, List.setIfInBounds_toArray, List.set_cons_zero, List.set_cons_succ])
 go_cut [] (fun wc => ∃ (kq : Nat) (x1001_6 : Int) (x151000_6 : Int) (x151001_6 : Int) (x151002_6 : Int) (x151003_6 : ByteArray) (x151004_6 : Int) (x151005_6 : Int) (x151006_6 : Int), Aside0 (spec_l20Plan.j0 kq a2 s0_0 x1001_6 x151000_6 x151001_6 x151002_6 x151003_6 x151004_6 x151005_6 x151006_6 = some (r1, r2, r3, r4, r5, r6, r7, r8)) ∧ Aside0 (kq ≤ k) ∧ Aside0 (wc.heap[gb145]? = some (.cells #[.int .i64 0, .int .i64 0, .int .i64 0, .string (⟨#[]⟩ : ByteArray), .int .i64 0, .int .i64 0, .int .i64 0] 26 (0, 0))) ∧ Aside0 (wc.heap[gb150]? = some (.cells #[.int .i64 x151000_6, .int .i64 x151001_6, .int .i64 x151002_6, .string x151003_6, .int .i64 x151004_6, .int .i64 x151005_6, .int .i64 x151006_6] 26 (0, 0))) ∧ Aside0 (IsS111 w0 wc g s0_0 x1001_6) ∧ Aside0 (KeepBut w wc g none) ∧ Aside0 (Below w0.heap.size w0 wc))
 case first =>
  have H := HC7.out
  clear HC7
  by_cases c16 : t151 = 0
  ·
   rw [if_pos c16] at H
   have c16b0 : (t151 == 0) = true := beq_iff_eq.mpr c16
   have c16b1 : (t151 != 0) = false := bne_eq_false_iff_eq.mpr c16
   clear c16
   (first | rw [c16b0] | (simp only [i64_w, i32_w]; rw [c16b0]) | skip)
   replace H := Option.bind_eq_some_iff.mp H
   obtain ⟨⟨t153, t154⟩, A170, H⟩ := H
   try dsimp only at H
   have A17 := Aside0.mk A170
   clear A170
   replace H := Option.bind_eq_some_iff.mp H
   obtain ⟨⟨t155, t156⟩, A180, H⟩ := H
   try dsimp only at H
   have A18 := Aside0.mk A180
   clear A180
   have H' := Aside0.mk H
   clear H
   go_wp2_with (first | ((with_reducible refine gate_callee (f := 75) rfl ?_); refine goesL_ (some 22) rfl rfl Try.func75 (by kernel_rfl) rfl #[.pointer (some ⟨g, 0, none⟩), .int .i64 a1] rfl (by (try simp only [List.map_toArray, List.map_cons, List.map_nil]); first | done | rfl | (simp only [List.length_drop, List.length_take]; rfl)) ?_; (with_reducible refine (spec_l20Rd_pick.calls k g s0_0 t152 a1 t153 t154 w0 _ ?side1 ?side2 A17.out).mono ?_); (case side1 => repeat (first | (with_reducible first | exact HI0.out | apply IsS111.alloc | apply IsS111.drewN | apply IsS111.drew | apply IsS111.set_1 | refine IsS111.far ?_ NB0_145.out _ | refine IsS111.far ?_ NB0_150.out _) | exact HI0.out)); (case side2 => repeat (first | (with_reducible first | exact HB.out | apply below_alloc | apply pw_below_drewN | apply below_drew1 | refine below_set ?_ (IsS111.ge HI0.out) | refine below_set ?_ GE145.out | refine below_set ?_ GE150.out) | exact HB.out)); rintro e w19 ⟨rfl, hi, hb, hk⟩; refine ⟨_, rfl, ?_⟩; have n0_ := Aside0.mk (KeepBut.blk hk (g' := gb145) (o := .cells #[.int .i64 0, .int .i64 0, .int .i64 0, .string (⟨#[]⟩ : ByteArray), .int .i64 0, .int .i64 0, .int .i64 0] 26 (0, 0)) (bq BK145) NB145_0.out (by simp)); have n1_ := Aside0.mk (KeepBut.blk hk (g' := gb150) (o := .cells #[.int .i64 1, .int .i64 t146, .int .i64 0, .string t148, .int .i64 0, .int .i64 0, .int .i64 0] 26 (0, 0)) (bq BK150) NB150_0.out (by simp)); have n2_ := Aside0.mk (KeepBut.trans (by repeat (first | (with_reducible first | exact HK.out | apply KeepBut.set_ | apply keep_drewN | apply keep_drew | apply keep_alloc | refine keep_far ?_ GW145.out _ | refine keep_far ?_ GW150.out _) | exact HK.out)) hk (.inl rfl)); have n3_ := Aside0.mk (hb); have n4_ := Aside0.mk (hi); clear BK145; clear BK150; clear HK; clear HB; clear HI0; have BK145 := n0_; have BK150 := n1_; have HK := n2_; have HB := n3_; have HI0 := n4_; clear n0_ n1_ n2_ n3_ n4_; (try clear hb); (try clear hb2); (try clear hk); (try clear hi)) | ((with_reducible refine gate_callee (f := 75) rfl ?_); refine goesL_ (some 27) rfl rfl Try.func75 (by kernel_rfl) rfl #[.pointer (some ⟨g, 0, none⟩), .int .i64 7] rfl (by (try simp only [List.map_toArray, List.map_cons, List.map_nil]); first | done | rfl | (simp only [List.length_drop, List.length_take]; rfl)) ?_; (with_reducible refine (spec_l20Rd_pick.calls k g s0_0 t154 7 t155 t156 w0 _ ?side1 ?side2 A18.out).mono ?_); (case side1 => repeat (first | (with_reducible first | exact HI0.out | apply IsS111.alloc | apply IsS111.drewN | apply IsS111.drew | apply IsS111.set_1 | refine IsS111.far ?_ NB0_145.out _ | refine IsS111.far ?_ NB0_150.out _) | exact HI0.out)); (case side2 => repeat (first | (with_reducible first | exact HB.out | apply below_alloc | apply pw_below_drewN | apply below_drew1 | refine below_set ?_ (IsS111.ge HI0.out) | refine below_set ?_ GE145.out | refine below_set ?_ GE150.out) | exact HB.out)); rintro e w20 ⟨rfl, hi, hb, hk⟩; refine ⟨_, rfl, ?_⟩; have n0_ := Aside0.mk (KeepBut.blk hk (g' := gb145) (o := .cells #[.int .i64 0, .int .i64 0, .int .i64 0, .string (⟨#[]⟩ : ByteArray), .int .i64 0, .int .i64 0, .int .i64 0] 26 (0, 0)) (bq BK145) NB145_0.out (by simp)); have n1_ := Aside0.mk (KeepBut.blk hk (g' := gb150) (o := .cells #[.int .i64 1, .int .i64 t146, .int .i64 0, .string t148, .int .i64 0, .int .i64 0, .int .i64 0] 26 (0, 0)) (bq BK150) NB150_0.out (by simp)); have n2_ := Aside0.mk (KeepBut.trans (by repeat (first | (with_reducible first | exact HK.out | apply KeepBut.set_ | apply keep_drewN | apply keep_drew | apply keep_alloc | refine keep_far ?_ GW145.out _ | refine keep_far ?_ GW150.out _) | exact HK.out)) hk (.inl rfl)); have n3_ := Aside0.mk (hb); have n4_ := Aside0.mk (hi); clear BK145; clear BK150; clear HK; clear HB; clear HI0; have BK145 := n0_; have BK150 := n1_; have HK := n2_; have HB := n3_; have HI0 := n4_; clear n0_ n1_ n2_ n3_ n4_; (try clear hb); (try clear hb2); (try clear hk); (try clear hi); have hnb21 := NB150_145.out; have hnc21 := NB145_150.out; have hnb22 := NB150_0.out; have hnc22 := NB0_150.out; have hcz23_0 : w20.cell? ⟨gb150, 0, none⟩ = some (.int .i64 1) := (blk_cell BK150.out 0).trans rfl; have hcz23_1 : w20.cell? ⟨gb150, 1, none⟩ = some (.int .i64 t146) := (blk_cell BK150.out 1).trans rfl; have hcz23_2 : w20.cell? ⟨gb150, 2, none⟩ = some (.int .i64 0) := (blk_cell BK150.out 2).trans rfl; have hcz23_3 : w20.cell? ⟨gb150, 3, none⟩ = some (.string t148) := (blk_cell BK150.out 3).trans rfl; have hcz23_4 : w20.cell? ⟨gb150, 4, none⟩ = some (.int .i64 0) := (blk_cell BK150.out 4).trans rfl; have hcz23_5 : w20.cell? ⟨gb150, 5, none⟩ = some (.int .i64 0) := (blk_cell BK150.out 5).trans rfl; have hcz23_6 : w20.cell? ⟨gb150, 6, none⟩ = some (.int .i64 0) := (blk_cell BK150.out 6).trans rfl; have hfz23_0 := blk_frozen BK150.out 0; have hfz23_1 := blk_frozen BK150.out 1; have hfz23_2 := blk_frozen BK150.out 2; have hfz23_3 := blk_frozen BK150.out 3; have hfz23_4 := blk_frozen BK150.out 4; have hfz23_5 := blk_frozen BK150.out 5; have hfz23_6 := blk_frozen BK150.out 6))
   go_meet
   case rel => exact ⟨_, (t156), (2), (t153), (Int.tmod (wrap64 ((wrap64 (t153 + 1)) + t155)) 8), ((⟨#[]⟩ : ByteArray)), (0), (0), (0), H', ⟨by first | omega | exact Nat.le_refl _⟩, ⟨by (with_reducible repeat (first | refine blk_drewN ?_ _ | refine blk_drew ?_ | refine blk_alloc ?_ _)); refine blk_far ?_ NB145_150.out _; (with_reducible repeat (first | refine blk_drewN ?_ _ | refine blk_drew ?_ | refine blk_alloc ?_ _)); refine blk_far ?_ NB145_150.out _; (with_reducible repeat (first | refine blk_drewN ?_ _ | refine blk_drew ?_ | refine blk_alloc ?_ _)); refine blk_far ?_ NB145_150.out _; (with_reducible repeat (first | refine blk_drewN ?_ _ | refine blk_drew ?_ | refine blk_alloc ?_ _)); refine blk_far ?_ NB145_150.out _; (with_reducible repeat (first | refine blk_drewN ?_ _ | refine blk_drew ?_ | refine blk_alloc ?_ _)); refine blk_far ?_ NB145_150.out _; (with_reducible repeat (first | refine blk_drewN ?_ _ | refine blk_drew ?_ | refine blk_alloc ?_ _)); refine blk_far ?_ NB145_150.out _; (with_reducible repeat (first | refine blk_drewN ?_ _ | refine blk_drew ?_ | refine blk_alloc ?_ _)); refine blk_far ?_ NB145_150.out _; (with_reducible repeat (first | refine blk_drewN ?_ _ | refine blk_drew ?_ | refine blk_alloc ?_ _)); exact BK145.out⟩, ⟨by (with_reducible repeat (first | refine blk_drewN ?_ _ | refine blk_drew ?_ | refine blk_alloc ?_ _)); refine blk_put (cs := #[.int .i64 2, .int .i64 t153, .int .i64 (Int.tmod (wrap64 ((wrap64 (t153 + 1)) + t155)) 8), .string (⟨#[]⟩ : ByteArray), .int .i64 0, .int .i64 0, .int .i64 0]) ?_ 6 _ rfl; (with_reducible repeat (first | refine blk_drewN ?_ _ | refine blk_drew ?_ | refine blk_alloc ?_ _)); refine blk_put (cs := #[.int .i64 2, .int .i64 t153, .int .i64 (Int.tmod (wrap64 ((wrap64 (t153 + 1)) + t155)) 8), .string (⟨#[]⟩ : ByteArray), .int .i64 0, .int .i64 0, .int .i64 0]) ?_ 5 _ rfl; (with_reducible repeat (first | refine blk_drewN ?_ _ | refine blk_drew ?_ | refine blk_alloc ?_ _)); refine blk_put (cs := #[.int .i64 2, .int .i64 t153, .int .i64 (Int.tmod (wrap64 ((wrap64 (t153 + 1)) + t155)) 8), .string (⟨#[]⟩ : ByteArray), .int .i64 0, .int .i64 0, .int .i64 0]) ?_ 4 _ rfl; (with_reducible repeat (first | refine blk_drewN ?_ _ | refine blk_drew ?_ | refine blk_alloc ?_ _)); refine blk_put (cs := #[.int .i64 2, .int .i64 t153, .int .i64 (Int.tmod (wrap64 ((wrap64 (t153 + 1)) + t155)) 8), .string t148, .int .i64 0, .int .i64 0, .int .i64 0]) ?_ 3 _ rfl; (with_reducible repeat (first | refine blk_drewN ?_ _ | refine blk_drew ?_ | refine blk_alloc ?_ _)); refine blk_put (cs := #[.int .i64 2, .int .i64 t153, .int .i64 0, .string t148, .int .i64 0, .int .i64 0, .int .i64 0]) ?_ 2 _ rfl; (with_reducible repeat (first | refine blk_drewN ?_ _ | refine blk_drew ?_ | refine blk_alloc ?_ _)); refine blk_put (cs := #[.int .i64 2, .int .i64 t146, .int .i64 0, .string t148, .int .i64 0, .int .i64 0, .int .i64 0]) ?_ 1 _ rfl; (with_reducible repeat (first | refine blk_drewN ?_ _ | refine blk_drew ?_ | refine blk_alloc ?_ _)); refine blk_put (cs := #[.int .i64 1, .int .i64 t146, .int .i64 0, .string t148, .int .i64 0, .int .i64 0, .int .i64 0]) ?_ 0 _ rfl; (with_reducible repeat (first | refine blk_drewN ?_ _ | refine blk_drew ?_ | refine blk_alloc ?_ _)); exact BK150.out⟩, ⟨by repeat (first | (with_reducible first | exact HI0.out | apply IsS111.alloc | apply IsS111.drewN | apply IsS111.drew | apply IsS111.set_1 | refine IsS111.far ?_ NB0_145.out _ | refine IsS111.far ?_ NB0_150.out _) | exact HI0.out)⟩, ⟨by repeat (first | (with_reducible first | exact HK.out | apply KeepBut.set_ | apply keep_drewN | apply keep_drew | apply keep_alloc | refine keep_far ?_ GW145.out _ | refine keep_far ?_ GW150.out _) | exact HK.out)⟩, ⟨by repeat (first | (with_reducible first | exact HB.out | apply below_alloc | apply pw_below_drewN | apply below_drew1 | refine below_set ?_ (IsS111.ge HI0.out) | refine below_set ?_ GE145.out | refine below_set ?_ GE150.out) | exact HB.out)⟩⟩
  ·
   rw [if_neg c16] at H
   have c16b0 : (t151 == 0) = false := beq_eq_false_iff_ne.mpr c16
   have c16b1 : (t151 != 0) = true := bne_iff_ne.mpr c16
   (first | rw [c16b0] | (simp only [i64_w, i32_w]; rw [c16b0]) | skip)
   by_cases c24 : t151 = 1
   ·
    rw [if_pos c24] at H
    have c24b0 : (t151 == 1) = true := beq_iff_eq.mpr c24
    have c24b1 : (t151 != 1) = false := bne_eq_false_iff_eq.mpr c24
    clear c24
    replace H := Option.bind_eq_some_iff.mp H
    obtain ⟨⟨t157, t158⟩, A250, H⟩ := H
    try dsimp only at H
    have A25 := Aside0.mk A250
    clear A250
    replace H := Option.bind_eq_some_iff.mp H
    obtain ⟨⟨t159, t160⟩, A260, H⟩ := H
    try dsimp only at H
    have A26 := Aside0.mk A260
    clear A260
    replace H := Option.bind_eq_some_iff.mp H
    obtain ⟨⟨t161, t162⟩, A270, H⟩ := H
    try dsimp only at H
    have A27 := Aside0.mk A270
    clear A270
    replace H := Option.bind_eq_some_iff.mp H
    obtain ⟨⟨t163, t164⟩, A280, H⟩ := H
    try dsimp only at H
    have A28 := Aside0.mk A280
    clear A280
    have H' := Aside0.mk H
    clear H
    go_wp2_with (first | ((with_reducible refine gate_callee (f := 75) rfl ?_); refine goesL_ (some 34) rfl rfl Try.func75 (by kernel_rfl) rfl #[.pointer (some ⟨g, 0, none⟩), .int .i64 5] rfl (by (try simp only [List.map_toArray, List.map_cons, List.map_nil]); first | done | rfl | (simp only [List.length_drop, List.length_take]; rfl)) ?_; (with_reducible refine (spec_l20Rd_pick.calls k g s0_0 t152 5 t157 t158 w0 _ ?side1 ?side2 A25.out).mono ?_); (case side1 => repeat (first | (with_reducible first | exact HI0.out | apply IsS111.alloc | apply IsS111.drewN | apply IsS111.drew | apply IsS111.set_1 | refine IsS111.far ?_ NB0_145.out _ | refine IsS111.far ?_ NB0_150.out _) | exact HI0.out)); (case side2 => repeat (first | (with_reducible first | exact HB.out | apply below_alloc | apply pw_below_drewN | apply below_drew1 | refine below_set ?_ (IsS111.ge HI0.out) | refine below_set ?_ GE145.out | refine below_set ?_ GE150.out) | exact HB.out)); rintro e w29 ⟨rfl, hi, hb, hk⟩; refine ⟨_, rfl, ?_⟩; have n0_ := Aside0.mk (KeepBut.blk hk (g' := gb145) (o := .cells #[.int .i64 0, .int .i64 0, .int .i64 0, .string (⟨#[]⟩ : ByteArray), .int .i64 0, .int .i64 0, .int .i64 0] 26 (0, 0)) (bq BK145) NB145_0.out (by simp)); have n1_ := Aside0.mk (KeepBut.blk hk (g' := gb150) (o := .cells #[.int .i64 1, .int .i64 t146, .int .i64 0, .string t148, .int .i64 0, .int .i64 0, .int .i64 0] 26 (0, 0)) (bq BK150) NB150_0.out (by simp)); have n2_ := Aside0.mk (KeepBut.trans (by repeat (first | (with_reducible first | exact HK.out | apply KeepBut.set_ | apply keep_drewN | apply keep_drew | apply keep_alloc | refine keep_far ?_ GW145.out _ | refine keep_far ?_ GW150.out _) | exact HK.out)) hk (.inl rfl)); have n3_ := Aside0.mk (hb); have n4_ := Aside0.mk (hi); clear BK145; clear BK150; clear HK; clear HB; clear HI0; have BK145 := n0_; have BK150 := n1_; have HK := n2_; have HB := n3_; have HI0 := n4_; clear n0_ n1_ n2_ n3_ n4_; (try clear hb); (try clear hb2); (try clear hk); (try clear hi)) | ((with_reducible refine gate_callee (f := 75) rfl ?_); refine goesL_ (some 37) rfl rfl Try.func75 (by kernel_rfl) rfl #[.pointer (some ⟨g, 0, none⟩), .int .i64 a1] rfl (by (try simp only [List.map_toArray, List.map_cons, List.map_nil]); first | done | rfl | (simp only [List.length_drop, List.length_take]; rfl)) ?_; (with_reducible refine (spec_l20Rd_pick.calls k g s0_0 t158 a1 t159 t160 w0 _ ?side1 ?side2 A26.out).mono ?_); (case side1 => repeat (first | (with_reducible first | exact HI0.out | apply IsS111.alloc | apply IsS111.drewN | apply IsS111.drew | apply IsS111.set_1 | refine IsS111.far ?_ NB0_145.out _ | refine IsS111.far ?_ NB0_150.out _) | exact HI0.out)); (case side2 => repeat (first | (with_reducible first | exact HB.out | apply below_alloc | apply pw_below_drewN | apply below_drew1 | refine below_set ?_ (IsS111.ge HI0.out) | refine below_set ?_ GE145.out | refine below_set ?_ GE150.out) | exact HB.out)); rintro e w30 ⟨rfl, hi, hb, hk⟩; refine ⟨_, rfl, ?_⟩; have n0_ := Aside0.mk (KeepBut.blk hk (g' := gb145) (o := .cells #[.int .i64 0, .int .i64 0, .int .i64 0, .string (⟨#[]⟩ : ByteArray), .int .i64 0, .int .i64 0, .int .i64 0] 26 (0, 0)) (bq BK145) NB145_0.out (by simp)); have n1_ := Aside0.mk (KeepBut.blk hk (g' := gb150) (o := .cells #[.int .i64 1, .int .i64 t146, .int .i64 0, .string t148, .int .i64 0, .int .i64 0, .int .i64 0] 26 (0, 0)) (bq BK150) NB150_0.out (by simp)); have n2_ := Aside0.mk (KeepBut.trans (by repeat (first | (with_reducible first | exact HK.out | apply KeepBut.set_ | apply keep_drewN | apply keep_drew | apply keep_alloc | refine keep_far ?_ GW145.out _ | refine keep_far ?_ GW150.out _) | exact HK.out)) hk (.inl rfl)); have n3_ := Aside0.mk (hb); have n4_ := Aside0.mk (hi); clear BK145; clear BK150; clear HK; clear HB; clear HI0; have BK145 := n0_; have BK150 := n1_; have HK := n2_; have HB := n3_; have HI0 := n4_; clear n0_ n1_ n2_ n3_ n4_; (try clear hb); (try clear hb2); (try clear hk); (try clear hi)) | ((with_reducible refine gate_callee (f := 75) rfl ?_); refine goesL_ (some 42) rfl rfl Try.func75 (by kernel_rfl) rfl #[.pointer (some ⟨g, 0, none⟩), .int .i64 4] rfl (by (try simp only [List.map_toArray, List.map_cons, List.map_nil]); first | done | rfl | (simp only [List.length_drop, List.length_take]; rfl)) ?_; (with_reducible refine (spec_l20Rd_pick.calls k g s0_0 t160 4 t161 t162 w0 _ ?side1 ?side2 A27.out).mono ?_); (case side1 => repeat (first | (with_reducible first | exact HI0.out | apply IsS111.alloc | apply IsS111.drewN | apply IsS111.drew | apply IsS111.set_1 | refine IsS111.far ?_ NB0_145.out _ | refine IsS111.far ?_ NB0_150.out _) | exact HI0.out)); (case side2 => repeat (first | (with_reducible first | exact HB.out | apply below_alloc | apply pw_below_drewN | apply below_drew1 | refine below_set ?_ (IsS111.ge HI0.out) | refine below_set ?_ GE145.out | refine below_set ?_ GE150.out) | exact HB.out)); rintro e w31 ⟨rfl, hi, hb, hk⟩; refine ⟨_, rfl, ?_⟩; have n0_ := Aside0.mk (KeepBut.blk hk (g' := gb145) (o := .cells #[.int .i64 0, .int .i64 0, .int .i64 0, .string (⟨#[]⟩ : ByteArray), .int .i64 0, .int .i64 0, .int .i64 0] 26 (0, 0)) (bq BK145) NB145_0.out (by simp)); have n1_ := Aside0.mk (KeepBut.blk hk (g' := gb150) (o := .cells #[.int .i64 1, .int .i64 t146, .int .i64 0, .string t148, .int .i64 0, .int .i64 0, .int .i64 0] 26 (0, 0)) (bq BK150) NB150_0.out (by simp)); have n2_ := Aside0.mk (KeepBut.trans (by repeat (first | (with_reducible first | exact HK.out | apply KeepBut.set_ | apply keep_drewN | apply keep_drew | apply keep_alloc | refine keep_far ?_ GW145.out _ | refine keep_far ?_ GW150.out _) | exact HK.out)) hk (.inl rfl)); have n3_ := Aside0.mk (hb); have n4_ := Aside0.mk (hi); clear BK145; clear BK150; clear HK; clear HB; clear HI0; have BK145 := n0_; have BK150 := n1_; have HK := n2_; have HB := n3_; have HI0 := n4_; clear n0_ n1_ n2_ n3_ n4_; (try clear hb); (try clear hb2); (try clear hk); (try clear hi)) | ((with_reducible refine gate_callee (f := 75) rfl ?_); refine goesL_ (some 46) rfl rfl Try.func75 (by kernel_rfl) rfl #[.pointer (some ⟨g, 0, none⟩), .int .i64 2] rfl (by (try simp only [List.map_toArray, List.map_cons, List.map_nil]); first | done | rfl | (simp only [List.length_drop, List.length_take]; rfl)) ?_; (with_reducible refine (spec_l20Rd_pick.calls k g s0_0 t162 2 t163 t164 w0 _ ?side1 ?side2 A28.out).mono ?_); (case side1 => repeat (first | (with_reducible first | exact HI0.out | apply IsS111.alloc | apply IsS111.drewN | apply IsS111.drew | apply IsS111.set_1 | refine IsS111.far ?_ NB0_145.out _ | refine IsS111.far ?_ NB0_150.out _) | exact HI0.out)); (case side2 => repeat (first | (with_reducible first | exact HB.out | apply below_alloc | apply pw_below_drewN | apply below_drew1 | refine below_set ?_ (IsS111.ge HI0.out) | refine below_set ?_ GE145.out | refine below_set ?_ GE150.out) | exact HB.out)); rintro e w32 ⟨rfl, hi, hb, hk⟩; refine ⟨_, rfl, ?_⟩; have n0_ := Aside0.mk (KeepBut.blk hk (g' := gb145) (o := .cells #[.int .i64 0, .int .i64 0, .int .i64 0, .string (⟨#[]⟩ : ByteArray), .int .i64 0, .int .i64 0, .int .i64 0] 26 (0, 0)) (bq BK145) NB145_0.out (by simp)); have n1_ := Aside0.mk (KeepBut.blk hk (g' := gb150) (o := .cells #[.int .i64 1, .int .i64 t146, .int .i64 0, .string t148, .int .i64 0, .int .i64 0, .int .i64 0] 26 (0, 0)) (bq BK150) NB150_0.out (by simp)); have n2_ := Aside0.mk (KeepBut.trans (by repeat (first | (with_reducible first | exact HK.out | apply KeepBut.set_ | apply keep_drewN | apply keep_drew | apply keep_alloc | refine keep_far ?_ GW145.out _ | refine keep_far ?_ GW150.out _) | exact HK.out)) hk (.inl rfl)); have n3_ := Aside0.mk (hb); have n4_ := Aside0.mk (hi); clear BK145; clear BK150; clear HK; clear HB; clear HI0; have BK145 := n0_; have BK150 := n1_; have HK := n2_; have HB := n3_; have HI0 := n4_; clear n0_ n1_ n2_ n3_ n4_; (try clear hb); (try clear hb2); (try clear hk); (try clear hi); have hnb33 := NB150_145.out; have hnc33 := NB145_150.out; have hnb34 := NB150_0.out; have hnc34 := NB0_150.out; have hcz35_0 : w32.cell? ⟨gb150, 0, none⟩ = some (.int .i64 1) := (blk_cell BK150.out 0).trans rfl; have hcz35_1 : w32.cell? ⟨gb150, 1, none⟩ = some (.int .i64 t146) := (blk_cell BK150.out 1).trans rfl; have hcz35_2 : w32.cell? ⟨gb150, 2, none⟩ = some (.int .i64 0) := (blk_cell BK150.out 2).trans rfl; have hcz35_3 : w32.cell? ⟨gb150, 3, none⟩ = some (.string t148) := (blk_cell BK150.out 3).trans rfl; have hcz35_4 : w32.cell? ⟨gb150, 4, none⟩ = some (.int .i64 0) := (blk_cell BK150.out 4).trans rfl; have hcz35_5 : w32.cell? ⟨gb150, 5, none⟩ = some (.int .i64 0) := (blk_cell BK150.out 5).trans rfl; have hcz35_6 : w32.cell? ⟨gb150, 6, none⟩ = some (.int .i64 0) := (blk_cell BK150.out 6).trans rfl; have hfz35_0 := blk_frozen BK150.out 0; have hfz35_1 := blk_frozen BK150.out 1; have hfz35_2 := blk_frozen BK150.out 2; have hfz35_3 := blk_frozen BK150.out 3; have hfz35_4 := blk_frozen BK150.out 4; have hfz35_5 := blk_frozen BK150.out 5; have hfz35_6 := blk_frozen BK150.out 6))
    go_meet
    case rel => exact ⟨_, (t164), (3), (t159), (0), ((⟨#[]⟩ : ByteArray)), (t157), (Int.tmod (wrap64 ((wrap64 (t157 + 1)) + t161)) 5), (t163), H', ⟨by first | omega | exact Nat.le_refl _⟩, ⟨by (with_reducible repeat (first | refine blk_drewN ?_ _ | refine blk_drew ?_ | refine blk_alloc ?_ _)); refine blk_far ?_ NB145_150.out _; (with_reducible repeat (first | refine blk_drewN ?_ _ | refine blk_drew ?_ | refine blk_alloc ?_ _)); refine blk_far ?_ NB145_150.out _; (with_reducible repeat (first | refine blk_drewN ?_ _ | refine blk_drew ?_ | refine blk_alloc ?_ _)); refine blk_far ?_ NB145_150.out _; (with_reducible repeat (first | refine blk_drewN ?_ _ | refine blk_drew ?_ | refine blk_alloc ?_ _)); refine blk_far ?_ NB145_150.out _; (with_reducible repeat (first | refine blk_drewN ?_ _ | refine blk_drew ?_ | refine blk_alloc ?_ _)); refine blk_far ?_ NB145_150.out _; (with_reducible repeat (first | refine blk_drewN ?_ _ | refine blk_drew ?_ | refine blk_alloc ?_ _)); refine blk_far ?_ NB145_150.out _; (with_reducible repeat (first | refine blk_drewN ?_ _ | refine blk_drew ?_ | refine blk_alloc ?_ _)); refine blk_far ?_ NB145_150.out _; (with_reducible repeat (first | refine blk_drewN ?_ _ | refine blk_drew ?_ | refine blk_alloc ?_ _)); exact BK145.out⟩, ⟨by (with_reducible repeat (first | refine blk_drewN ?_ _ | refine blk_drew ?_ | refine blk_alloc ?_ _)); refine blk_put (cs := #[.int .i64 3, .int .i64 t159, .int .i64 0, .string (⟨#[]⟩ : ByteArray), .int .i64 t157, .int .i64 (Int.tmod (wrap64 ((wrap64 (t157 + 1)) + t161)) 5), .int .i64 0]) ?_ 6 _ rfl; (with_reducible repeat (first | refine blk_drewN ?_ _ | refine blk_drew ?_ | refine blk_alloc ?_ _)); refine blk_put (cs := #[.int .i64 3, .int .i64 t159, .int .i64 0, .string (⟨#[]⟩ : ByteArray), .int .i64 t157, .int .i64 0, .int .i64 0]) ?_ 5 _ rfl; (with_reducible repeat (first | refine blk_drewN ?_ _ | refine blk_drew ?_ | refine blk_alloc ?_ _)); refine blk_put (cs := #[.int .i64 3, .int .i64 t159, .int .i64 0, .string (⟨#[]⟩ : ByteArray), .int .i64 0, .int .i64 0, .int .i64 0]) ?_ 4 _ rfl; (with_reducible repeat (first | refine blk_drewN ?_ _ | refine blk_drew ?_ | refine blk_alloc ?_ _)); refine blk_put (cs := #[.int .i64 3, .int .i64 t159, .int .i64 0, .string t148, .int .i64 0, .int .i64 0, .int .i64 0]) ?_ 3 _ rfl; (with_reducible repeat (first | refine blk_drewN ?_ _ | refine blk_drew ?_ | refine blk_alloc ?_ _)); refine blk_put (cs := #[.int .i64 3, .int .i64 t159, .int .i64 0, .string t148, .int .i64 0, .int .i64 0, .int .i64 0]) ?_ 2 _ rfl; (with_reducible repeat (first | refine blk_drewN ?_ _ | refine blk_drew ?_ | refine blk_alloc ?_ _)); refine blk_put (cs := #[.int .i64 3, .int .i64 t146, .int .i64 0, .string t148, .int .i64 0, .int .i64 0, .int .i64 0]) ?_ 1 _ rfl; (with_reducible repeat (first | refine blk_drewN ?_ _ | refine blk_drew ?_ | refine blk_alloc ?_ _)); refine blk_put (cs := #[.int .i64 1, .int .i64 t146, .int .i64 0, .string t148, .int .i64 0, .int .i64 0, .int .i64 0]) ?_ 0 _ rfl; (with_reducible repeat (first | refine blk_drewN ?_ _ | refine blk_drew ?_ | refine blk_alloc ?_ _)); exact BK150.out⟩, ⟨by repeat (first | (with_reducible first | exact HI0.out | apply IsS111.alloc | apply IsS111.drewN | apply IsS111.drew | apply IsS111.set_1 | refine IsS111.far ?_ NB0_145.out _ | refine IsS111.far ?_ NB0_150.out _) | exact HI0.out)⟩, ⟨by repeat (first | (with_reducible first | exact HK.out | apply KeepBut.set_ | apply keep_drewN | apply keep_drew | apply keep_alloc | refine keep_far ?_ GW145.out _ | refine keep_far ?_ GW150.out _) | exact HK.out)⟩, ⟨by repeat (first | (with_reducible first | exact HB.out | apply below_alloc | apply pw_below_drewN | apply below_drew1 | refine below_set ?_ (IsS111.ge HI0.out) | refine below_set ?_ GE145.out | refine below_set ?_ GE150.out) | exact HB.out)⟩⟩
   ·
    rw [if_neg c24] at H
    have c24b0 : (t151 == 1) = false := beq_eq_false_iff_ne.mpr c24
    have c24b1 : (t151 != 1) = true := bne_iff_ne.mpr c24
    have H' := Aside0.mk H
    clear H
    go_wp2
    go_meet
    case rel => exact ⟨_, (t152), (1), (t146), (0), (t148), (0), (0), (0), H', ⟨by first | omega | exact Nat.le_refl _⟩, ⟨by (with_reducible repeat (first | refine blk_drewN ?_ _ | refine blk_drew ?_ | refine blk_alloc ?_ _)); exact BK145.out⟩, ⟨by (with_reducible repeat (first | refine blk_drewN ?_ _ | refine blk_drew ?_ | refine blk_alloc ?_ _)); exact BK150.out⟩, ⟨by repeat (first | (with_reducible first | exact HI0.out | apply IsS111.alloc | apply IsS111.drewN | apply IsS111.drew | apply IsS111.set_1 | refine IsS111.far ?_ NB0_145.out _ | refine IsS111.far ?_ NB0_150.out _) | exact HI0.out)⟩, ⟨by repeat (first | (with_reducible first | exact HK.out | apply KeepBut.set_ | apply keep_drewN | apply keep_drew | apply keep_alloc | refine keep_far ?_ GW145.out _ | refine keep_far ?_ GW150.out _) | exact HK.out)⟩, ⟨by repeat (first | (with_reducible first | exact HB.out | apply below_alloc | apply pw_below_drewN | apply below_drew1 | refine below_set ?_ (IsS111.ge HI0.out) | refine below_set ?_ GE145.out | refine below_set ?_ GE150.out) | exact HB.out)⟩⟩
 case rest =>
  clear HC7
  try clear c1
  try clear c2
  try clear p2
  try clear c3
  try clear c6
  try clear p6
  try clear c7
  try clear c8
  try clear c12
  try clear c13
  try clear c16
  try clear c16b0
  try clear c16b1
  try clear c21
  try clear c22
  try clear c24
  try clear c24b0
  try clear c24b1
  try clear c33
  try clear c34
  try clear hcz14_0
  try clear hcz14_1
  try clear hcz14_2
  try clear hcz14_3
  try clear hcz14_4
  try clear hcz14_5
  try clear hcz14_6
  try clear hcz23_0
  try clear hcz23_1
  try clear hcz23_2
  try clear hcz23_3
  try clear hcz23_4
  try clear hcz23_5
  try clear hcz23_6
  try clear hcz35_0
  try clear hcz35_1
  try clear hcz35_2
  try clear hcz35_3
  try clear hcz35_4
  try clear hcz35_5
  try clear hcz35_6
  try clear hfz14_0
  try clear hfz14_1
  try clear hfz14_2
  try clear hfz14_3
  try clear hfz14_4
  try clear hfz14_5
  try clear hfz14_6
  try clear hfz23_0
  try clear hfz23_1
  try clear hfz23_2
  try clear hfz23_3
  try clear hfz23_4
  try clear hfz23_5
  try clear hfz23_6
  try clear hfz35_0
  try clear hfz35_1
  try clear hfz35_2
  try clear hfz35_3
  try clear hfz35_4
  try clear hfz35_5
  try clear hfz35_6
  obtain ⟨kq, x1001_6, x151000_6, x151001_6, x151002_6, x151003_6, x151004_6, x151005_6, x151006_6, HA, HJ6, BK145, BK150, HI0, HK, HB⟩ := hcut
  cases kq with
  | zero => exact absurd HA.out (by simp [spec_l20Plan.j0])
  | succ kj6 =>
   have H := HA.out
   clear HA
   simp only [spec_l20Plan.j0] at H
   replace H := Option.bind_eq_some_iff.mp H
   obtain ⟨⟨t165, t166⟩, A360, H⟩ := H
   try dsimp only at H
   have A36 := Aside0.mk A360
   clear A360
   by_cases c37 : t165 = true
   ·
    subst c37
    rw [if_pos rfl] at H
    replace H := Option.bind_eq_some_iff.mp H
    obtain ⟨⟨t167, t168⟩, A380, H⟩ := H
    try dsimp only at H
    have A38 := Aside0.mk A380
    clear A380
    by_cases c39 : t167 = 0
    ·
     rw [if_pos c39] at H
     have c39b0 : (t167 == 0) = true := beq_iff_eq.mpr c39
     have c39b1 : (t167 != 0) = false := bne_eq_false_iff_eq.mpr c39
     clear c39
     obtain ⟨y169, hy169⟩ : ∃ y_ : List Int, y_ = (([0, 4] : List Int)) := ⟨_, rfl⟩
     replace H : ((spec_l20Rd_pick.f kj6 s0_0 t168 2).bind fun bt172 => (if 0 ≤ bt172.1 then (if bt172.1 < (y169.length : Int) then (some (rd y169 bt172.1, x151001_6, x151002_6, x151003_6, x151004_6, x151005_6, x151006_6, bt172.2)) else (none)) else (none))) = some (r1, r2, r3, r4, r5, r6, r7, r8) := by first | (rw [hy169]; with_reducible exact H) | (have H2_ := (Option.bind_some _ _).symm.trans H; rw [hy169]; with_reducible exact H2_) | (have H2_ := (Option.bind_some _ _).symm.trans H; with_reducible exact H2_) | with_reducible exact H | (rw [hy169]; exact H) | exact H
     have Ny169 := Aside0.mk hy169
     clear hy169
     replace H := Option.bind_eq_some_iff.mp H
     obtain ⟨⟨t172, t173⟩, A400, H⟩ := H
     try dsimp only at H
     have A40 := Aside0.mk A400
     clear A400
     by_cases c41 : 0 ≤ t172
     ·
      rw [if_pos c41] at H
      have c41b0 : decide (0 ≤ t172) = true := decide_eq_true c41
      clear c41
      by_cases c42 : t172 < (y169.length : Int)
      ·
       rw [if_pos c42] at H
       have c42b0 : decide (t172 < (y169.length : Int)) = true := decide_eq_true c42
       clear c42
       simp only [Option.some.injEq, Prod.mk.injEq] at H
       obtain ⟨rfl, rfl, rfl, rfl, rfl, rfl, rfl, rfl⟩ := H
       go_wp2_with (first | ((with_reducible refine gate_callee (f := 90) rfl ?_); refine goesL_ (some 50) rfl rfl Try.func90 (by kernel_rfl) rfl #[.pointer (some ⟨g, 0, none⟩), .int .i64 a2] rfl (by (try simp only [List.map_toArray, List.map_cons, List.map_nil]); first | done | rfl | (simp only [List.length_drop, List.length_take]; rfl)) ?_; (with_reducible refine (spec_l20Rd_odd.calls kj6 g s0_0 x1001_6 a2 true t166 w0 _ ?side1 ?side2 A36.out).mono ?_); (case side1 => repeat (first | (with_reducible first | exact HI0.out | apply IsS111.alloc | apply IsS111.drewN | apply IsS111.drew | apply IsS111.set_1 | refine IsS111.far ?_ NB0_145.out _ | refine IsS111.far ?_ NB0_150.out _) | exact HI0.out)); (case side2 => repeat (first | (with_reducible first | exact HB.out | apply below_alloc | apply pw_below_drewN | apply below_drew1 | refine below_set ?_ (IsS111.ge HI0.out) | refine below_set ?_ GE145.out | refine below_set ?_ GE150.out) | exact HB.out)); rintro e w43 ⟨rfl, hi, hb, hk⟩; refine ⟨_, rfl, ?_⟩; have n0_ := Aside0.mk (KeepBut.blk hk (g' := gb145) (o := .cells #[.int .i64 0, .int .i64 0, .int .i64 0, .string (⟨#[]⟩ : ByteArray), .int .i64 0, .int .i64 0, .int .i64 0] 26 (0, 0)) (bq BK145) NB145_0.out (by simp)); have n1_ := Aside0.mk (KeepBut.blk hk (g' := gb150) (o := .cells #[.int .i64 x151000_6, .int .i64 x151001_6, .int .i64 x151002_6, .string x151003_6, .int .i64 x151004_6, .int .i64 x151005_6, .int .i64 x151006_6] 26 (0, 0)) (bq BK150) NB150_0.out (by simp)); have n2_ := Aside0.mk (KeepBut.trans (by repeat (first | (with_reducible first | exact HK.out | apply KeepBut.set_ | apply keep_drewN | apply keep_drew | apply keep_alloc | refine keep_far ?_ GW145.out _ | refine keep_far ?_ GW150.out _) | exact HK.out)) hk (.inl rfl)); have n3_ := Aside0.mk (hb); have n4_ := Aside0.mk (hi); clear BK145; clear BK150; clear HK; clear HB; clear HI0; have BK145 := n0_; have BK150 := n1_; have HK := n2_; have HB := n3_; have HI0 := n4_; clear n0_ n1_ n2_ n3_ n4_; (try clear hb); (try clear hb2); (try clear hk); (try clear hi)) | ((with_reducible refine gate_callee (f := 75) rfl ?_); refine goesL_ (some 52) rfl rfl Try.func75 (by kernel_rfl) rfl #[.pointer (some ⟨g, 0, none⟩), .int .i64 6] rfl (by (try simp only [List.map_toArray, List.map_cons, List.map_nil]); first | done | rfl | (simp only [List.length_drop, List.length_take]; rfl)) ?_; (with_reducible refine (spec_l20Rd_pick.calls kj6 g s0_0 t166 6 t167 t168 w0 _ ?side1 ?side2 A38.out).mono ?_); (case side1 => repeat (first | (with_reducible first | exact HI0.out | apply IsS111.alloc | apply IsS111.drewN | apply IsS111.drew | apply IsS111.set_1 | refine IsS111.far ?_ NB0_145.out _ | refine IsS111.far ?_ NB0_150.out _) | exact HI0.out)); (case side2 => repeat (first | (with_reducible first | exact HB.out | apply below_alloc | apply pw_below_drewN | apply below_drew1 | refine below_set ?_ (IsS111.ge HI0.out) | refine below_set ?_ GE145.out | refine below_set ?_ GE150.out) | exact HB.out)); rintro e w44 ⟨rfl, hi, hb, hk⟩; refine ⟨_, rfl, ?_⟩; have n0_ := Aside0.mk (KeepBut.blk hk (g' := gb145) (o := .cells #[.int .i64 0, .int .i64 0, .int .i64 0, .string (⟨#[]⟩ : ByteArray), .int .i64 0, .int .i64 0, .int .i64 0] 26 (0, 0)) (bq BK145) NB145_0.out (by simp)); have n1_ := Aside0.mk (KeepBut.blk hk (g' := gb150) (o := .cells #[.int .i64 x151000_6, .int .i64 x151001_6, .int .i64 x151002_6, .string x151003_6, .int .i64 x151004_6, .int .i64 x151005_6, .int .i64 x151006_6] 26 (0, 0)) (bq BK150) NB150_0.out (by simp)); have n2_ := Aside0.mk (KeepBut.trans (by repeat (first | (with_reducible first | exact HK.out | apply KeepBut.set_ | apply keep_drewN | apply keep_drew | apply keep_alloc | refine keep_far ?_ GW145.out _ | refine keep_far ?_ GW150.out _) | exact HK.out)) hk (.inl rfl)); have n3_ := Aside0.mk (hb); have n4_ := Aside0.mk (hi); clear BK145; clear BK150; clear HK; clear HB; clear HI0; have BK145 := n0_; have BK150 := n1_; have HK := n2_; have HB := n3_; have HI0 := n4_; clear n0_ n1_ n2_ n3_ n4_; (try clear hb); (try clear hb2); (try clear hk); (try clear hi)) | ((with_reducible refine gate_dst (N := 56) rfl ?_); refine Kd.R_lit (Kd.int .i64) _ 3 ?hg (N := 56) ?hd (xs := ([0, 4] : List Int)) (inner := [.int .i64 0, .int .i64 4]) (ok := fun _ => True) (okp := fun _ => True) ?hr ?hp (fun _ hk => hk) trivial (Below.refl _ _) (Nat.le_refl _) (by simp) ?_; (case hd => rfl); (case hg => rfl); (case hr => first | (go_simp; done) | (go_simp; rfl)); (case hp => exact (Reps.one (show Kd.M (Kd.int .i64) _ _ _ 0 [.int .i64 0] from rfl) (Reps.one (show Kd.M (Kd.int .i64) _ _ _ 4 [.int .i64 4] from rfl) (Reps.none _ _)))); intro v170 w45 ho46 hb hg_ hnew_; clear hg_ hnew_; (first | rw [← Ny169.out] at ho46 | (simp only [Int.reduceToNat] at ho46; rw [← Ny169.out] at ho46)); have n0_ := Aside0.mk (Kd.R_lower ho46 (keep_size (w := w) (g := g) (row := none) (by repeat (first | (with_reducible first | exact HK.out | apply KeepBut.set_ | apply keep_drewN | apply keep_drew | apply keep_alloc | refine keep_far ?_ GW145.out _ | refine keep_far ?_ GW150.out _) | exact HK.out)))); have n1_ := bkb BK145 hb; have n2_ := bkb BK150 hb; have n3_ := Aside0.mk (IsS111.below (by repeat (first | (with_reducible first | exact HI0.out | apply IsS111.alloc | apply IsS111.drewN | apply IsS111.drew | apply IsS111.set_1 | refine IsS111.far ?_ NB0_145.out _ | refine IsS111.far ?_ NB0_150.out _) | exact HI0.out)) hb); have n4_ := Aside0.mk (KeepBut.trans (by repeat (first | (with_reducible first | exact HK.out | apply KeepBut.set_ | apply keep_drewN | apply keep_drew | apply keep_alloc | refine keep_far ?_ GW145.out _ | refine keep_far ?_ GW150.out _) | exact HK.out)) (KeepBut.of_below hb g none) (.inl rfl)); have n5_ := Aside0.mk (below_step (by repeat (first | (with_reducible first | exact HB.out | apply below_alloc | apply pw_below_drewN | apply below_drew1 | refine below_set ?_ (IsS111.ge HI0.out) | refine below_set ?_ GE145.out | refine below_set ?_ GE150.out) | exact HB.out)) hb); clear BK145; clear BK150; clear HI0; clear HK; clear HB; have HO171 := n0_; have BK145 := n1_; have BK150 := n2_; have HI0 := n3_; have HK := n4_; have HB := n5_; clear n0_ n1_ n2_ n3_ n4_ n5_; clear hb ho46) | ((with_reducible refine gate_callee (f := 75) rfl ?_); refine goesL_ (some 58) rfl rfl Try.func75 (by kernel_rfl) rfl #[.pointer (some ⟨g, 0, none⟩), .int .i64 2] rfl (by (try simp only [List.map_toArray, List.map_cons, List.map_nil]); first | done | rfl | (simp only [List.length_drop, List.length_take]; rfl)) ?_; (with_reducible refine (spec_l20Rd_pick.calls kj6 g s0_0 t168 2 t172 t173 w0 _ ?side1 ?side2 A40.out).mono ?_); (case side1 => repeat (first | (with_reducible first | exact HI0.out | apply IsS111.alloc | apply IsS111.drewN | apply IsS111.drew | apply IsS111.set_1 | refine IsS111.far ?_ NB0_145.out _ | refine IsS111.far ?_ NB0_150.out _) | exact HI0.out)); (case side2 => repeat (first | (with_reducible first | exact HB.out | apply below_alloc | apply pw_below_drewN | apply below_drew1 | refine below_set ?_ (IsS111.ge HI0.out) | refine below_set ?_ GE145.out | refine below_set ?_ GE150.out) | exact HB.out)); rintro e w47 ⟨rfl, hi, hb, hk⟩; refine ⟨_, rfl, ?_⟩; have n0_ := Aside0.mk (KeepBut.blk hk (g' := gb145) (o := .cells #[.int .i64 0, .int .i64 0, .int .i64 0, .string (⟨#[]⟩ : ByteArray), .int .i64 0, .int .i64 0, .int .i64 0] 26 (0, 0)) (bq BK145) NB145_0.out (by simp)); have n1_ := Aside0.mk (KeepBut.blk hk (g' := gb150) (o := .cells #[.int .i64 x151000_6, .int .i64 x151001_6, .int .i64 x151002_6, .string x151003_6, .int .i64 x151004_6, .int .i64 x151005_6, .int .i64 x151006_6] 26 (0, 0)) (bq BK150) NB150_0.out (by simp)); have n2_ := Aside0.mk (Kd.R_mono (Kd.R_keep (IsS111.apart (show IsS111 w0 _ g s0_0 t168 from by repeat (first | (with_reducible first | exact HI0.out | apply IsS111.alloc | apply IsS111.drewN | apply IsS111.drew | apply IsS111.set_1 | refine IsS111.far ?_ NB0_145.out _ | refine IsS111.far ?_ NB0_150.out _) | exact HI0.out)) (by (with_reducible repeat (first | apply Kd.R_alloc | apply Kd.R_drewN | apply Kd.R_drew)); exact HO171.out) (by decide)) hk (fun _ h => h.2)) (fun _ h => h.1)); have n3_ := Aside0.mk (KeepBut.trans (by repeat (first | (with_reducible first | exact HK.out | apply KeepBut.set_ | apply keep_drewN | apply keep_drew | apply keep_alloc | refine keep_far ?_ GW145.out _ | refine keep_far ?_ GW150.out _) | exact HK.out)) hk (.inl rfl)); have n4_ := Aside0.mk (hb); have n5_ := Aside0.mk (hi); clear BK145; clear BK150; clear HO171; clear HK; clear HB; clear HI0; have BK145 := n0_; have BK150 := n1_; have HO171 := n2_; have HK := n3_; have HB := n4_; have HI0 := n5_; clear n0_ n1_ n2_ n3_ n4_ n5_; (try clear hb); (try clear hb2); (try clear hk); (try clear hi); obtain ⟨Ao48, co48, eo48⟩ := Kd.R_slice HO171.out; subst eo48; have p174 : 0 ≤ (t172 : Int) := of_decide_eq_true (by first | (with_reducible assumption) | assumption); have q174 : t172 < (y169.length : Int) := of_decide_eq_true (by first | (with_reducible assumption) | assumption); obtain ⟨ad174, e174, hx174_0⟩ := Kd.at_int (Kd.R_reads' HO171.out).2.2 t172 p174 q174; cases e174; replace p174 := eq_true p174; replace q174 := eq_true q174; have hnb49 := NB150_145.out; have hnc49 := NB145_150.out; have hnb50 := NB150_0.out; have hnc50 := NB0_150.out; have hcz51_0 : w47.cell? ⟨gb150, 0, none⟩ = some (.int .i64 x151000_6) := (blk_cell BK150.out 0).trans rfl; have hcz51_1 : w47.cell? ⟨gb150, 1, none⟩ = some (.int .i64 x151001_6) := (blk_cell BK150.out 1).trans rfl; have hcz51_2 : w47.cell? ⟨gb150, 2, none⟩ = some (.int .i64 x151002_6) := (blk_cell BK150.out 2).trans rfl; have hcz51_3 : w47.cell? ⟨gb150, 3, none⟩ = some (.string x151003_6) := (blk_cell BK150.out 3).trans rfl; have hcz51_4 : w47.cell? ⟨gb150, 4, none⟩ = some (.int .i64 x151004_6) := (blk_cell BK150.out 4).trans rfl; have hcz51_5 : w47.cell? ⟨gb150, 5, none⟩ = some (.int .i64 x151005_6) := (blk_cell BK150.out 5).trans rfl; have hcz51_6 : w47.cell? ⟨gb150, 6, none⟩ = some (.int .i64 x151006_6) := (blk_cell BK150.out 6).trans rfl; have hfz51_0 := blk_frozen BK150.out 0; have hfz51_1 := blk_frozen BK150.out 1; have hfz51_2 := blk_frozen BK150.out 2; have hfz51_3 := blk_frozen BK150.out 3; have hfz51_4 := blk_frozen BK150.out 4; have hfz51_5 := blk_frozen BK150.out 5; have hfz51_6 := blk_frozen BK150.out 6; have hnb52 := NB145_0.out; have hnc52 := NB0_145.out; have hcz53_0 : w47.cell? ⟨gb145, 0, none⟩ = some (.int .i64 0) := (blk_cell BK145.out 0).trans rfl; have hcz53_1 : w47.cell? ⟨gb145, 1, none⟩ = some (.int .i64 0) := (blk_cell BK145.out 1).trans rfl; have hcz53_2 : w47.cell? ⟨gb145, 2, none⟩ = some (.int .i64 0) := (blk_cell BK145.out 2).trans rfl; have hcz53_3 : w47.cell? ⟨gb145, 3, none⟩ = some (.string (⟨#[]⟩ : ByteArray)) := (blk_cell BK145.out 3).trans rfl; have hcz53_4 : w47.cell? ⟨gb145, 4, none⟩ = some (.int .i64 0) := (blk_cell BK145.out 4).trans rfl; have hcz53_5 : w47.cell? ⟨gb145, 5, none⟩ = some (.int .i64 0) := (blk_cell BK145.out 5).trans rfl; have hcz53_6 : w47.cell? ⟨gb145, 6, none⟩ = some (.int .i64 0) := (blk_cell BK145.out 6).trans rfl; have hfz53_0 := blk_frozen BK145.out 0; have hfz53_1 := blk_frozen BK145.out 1; have hfz53_2 := blk_frozen BK145.out 2; have hfz53_3 := blk_frozen BK145.out 3; have hfz53_4 := blk_frozen BK145.out 4; have hfz53_5 := blk_frozen BK145.out 5; have hfz53_6 := blk_frozen BK145.out 6))
       refine bodyPost_ret (results_cell_row rfl _ _ gb145 26 #[.int .i64 (rd y169 t172), .int .i64 x151001_6, .int .i64 x151002_6, .string x151003_6, .int .i64 x151004_6, .int .i64 x151005_6, .int .i64 x151006_6] (0, 0) _ rfl (by (with_reducible repeat (first | refine blk_drewN ?_ _ | refine blk_drew ?_ | refine blk_alloc ?_ _)); refine blk_put (cs := #[.int .i64 (rd y169 t172), .int .i64 x151001_6, .int .i64 x151002_6, .string x151003_6, .int .i64 x151004_6, .int .i64 x151005_6, .int .i64 0]) ?_ 6 _ rfl; (with_reducible repeat (first | refine blk_drewN ?_ _ | refine blk_drew ?_ | refine blk_alloc ?_ _)); refine blk_put (cs := #[.int .i64 (rd y169 t172), .int .i64 x151001_6, .int .i64 x151002_6, .string x151003_6, .int .i64 x151004_6, .int .i64 0, .int .i64 0]) ?_ 5 _ rfl; (with_reducible repeat (first | refine blk_drewN ?_ _ | refine blk_drew ?_ | refine blk_alloc ?_ _)); refine blk_put (cs := #[.int .i64 (rd y169 t172), .int .i64 x151001_6, .int .i64 x151002_6, .string x151003_6, .int .i64 0, .int .i64 0, .int .i64 0]) ?_ 4 _ rfl; (with_reducible repeat (first | refine blk_drewN ?_ _ | refine blk_drew ?_ | refine blk_alloc ?_ _)); refine blk_put (cs := #[.int .i64 (rd y169 t172), .int .i64 x151001_6, .int .i64 x151002_6, .string (⟨#[]⟩ : ByteArray), .int .i64 0, .int .i64 0, .int .i64 0]) ?_ 3 _ rfl; (with_reducible repeat (first | refine blk_drewN ?_ _ | refine blk_drew ?_ | refine blk_alloc ?_ _)); refine blk_put (cs := #[.int .i64 (rd y169 t172), .int .i64 x151001_6, .int .i64 0, .string (⟨#[]⟩ : ByteArray), .int .i64 0, .int .i64 0, .int .i64 0]) ?_ 2 _ rfl; (with_reducible repeat (first | refine blk_drewN ?_ _ | refine blk_drew ?_ | refine blk_alloc ?_ _)); refine blk_put (cs := #[.int .i64 (rd y169 t172), .int .i64 0, .int .i64 0, .string (⟨#[]⟩ : ByteArray), .int .i64 0, .int .i64 0, .int .i64 0]) ?_ 1 _ rfl; (with_reducible repeat (first | refine blk_drewN ?_ _ | refine blk_drew ?_ | refine blk_alloc ?_ _)); refine blk_put (cs := #[.int .i64 0, .int .i64 0, .int .i64 0, .string (⟨#[]⟩ : ByteArray), .int .i64 0, .int .i64 0, .int .i64 0]) ?_ 0 _ rfl; (with_reducible repeat (first | refine blk_drewN ?_ _ | refine blk_drew ?_ | refine blk_alloc ?_ _)); refine blk_far ?_ NB145_150.out _; (with_reducible repeat (first | refine blk_drewN ?_ _ | refine blk_drew ?_ | refine blk_alloc ?_ _)); exact BK145.out) Try.underlying26 rfl (by kernel_rfl)) rfl ?_
       exact ⟨by first | rfl | (simp only [u8w, w64m]; rfl) | (simp [errW_none, errW_some] <;> rfl) | (simp [*, errW_none, errW_some] <;> rfl), by repeat (first | (with_reducible first | exact HI0.out | apply IsS111.alloc | apply IsS111.drewN | apply IsS111.drew | apply IsS111.set_1 | refine IsS111.far ?_ NB0_145.out _ | refine IsS111.far ?_ NB0_150.out _) | exact HI0.out), by repeat (first | (with_reducible first | exact HB.out | apply below_alloc | apply pw_below_drewN | apply below_drew1 | refine below_set ?_ (IsS111.ge HI0.out) | refine below_set ?_ GE145.out | refine below_set ?_ GE150.out) | exact HB.out), by repeat (first | (with_reducible first | exact HK.out | apply KeepBut.set_ | apply keep_drewN | apply keep_drew | apply keep_alloc | refine keep_far ?_ GW145.out _ | refine keep_far ?_ GW150.out _) | exact HK.out)⟩
      ·
       rw [if_neg c42] at H
       exact absurd H (by simp)
     ·
      rw [if_neg c41] at H
      exact absurd H (by simp)
    ·
     rw [if_neg c39] at H
     have c39b0 : (t167 == 0) = false := beq_eq_false_iff_ne.mpr c39
     have c39b1 : (t167 != 0) = true := bne_iff_ne.mpr c39
     by_cases c54 : t167 = 1
     ·
      rw [if_pos c54] at H
      have c54b0 : (t167 == 1) = true := beq_iff_eq.mpr c54
      have c54b1 : (t167 != 1) = false := bne_eq_false_iff_eq.mpr c54
      clear c54
      obtain ⟨y175, hy175⟩ : ∃ y_ : List Int, y_ = (([(-1), 8] : List Int)) := ⟨_, rfl⟩
      replace H : ((spec_l20Rd_pick.f kj6 s0_0 t168 2).bind fun bt178 => (if 0 ≤ bt178.1 then (if bt178.1 < (y175.length : Int) then (some (x151000_6, rd y175 bt178.1, x151002_6, x151003_6, x151004_6, x151005_6, x151006_6, bt178.2)) else (none)) else (none))) = some (r1, r2, r3, r4, r5, r6, r7, r8) := by first | (rw [hy175]; with_reducible exact H) | (have H2_ := (Option.bind_some _ _).symm.trans H; rw [hy175]; with_reducible exact H2_) | (have H2_ := (Option.bind_some _ _).symm.trans H; with_reducible exact H2_) | with_reducible exact H | (rw [hy175]; exact H) | exact H
      have Ny175 := Aside0.mk hy175
      clear hy175
      replace H := Option.bind_eq_some_iff.mp H
      obtain ⟨⟨t178, t179⟩, A550, H⟩ := H
      try dsimp only at H
      have A55 := Aside0.mk A550
      clear A550
      by_cases c56 : 0 ≤ t178
      ·
       rw [if_pos c56] at H
       have c56b0 : decide (0 ≤ t178) = true := decide_eq_true c56
       clear c56
       by_cases c57 : t178 < (y175.length : Int)
       ·
        rw [if_pos c57] at H
        have c57b0 : decide (t178 < (y175.length : Int)) = true := decide_eq_true c57
        clear c57
        simp only [Option.some.injEq, Prod.mk.injEq] at H
        obtain ⟨rfl, rfl, rfl, rfl, rfl, rfl, rfl, rfl⟩ := H
        go_wp2_with (first | ((with_reducible refine gate_callee (f := 90) rfl ?_); refine goesL_ (some 50) rfl rfl Try.func90 (by kernel_rfl) rfl #[.pointer (some ⟨g, 0, none⟩), .int .i64 a2] rfl (by (try simp only [List.map_toArray, List.map_cons, List.map_nil]); first | done | rfl | (simp only [List.length_drop, List.length_take]; rfl)) ?_; (with_reducible refine (spec_l20Rd_odd.calls kj6 g s0_0 x1001_6 a2 true t166 w0 _ ?side1 ?side2 A36.out).mono ?_); (case side1 => repeat (first | (with_reducible first | exact HI0.out | apply IsS111.alloc | apply IsS111.drewN | apply IsS111.drew | apply IsS111.set_1 | refine IsS111.far ?_ NB0_145.out _ | refine IsS111.far ?_ NB0_150.out _) | exact HI0.out)); (case side2 => repeat (first | (with_reducible first | exact HB.out | apply below_alloc | apply pw_below_drewN | apply below_drew1 | refine below_set ?_ (IsS111.ge HI0.out) | refine below_set ?_ GE145.out | refine below_set ?_ GE150.out) | exact HB.out)); rintro e w58 ⟨rfl, hi, hb, hk⟩; refine ⟨_, rfl, ?_⟩; have n0_ := Aside0.mk (KeepBut.blk hk (g' := gb145) (o := .cells #[.int .i64 0, .int .i64 0, .int .i64 0, .string (⟨#[]⟩ : ByteArray), .int .i64 0, .int .i64 0, .int .i64 0] 26 (0, 0)) (bq BK145) NB145_0.out (by simp)); have n1_ := Aside0.mk (KeepBut.blk hk (g' := gb150) (o := .cells #[.int .i64 x151000_6, .int .i64 x151001_6, .int .i64 x151002_6, .string x151003_6, .int .i64 x151004_6, .int .i64 x151005_6, .int .i64 x151006_6] 26 (0, 0)) (bq BK150) NB150_0.out (by simp)); have n2_ := Aside0.mk (KeepBut.trans (by repeat (first | (with_reducible first | exact HK.out | apply KeepBut.set_ | apply keep_drewN | apply keep_drew | apply keep_alloc | refine keep_far ?_ GW145.out _ | refine keep_far ?_ GW150.out _) | exact HK.out)) hk (.inl rfl)); have n3_ := Aside0.mk (hb); have n4_ := Aside0.mk (hi); clear BK145; clear BK150; clear HK; clear HB; clear HI0; have BK145 := n0_; have BK150 := n1_; have HK := n2_; have HB := n3_; have HI0 := n4_; clear n0_ n1_ n2_ n3_ n4_; (try clear hb); (try clear hb2); (try clear hk); (try clear hi)) | ((with_reducible refine gate_callee (f := 75) rfl ?_); refine goesL_ (some 52) rfl rfl Try.func75 (by kernel_rfl) rfl #[.pointer (some ⟨g, 0, none⟩), .int .i64 6] rfl (by (try simp only [List.map_toArray, List.map_cons, List.map_nil]); first | done | rfl | (simp only [List.length_drop, List.length_take]; rfl)) ?_; (with_reducible refine (spec_l20Rd_pick.calls kj6 g s0_0 t166 6 t167 t168 w0 _ ?side1 ?side2 A38.out).mono ?_); (case side1 => repeat (first | (with_reducible first | exact HI0.out | apply IsS111.alloc | apply IsS111.drewN | apply IsS111.drew | apply IsS111.set_1 | refine IsS111.far ?_ NB0_145.out _ | refine IsS111.far ?_ NB0_150.out _) | exact HI0.out)); (case side2 => repeat (first | (with_reducible first | exact HB.out | apply below_alloc | apply pw_below_drewN | apply below_drew1 | refine below_set ?_ (IsS111.ge HI0.out) | refine below_set ?_ GE145.out | refine below_set ?_ GE150.out) | exact HB.out)); rintro e w59 ⟨rfl, hi, hb, hk⟩; refine ⟨_, rfl, ?_⟩; have n0_ := Aside0.mk (KeepBut.blk hk (g' := gb145) (o := .cells #[.int .i64 0, .int .i64 0, .int .i64 0, .string (⟨#[]⟩ : ByteArray), .int .i64 0, .int .i64 0, .int .i64 0] 26 (0, 0)) (bq BK145) NB145_0.out (by simp)); have n1_ := Aside0.mk (KeepBut.blk hk (g' := gb150) (o := .cells #[.int .i64 x151000_6, .int .i64 x151001_6, .int .i64 x151002_6, .string x151003_6, .int .i64 x151004_6, .int .i64 x151005_6, .int .i64 x151006_6] 26 (0, 0)) (bq BK150) NB150_0.out (by simp)); have n2_ := Aside0.mk (KeepBut.trans (by repeat (first | (with_reducible first | exact HK.out | apply KeepBut.set_ | apply keep_drewN | apply keep_drew | apply keep_alloc | refine keep_far ?_ GW145.out _ | refine keep_far ?_ GW150.out _) | exact HK.out)) hk (.inl rfl)); have n3_ := Aside0.mk (hb); have n4_ := Aside0.mk (hi); clear BK145; clear BK150; clear HK; clear HB; clear HI0; have BK145 := n0_; have BK150 := n1_; have HK := n2_; have HB := n3_; have HI0 := n4_; clear n0_ n1_ n2_ n3_ n4_; (try clear hb); (try clear hb2); (try clear hk); (try clear hi)) | ((with_reducible refine gate_dst (N := 64) rfl ?_); refine Kd.R_lit (Kd.int .i64) _ 3 ?hg (N := 64) ?hd (xs := ([(-1), 8] : List Int)) (inner := [.int .i64 (-1), .int .i64 8]) (ok := fun _ => True) (okp := fun _ => True) ?hr ?hp (fun _ hk => hk) trivial (Below.refl _ _) (Nat.le_refl _) (by simp) ?_; (case hd => rfl); (case hg => rfl); (case hr => first | (go_simp; done) | (go_simp; rfl)); (case hp => exact (Reps.one (show Kd.M (Kd.int .i64) _ _ _ (-1) [.int .i64 (-1)] from rfl) (Reps.one (show Kd.M (Kd.int .i64) _ _ _ 8 [.int .i64 8] from rfl) (Reps.none _ _)))); intro v176 w60 ho61 hb hg_ hnew_; clear hg_ hnew_; (first | rw [← Ny175.out] at ho61 | (simp only [Int.reduceToNat] at ho61; rw [← Ny175.out] at ho61)); have n0_ := Aside0.mk (Kd.R_lower ho61 (keep_size (w := w) (g := g) (row := none) (by repeat (first | (with_reducible first | exact HK.out | apply KeepBut.set_ | apply keep_drewN | apply keep_drew | apply keep_alloc | refine keep_far ?_ GW145.out _ | refine keep_far ?_ GW150.out _) | exact HK.out)))); have n1_ := bkb BK145 hb; have n2_ := bkb BK150 hb; have n3_ := Aside0.mk (IsS111.below (by repeat (first | (with_reducible first | exact HI0.out | apply IsS111.alloc | apply IsS111.drewN | apply IsS111.drew | apply IsS111.set_1 | refine IsS111.far ?_ NB0_145.out _ | refine IsS111.far ?_ NB0_150.out _) | exact HI0.out)) hb); have n4_ := Aside0.mk (KeepBut.trans (by repeat (first | (with_reducible first | exact HK.out | apply KeepBut.set_ | apply keep_drewN | apply keep_drew | apply keep_alloc | refine keep_far ?_ GW145.out _ | refine keep_far ?_ GW150.out _) | exact HK.out)) (KeepBut.of_below hb g none) (.inl rfl)); have n5_ := Aside0.mk (below_step (by repeat (first | (with_reducible first | exact HB.out | apply below_alloc | apply pw_below_drewN | apply below_drew1 | refine below_set ?_ (IsS111.ge HI0.out) | refine below_set ?_ GE145.out | refine below_set ?_ GE150.out) | exact HB.out)) hb); clear BK145; clear BK150; clear HI0; clear HK; clear HB; have HO177 := n0_; have BK145 := n1_; have BK150 := n2_; have HI0 := n3_; have HK := n4_; have HB := n5_; clear n0_ n1_ n2_ n3_ n4_ n5_; clear hb ho61) | ((with_reducible refine gate_callee (f := 75) rfl ?_); refine goesL_ (some 66) rfl rfl Try.func75 (by kernel_rfl) rfl #[.pointer (some ⟨g, 0, none⟩), .int .i64 2] rfl (by (try simp only [List.map_toArray, List.map_cons, List.map_nil]); first | done | rfl | (simp only [List.length_drop, List.length_take]; rfl)) ?_; (with_reducible refine (spec_l20Rd_pick.calls kj6 g s0_0 t168 2 t178 t179 w0 _ ?side1 ?side2 A55.out).mono ?_); (case side1 => repeat (first | (with_reducible first | exact HI0.out | apply IsS111.alloc | apply IsS111.drewN | apply IsS111.drew | apply IsS111.set_1 | refine IsS111.far ?_ NB0_145.out _ | refine IsS111.far ?_ NB0_150.out _) | exact HI0.out)); (case side2 => repeat (first | (with_reducible first | exact HB.out | apply below_alloc | apply pw_below_drewN | apply below_drew1 | refine below_set ?_ (IsS111.ge HI0.out) | refine below_set ?_ GE145.out | refine below_set ?_ GE150.out) | exact HB.out)); rintro e w62 ⟨rfl, hi, hb, hk⟩; refine ⟨_, rfl, ?_⟩; have n0_ := Aside0.mk (KeepBut.blk hk (g' := gb145) (o := .cells #[.int .i64 0, .int .i64 0, .int .i64 0, .string (⟨#[]⟩ : ByteArray), .int .i64 0, .int .i64 0, .int .i64 0] 26 (0, 0)) (bq BK145) NB145_0.out (by simp)); have n1_ := Aside0.mk (KeepBut.blk hk (g' := gb150) (o := .cells #[.int .i64 x151000_6, .int .i64 x151001_6, .int .i64 x151002_6, .string x151003_6, .int .i64 x151004_6, .int .i64 x151005_6, .int .i64 x151006_6] 26 (0, 0)) (bq BK150) NB150_0.out (by simp)); have n2_ := Aside0.mk (Kd.R_mono (Kd.R_keep (IsS111.apart (show IsS111 w0 _ g s0_0 t168 from by repeat (first | (with_reducible first | exact HI0.out | apply IsS111.alloc | apply IsS111.drewN | apply IsS111.drew | apply IsS111.set_1 | refine IsS111.far ?_ NB0_145.out _ | refine IsS111.far ?_ NB0_150.out _) | exact HI0.out)) (by (with_reducible repeat (first | apply Kd.R_alloc | apply Kd.R_drewN | apply Kd.R_drew)); exact HO177.out) (by decide)) hk (fun _ h => h.2)) (fun _ h => h.1)); have n3_ := Aside0.mk (KeepBut.trans (by repeat (first | (with_reducible first | exact HK.out | apply KeepBut.set_ | apply keep_drewN | apply keep_drew | apply keep_alloc | refine keep_far ?_ GW145.out _ | refine keep_far ?_ GW150.out _) | exact HK.out)) hk (.inl rfl)); have n4_ := Aside0.mk (hb); have n5_ := Aside0.mk (hi); clear BK145; clear BK150; clear HO177; clear HK; clear HB; clear HI0; have BK145 := n0_; have BK150 := n1_; have HO177 := n2_; have HK := n3_; have HB := n4_; have HI0 := n5_; clear n0_ n1_ n2_ n3_ n4_ n5_; (try clear hb); (try clear hb2); (try clear hk); (try clear hi); obtain ⟨Ao63, co63, eo63⟩ := Kd.R_slice HO177.out; subst eo63; have p180 : 0 ≤ (t178 : Int) := of_decide_eq_true (by first | (with_reducible assumption) | assumption); have q180 : t178 < (y175.length : Int) := of_decide_eq_true (by first | (with_reducible assumption) | assumption); obtain ⟨ad180, e180, hx180_0⟩ := Kd.at_int (Kd.R_reads' HO177.out).2.2 t178 p180 q180; cases e180; replace p180 := eq_true p180; replace q180 := eq_true q180; have hnb64 := NB150_145.out; have hnc64 := NB145_150.out; have hnb65 := NB150_0.out; have hnc65 := NB0_150.out; have hcz66_0 : w62.cell? ⟨gb150, 0, none⟩ = some (.int .i64 x151000_6) := (blk_cell BK150.out 0).trans rfl; have hcz66_1 : w62.cell? ⟨gb150, 1, none⟩ = some (.int .i64 x151001_6) := (blk_cell BK150.out 1).trans rfl; have hcz66_2 : w62.cell? ⟨gb150, 2, none⟩ = some (.int .i64 x151002_6) := (blk_cell BK150.out 2).trans rfl; have hcz66_3 : w62.cell? ⟨gb150, 3, none⟩ = some (.string x151003_6) := (blk_cell BK150.out 3).trans rfl; have hcz66_4 : w62.cell? ⟨gb150, 4, none⟩ = some (.int .i64 x151004_6) := (blk_cell BK150.out 4).trans rfl; have hcz66_5 : w62.cell? ⟨gb150, 5, none⟩ = some (.int .i64 x151005_6) := (blk_cell BK150.out 5).trans rfl; have hcz66_6 : w62.cell? ⟨gb150, 6, none⟩ = some (.int .i64 x151006_6) := (blk_cell BK150.out 6).trans rfl; have hfz66_0 := blk_frozen BK150.out 0; have hfz66_1 := blk_frozen BK150.out 1; have hfz66_2 := blk_frozen BK150.out 2; have hfz66_3 := blk_frozen BK150.out 3; have hfz66_4 := blk_frozen BK150.out 4; have hfz66_5 := blk_frozen BK150.out 5; have hfz66_6 := blk_frozen BK150.out 6; have hnb67 := NB145_0.out; have hnc67 := NB0_145.out; have hcz68_0 : w62.cell? ⟨gb145, 0, none⟩ = some (.int .i64 0) := (blk_cell BK145.out 0).trans rfl; have hcz68_1 : w62.cell? ⟨gb145, 1, none⟩ = some (.int .i64 0) := (blk_cell BK145.out 1).trans rfl; have hcz68_2 : w62.cell? ⟨gb145, 2, none⟩ = some (.int .i64 0) := (blk_cell BK145.out 2).trans rfl; have hcz68_3 : w62.cell? ⟨gb145, 3, none⟩ = some (.string (⟨#[]⟩ : ByteArray)) := (blk_cell BK145.out 3).trans rfl; have hcz68_4 : w62.cell? ⟨gb145, 4, none⟩ = some (.int .i64 0) := (blk_cell BK145.out 4).trans rfl; have hcz68_5 : w62.cell? ⟨gb145, 5, none⟩ = some (.int .i64 0) := (blk_cell BK145.out 5).trans rfl; have hcz68_6 : w62.cell? ⟨gb145, 6, none⟩ = some (.int .i64 0) := (blk_cell BK145.out 6).trans rfl; have hfz68_0 := blk_frozen BK145.out 0; have hfz68_1 := blk_frozen BK145.out 1; have hfz68_2 := blk_frozen BK145.out 2; have hfz68_3 := blk_frozen BK145.out 3; have hfz68_4 := blk_frozen BK145.out 4; have hfz68_5 := blk_frozen BK145.out 5; have hfz68_6 := blk_frozen BK145.out 6))
        refine bodyPost_ret (results_cell_row rfl _ _ gb145 26 #[.int .i64 x151000_6, .int .i64 (rd y175 t178), .int .i64 x151002_6, .string x151003_6, .int .i64 x151004_6, .int .i64 x151005_6, .int .i64 x151006_6] (0, 0) _ rfl (by (with_reducible repeat (first | refine blk_drewN ?_ _ | refine blk_drew ?_ | refine blk_alloc ?_ _)); refine blk_put (cs := #[.int .i64 x151000_6, .int .i64 (rd y175 t178), .int .i64 x151002_6, .string x151003_6, .int .i64 x151004_6, .int .i64 x151005_6, .int .i64 0]) ?_ 6 _ rfl; (with_reducible repeat (first | refine blk_drewN ?_ _ | refine blk_drew ?_ | refine blk_alloc ?_ _)); refine blk_put (cs := #[.int .i64 x151000_6, .int .i64 (rd y175 t178), .int .i64 x151002_6, .string x151003_6, .int .i64 x151004_6, .int .i64 0, .int .i64 0]) ?_ 5 _ rfl; (with_reducible repeat (first | refine blk_drewN ?_ _ | refine blk_drew ?_ | refine blk_alloc ?_ _)); refine blk_put (cs := #[.int .i64 x151000_6, .int .i64 (rd y175 t178), .int .i64 x151002_6, .string x151003_6, .int .i64 0, .int .i64 0, .int .i64 0]) ?_ 4 _ rfl; (with_reducible repeat (first | refine blk_drewN ?_ _ | refine blk_drew ?_ | refine blk_alloc ?_ _)); refine blk_put (cs := #[.int .i64 x151000_6, .int .i64 (rd y175 t178), .int .i64 x151002_6, .string (⟨#[]⟩ : ByteArray), .int .i64 0, .int .i64 0, .int .i64 0]) ?_ 3 _ rfl; (with_reducible repeat (first | refine blk_drewN ?_ _ | refine blk_drew ?_ | refine blk_alloc ?_ _)); refine blk_put (cs := #[.int .i64 x151000_6, .int .i64 (rd y175 t178), .int .i64 0, .string (⟨#[]⟩ : ByteArray), .int .i64 0, .int .i64 0, .int .i64 0]) ?_ 2 _ rfl; (with_reducible repeat (first | refine blk_drewN ?_ _ | refine blk_drew ?_ | refine blk_alloc ?_ _)); refine blk_put (cs := #[.int .i64 x151000_6, .int .i64 0, .int .i64 0, .string (⟨#[]⟩ : ByteArray), .int .i64 0, .int .i64 0, .int .i64 0]) ?_ 1 _ rfl; (with_reducible repeat (first | refine blk_drewN ?_ _ | refine blk_drew ?_ | refine blk_alloc ?_ _)); refine blk_put (cs := #[.int .i64 0, .int .i64 0, .int .i64 0, .string (⟨#[]⟩ : ByteArray), .int .i64 0, .int .i64 0, .int .i64 0]) ?_ 0 _ rfl; (with_reducible repeat (first | refine blk_drewN ?_ _ | refine blk_drew ?_ | refine blk_alloc ?_ _)); refine blk_far ?_ NB145_150.out _; (with_reducible repeat (first | refine blk_drewN ?_ _ | refine blk_drew ?_ | refine blk_alloc ?_ _)); exact BK145.out) Try.underlying26 rfl (by kernel_rfl)) rfl ?_
        exact ⟨by first | rfl | (simp only [u8w, w64m]; rfl) | (simp [errW_none, errW_some] <;> rfl) | (simp [*, errW_none, errW_some] <;> rfl), by repeat (first | (with_reducible first | exact HI0.out | apply IsS111.alloc | apply IsS111.drewN | apply IsS111.drew | apply IsS111.set_1 | refine IsS111.far ?_ NB0_145.out _ | refine IsS111.far ?_ NB0_150.out _) | exact HI0.out), by repeat (first | (with_reducible first | exact HB.out | apply below_alloc | apply pw_below_drewN | apply below_drew1 | refine below_set ?_ (IsS111.ge HI0.out) | refine below_set ?_ GE145.out | refine below_set ?_ GE150.out) | exact HB.out), by repeat (first | (with_reducible first | exact HK.out | apply KeepBut.set_ | apply keep_drewN | apply keep_drew | apply keep_alloc | refine keep_far ?_ GW145.out _ | refine keep_far ?_ GW150.out _) | exact HK.out)⟩
       ·
        rw [if_neg c57] at H
        exact absurd H (by simp)
      ·
       rw [if_neg c56] at H
       exact absurd H (by simp)
     ·
      rw [if_neg c54] at H
      have c54b0 : (t167 == 1) = false := beq_eq_false_iff_ne.mpr c54
      have c54b1 : (t167 != 1) = true := bne_iff_ne.mpr c54
      by_cases c69 : t167 = 2
      ·
       rw [if_pos c69] at H
       have c69b0 : (t167 == 2) = true := beq_iff_eq.mpr c69
       have c69b1 : (t167 != 2) = false := bne_eq_false_iff_eq.mpr c69
       clear c69
       simp only [Option.some.injEq, Prod.mk.injEq] at H
       obtain ⟨rfl, rfl, rfl, rfl, rfl, rfl, rfl, rfl⟩ := H
       go_wp2_with (first | ((with_reducible refine gate_callee (f := 90) rfl ?_); refine goesL_ (some 50) rfl rfl Try.func90 (by kernel_rfl) rfl #[.pointer (some ⟨g, 0, none⟩), .int .i64 a2] rfl (by (try simp only [List.map_toArray, List.map_cons, List.map_nil]); first | done | rfl | (simp only [List.length_drop, List.length_take]; rfl)) ?_; (with_reducible refine (spec_l20Rd_odd.calls kj6 g s0_0 x1001_6 a2 true t166 w0 _ ?side1 ?side2 A36.out).mono ?_); (case side1 => repeat (first | (with_reducible first | exact HI0.out | apply IsS111.alloc | apply IsS111.drewN | apply IsS111.drew | apply IsS111.set_1 | refine IsS111.far ?_ NB0_145.out _ | refine IsS111.far ?_ NB0_150.out _) | exact HI0.out)); (case side2 => repeat (first | (with_reducible first | exact HB.out | apply below_alloc | apply pw_below_drewN | apply below_drew1 | refine below_set ?_ (IsS111.ge HI0.out) | refine below_set ?_ GE145.out | refine below_set ?_ GE150.out) | exact HB.out)); rintro e w70 ⟨rfl, hi, hb, hk⟩; refine ⟨_, rfl, ?_⟩; have n0_ := Aside0.mk (KeepBut.blk hk (g' := gb145) (o := .cells #[.int .i64 0, .int .i64 0, .int .i64 0, .string (⟨#[]⟩ : ByteArray), .int .i64 0, .int .i64 0, .int .i64 0] 26 (0, 0)) (bq BK145) NB145_0.out (by simp)); have n1_ := Aside0.mk (KeepBut.blk hk (g' := gb150) (o := .cells #[.int .i64 x151000_6, .int .i64 x151001_6, .int .i64 x151002_6, .string x151003_6, .int .i64 x151004_6, .int .i64 x151005_6, .int .i64 x151006_6] 26 (0, 0)) (bq BK150) NB150_0.out (by simp)); have n2_ := Aside0.mk (KeepBut.trans (by repeat (first | (with_reducible first | exact HK.out | apply KeepBut.set_ | apply keep_drewN | apply keep_drew | apply keep_alloc | refine keep_far ?_ GW145.out _ | refine keep_far ?_ GW150.out _) | exact HK.out)) hk (.inl rfl)); have n3_ := Aside0.mk (hb); have n4_ := Aside0.mk (hi); clear BK145; clear BK150; clear HK; clear HB; clear HI0; have BK145 := n0_; have BK150 := n1_; have HK := n2_; have HB := n3_; have HI0 := n4_; clear n0_ n1_ n2_ n3_ n4_; (try clear hb); (try clear hb2); (try clear hk); (try clear hi)) | ((with_reducible refine gate_callee (f := 75) rfl ?_); refine goesL_ (some 52) rfl rfl Try.func75 (by kernel_rfl) rfl #[.pointer (some ⟨g, 0, none⟩), .int .i64 6] rfl (by (try simp only [List.map_toArray, List.map_cons, List.map_nil]); first | done | rfl | (simp only [List.length_drop, List.length_take]; rfl)) ?_; (with_reducible refine (spec_l20Rd_pick.calls kj6 g s0_0 t166 6 t167 t168 w0 _ ?side1 ?side2 A38.out).mono ?_); (case side1 => repeat (first | (with_reducible first | exact HI0.out | apply IsS111.alloc | apply IsS111.drewN | apply IsS111.drew | apply IsS111.set_1 | refine IsS111.far ?_ NB0_145.out _ | refine IsS111.far ?_ NB0_150.out _) | exact HI0.out)); (case side2 => repeat (first | (with_reducible first | exact HB.out | apply below_alloc | apply pw_below_drewN | apply below_drew1 | refine below_set ?_ (IsS111.ge HI0.out) | refine below_set ?_ GE145.out | refine below_set ?_ GE150.out) | exact HB.out)); rintro e w71 ⟨rfl, hi, hb, hk⟩; refine ⟨_, rfl, ?_⟩; have n0_ := Aside0.mk (KeepBut.blk hk (g' := gb145) (o := .cells #[.int .i64 0, .int .i64 0, .int .i64 0, .string (⟨#[]⟩ : ByteArray), .int .i64 0, .int .i64 0, .int .i64 0] 26 (0, 0)) (bq BK145) NB145_0.out (by simp)); have n1_ := Aside0.mk (KeepBut.blk hk (g' := gb150) (o := .cells #[.int .i64 x151000_6, .int .i64 x151001_6, .int .i64 x151002_6, .string x151003_6, .int .i64 x151004_6, .int .i64 x151005_6, .int .i64 x151006_6] 26 (0, 0)) (bq BK150) NB150_0.out (by simp)); have n2_ := Aside0.mk (KeepBut.trans (by repeat (first | (with_reducible first | exact HK.out | apply KeepBut.set_ | apply keep_drewN | apply keep_drew | apply keep_alloc | refine keep_far ?_ GW145.out _ | refine keep_far ?_ GW150.out _) | exact HK.out)) hk (.inl rfl)); have n3_ := Aside0.mk (hb); have n4_ := Aside0.mk (hi); clear BK145; clear BK150; clear HK; clear HB; clear HI0; have BK145 := n0_; have BK150 := n1_; have HK := n2_; have HB := n3_; have HI0 := n4_; clear n0_ n1_ n2_ n3_ n4_; (try clear hb); (try clear hb2); (try clear hk); (try clear hi); have hnb72 := NB150_145.out; have hnc72 := NB145_150.out; have hnb73 := NB150_0.out; have hnc73 := NB0_150.out; have hcz74_0 : w71.cell? ⟨gb150, 0, none⟩ = some (.int .i64 x151000_6) := (blk_cell BK150.out 0).trans rfl; have hcz74_1 : w71.cell? ⟨gb150, 1, none⟩ = some (.int .i64 x151001_6) := (blk_cell BK150.out 1).trans rfl; have hcz74_2 : w71.cell? ⟨gb150, 2, none⟩ = some (.int .i64 x151002_6) := (blk_cell BK150.out 2).trans rfl; have hcz74_3 : w71.cell? ⟨gb150, 3, none⟩ = some (.string x151003_6) := (blk_cell BK150.out 3).trans rfl; have hcz74_4 : w71.cell? ⟨gb150, 4, none⟩ = some (.int .i64 x151004_6) := (blk_cell BK150.out 4).trans rfl; have hcz74_5 : w71.cell? ⟨gb150, 5, none⟩ = some (.int .i64 x151005_6) := (blk_cell BK150.out 5).trans rfl; have hcz74_6 : w71.cell? ⟨gb150, 6, none⟩ = some (.int .i64 x151006_6) := (blk_cell BK150.out 6).trans rfl; have hfz74_0 := blk_frozen BK150.out 0; have hfz74_1 := blk_frozen BK150.out 1; have hfz74_2 := blk_frozen BK150.out 2; have hfz74_3 := blk_frozen BK150.out 3; have hfz74_4 := blk_frozen BK150.out 4; have hfz74_5 := blk_frozen BK150.out 5; have hfz74_6 := blk_frozen BK150.out 6; have hnb75 := NB145_0.out; have hnc75 := NB0_145.out; have hcz76_0 : w71.cell? ⟨gb145, 0, none⟩ = some (.int .i64 0) := (blk_cell BK145.out 0).trans rfl; have hcz76_1 : w71.cell? ⟨gb145, 1, none⟩ = some (.int .i64 0) := (blk_cell BK145.out 1).trans rfl; have hcz76_2 : w71.cell? ⟨gb145, 2, none⟩ = some (.int .i64 0) := (blk_cell BK145.out 2).trans rfl; have hcz76_3 : w71.cell? ⟨gb145, 3, none⟩ = some (.string (⟨#[]⟩ : ByteArray)) := (blk_cell BK145.out 3).trans rfl; have hcz76_4 : w71.cell? ⟨gb145, 4, none⟩ = some (.int .i64 0) := (blk_cell BK145.out 4).trans rfl; have hcz76_5 : w71.cell? ⟨gb145, 5, none⟩ = some (.int .i64 0) := (blk_cell BK145.out 5).trans rfl; have hcz76_6 : w71.cell? ⟨gb145, 6, none⟩ = some (.int .i64 0) := (blk_cell BK145.out 6).trans rfl; have hfz76_0 := blk_frozen BK145.out 0; have hfz76_1 := blk_frozen BK145.out 1; have hfz76_2 := blk_frozen BK145.out 2; have hfz76_3 := blk_frozen BK145.out 3; have hfz76_4 := blk_frozen BK145.out 4; have hfz76_5 := blk_frozen BK145.out 5; have hfz76_6 := blk_frozen BK145.out 6))
       refine bodyPost_ret (results_cell_row rfl _ _ gb145 26 #[.int .i64 x151000_6, .int .i64 x151001_6, .int .i64 (wrap64 (x151001_6 + 1)), .string (⟨#[98]⟩ : ByteArray), .int .i64 x151004_6, .int .i64 x151005_6, .int .i64 x151006_6] (0, 0) _ rfl (by (with_reducible repeat (first | refine blk_drewN ?_ _ | refine blk_drew ?_ | refine blk_alloc ?_ _)); refine blk_put (cs := #[.int .i64 x151000_6, .int .i64 x151001_6, .int .i64 (wrap64 (x151001_6 + 1)), .string (⟨#[98]⟩ : ByteArray), .int .i64 x151004_6, .int .i64 x151005_6, .int .i64 0]) ?_ 6 _ rfl; (with_reducible repeat (first | refine blk_drewN ?_ _ | refine blk_drew ?_ | refine blk_alloc ?_ _)); refine blk_put (cs := #[.int .i64 x151000_6, .int .i64 x151001_6, .int .i64 (wrap64 (x151001_6 + 1)), .string (⟨#[98]⟩ : ByteArray), .int .i64 x151004_6, .int .i64 0, .int .i64 0]) ?_ 5 _ rfl; (with_reducible repeat (first | refine blk_drewN ?_ _ | refine blk_drew ?_ | refine blk_alloc ?_ _)); refine blk_put (cs := #[.int .i64 x151000_6, .int .i64 x151001_6, .int .i64 (wrap64 (x151001_6 + 1)), .string (⟨#[98]⟩ : ByteArray), .int .i64 0, .int .i64 0, .int .i64 0]) ?_ 4 _ rfl; (with_reducible repeat (first | refine blk_drewN ?_ _ | refine blk_drew ?_ | refine blk_alloc ?_ _)); refine blk_put (cs := #[.int .i64 x151000_6, .int .i64 x151001_6, .int .i64 (wrap64 (x151001_6 + 1)), .string (⟨#[]⟩ : ByteArray), .int .i64 0, .int .i64 0, .int .i64 0]) ?_ 3 _ rfl; (with_reducible repeat (first | refine blk_drewN ?_ _ | refine blk_drew ?_ | refine blk_alloc ?_ _)); refine blk_put (cs := #[.int .i64 x151000_6, .int .i64 x151001_6, .int .i64 0, .string (⟨#[]⟩ : ByteArray), .int .i64 0, .int .i64 0, .int .i64 0]) ?_ 2 _ rfl; (with_reducible repeat (first | refine blk_drewN ?_ _ | refine blk_drew ?_ | refine blk_alloc ?_ _)); refine blk_put (cs := #[.int .i64 x151000_6, .int .i64 0, .int .i64 0, .string (⟨#[]⟩ : ByteArray), .int .i64 0, .int .i64 0, .int .i64 0]) ?_ 1 _ rfl; (with_reducible repeat (first | refine blk_drewN ?_ _ | refine blk_drew ?_ | refine blk_alloc ?_ _)); refine blk_put (cs := #[.int .i64 0, .int .i64 0, .int .i64 0, .string (⟨#[]⟩ : ByteArray), .int .i64 0, .int .i64 0, .int .i64 0]) ?_ 0 _ rfl; (with_reducible repeat (first | refine blk_drewN ?_ _ | refine blk_drew ?_ | refine blk_alloc ?_ _)); refine blk_far ?_ NB145_150.out _; (with_reducible repeat (first | refine blk_drewN ?_ _ | refine blk_drew ?_ | refine blk_alloc ?_ _)); refine blk_far ?_ NB145_150.out _; (with_reducible repeat (first | refine blk_drewN ?_ _ | refine blk_drew ?_ | refine blk_alloc ?_ _)); exact BK145.out) Try.underlying26 rfl (by kernel_rfl)) rfl ?_
       exact ⟨by first | rfl | (simp only [u8w, w64m]; rfl) | (simp [errW_none, errW_some] <;> rfl) | (simp [*, errW_none, errW_some] <;> rfl), by repeat (first | (with_reducible first | exact HI0.out | apply IsS111.alloc | apply IsS111.drewN | apply IsS111.drew | apply IsS111.set_1 | refine IsS111.far ?_ NB0_145.out _ | refine IsS111.far ?_ NB0_150.out _) | exact HI0.out), by repeat (first | (with_reducible first | exact HB.out | apply below_alloc | apply pw_below_drewN | apply below_drew1 | refine below_set ?_ (IsS111.ge HI0.out) | refine below_set ?_ GE145.out | refine below_set ?_ GE150.out) | exact HB.out), by repeat (first | (with_reducible first | exact HK.out | apply KeepBut.set_ | apply keep_drewN | apply keep_drew | apply keep_alloc | refine keep_far ?_ GW145.out _ | refine keep_far ?_ GW150.out _) | exact HK.out)⟩
      ·
       rw [if_neg c69] at H
       have c69b0 : (t167 == 2) = false := beq_eq_false_iff_ne.mpr c69
       have c69b1 : (t167 != 2) = true := bne_iff_ne.mpr c69
       by_cases c77 : t167 = 3
       ·
        rw [if_pos c77] at H
        have c77b0 : (t167 == 3) = true := beq_iff_eq.mpr c77
        have c77b1 : (t167 != 3) = false := bne_eq_false_iff_eq.mpr c77
        clear c77
        simp only [Option.some.injEq, Prod.mk.injEq] at H
        obtain ⟨rfl, rfl, rfl, rfl, rfl, rfl, rfl, rfl⟩ := H
        go_wp2_with (first | ((with_reducible refine gate_callee (f := 90) rfl ?_); refine goesL_ (some 50) rfl rfl Try.func90 (by kernel_rfl) rfl #[.pointer (some ⟨g, 0, none⟩), .int .i64 a2] rfl (by (try simp only [List.map_toArray, List.map_cons, List.map_nil]); first | done | rfl | (simp only [List.length_drop, List.length_take]; rfl)) ?_; (with_reducible refine (spec_l20Rd_odd.calls kj6 g s0_0 x1001_6 a2 true t166 w0 _ ?side1 ?side2 A36.out).mono ?_); (case side1 => repeat (first | (with_reducible first | exact HI0.out | apply IsS111.alloc | apply IsS111.drewN | apply IsS111.drew | apply IsS111.set_1 | refine IsS111.far ?_ NB0_145.out _ | refine IsS111.far ?_ NB0_150.out _) | exact HI0.out)); (case side2 => repeat (first | (with_reducible first | exact HB.out | apply below_alloc | apply pw_below_drewN | apply below_drew1 | refine below_set ?_ (IsS111.ge HI0.out) | refine below_set ?_ GE145.out | refine below_set ?_ GE150.out) | exact HB.out)); rintro e w78 ⟨rfl, hi, hb, hk⟩; refine ⟨_, rfl, ?_⟩; have n0_ := Aside0.mk (KeepBut.blk hk (g' := gb145) (o := .cells #[.int .i64 0, .int .i64 0, .int .i64 0, .string (⟨#[]⟩ : ByteArray), .int .i64 0, .int .i64 0, .int .i64 0] 26 (0, 0)) (bq BK145) NB145_0.out (by simp)); have n1_ := Aside0.mk (KeepBut.blk hk (g' := gb150) (o := .cells #[.int .i64 x151000_6, .int .i64 x151001_6, .int .i64 x151002_6, .string x151003_6, .int .i64 x151004_6, .int .i64 x151005_6, .int .i64 x151006_6] 26 (0, 0)) (bq BK150) NB150_0.out (by simp)); have n2_ := Aside0.mk (KeepBut.trans (by repeat (first | (with_reducible first | exact HK.out | apply KeepBut.set_ | apply keep_drewN | apply keep_drew | apply keep_alloc | refine keep_far ?_ GW145.out _ | refine keep_far ?_ GW150.out _) | exact HK.out)) hk (.inl rfl)); have n3_ := Aside0.mk (hb); have n4_ := Aside0.mk (hi); clear BK145; clear BK150; clear HK; clear HB; clear HI0; have BK145 := n0_; have BK150 := n1_; have HK := n2_; have HB := n3_; have HI0 := n4_; clear n0_ n1_ n2_ n3_ n4_; (try clear hb); (try clear hb2); (try clear hk); (try clear hi)) | ((with_reducible refine gate_callee (f := 75) rfl ?_); refine goesL_ (some 52) rfl rfl Try.func75 (by kernel_rfl) rfl #[.pointer (some ⟨g, 0, none⟩), .int .i64 6] rfl (by (try simp only [List.map_toArray, List.map_cons, List.map_nil]); first | done | rfl | (simp only [List.length_drop, List.length_take]; rfl)) ?_; (with_reducible refine (spec_l20Rd_pick.calls kj6 g s0_0 t166 6 t167 t168 w0 _ ?side1 ?side2 A38.out).mono ?_); (case side1 => repeat (first | (with_reducible first | exact HI0.out | apply IsS111.alloc | apply IsS111.drewN | apply IsS111.drew | apply IsS111.set_1 | refine IsS111.far ?_ NB0_145.out _ | refine IsS111.far ?_ NB0_150.out _) | exact HI0.out)); (case side2 => repeat (first | (with_reducible first | exact HB.out | apply below_alloc | apply pw_below_drewN | apply below_drew1 | refine below_set ?_ (IsS111.ge HI0.out) | refine below_set ?_ GE145.out | refine below_set ?_ GE150.out) | exact HB.out)); rintro e w79 ⟨rfl, hi, hb, hk⟩; refine ⟨_, rfl, ?_⟩; have n0_ := Aside0.mk (KeepBut.blk hk (g' := gb145) (o := .cells #[.int .i64 0, .int .i64 0, .int .i64 0, .string (⟨#[]⟩ : ByteArray), .int .i64 0, .int .i64 0, .int .i64 0] 26 (0, 0)) (bq BK145) NB145_0.out (by simp)); have n1_ := Aside0.mk (KeepBut.blk hk (g' := gb150) (o := .cells #[.int .i64 x151000_6, .int .i64 x151001_6, .int .i64 x151002_6, .string x151003_6, .int .i64 x151004_6, .int .i64 x151005_6, .int .i64 x151006_6] 26 (0, 0)) (bq BK150) NB150_0.out (by simp)); have n2_ := Aside0.mk (KeepBut.trans (by repeat (first | (with_reducible first | exact HK.out | apply KeepBut.set_ | apply keep_drewN | apply keep_drew | apply keep_alloc | refine keep_far ?_ GW145.out _ | refine keep_far ?_ GW150.out _) | exact HK.out)) hk (.inl rfl)); have n3_ := Aside0.mk (hb); have n4_ := Aside0.mk (hi); clear BK145; clear BK150; clear HK; clear HB; clear HI0; have BK145 := n0_; have BK150 := n1_; have HK := n2_; have HB := n3_; have HI0 := n4_; clear n0_ n1_ n2_ n3_ n4_; (try clear hb); (try clear hb2); (try clear hk); (try clear hi); have hnb80 := NB150_145.out; have hnc80 := NB145_150.out; have hnb81 := NB150_0.out; have hnc81 := NB0_150.out; have hcz82_0 : w79.cell? ⟨gb150, 0, none⟩ = some (.int .i64 x151000_6) := (blk_cell BK150.out 0).trans rfl; have hcz82_1 : w79.cell? ⟨gb150, 1, none⟩ = some (.int .i64 x151001_6) := (blk_cell BK150.out 1).trans rfl; have hcz82_2 : w79.cell? ⟨gb150, 2, none⟩ = some (.int .i64 x151002_6) := (blk_cell BK150.out 2).trans rfl; have hcz82_3 : w79.cell? ⟨gb150, 3, none⟩ = some (.string x151003_6) := (blk_cell BK150.out 3).trans rfl; have hcz82_4 : w79.cell? ⟨gb150, 4, none⟩ = some (.int .i64 x151004_6) := (blk_cell BK150.out 4).trans rfl; have hcz82_5 : w79.cell? ⟨gb150, 5, none⟩ = some (.int .i64 x151005_6) := (blk_cell BK150.out 5).trans rfl; have hcz82_6 : w79.cell? ⟨gb150, 6, none⟩ = some (.int .i64 x151006_6) := (blk_cell BK150.out 6).trans rfl; have hfz82_0 := blk_frozen BK150.out 0; have hfz82_1 := blk_frozen BK150.out 1; have hfz82_2 := blk_frozen BK150.out 2; have hfz82_3 := blk_frozen BK150.out 3; have hfz82_4 := blk_frozen BK150.out 4; have hfz82_5 := blk_frozen BK150.out 5; have hfz82_6 := blk_frozen BK150.out 6; have hnb83 := NB145_0.out; have hnc83 := NB0_145.out; have hcz84_0 : w79.cell? ⟨gb145, 0, none⟩ = some (.int .i64 0) := (blk_cell BK145.out 0).trans rfl; have hcz84_1 : w79.cell? ⟨gb145, 1, none⟩ = some (.int .i64 0) := (blk_cell BK145.out 1).trans rfl; have hcz84_2 : w79.cell? ⟨gb145, 2, none⟩ = some (.int .i64 0) := (blk_cell BK145.out 2).trans rfl; have hcz84_3 : w79.cell? ⟨gb145, 3, none⟩ = some (.string (⟨#[]⟩ : ByteArray)) := (blk_cell BK145.out 3).trans rfl; have hcz84_4 : w79.cell? ⟨gb145, 4, none⟩ = some (.int .i64 0) := (blk_cell BK145.out 4).trans rfl; have hcz84_5 : w79.cell? ⟨gb145, 5, none⟩ = some (.int .i64 0) := (blk_cell BK145.out 5).trans rfl; have hcz84_6 : w79.cell? ⟨gb145, 6, none⟩ = some (.int .i64 0) := (blk_cell BK145.out 6).trans rfl; have hfz84_0 := blk_frozen BK145.out 0; have hfz84_1 := blk_frozen BK145.out 1; have hfz84_2 := blk_frozen BK145.out 2; have hfz84_3 := blk_frozen BK145.out 3; have hfz84_4 := blk_frozen BK145.out 4; have hfz84_5 := blk_frozen BK145.out 5; have hfz84_6 := blk_frozen BK145.out 6))
        refine bodyPost_ret (results_cell_row rfl _ _ gb145 26 #[.int .i64 x151000_6, .int .i64 x151001_6, .int .i64 x151002_6, .string x151003_6, .int .i64 x151005_6, .int .i64 x151005_6, .int .i64 x151006_6] (0, 0) _ rfl (by (with_reducible repeat (first | refine blk_drewN ?_ _ | refine blk_drew ?_ | refine blk_alloc ?_ _)); refine blk_put (cs := #[.int .i64 x151000_6, .int .i64 x151001_6, .int .i64 x151002_6, .string x151003_6, .int .i64 x151005_6, .int .i64 x151005_6, .int .i64 0]) ?_ 6 _ rfl; (with_reducible repeat (first | refine blk_drewN ?_ _ | refine blk_drew ?_ | refine blk_alloc ?_ _)); refine blk_put (cs := #[.int .i64 x151000_6, .int .i64 x151001_6, .int .i64 x151002_6, .string x151003_6, .int .i64 x151005_6, .int .i64 0, .int .i64 0]) ?_ 5 _ rfl; (with_reducible repeat (first | refine blk_drewN ?_ _ | refine blk_drew ?_ | refine blk_alloc ?_ _)); refine blk_put (cs := #[.int .i64 x151000_6, .int .i64 x151001_6, .int .i64 x151002_6, .string x151003_6, .int .i64 0, .int .i64 0, .int .i64 0]) ?_ 4 _ rfl; (with_reducible repeat (first | refine blk_drewN ?_ _ | refine blk_drew ?_ | refine blk_alloc ?_ _)); refine blk_put (cs := #[.int .i64 x151000_6, .int .i64 x151001_6, .int .i64 x151002_6, .string (⟨#[]⟩ : ByteArray), .int .i64 0, .int .i64 0, .int .i64 0]) ?_ 3 _ rfl; (with_reducible repeat (first | refine blk_drewN ?_ _ | refine blk_drew ?_ | refine blk_alloc ?_ _)); refine blk_put (cs := #[.int .i64 x151000_6, .int .i64 x151001_6, .int .i64 0, .string (⟨#[]⟩ : ByteArray), .int .i64 0, .int .i64 0, .int .i64 0]) ?_ 2 _ rfl; (with_reducible repeat (first | refine blk_drewN ?_ _ | refine blk_drew ?_ | refine blk_alloc ?_ _)); refine blk_put (cs := #[.int .i64 x151000_6, .int .i64 0, .int .i64 0, .string (⟨#[]⟩ : ByteArray), .int .i64 0, .int .i64 0, .int .i64 0]) ?_ 1 _ rfl; (with_reducible repeat (first | refine blk_drewN ?_ _ | refine blk_drew ?_ | refine blk_alloc ?_ _)); refine blk_put (cs := #[.int .i64 0, .int .i64 0, .int .i64 0, .string (⟨#[]⟩ : ByteArray), .int .i64 0, .int .i64 0, .int .i64 0]) ?_ 0 _ rfl; (with_reducible repeat (first | refine blk_drewN ?_ _ | refine blk_drew ?_ | refine blk_alloc ?_ _)); refine blk_far ?_ NB145_150.out _; (with_reducible repeat (first | refine blk_drewN ?_ _ | refine blk_drew ?_ | refine blk_alloc ?_ _)); exact BK145.out) Try.underlying26 rfl (by kernel_rfl)) rfl ?_
        exact ⟨by first | rfl | (simp only [u8w, w64m]; rfl) | (simp [errW_none, errW_some] <;> rfl) | (simp [*, errW_none, errW_some] <;> rfl), by repeat (first | (with_reducible first | exact HI0.out | apply IsS111.alloc | apply IsS111.drewN | apply IsS111.drew | apply IsS111.set_1 | refine IsS111.far ?_ NB0_145.out _ | refine IsS111.far ?_ NB0_150.out _) | exact HI0.out), by repeat (first | (with_reducible first | exact HB.out | apply below_alloc | apply pw_below_drewN | apply below_drew1 | refine below_set ?_ (IsS111.ge HI0.out) | refine below_set ?_ GE145.out | refine below_set ?_ GE150.out) | exact HB.out), by repeat (first | (with_reducible first | exact HK.out | apply KeepBut.set_ | apply keep_drewN | apply keep_drew | apply keep_alloc | refine keep_far ?_ GW145.out _ | refine keep_far ?_ GW150.out _) | exact HK.out)⟩
       ·
        rw [if_neg c77] at H
        have c77b0 : (t167 == 3) = false := beq_eq_false_iff_ne.mpr c77
        have c77b1 : (t167 != 3) = true := bne_iff_ne.mpr c77
        by_cases c85 : t167 = 4
        ·
         rw [if_pos c85] at H
         have c85b0 : (t167 == 4) = true := beq_iff_eq.mpr c85
         have c85b1 : (t167 != 4) = false := bne_eq_false_iff_eq.mpr c85
         clear c85
         simp only [Option.some.injEq, Prod.mk.injEq] at H
         obtain ⟨rfl, rfl, rfl, rfl, rfl, rfl, rfl, rfl⟩ := H
         go_wp2_with (first | ((with_reducible refine gate_callee (f := 90) rfl ?_); refine goesL_ (some 50) rfl rfl Try.func90 (by kernel_rfl) rfl #[.pointer (some ⟨g, 0, none⟩), .int .i64 a2] rfl (by (try simp only [List.map_toArray, List.map_cons, List.map_nil]); first | done | rfl | (simp only [List.length_drop, List.length_take]; rfl)) ?_; (with_reducible refine (spec_l20Rd_odd.calls kj6 g s0_0 x1001_6 a2 true t166 w0 _ ?side1 ?side2 A36.out).mono ?_); (case side1 => repeat (first | (with_reducible first | exact HI0.out | apply IsS111.alloc | apply IsS111.drewN | apply IsS111.drew | apply IsS111.set_1 | refine IsS111.far ?_ NB0_145.out _ | refine IsS111.far ?_ NB0_150.out _) | exact HI0.out)); (case side2 => repeat (first | (with_reducible first | exact HB.out | apply below_alloc | apply pw_below_drewN | apply below_drew1 | refine below_set ?_ (IsS111.ge HI0.out) | refine below_set ?_ GE145.out | refine below_set ?_ GE150.out) | exact HB.out)); rintro e w86 ⟨rfl, hi, hb, hk⟩; refine ⟨_, rfl, ?_⟩; have n0_ := Aside0.mk (KeepBut.blk hk (g' := gb145) (o := .cells #[.int .i64 0, .int .i64 0, .int .i64 0, .string (⟨#[]⟩ : ByteArray), .int .i64 0, .int .i64 0, .int .i64 0] 26 (0, 0)) (bq BK145) NB145_0.out (by simp)); have n1_ := Aside0.mk (KeepBut.blk hk (g' := gb150) (o := .cells #[.int .i64 x151000_6, .int .i64 x151001_6, .int .i64 x151002_6, .string x151003_6, .int .i64 x151004_6, .int .i64 x151005_6, .int .i64 x151006_6] 26 (0, 0)) (bq BK150) NB150_0.out (by simp)); have n2_ := Aside0.mk (KeepBut.trans (by repeat (first | (with_reducible first | exact HK.out | apply KeepBut.set_ | apply keep_drewN | apply keep_drew | apply keep_alloc | refine keep_far ?_ GW145.out _ | refine keep_far ?_ GW150.out _) | exact HK.out)) hk (.inl rfl)); have n3_ := Aside0.mk (hb); have n4_ := Aside0.mk (hi); clear BK145; clear BK150; clear HK; clear HB; clear HI0; have BK145 := n0_; have BK150 := n1_; have HK := n2_; have HB := n3_; have HI0 := n4_; clear n0_ n1_ n2_ n3_ n4_; (try clear hb); (try clear hb2); (try clear hk); (try clear hi)) | ((with_reducible refine gate_callee (f := 75) rfl ?_); refine goesL_ (some 52) rfl rfl Try.func75 (by kernel_rfl) rfl #[.pointer (some ⟨g, 0, none⟩), .int .i64 6] rfl (by (try simp only [List.map_toArray, List.map_cons, List.map_nil]); first | done | rfl | (simp only [List.length_drop, List.length_take]; rfl)) ?_; (with_reducible refine (spec_l20Rd_pick.calls kj6 g s0_0 t166 6 t167 t168 w0 _ ?side1 ?side2 A38.out).mono ?_); (case side1 => repeat (first | (with_reducible first | exact HI0.out | apply IsS111.alloc | apply IsS111.drewN | apply IsS111.drew | apply IsS111.set_1 | refine IsS111.far ?_ NB0_145.out _ | refine IsS111.far ?_ NB0_150.out _) | exact HI0.out)); (case side2 => repeat (first | (with_reducible first | exact HB.out | apply below_alloc | apply pw_below_drewN | apply below_drew1 | refine below_set ?_ (IsS111.ge HI0.out) | refine below_set ?_ GE145.out | refine below_set ?_ GE150.out) | exact HB.out)); rintro e w87 ⟨rfl, hi, hb, hk⟩; refine ⟨_, rfl, ?_⟩; have n0_ := Aside0.mk (KeepBut.blk hk (g' := gb145) (o := .cells #[.int .i64 0, .int .i64 0, .int .i64 0, .string (⟨#[]⟩ : ByteArray), .int .i64 0, .int .i64 0, .int .i64 0] 26 (0, 0)) (bq BK145) NB145_0.out (by simp)); have n1_ := Aside0.mk (KeepBut.blk hk (g' := gb150) (o := .cells #[.int .i64 x151000_6, .int .i64 x151001_6, .int .i64 x151002_6, .string x151003_6, .int .i64 x151004_6, .int .i64 x151005_6, .int .i64 x151006_6] 26 (0, 0)) (bq BK150) NB150_0.out (by simp)); have n2_ := Aside0.mk (KeepBut.trans (by repeat (first | (with_reducible first | exact HK.out | apply KeepBut.set_ | apply keep_drewN | apply keep_drew | apply keep_alloc | refine keep_far ?_ GW145.out _ | refine keep_far ?_ GW150.out _) | exact HK.out)) hk (.inl rfl)); have n3_ := Aside0.mk (hb); have n4_ := Aside0.mk (hi); clear BK145; clear BK150; clear HK; clear HB; clear HI0; have BK145 := n0_; have BK150 := n1_; have HK := n2_; have HB := n3_; have HI0 := n4_; clear n0_ n1_ n2_ n3_ n4_; (try clear hb); (try clear hb2); (try clear hk); (try clear hi); have hnb88 := NB150_145.out; have hnc88 := NB145_150.out; have hnb89 := NB150_0.out; have hnc89 := NB0_150.out; have hcz90_0 : w87.cell? ⟨gb150, 0, none⟩ = some (.int .i64 x151000_6) := (blk_cell BK150.out 0).trans rfl; have hcz90_1 : w87.cell? ⟨gb150, 1, none⟩ = some (.int .i64 x151001_6) := (blk_cell BK150.out 1).trans rfl; have hcz90_2 : w87.cell? ⟨gb150, 2, none⟩ = some (.int .i64 x151002_6) := (blk_cell BK150.out 2).trans rfl; have hcz90_3 : w87.cell? ⟨gb150, 3, none⟩ = some (.string x151003_6) := (blk_cell BK150.out 3).trans rfl; have hcz90_4 : w87.cell? ⟨gb150, 4, none⟩ = some (.int .i64 x151004_6) := (blk_cell BK150.out 4).trans rfl; have hcz90_5 : w87.cell? ⟨gb150, 5, none⟩ = some (.int .i64 x151005_6) := (blk_cell BK150.out 5).trans rfl; have hcz90_6 : w87.cell? ⟨gb150, 6, none⟩ = some (.int .i64 x151006_6) := (blk_cell BK150.out 6).trans rfl; have hfz90_0 := blk_frozen BK150.out 0; have hfz90_1 := blk_frozen BK150.out 1; have hfz90_2 := blk_frozen BK150.out 2; have hfz90_3 := blk_frozen BK150.out 3; have hfz90_4 := blk_frozen BK150.out 4; have hfz90_5 := blk_frozen BK150.out 5; have hfz90_6 := blk_frozen BK150.out 6; have hnb91 := NB145_0.out; have hnc91 := NB0_145.out; have hcz92_0 : w87.cell? ⟨gb145, 0, none⟩ = some (.int .i64 0) := (blk_cell BK145.out 0).trans rfl; have hcz92_1 : w87.cell? ⟨gb145, 1, none⟩ = some (.int .i64 0) := (blk_cell BK145.out 1).trans rfl; have hcz92_2 : w87.cell? ⟨gb145, 2, none⟩ = some (.int .i64 0) := (blk_cell BK145.out 2).trans rfl; have hcz92_3 : w87.cell? ⟨gb145, 3, none⟩ = some (.string (⟨#[]⟩ : ByteArray)) := (blk_cell BK145.out 3).trans rfl; have hcz92_4 : w87.cell? ⟨gb145, 4, none⟩ = some (.int .i64 0) := (blk_cell BK145.out 4).trans rfl; have hcz92_5 : w87.cell? ⟨gb145, 5, none⟩ = some (.int .i64 0) := (blk_cell BK145.out 5).trans rfl; have hcz92_6 : w87.cell? ⟨gb145, 6, none⟩ = some (.int .i64 0) := (blk_cell BK145.out 6).trans rfl; have hfz92_0 := blk_frozen BK145.out 0; have hfz92_1 := blk_frozen BK145.out 1; have hfz92_2 := blk_frozen BK145.out 2; have hfz92_3 := blk_frozen BK145.out 3; have hfz92_4 := blk_frozen BK145.out 4; have hfz92_5 := blk_frozen BK145.out 5; have hfz92_6 := blk_frozen BK145.out 6))
         refine bodyPost_ret (results_cell_row rfl _ _ gb145 26 #[.int .i64 x151000_6, .int .i64 x151001_6, .int .i64 x151002_6, .string x151003_6, .int .i64 x151004_6, .int .i64 x151005_6, .int .i64 2] (0, 0) _ rfl (by (with_reducible repeat (first | refine blk_drewN ?_ _ | refine blk_drew ?_ | refine blk_alloc ?_ _)); refine blk_put (cs := #[.int .i64 x151000_6, .int .i64 x151001_6, .int .i64 x151002_6, .string x151003_6, .int .i64 x151004_6, .int .i64 x151005_6, .int .i64 0]) ?_ 6 _ rfl; (with_reducible repeat (first | refine blk_drewN ?_ _ | refine blk_drew ?_ | refine blk_alloc ?_ _)); refine blk_put (cs := #[.int .i64 x151000_6, .int .i64 x151001_6, .int .i64 x151002_6, .string x151003_6, .int .i64 x151004_6, .int .i64 0, .int .i64 0]) ?_ 5 _ rfl; (with_reducible repeat (first | refine blk_drewN ?_ _ | refine blk_drew ?_ | refine blk_alloc ?_ _)); refine blk_put (cs := #[.int .i64 x151000_6, .int .i64 x151001_6, .int .i64 x151002_6, .string x151003_6, .int .i64 0, .int .i64 0, .int .i64 0]) ?_ 4 _ rfl; (with_reducible repeat (first | refine blk_drewN ?_ _ | refine blk_drew ?_ | refine blk_alloc ?_ _)); refine blk_put (cs := #[.int .i64 x151000_6, .int .i64 x151001_6, .int .i64 x151002_6, .string (⟨#[]⟩ : ByteArray), .int .i64 0, .int .i64 0, .int .i64 0]) ?_ 3 _ rfl; (with_reducible repeat (first | refine blk_drewN ?_ _ | refine blk_drew ?_ | refine blk_alloc ?_ _)); refine blk_put (cs := #[.int .i64 x151000_6, .int .i64 x151001_6, .int .i64 0, .string (⟨#[]⟩ : ByteArray), .int .i64 0, .int .i64 0, .int .i64 0]) ?_ 2 _ rfl; (with_reducible repeat (first | refine blk_drewN ?_ _ | refine blk_drew ?_ | refine blk_alloc ?_ _)); refine blk_put (cs := #[.int .i64 x151000_6, .int .i64 0, .int .i64 0, .string (⟨#[]⟩ : ByteArray), .int .i64 0, .int .i64 0, .int .i64 0]) ?_ 1 _ rfl; (with_reducible repeat (first | refine blk_drewN ?_ _ | refine blk_drew ?_ | refine blk_alloc ?_ _)); refine blk_put (cs := #[.int .i64 0, .int .i64 0, .int .i64 0, .string (⟨#[]⟩ : ByteArray), .int .i64 0, .int .i64 0, .int .i64 0]) ?_ 0 _ rfl; (with_reducible repeat (first | refine blk_drewN ?_ _ | refine blk_drew ?_ | refine blk_alloc ?_ _)); refine blk_far ?_ NB145_150.out _; (with_reducible repeat (first | refine blk_drewN ?_ _ | refine blk_drew ?_ | refine blk_alloc ?_ _)); exact BK145.out) Try.underlying26 rfl (by kernel_rfl)) rfl ?_
         exact ⟨by first | rfl | (simp only [u8w, w64m]; rfl) | (simp [errW_none, errW_some] <;> rfl) | (simp [*, errW_none, errW_some] <;> rfl), by repeat (first | (with_reducible first | exact HI0.out | apply IsS111.alloc | apply IsS111.drewN | apply IsS111.drew | apply IsS111.set_1 | refine IsS111.far ?_ NB0_145.out _ | refine IsS111.far ?_ NB0_150.out _) | exact HI0.out), by repeat (first | (with_reducible first | exact HB.out | apply below_alloc | apply pw_below_drewN | apply below_drew1 | refine below_set ?_ (IsS111.ge HI0.out) | refine below_set ?_ GE145.out | refine below_set ?_ GE150.out) | exact HB.out), by repeat (first | (with_reducible first | exact HK.out | apply KeepBut.set_ | apply keep_drewN | apply keep_drew | apply keep_alloc | refine keep_far ?_ GW145.out _ | refine keep_far ?_ GW150.out _) | exact HK.out)⟩
        ·
         rw [if_neg c85] at H
         have c85b0 : (t167 == 4) = false := beq_eq_false_iff_ne.mpr c85
         have c85b1 : (t167 != 4) = true := bne_iff_ne.mpr c85
         simp only [Option.some.injEq, Prod.mk.injEq] at H
         obtain ⟨rfl, rfl, rfl, rfl, rfl, rfl, rfl, rfl⟩ := H
         go_wp2_with (first | ((with_reducible refine gate_callee (f := 90) rfl ?_); refine goesL_ (some 50) rfl rfl Try.func90 (by kernel_rfl) rfl #[.pointer (some ⟨g, 0, none⟩), .int .i64 a2] rfl (by (try simp only [List.map_toArray, List.map_cons, List.map_nil]); first | done | rfl | (simp only [List.length_drop, List.length_take]; rfl)) ?_; (with_reducible refine (spec_l20Rd_odd.calls kj6 g s0_0 x1001_6 a2 true t166 w0 _ ?side1 ?side2 A36.out).mono ?_); (case side1 => repeat (first | (with_reducible first | exact HI0.out | apply IsS111.alloc | apply IsS111.drewN | apply IsS111.drew | apply IsS111.set_1 | refine IsS111.far ?_ NB0_145.out _ | refine IsS111.far ?_ NB0_150.out _) | exact HI0.out)); (case side2 => repeat (first | (with_reducible first | exact HB.out | apply below_alloc | apply pw_below_drewN | apply below_drew1 | refine below_set ?_ (IsS111.ge HI0.out) | refine below_set ?_ GE145.out | refine below_set ?_ GE150.out) | exact HB.out)); rintro e w93 ⟨rfl, hi, hb, hk⟩; refine ⟨_, rfl, ?_⟩; have n0_ := Aside0.mk (KeepBut.blk hk (g' := gb145) (o := .cells #[.int .i64 0, .int .i64 0, .int .i64 0, .string (⟨#[]⟩ : ByteArray), .int .i64 0, .int .i64 0, .int .i64 0] 26 (0, 0)) (bq BK145) NB145_0.out (by simp)); have n1_ := Aside0.mk (KeepBut.blk hk (g' := gb150) (o := .cells #[.int .i64 x151000_6, .int .i64 x151001_6, .int .i64 x151002_6, .string x151003_6, .int .i64 x151004_6, .int .i64 x151005_6, .int .i64 x151006_6] 26 (0, 0)) (bq BK150) NB150_0.out (by simp)); have n2_ := Aside0.mk (KeepBut.trans (by repeat (first | (with_reducible first | exact HK.out | apply KeepBut.set_ | apply keep_drewN | apply keep_drew | apply keep_alloc | refine keep_far ?_ GW145.out _ | refine keep_far ?_ GW150.out _) | exact HK.out)) hk (.inl rfl)); have n3_ := Aside0.mk (hb); have n4_ := Aside0.mk (hi); clear BK145; clear BK150; clear HK; clear HB; clear HI0; have BK145 := n0_; have BK150 := n1_; have HK := n2_; have HB := n3_; have HI0 := n4_; clear n0_ n1_ n2_ n3_ n4_; (try clear hb); (try clear hb2); (try clear hk); (try clear hi)) | ((with_reducible refine gate_callee (f := 75) rfl ?_); refine goesL_ (some 52) rfl rfl Try.func75 (by kernel_rfl) rfl #[.pointer (some ⟨g, 0, none⟩), .int .i64 6] rfl (by (try simp only [List.map_toArray, List.map_cons, List.map_nil]); first | done | rfl | (simp only [List.length_drop, List.length_take]; rfl)) ?_; (with_reducible refine (spec_l20Rd_pick.calls kj6 g s0_0 t166 6 t167 t168 w0 _ ?side1 ?side2 A38.out).mono ?_); (case side1 => repeat (first | (with_reducible first | exact HI0.out | apply IsS111.alloc | apply IsS111.drewN | apply IsS111.drew | apply IsS111.set_1 | refine IsS111.far ?_ NB0_145.out _ | refine IsS111.far ?_ NB0_150.out _) | exact HI0.out)); (case side2 => repeat (first | (with_reducible first | exact HB.out | apply below_alloc | apply pw_below_drewN | apply below_drew1 | refine below_set ?_ (IsS111.ge HI0.out) | refine below_set ?_ GE145.out | refine below_set ?_ GE150.out) | exact HB.out)); rintro e w94 ⟨rfl, hi, hb, hk⟩; refine ⟨_, rfl, ?_⟩; have n0_ := Aside0.mk (KeepBut.blk hk (g' := gb145) (o := .cells #[.int .i64 0, .int .i64 0, .int .i64 0, .string (⟨#[]⟩ : ByteArray), .int .i64 0, .int .i64 0, .int .i64 0] 26 (0, 0)) (bq BK145) NB145_0.out (by simp)); have n1_ := Aside0.mk (KeepBut.blk hk (g' := gb150) (o := .cells #[.int .i64 x151000_6, .int .i64 x151001_6, .int .i64 x151002_6, .string x151003_6, .int .i64 x151004_6, .int .i64 x151005_6, .int .i64 x151006_6] 26 (0, 0)) (bq BK150) NB150_0.out (by simp)); have n2_ := Aside0.mk (KeepBut.trans (by repeat (first | (with_reducible first | exact HK.out | apply KeepBut.set_ | apply keep_drewN | apply keep_drew | apply keep_alloc | refine keep_far ?_ GW145.out _ | refine keep_far ?_ GW150.out _) | exact HK.out)) hk (.inl rfl)); have n3_ := Aside0.mk (hb); have n4_ := Aside0.mk (hi); clear BK145; clear BK150; clear HK; clear HB; clear HI0; have BK145 := n0_; have BK150 := n1_; have HK := n2_; have HB := n3_; have HI0 := n4_; clear n0_ n1_ n2_ n3_ n4_; (try clear hb); (try clear hb2); (try clear hk); (try clear hi); have hnb95 := NB150_145.out; have hnc95 := NB145_150.out; have hnb96 := NB150_0.out; have hnc96 := NB0_150.out; have hcz97_0 : w94.cell? ⟨gb150, 0, none⟩ = some (.int .i64 x151000_6) := (blk_cell BK150.out 0).trans rfl; have hcz97_1 : w94.cell? ⟨gb150, 1, none⟩ = some (.int .i64 x151001_6) := (blk_cell BK150.out 1).trans rfl; have hcz97_2 : w94.cell? ⟨gb150, 2, none⟩ = some (.int .i64 x151002_6) := (blk_cell BK150.out 2).trans rfl; have hcz97_3 : w94.cell? ⟨gb150, 3, none⟩ = some (.string x151003_6) := (blk_cell BK150.out 3).trans rfl; have hcz97_4 : w94.cell? ⟨gb150, 4, none⟩ = some (.int .i64 x151004_6) := (blk_cell BK150.out 4).trans rfl; have hcz97_5 : w94.cell? ⟨gb150, 5, none⟩ = some (.int .i64 x151005_6) := (blk_cell BK150.out 5).trans rfl; have hcz97_6 : w94.cell? ⟨gb150, 6, none⟩ = some (.int .i64 x151006_6) := (blk_cell BK150.out 6).trans rfl; have hfz97_0 := blk_frozen BK150.out 0; have hfz97_1 := blk_frozen BK150.out 1; have hfz97_2 := blk_frozen BK150.out 2; have hfz97_3 := blk_frozen BK150.out 3; have hfz97_4 := blk_frozen BK150.out 4; have hfz97_5 := blk_frozen BK150.out 5; have hfz97_6 := blk_frozen BK150.out 6; have hnb98 := NB145_0.out; have hnc98 := NB0_145.out; have hcz99_0 : w94.cell? ⟨gb145, 0, none⟩ = some (.int .i64 0) := (blk_cell BK145.out 0).trans rfl; have hcz99_1 : w94.cell? ⟨gb145, 1, none⟩ = some (.int .i64 0) := (blk_cell BK145.out 1).trans rfl; have hcz99_2 : w94.cell? ⟨gb145, 2, none⟩ = some (.int .i64 0) := (blk_cell BK145.out 2).trans rfl; have hcz99_3 : w94.cell? ⟨gb145, 3, none⟩ = some (.string (⟨#[]⟩ : ByteArray)) := (blk_cell BK145.out 3).trans rfl; have hcz99_4 : w94.cell? ⟨gb145, 4, none⟩ = some (.int .i64 0) := (blk_cell BK145.out 4).trans rfl; have hcz99_5 : w94.cell? ⟨gb145, 5, none⟩ = some (.int .i64 0) := (blk_cell BK145.out 5).trans rfl; have hcz99_6 : w94.cell? ⟨gb145, 6, none⟩ = some (.int .i64 0) := (blk_cell BK145.out 6).trans rfl; have hfz99_0 := blk_frozen BK145.out 0; have hfz99_1 := blk_frozen BK145.out 1; have hfz99_2 := blk_frozen BK145.out 2; have hfz99_3 := blk_frozen BK145.out 3; have hfz99_4 := blk_frozen BK145.out 4; have hfz99_5 := blk_frozen BK145.out 5; have hfz99_6 := blk_frozen BK145.out 6))
         refine bodyPost_ret (results_cell_row rfl _ _ gb145 26 #[.int .i64 x151000_6, .int .i64 x151001_6, .int .i64 x151002_6, .string (⟨#[66]⟩ : ByteArray), .int .i64 x151004_6, .int .i64 x151005_6, .int .i64 x151006_6] (0, 0) _ rfl (by (with_reducible repeat (first | refine blk_drewN ?_ _ | refine blk_drew ?_ | refine blk_alloc ?_ _)); refine blk_put (cs := #[.int .i64 x151000_6, .int .i64 x151001_6, .int .i64 x151002_6, .string (⟨#[66]⟩ : ByteArray), .int .i64 x151004_6, .int .i64 x151005_6, .int .i64 0]) ?_ 6 _ rfl; (with_reducible repeat (first | refine blk_drewN ?_ _ | refine blk_drew ?_ | refine blk_alloc ?_ _)); refine blk_put (cs := #[.int .i64 x151000_6, .int .i64 x151001_6, .int .i64 x151002_6, .string (⟨#[66]⟩ : ByteArray), .int .i64 x151004_6, .int .i64 0, .int .i64 0]) ?_ 5 _ rfl; (with_reducible repeat (first | refine blk_drewN ?_ _ | refine blk_drew ?_ | refine blk_alloc ?_ _)); refine blk_put (cs := #[.int .i64 x151000_6, .int .i64 x151001_6, .int .i64 x151002_6, .string (⟨#[66]⟩ : ByteArray), .int .i64 0, .int .i64 0, .int .i64 0]) ?_ 4 _ rfl; (with_reducible repeat (first | refine blk_drewN ?_ _ | refine blk_drew ?_ | refine blk_alloc ?_ _)); refine blk_put (cs := #[.int .i64 x151000_6, .int .i64 x151001_6, .int .i64 x151002_6, .string (⟨#[]⟩ : ByteArray), .int .i64 0, .int .i64 0, .int .i64 0]) ?_ 3 _ rfl; (with_reducible repeat (first | refine blk_drewN ?_ _ | refine blk_drew ?_ | refine blk_alloc ?_ _)); refine blk_put (cs := #[.int .i64 x151000_6, .int .i64 x151001_6, .int .i64 0, .string (⟨#[]⟩ : ByteArray), .int .i64 0, .int .i64 0, .int .i64 0]) ?_ 2 _ rfl; (with_reducible repeat (first | refine blk_drewN ?_ _ | refine blk_drew ?_ | refine blk_alloc ?_ _)); refine blk_put (cs := #[.int .i64 x151000_6, .int .i64 0, .int .i64 0, .string (⟨#[]⟩ : ByteArray), .int .i64 0, .int .i64 0, .int .i64 0]) ?_ 1 _ rfl; (with_reducible repeat (first | refine blk_drewN ?_ _ | refine blk_drew ?_ | refine blk_alloc ?_ _)); refine blk_put (cs := #[.int .i64 0, .int .i64 0, .int .i64 0, .string (⟨#[]⟩ : ByteArray), .int .i64 0, .int .i64 0, .int .i64 0]) ?_ 0 _ rfl; (with_reducible repeat (first | refine blk_drewN ?_ _ | refine blk_drew ?_ | refine blk_alloc ?_ _)); refine blk_far ?_ NB145_150.out _; (with_reducible repeat (first | refine blk_drewN ?_ _ | refine blk_drew ?_ | refine blk_alloc ?_ _)); exact BK145.out) Try.underlying26 rfl (by kernel_rfl)) rfl ?_
         exact ⟨by first | rfl | (simp only [u8w, w64m]; rfl) | (simp [errW_none, errW_some] <;> rfl) | (simp [*, errW_none, errW_some] <;> rfl), by repeat (first | (with_reducible first | exact HI0.out | apply IsS111.alloc | apply IsS111.drewN | apply IsS111.drew | apply IsS111.set_1 | refine IsS111.far ?_ NB0_145.out _ | refine IsS111.far ?_ NB0_150.out _) | exact HI0.out), by repeat (first | (with_reducible first | exact HB.out | apply below_alloc | apply pw_below_drewN | apply below_drew1 | refine below_set ?_ (IsS111.ge HI0.out) | refine below_set ?_ GE145.out | refine below_set ?_ GE150.out) | exact HB.out), by repeat (first | (with_reducible first | exact HK.out | apply KeepBut.set_ | apply keep_drewN | apply keep_drew | apply keep_alloc | refine keep_far ?_ GW145.out _ | refine keep_far ?_ GW150.out _) | exact HK.out)⟩
   ·
    replace c37 := Bool.eq_false_iff.mpr c37
    subst c37
    rw [if_neg (show ¬ (false = true) by decide)] at H
    simp only [Option.some.injEq, Prod.mk.injEq] at H
    obtain ⟨rfl, rfl, rfl, rfl, rfl, rfl, rfl, rfl⟩ := H
    go_wp2_with (first | ((with_reducible refine gate_callee (f := 90) rfl ?_); refine goesL_ (some 50) rfl rfl Try.func90 (by kernel_rfl) rfl #[.pointer (some ⟨g, 0, none⟩), .int .i64 a2] rfl (by (try simp only [List.map_toArray, List.map_cons, List.map_nil]); first | done | rfl | (simp only [List.length_drop, List.length_take]; rfl)) ?_; (with_reducible refine (spec_l20Rd_odd.calls kj6 g s0_0 x1001_6 a2 false t166 w0 _ ?side1 ?side2 A36.out).mono ?_); (case side1 => repeat (first | (with_reducible first | exact HI0.out | apply IsS111.alloc | apply IsS111.drewN | apply IsS111.drew | apply IsS111.set_1 | refine IsS111.far ?_ NB0_145.out _ | refine IsS111.far ?_ NB0_150.out _) | exact HI0.out)); (case side2 => repeat (first | (with_reducible first | exact HB.out | apply below_alloc | apply pw_below_drewN | apply below_drew1 | refine below_set ?_ (IsS111.ge HI0.out) | refine below_set ?_ GE145.out | refine below_set ?_ GE150.out) | exact HB.out)); rintro e w100 ⟨rfl, hi, hb, hk⟩; refine ⟨_, rfl, ?_⟩; have n0_ := Aside0.mk (KeepBut.blk hk (g' := gb145) (o := .cells #[.int .i64 0, .int .i64 0, .int .i64 0, .string (⟨#[]⟩ : ByteArray), .int .i64 0, .int .i64 0, .int .i64 0] 26 (0, 0)) (bq BK145) NB145_0.out (by simp)); have n1_ := Aside0.mk (KeepBut.blk hk (g' := gb150) (o := .cells #[.int .i64 x151000_6, .int .i64 x151001_6, .int .i64 x151002_6, .string x151003_6, .int .i64 x151004_6, .int .i64 x151005_6, .int .i64 x151006_6] 26 (0, 0)) (bq BK150) NB150_0.out (by simp)); have n2_ := Aside0.mk (KeepBut.trans (by repeat (first | (with_reducible first | exact HK.out | apply KeepBut.set_ | apply keep_drewN | apply keep_drew | apply keep_alloc | refine keep_far ?_ GW145.out _ | refine keep_far ?_ GW150.out _) | exact HK.out)) hk (.inl rfl)); have n3_ := Aside0.mk (hb); have n4_ := Aside0.mk (hi); clear BK145; clear BK150; clear HK; clear HB; clear HI0; have BK145 := n0_; have BK150 := n1_; have HK := n2_; have HB := n3_; have HI0 := n4_; clear n0_ n1_ n2_ n3_ n4_; (try clear hb); (try clear hb2); (try clear hk); (try clear hi); have hnb101 := NB150_145.out; have hnc101 := NB145_150.out; have hnb102 := NB150_0.out; have hnc102 := NB0_150.out; have hcz103_0 : w100.cell? ⟨gb150, 0, none⟩ = some (.int .i64 x151000_6) := (blk_cell BK150.out 0).trans rfl; have hcz103_1 : w100.cell? ⟨gb150, 1, none⟩ = some (.int .i64 x151001_6) := (blk_cell BK150.out 1).trans rfl; have hcz103_2 : w100.cell? ⟨gb150, 2, none⟩ = some (.int .i64 x151002_6) := (blk_cell BK150.out 2).trans rfl; have hcz103_3 : w100.cell? ⟨gb150, 3, none⟩ = some (.string x151003_6) := (blk_cell BK150.out 3).trans rfl; have hcz103_4 : w100.cell? ⟨gb150, 4, none⟩ = some (.int .i64 x151004_6) := (blk_cell BK150.out 4).trans rfl; have hcz103_5 : w100.cell? ⟨gb150, 5, none⟩ = some (.int .i64 x151005_6) := (blk_cell BK150.out 5).trans rfl; have hcz103_6 : w100.cell? ⟨gb150, 6, none⟩ = some (.int .i64 x151006_6) := (blk_cell BK150.out 6).trans rfl; have hfz103_0 := blk_frozen BK150.out 0; have hfz103_1 := blk_frozen BK150.out 1; have hfz103_2 := blk_frozen BK150.out 2; have hfz103_3 := blk_frozen BK150.out 3; have hfz103_4 := blk_frozen BK150.out 4; have hfz103_5 := blk_frozen BK150.out 5; have hfz103_6 := blk_frozen BK150.out 6; have hnb104 := NB145_0.out; have hnc104 := NB0_145.out; have hcz105_0 : w100.cell? ⟨gb145, 0, none⟩ = some (.int .i64 0) := (blk_cell BK145.out 0).trans rfl; have hcz105_1 : w100.cell? ⟨gb145, 1, none⟩ = some (.int .i64 0) := (blk_cell BK145.out 1).trans rfl; have hcz105_2 : w100.cell? ⟨gb145, 2, none⟩ = some (.int .i64 0) := (blk_cell BK145.out 2).trans rfl; have hcz105_3 : w100.cell? ⟨gb145, 3, none⟩ = some (.string (⟨#[]⟩ : ByteArray)) := (blk_cell BK145.out 3).trans rfl; have hcz105_4 : w100.cell? ⟨gb145, 4, none⟩ = some (.int .i64 0) := (blk_cell BK145.out 4).trans rfl; have hcz105_5 : w100.cell? ⟨gb145, 5, none⟩ = some (.int .i64 0) := (blk_cell BK145.out 5).trans rfl; have hcz105_6 : w100.cell? ⟨gb145, 6, none⟩ = some (.int .i64 0) := (blk_cell BK145.out 6).trans rfl; have hfz105_0 := blk_frozen BK145.out 0; have hfz105_1 := blk_frozen BK145.out 1; have hfz105_2 := blk_frozen BK145.out 2; have hfz105_3 := blk_frozen BK145.out 3; have hfz105_4 := blk_frozen BK145.out 4; have hfz105_5 := blk_frozen BK145.out 5; have hfz105_6 := blk_frozen BK145.out 6))
    refine bodyPost_ret (results_cell_row rfl _ _ gb145 26 #[.int .i64 x151000_6, .int .i64 x151001_6, .int .i64 x151002_6, .string x151003_6, .int .i64 x151004_6, .int .i64 x151005_6, .int .i64 x151006_6] (0, 0) _ rfl (by (with_reducible repeat (first | refine blk_drewN ?_ _ | refine blk_drew ?_ | refine blk_alloc ?_ _)); refine blk_put (cs := #[.int .i64 x151000_6, .int .i64 x151001_6, .int .i64 x151002_6, .string x151003_6, .int .i64 x151004_6, .int .i64 x151005_6, .int .i64 0]) ?_ 6 _ rfl; (with_reducible repeat (first | refine blk_drewN ?_ _ | refine blk_drew ?_ | refine blk_alloc ?_ _)); refine blk_put (cs := #[.int .i64 x151000_6, .int .i64 x151001_6, .int .i64 x151002_6, .string x151003_6, .int .i64 x151004_6, .int .i64 0, .int .i64 0]) ?_ 5 _ rfl; (with_reducible repeat (first | refine blk_drewN ?_ _ | refine blk_drew ?_ | refine blk_alloc ?_ _)); refine blk_put (cs := #[.int .i64 x151000_6, .int .i64 x151001_6, .int .i64 x151002_6, .string x151003_6, .int .i64 0, .int .i64 0, .int .i64 0]) ?_ 4 _ rfl; (with_reducible repeat (first | refine blk_drewN ?_ _ | refine blk_drew ?_ | refine blk_alloc ?_ _)); refine blk_put (cs := #[.int .i64 x151000_6, .int .i64 x151001_6, .int .i64 x151002_6, .string (⟨#[]⟩ : ByteArray), .int .i64 0, .int .i64 0, .int .i64 0]) ?_ 3 _ rfl; (with_reducible repeat (first | refine blk_drewN ?_ _ | refine blk_drew ?_ | refine blk_alloc ?_ _)); refine blk_put (cs := #[.int .i64 x151000_6, .int .i64 x151001_6, .int .i64 0, .string (⟨#[]⟩ : ByteArray), .int .i64 0, .int .i64 0, .int .i64 0]) ?_ 2 _ rfl; (with_reducible repeat (first | refine blk_drewN ?_ _ | refine blk_drew ?_ | refine blk_alloc ?_ _)); refine blk_put (cs := #[.int .i64 x151000_6, .int .i64 0, .int .i64 0, .string (⟨#[]⟩ : ByteArray), .int .i64 0, .int .i64 0, .int .i64 0]) ?_ 1 _ rfl; (with_reducible repeat (first | refine blk_drewN ?_ _ | refine blk_drew ?_ | refine blk_alloc ?_ _)); refine blk_put (cs := #[.int .i64 0, .int .i64 0, .int .i64 0, .string (⟨#[]⟩ : ByteArray), .int .i64 0, .int .i64 0, .int .i64 0]) ?_ 0 _ rfl; (with_reducible repeat (first | refine blk_drewN ?_ _ | refine blk_drew ?_ | refine blk_alloc ?_ _)); exact BK145.out) Try.underlying26 rfl (by kernel_rfl)) rfl ?_
    exact ⟨by first | rfl | (simp only [u8w, w64m]; rfl) | (simp [errW_none, errW_some] <;> rfl) | (simp [*, errW_none, errW_some] <;> rfl), by repeat (first | (with_reducible first | exact HI0.out | apply IsS111.alloc | apply IsS111.drewN | apply IsS111.drew | apply IsS111.set_1 | refine IsS111.far ?_ NB0_145.out _ | refine IsS111.far ?_ NB0_150.out _) | exact HI0.out), by repeat (first | (with_reducible first | exact HB.out | apply below_alloc | apply pw_below_drewN | apply below_drew1 | refine below_set ?_ (IsS111.ge HI0.out) | refine below_set ?_ GE145.out | refine below_set ?_ GE150.out) | exact HB.out), by repeat (first | (with_reducible first | exact HK.out | apply KeepBut.set_ | apply keep_drewN | apply keep_drew | apply keep_alloc | refine keep_far ?_ GW145.out _ | refine keep_far ?_ GW150.out _) | exact HK.out)⟩

/-! ### spec_l20Open: function 66 -/
def spec_l20Open.f (l0 : List Int) : Option (List Int × Int) := if (l0.length : Int) > 2000 then (if 2000 ≤ (l0.length : Int) then (some (l0.take 2000, 0)) else (none)) else (some (l0, 0))
set_option maxHeartbeats 8000000 in
set_option maxRecDepth 100000 in
theorem spec_l20Open.calls (A0 : Option Addr) (c0 : Nat) (l0 : List Int) (r1 : List Int) (r2 : Int) (w0 w : World) (hB : Below w0.heap.size w0 w) (hr0 : Kd.C (Kd.int .u8) w0 A0 l0.length l0) (hc0 : l0.length ≤ c0) (h : spec_l20Open.f l0 = some (r1, r2)) :
  Calls Try.prog 66 #[.slice A0 l0.length c0] w fun e w' => ∃ g_ : Nat, e = .returned (.pointer (some ⟨g_, 0, none⟩)) ∧ IsS111 w0 w' g_ r1 r2 ∧ Below w0.heap.size w0 w' ∧ Below w.heap.size w w' := by
 have hu111 := Try.underlying111
 have HR0 := Aside0.mk hr0
 have HC0 := Aside0.mk hc0
 clear hr0 hc0
 have HBW := Aside0.mk (Below.refl w.heap.size w)
 have HW0 := Aside0.mk hB.size
 have HB := Aside0.mk hB
 clear hB
 have H : (if (l0.length : Int) > 2000 then (if 2000 ≤ (l0.length : Int) then (some (l0.take 2000, 0)) else (none)) else (some (l0, 0))) = some (r1, r2) := h
 clear h
 by_cases c2 : (l0.length : Int) > 2000
 ·
  rw [if_pos c2] at H
  have c2b0 : decide (2000 < (l0.length : Int)) = true := decide_eq_true c2
  have c2b1 : decide (2000 < l0.length) = true := decide_eq_true (by omega)
  clear c2
  by_cases c3 : 2000 ≤ (l0.length : Int)
  ·
   rw [if_pos c3] at H
   have c3b0 := eq_true c3
   have c3b1 : decide (2000 ≤ (l0.length : Int)) = true := decide_eq_true c3
   clear c3
   simp only [Option.some.injEq, Prod.mk.injEq] at H
   obtain ⟨rfl, rfl⟩ := H
   obtain ⟨i04, hi04, _, hsz4, _⟩ := info_parts info5
   obtain ⟨hcut4, hA4, hC4⟩ := print_take_of (P := Try.prog) (Value.int .u8) 0 52 5 .i64 Try.underlying52 hi04 hsz4 A0 c0 l0 2000 (by omega) (of_decide_eq_true (by first | (with_reducible assumption) | assumption)) HC0.out
   have HR181 := Aside0.mk (Kd.C_of_reads (h1 := fun _ => rfl) (hA4 _ (Kd.reads_of_C HR0.out)))
   have HC181 := Aside0.mk hC4
   clear hA4 hC4 hi04 hsz4
   go_enter Try.func66, Try.ntmps66
   go_wp2_with (first | ((with_reducible refine gate_dst (N := 10) rfl ?_); refine box_event ?hg (N := 10) ?hd (cs := #[.slice A0 (l0.take 2000).length c0, .int .i64 0]) (t := 111) ?hr ?_; (case hd => rfl); (case hg => rfl); (case hr => first | (go_simp; done) | (go_simp; rfl)); intro gb182 hg w5 hbox hb; have n0_ := Aside0.mk (below_step HBW.out hb); have n1_ := Aside0.mk (below_step (bz) hb); have n2_ := Aside0.mk (hbox); have n3_ := Aside0.mk ((by rw [hg]; exact (below_size (by repeat (first | (with_reducible first | exact HBW.out | apply below_alloc | apply pw_below_drewN | apply below_drew1) | exact HBW.out))) : w.heap.size ≤ gb182)); have n4_ := Aside0.mk ((Nat.le_trans HW0.out (by rw [hg]; exact (below_size (by repeat (first | (with_reducible first | exact HBW.out | apply below_alloc | apply pw_below_drewN | apply below_drew1) | exact HBW.out))) : w.heap.size ≤ gb182) : w0.heap.size ≤ gb182)); clear HBW; clear HB; have HBW := n0_; have HB := n1_; have BK182 := n2_; have GW182 := n3_; have GE182 := n4_; clear n0_ n1_ n2_ n3_ n4_; clear hb hbox hg))
   go_ret
   exact ⟨_, rfl, (show IsS111 w0 _ gb182 (l0.take 2000) 0 from ⟨_, _, by (with_reducible repeat (first | refine blk_drewN ?_ _ | refine blk_drew ?_ | refine blk_alloc ?_ _)); exact BK182.out, GE182.out, HR181.out⟩), bz, by repeat (first | (with_reducible first | exact HBW.out | apply below_alloc | apply pw_below_drewN | apply below_drew1 | refine below_set ?_ GW182.out) | exact HBW.out)⟩
  ·
   rw [if_neg c3] at H
   exact absurd H (by simp)
 ·
  rw [if_neg c2] at H
  have c2b0 : decide (2000 < (l0.length : Int)) = false := decide_eq_false c2
  have c2b1 : decide (2000 < l0.length) = false := decide_eq_false (by omega)
  clear c2
  simp only [Option.some.injEq, Prod.mk.injEq] at H
  obtain ⟨rfl, rfl⟩ := H
  go_enter Try.func66, Try.ntmps66
  go_wp2_with (first | ((with_reducible refine gate_dst (N := 10) rfl ?_); refine box_event ?hg (N := 10) ?hd (cs := #[.slice A0 l0.length c0, .int .i64 0]) (t := 111) ?hr ?_; (case hd => rfl); (case hg => rfl); (case hr => first | (go_simp; done) | (go_simp; rfl)); intro gb183 hg w6 hbox hb; have n0_ := Aside0.mk (below_step HBW.out hb); have n1_ := Aside0.mk (below_step (bz) hb); have n2_ := Aside0.mk (hbox); have n3_ := Aside0.mk ((by rw [hg]; exact (below_size (by repeat (first | (with_reducible first | exact HBW.out | apply below_alloc | apply pw_below_drewN | apply below_drew1) | exact HBW.out))) : w.heap.size ≤ gb183)); have n4_ := Aside0.mk ((Nat.le_trans HW0.out (by rw [hg]; exact (below_size (by repeat (first | (with_reducible first | exact HBW.out | apply below_alloc | apply pw_below_drewN | apply below_drew1) | exact HBW.out))) : w.heap.size ≤ gb183) : w0.heap.size ≤ gb183)); clear HBW; clear HB; have HBW := n0_; have HB := n1_; have BK183 := n2_; have GW183 := n3_; have GE183 := n4_; clear n0_ n1_ n2_ n3_ n4_; clear hb hbox hg))
  go_ret
  exact ⟨_, rfl, (show IsS111 w0 _ gb183 l0 0 from ⟨_, _, by (with_reducible repeat (first | refine blk_drewN ?_ _ | refine blk_drew ?_ | refine blk_alloc ?_ _)); exact BK183.out, GE183.out, HR0.out⟩), bz, by repeat (first | (with_reducible first | exact HBW.out | apply below_alloc | apply pw_below_drewN | apply below_drew1 | refine below_set ?_ GW183.out) | exact HBW.out)⟩

/-! ### spec_DrawPlanValid: function 31 -/
def spec_DrawPlanValid.f (k : Nat) (l0 : List Int) : Option (Int × Int × Int × ByteArray × Int × Int × Int) := (spec_l20Open.f l0).bind fun bt185 => ((spec_l20Plan.f k bt185.1 bt185.2 8 2).bind fun bt188 => (some (bt188.1, bt188.2.1, bt188.2.2.1, bt188.2.2.2.1, bt188.2.2.2.2.1, bt188.2.2.2.2.2.1, bt188.2.2.2.2.2.2.1)))
theorem spec_DrawPlanValid.mono : ∀ a0 k, LeO (spec_DrawPlanValid.f k a0) (spec_DrawPlanValid.f (k + 1) a0) := by
 intro a0 k
 unfold spec_DrawPlanValid.f
 repeat' first
   | (with_reducible exact spec_l20Plan.mono _ _ _ _ _)
   | (with_reducible exact LeO.refl _)
   | (with_reducible exact LeO.none _)
   | (with_reducible refine LeO.ite ?_ ?_)
   | (with_reducible refine LeO.bind ?_ (fun _ => ?_))
   | exact spec_l20Plan.mono _ _ _ _ _
   | exact LeO.none _
   | refine LeO.ite ?_ ?_
   | refine LeO.bind ?_ (fun _ => ?_)
set_option maxHeartbeats 8000000 in
set_option maxRecDepth 100000 in
theorem spec_DrawPlanValid.calls (k : Nat) (A0 : Option Addr) (c0 : Nat) (l0 : List Int) (r1 : Int) (r2 : Int) (r3 : Int) (r4 : ByteArray) (r5 : Int) (r6 : Int) (r7 : Int) (w : World) (hr0 : Kd.C (Kd.int .u8) w A0 l0.length l0) (hc0 : l0.length ≤ c0) (h : spec_DrawPlanValid.f k l0 = some (r1, r2, r3, r4, r5, r6, r7)) :
  Calls Try.prog 31 #[.slice A0 l0.length c0] w fun e w' => e = .returned (.agg #[.int .i64 r1, .int .i64 r2, .int .i64 r3, .string r4, .int .i64 r5, .int .i64 r6, .int .i64 r7]) ∧ Below w.heap.size w w' := by
 have hu26 := Try.underlying26
 have HR0 := Aside0.mk hr0
 have HC0 := Aside0.mk hc0
 clear hr0 hc0
 have HB := Aside0.mk (Below.refl w.heap.size w)
 have H : ((spec_l20Open.f l0).bind fun bt185 => ((spec_l20Plan.f k bt185.1 bt185.2 8 2).bind fun bt188 => (some (bt188.1, bt188.2.1, bt188.2.2.1, bt188.2.2.2.1, bt188.2.2.2.2.1, bt188.2.2.2.2.2.1, bt188.2.2.2.2.2.2.1)))) = some (r1, r2, r3, r4, r5, r6, r7) := h
 clear h
 replace H := Option.bind_eq_some_iff.mp H
 obtain ⟨⟨t185, t186⟩, A20, H⟩ := H
 try dsimp only at H
 have A2 := Aside0.mk A20
 clear A20
 replace H := Option.bind_eq_some_iff.mp H
 obtain ⟨⟨t188, t189, t190, t191, t192, t193, t194, t195⟩, A30, H⟩ := H
 try dsimp only at H
 have A3 := Aside0.mk A30
 clear A30
 simp only [Option.some.injEq, Prod.mk.injEq] at H
 obtain ⟨rfl, rfl, rfl, rfl, rfl, rfl, rfl⟩ := H
 go_enter Try.func31, Try.ntmps31
 go_wp2_with (first | ((with_reducible refine gate_dst (N := 2) rfl ?_); refine box_event ?hg (N := 2) ?hd (cs := #[.int .i64 0, .int .i64 0, .int .i64 0, .string (⟨#[]⟩ : ByteArray), .int .i64 0, .int .i64 0, .int .i64 0]) (t := 26) ?hr ?_; (case hd => rfl); (case hg => rfl); (case hr => first | (go_simp; done) | (go_simp; rfl)); intro gb184 hg w4 hbox hb; have n0_ := Aside0.mk (below_step (bz) hb); have n1_ := Aside0.mk (hbox); have n2_ : Aside0 (w.heap.size ≤ gb184) := bsg hg; have n3_ : Aside0 (w.heap.size ≤ gb184) := bsg hg; clear HB; have HB := n0_; have BK184 := n1_; have GW184 := n2_; have GE184 := n3_; clear n0_ n1_ n2_ n3_; clear hb hbox hg) | ((with_reducible refine gate_callee (f := 66) rfl ?_); refine goesL_ (some 4) rfl rfl Try.func66 (by kernel_rfl) rfl #[.slice A0 l0.length c0] rfl (by (try simp only [List.map_toArray, List.map_cons, List.map_nil]); first | done | rfl | (simp only [List.length_drop, List.length_take]; rfl)) ?_; (with_reducible refine (spec_l20Open.calls _ _ l0 t185 t186 w _ ?side1 ?side2 ?side3 A2.out).mono ?_); (case side1 => repeat (first | (with_reducible first | exact HB.out | apply below_alloc | apply pw_below_drewN | apply below_drew1 | refine below_set ?_ GE184.out) | exact HB.out)); (case side2 => exact HR0.out); (case side3 => exact HC0.out); rintro e w5 ⟨g187, rfl, hi, hb, hb2⟩; refine ⟨_, rfl, ?_⟩; have n0_ := Aside0.mk (blk_below (g := gb184) (o := .cells #[.int .i64 0, .int .i64 0, .int .i64 0, .string (⟨#[]⟩ : ByteArray), .int .i64 0, .int .i64 0, .int .i64 0] 26 (0, 0)) (bq BK184) hb2); have n1_ := Aside0.mk (hb); have n2_ := Aside0.mk (hi); have n3_ := Aside0.mk (IsS111.ne_blk hi (blk_below (g := gb184) (o := .cells #[.int .i64 0, .int .i64 0, .int .i64 0, .string (⟨#[]⟩ : ByteArray), .int .i64 0, .int .i64 0, .int .i64 0] 26 (0, 0)) (bq BK184) hb2) (by decide)); have n4_ := Aside0.mk (Ne.symm (IsS111.ne_blk hi (blk_below (g := gb184) (o := .cells #[.int .i64 0, .int .i64 0, .int .i64 0, .string (⟨#[]⟩ : ByteArray), .int .i64 0, .int .i64 0, .int .i64 0] 26 (0, 0)) (bq BK184) hb2) (by decide))); clear BK184; clear HB; have BK184 := n0_; have HB := n1_; have HI187 := n2_; have NB187_184 := n3_; have NB184_187 := n4_; clear n0_ n1_ n2_ n3_ n4_; (try clear hb); (try clear hb2); (try clear hk); (try clear hi)) | ((with_reducible refine gate_callee (f := 65) rfl ?_); refine goesL_ (some 5) rfl rfl Try.func65 (by kernel_rfl) rfl #[.pointer (some ⟨g187, 0, none⟩), .int .i64 8, .int .i64 2] rfl (by (try simp only [List.map_toArray, List.map_cons, List.map_nil]); first | done | rfl | (simp only [List.length_drop, List.length_take]; rfl)) ?_; (with_reducible refine (spec_l20Plan.calls k g187 t185 t186 8 2 t188 t189 t190 t191 t192 t193 t194 t195 w _ ?side1 ?side2 A3.out).mono ?_); (case side1 => repeat (first | (with_reducible first | exact HI187.out | apply IsS111.alloc | apply IsS111.drewN | apply IsS111.drew | apply IsS111.set_1 | refine IsS111.far ?_ NB187_184.out _) | exact HI187.out)); (case side2 => repeat (first | (with_reducible first | exact HB.out | apply below_alloc | apply pw_below_drewN | apply below_drew1 | refine below_set ?_ (IsS111.ge HI187.out) | refine below_set ?_ GE184.out) | exact HB.out)); rintro e w6 ⟨rfl, hi, hb, hk⟩; refine ⟨_, rfl, ?_⟩; have n0_ := Aside0.mk (KeepBut.blk hk (g' := gb184) (o := .cells #[.int .i64 0, .int .i64 0, .int .i64 0, .string (⟨#[]⟩ : ByteArray), .int .i64 0, .int .i64 0, .int .i64 0] 26 (0, 0)) (bq BK184) NB184_187.out (by simp)); have n1_ := Aside0.mk (hb); have n2_ := Aside0.mk (hi); clear BK184; clear HB; clear HI187; have BK184 := n0_; have HB := n1_; have HI187 := n2_; clear n0_ n1_ n2_; (try clear hb); (try clear hb2); (try clear hk); (try clear hi); have hnb7 := NB184_187.out; have hnc7 := NB187_184.out; have hcz8_0 : w6.cell? ⟨gb184, 0, none⟩ = some (.int .i64 0) := (blk_cell BK184.out 0).trans rfl; have hcz8_1 : w6.cell? ⟨gb184, 1, none⟩ = some (.int .i64 0) := (blk_cell BK184.out 1).trans rfl; have hcz8_2 : w6.cell? ⟨gb184, 2, none⟩ = some (.int .i64 0) := (blk_cell BK184.out 2).trans rfl; have hcz8_3 : w6.cell? ⟨gb184, 3, none⟩ = some (.string (⟨#[]⟩ : ByteArray)) := (blk_cell BK184.out 3).trans rfl; have hcz8_4 : w6.cell? ⟨gb184, 4, none⟩ = some (.int .i64 0) := (blk_cell BK184.out 4).trans rfl; have hcz8_5 : w6.cell? ⟨gb184, 5, none⟩ = some (.int .i64 0) := (blk_cell BK184.out 5).trans rfl; have hcz8_6 : w6.cell? ⟨gb184, 6, none⟩ = some (.int .i64 0) := (blk_cell BK184.out 6).trans rfl; have hfz8_0 := blk_frozen BK184.out 0; have hfz8_1 := blk_frozen BK184.out 1; have hfz8_2 := blk_frozen BK184.out 2; have hfz8_3 := blk_frozen BK184.out 3; have hfz8_4 := blk_frozen BK184.out 4; have hfz8_5 := blk_frozen BK184.out 5; have hfz8_6 := blk_frozen BK184.out 6))
 refine bodyPost_ret (results_cell_row rfl _ _ gb184 26 #[.int .i64 t188, .int .i64 t189, .int .i64 t190, .string t191, .int .i64 t192, .int .i64 t193, .int .i64 t194] (0, 0) _ rfl (by (with_reducible repeat (first | refine blk_drewN ?_ _ | refine blk_drew ?_ | refine blk_alloc ?_ _)); refine blk_put (cs := #[.int .i64 t188, .int .i64 t189, .int .i64 t190, .string t191, .int .i64 t192, .int .i64 t193, .int .i64 0]) ?_ 6 _ rfl; (with_reducible repeat (first | refine blk_drewN ?_ _ | refine blk_drew ?_ | refine blk_alloc ?_ _)); refine blk_put (cs := #[.int .i64 t188, .int .i64 t189, .int .i64 t190, .string t191, .int .i64 t192, .int .i64 0, .int .i64 0]) ?_ 5 _ rfl; (with_reducible repeat (first | refine blk_drewN ?_ _ | refine blk_drew ?_ | refine blk_alloc ?_ _)); refine blk_put (cs := #[.int .i64 t188, .int .i64 t189, .int .i64 t190, .string t191, .int .i64 0, .int .i64 0, .int .i64 0]) ?_ 4 _ rfl; (with_reducible repeat (first | refine blk_drewN ?_ _ | refine blk_drew ?_ | refine blk_alloc ?_ _)); refine blk_put (cs := #[.int .i64 t188, .int .i64 t189, .int .i64 t190, .string (⟨#[]⟩ : ByteArray), .int .i64 0, .int .i64 0, .int .i64 0]) ?_ 3 _ rfl; (with_reducible repeat (first | refine blk_drewN ?_ _ | refine blk_drew ?_ | refine blk_alloc ?_ _)); refine blk_put (cs := #[.int .i64 t188, .int .i64 t189, .int .i64 0, .string (⟨#[]⟩ : ByteArray), .int .i64 0, .int .i64 0, .int .i64 0]) ?_ 2 _ rfl; (with_reducible repeat (first | refine blk_drewN ?_ _ | refine blk_drew ?_ | refine blk_alloc ?_ _)); refine blk_put (cs := #[.int .i64 t188, .int .i64 0, .int .i64 0, .string (⟨#[]⟩ : ByteArray), .int .i64 0, .int .i64 0, .int .i64 0]) ?_ 1 _ rfl; (with_reducible repeat (first | refine blk_drewN ?_ _ | refine blk_drew ?_ | refine blk_alloc ?_ _)); refine blk_put (cs := #[.int .i64 0, .int .i64 0, .int .i64 0, .string (⟨#[]⟩ : ByteArray), .int .i64 0, .int .i64 0, .int .i64 0]) ?_ 0 _ rfl; (with_reducible repeat (first | refine blk_drewN ?_ _ | refine blk_drew ?_ | refine blk_alloc ?_ _)); exact BK184.out) Try.underlying26 rfl (by kernel_rfl)) rfl ?_
 exact ⟨by first | rfl | (simp only [u8w, w64m]; rfl) | (simp [errW_none, errW_some] <;> rfl) | (simp [*, errW_none, errW_some] <;> rfl), by repeat (first | (with_reducible first | exact HB.out | apply below_alloc | apply pw_below_drewN | apply below_drew1 | refine below_set ?_ (IsS111.ge HI187.out) | refine below_set ?_ GE184.out) | exact HB.out)⟩

/-! ### impl_keysFrom: function 103 -/
def impl_keysFrom.f : Nat → Int → Option (Int)
 | 0, _ => none
 | k + 1, a0 => if a0 ≥ 4 then (some 1) else ((impl_keysFrom.f k (wrap64 (a0 + 1))).bind fun t196 => (some (wrap64 (1 + (wrap64 (26 * t196))))))
theorem impl_keysFrom.mono_l : ∀ k, (∀ y0, LeO (impl_keysFrom.f k y0) (impl_keysFrom.f (k + 1) y0))
 | 0 => fun _ r h => by simp [impl_keysFrom.f] at h
 | k + 1 => by
  have ih0 := impl_keysFrom.mono_l k
  ·
   intro y0
   unfold impl_keysFrom.f
   repeat' first
   | (with_reducible exact ih0 _)
   | (with_reducible exact LeO.refl _)
   | (with_reducible exact LeO.none _)
   | (with_reducible refine LeO.ite ?_ ?_)
   | (with_reducible refine LeO.bind ?_ (fun _ => ?_))
   | exact ih0 _
   | exact LeO.none _
   | refine LeO.ite ?_ ?_
   | refine LeO.bind ?_ (fun _ => ?_)
theorem impl_keysFrom.mono : ∀ a0 k, LeO (impl_keysFrom.f k a0) (impl_keysFrom.f (k + 1) a0) := by
 intro a0 k
 have ih0 := impl_keysFrom.mono_l k
 exact ih0 a0
set_option maxHeartbeats 8000000 in
set_option maxRecDepth 100000 in
theorem impl_keysFrom.calls (k : Nat) : ∀ (a0 : Int) (r : Int) (w : World) (h : impl_keysFrom.f k a0 = some r),
  Calls Try.prog 103 #[.int .i64 a0] w fun e w' => e = .returned (.int .i64 r) ∧ Drawn0 w w' := by
 induction k using Nat.strongRecOn with
 | _ k ih =>
 intro a0 r w h
 cases k with
 | zero => exact absurd h (by simp [impl_keysFrom.f])
 | succ k =>
 simp only [impl_keysFrom.f] at h
 have H : (if a0 ≥ 4 then (some 1) else ((impl_keysFrom.f k (wrap64 (a0 + 1))).bind fun t196 => (some (wrap64 (1 + (wrap64 (26 * t196))))))) = some r := h
 clear h
 by_cases c2 : a0 ≥ 4
 ·
  rw [if_pos c2] at H
  have c2b0 : decide (4 ≤ a0) = true := decide_eq_true c2
  clear c2
  obtain rfl := Option.some.inj H
  go_enter Try.func103, Try.ntmps103
  go_wp2
  go_ret
  exact ⟨by first | rfl | (simp; done) | exact congrArg Value.bool (ne_nil_b _) | exact congrArg Value.bool (eq_nil_b _) | (simp [*]; done), by repeat (first | exact Drawn0.refl _ | apply Drawn0.step)⟩
 ·
  rw [if_neg c2] at H
  have c2b0 : decide (4 ≤ a0) = false := decide_eq_false c2
  clear c2
  replace H := Option.bind_eq_some_iff.mp H
  obtain ⟨t196, A30, H⟩ := H
  try dsimp only at H
  have A3 := Aside0.mk A30
  clear A30
  obtain rfl := Option.some.inj H
  go_enter Try.func103, Try.ntmps103
  go_wp2_with (first | ((with_reducible refine gate_callee (f := 103) rfl ?_); refine goesL_ (some 7) rfl rfl Try.func103 (by kernel_rfl) rfl #[.int .i64 (wrap64 (a0 + 1))] rfl (by (try simp only [List.map_toArray, List.map_cons, List.map_nil]); first | done | rfl | (simp only [List.length_drop, List.length_take]; rfl)) ?_; (with_reducible refine (ih k (by omega) (wrap64 (a0 + 1)) t196 _ A3.out).mono ?_); rintro e w' ⟨rfl, ⟨nd, rfl⟩⟩; refine ⟨_, rfl, ?_⟩))
  go_ret
  exact ⟨by first | rfl | (simp; done) | exact congrArg Value.bool (ne_nil_b _) | exact congrArg Value.bool (eq_nil_b _) | (simp [*]; done), by repeat (first | exact Drawn0.refl _ | apply Drawn0.step)⟩

/-! ### impl_rankBelow: function 91 -/
def impl_rankBelow.f : Nat → ByteArray → Int → Option (Int)
 | 0, _, _ => none
 | k + 1, a0, a1 => if a0.toList = ([] : List UInt8) then (some 0) else (if 0 < (a0.size : Int) then ((impl_keysFrom.f k a1).bind fun t197 => (if 1 ≤ (a0.size : Int) then ((impl_rankBelow.f k (a0.extract 1 a0.size) (wrap64 (a1 + 1))).bind fun t198 => (some (wrap64 ((wrap64 (1 + (wrap64 ((((bt a0 0) - 97) % 256) * t197)))) + t198)))) else (none))) else (none))
theorem impl_rankBelow.mono_l : ∀ k, (∀ y0 y1, LeO (impl_rankBelow.f k y0 y1) (impl_rankBelow.f (k + 1) y0 y1))
 | 0 => fun _ _ r h => by simp [impl_rankBelow.f] at h
 | k + 1 => by
  have ih0 := impl_rankBelow.mono_l k
  ·
   intro y0 y1
   unfold impl_rankBelow.f
   repeat' first
   | (with_reducible exact ih0 _ _)
   | (with_reducible exact impl_keysFrom.mono _ _)
   | (with_reducible exact LeO.refl _)
   | (with_reducible exact LeO.none _)
   | (with_reducible refine LeO.ite ?_ ?_)
   | (with_reducible refine LeO.bind ?_ (fun _ => ?_))
   | exact ih0 _ _
   | exact impl_keysFrom.mono _ _
   | exact LeO.none _
   | refine LeO.ite ?_ ?_
   | refine LeO.bind ?_ (fun _ => ?_)
theorem impl_rankBelow.mono : ∀ a0 a1 k, LeO (impl_rankBelow.f k a0 a1) (impl_rankBelow.f (k + 1) a0 a1) := by
 intro a0 a1 k
 have ih0 := impl_rankBelow.mono_l k
 exact ih0 a0 a1
def impl_rankBelow.T3 : Bool × List (List Nat × List Nat) := (true, [([], []), ([0], [0]), ([1], [1]), ([2], [2]), ([], []), ([4], [4]), ([3, 5], [3, 5]), ([6], [6]), ([], []), ([8], [8]), ([], []), ([10], [10]), ([9, 11, 5], [9, 11]), ([7, 12], [7, 12]), ([13, 12, 0, 1, 2, 3, 4, 5, 6, 7, 8, 9, 10, 11, 12, 13], [13])])
def impl_rankBelow.B3 : List Nat := [0, 1, 3, 7, 0, 16, 63, 127, 0, 256, 0, 1024, 3888, 8191, 16383]
theorem impl_rankBelow.tab3 : rtab .any (opsOf Try.f91 3) = impl_rankBelow.T3 := by kernel_rfl
theorem impl_rankBelow.bits3 : waitsOk impl_rankBelow.T3.2 impl_rankBelow.B3 = true := by kernel_rfl
set_option maxHeartbeats 8000000 in
set_option maxRecDepth 100000 in
theorem impl_rankBelow.calls (k : Nat) : ∀ (a0 : ByteArray) (a1 : Int) (r : Int) (w : World) (h : impl_rankBelow.f k a0 a1 = some r),
  Calls Try.prog 91 #[.string a0, .int .i64 a1] w fun e w' => e = .returned (.int .i64 r) ∧ Below w.heap.size w w' := by
 induction k using Nat.strongRecOn with
 | _ k ih =>
 intro a0 a1 r w h
 cases k with
 | zero => exact absurd h (by simp [impl_rankBelow.f])
 | succ k =>
 simp only [impl_rankBelow.f] at h
 have HB := Aside0.mk (Below.refl w.heap.size w)
 have H : (if a0.toList = ([] : List UInt8) then (some 0) else (if 0 < (a0.size : Int) then ((impl_keysFrom.f k a1).bind fun t197 => (if 1 ≤ (a0.size : Int) then ((impl_rankBelow.f k (a0.extract 1 a0.size) (wrap64 (a1 + 1))).bind fun t198 => (some (wrap64 ((wrap64 (1 + (wrap64 ((((bt a0 0) - 97) % 256) * t197)))) + t198)))) else (none))) else (none))) = some r := h
 clear h
 by_cases c3 : a0.toList = ([] : List UInt8)
 ·
  rw [if_pos c3] at H
  have c3b0 : (a0.toList == ([] : List UInt8)) = true := beq_iff_eq.mpr c3
  have c3b1 : (a0.toList != ([] : List UInt8)) = false := bne_eq_false_iff_eq.mpr c3
  clear c3
  obtain rfl := Option.some.inj H
  go_enter Try.func91, Try.ntmps91
  go_wp2
  go_ret
  exact ⟨by first | rfl | (simp only [u8w, w64m]; rfl) | (simp [errW_none, errW_some] <;> rfl) | (simp [*, errW_none, errW_some] <;> rfl), bz⟩
 ·
  rw [if_neg c3] at H
  have c3b0 : (a0.toList == ([] : List UInt8)) = false := beq_eq_false_iff_ne.mpr c3
  have c3b1 : (a0.toList != ([] : List UInt8)) = true := bne_iff_ne.mpr c3
  by_cases c4 : 0 < (a0.size : Int)
  ·
   rw [if_pos c4] at H
   have c4b0 : decide (0 < (a0.size : Int)) = true := decide_eq_true c4
   have c4b1 : decide (0 < a0.size) = true := decide_eq_true (by omega)
   clear c4
   replace H := Option.bind_eq_some_iff.mp H
   obtain ⟨t197, A60, H⟩ := H
   try dsimp only at H
   have A6 := Aside0.mk A60
   clear A60
   by_cases c7 : 1 ≤ (a0.size : Int)
   ·
    rw [if_pos c7] at H
    have c7b0 := eq_true c7
    have c7b1 : decide (1 ≤ (a0.size : Int)) = true := decide_eq_true c7
    clear c7
    replace H := Option.bind_eq_some_iff.mp H
    obtain ⟨t198, A80, H⟩ := H
    try dsimp only at H
    have A8 := Aside0.mk A80
    clear A80
    obtain rfl := Option.some.inj H
    go_enter Try.func91, Try.ntmps91
    try go_wp2
    have n0_ := Aside0.mk (below_drew1 HB.out)
    clear HB
    have HB := n0_
    clear n0_
    have p5 : 0 ≤ (0 : Int) := (by omega)
    have q5 : 0 < a0.size := (by have : (0 : Int) < (a0.size : Int) := of_decide_eq_true (by first | (with_reducible assumption) | assumption); omega)
    have hx5 : ∀ h : 0 < a0.size, ((a0[0]'h).toNat : Int) = bt a0 0 := bt_at a0 0
    clear p5
    have qi5 : (0 < (a0.size : Int)) = True := eq_true (of_decide_eq_true (by first | (with_reducible assumption) | assumption))
    replace q5 := eq_true q5
    refine start_ (n := 15) (S := fun w' => True) (ds := []) #[false, false, false, false, false, false, false, false, false, false, false, false, false, false, false] (by kernel_rfl) rfl rfl trivial (fun hHeld => ?_); refine with_tabW impl_rankBelow.tab3 impl_rankBelow.bits3 (fun HT_ HW_ => ?_)
    generalize w.drew = w9 at HB hHeld ⊢
    refine pure_ (i := 0) (N := some 7) (v := ?_) (a' := ?_) #[true, false, false, false, false, false, false, false, false, false, false, false, false, false, false] rfl rfl (any_of HT_.out (by kernel_rfl)) (fun _ _ _ h => h) (Or.inl ⟨by rfl, ?_⟩) ?_ ?_
    rotate_left
    ·
     intro w'
     go_simp
     with_reducible rfl
    rotate_left
    ·
     simp only [Act.put, List.setIfInBounds_toArray, List.set_cons_zero, List.set_cons_succ, i64_w, i32_w]
     rfl
    refine pure_ (i := 4) (N := some 11) (v := ?_) (a' := ?_) #[true, false, false, false, true, false, false, false, false, false, false, false, false, false, false] rfl rfl (any_of HT_.out (by kernel_rfl)) (fun _ _ _ h => h) (Or.inl ⟨by rfl, ?_⟩) ?_ ?_
    rotate_left
    ·
     intro w'
     go_simp
     with_reducible rfl
    rotate_left
    ·
     simp only [Act.put, List.setIfInBounds_toArray, List.set_cons_zero, List.set_cons_succ, i64_w, i32_w]
     rfl
    refine pure_ (i := 8) (N := some 15) (v := ?_) (a' := ?_) #[true, false, false, false, true, false, false, false, true, false, false, false, false, false, false] rfl rfl (any_of HT_.out (by kernel_rfl)) (fun _ _ _ h => h) (Or.inl ⟨by rfl, ?_⟩) ?_ ?_
    rotate_left
    ·
     intro w'
     go_simp
     with_reducible rfl
    rotate_left
    ·
     simp only [Act.put, List.setIfInBounds_toArray, List.set_cons_zero, List.set_cons_succ, i64_w, i32_w]
     rfl
    refine pure_ (i := 9) (N := some 16) (v := ?_) (a' := ?_) #[true, false, false, false, true, false, false, false, true, true, false, false, false, false, false] rfl rfl (any_of HT_.out (by kernel_rfl)) (fun _ _ _ h => h) (Or.inl ⟨by rfl, ?_⟩) ?_ ?_
    rotate_left
    ·
     intro w'
     go_simp
     with_reducible rfl
    rotate_left
    ·
     simp only [Act.put, List.setIfInBounds_toArray, List.set_cons_zero, List.set_cons_succ, i64_w, i32_w]
     rfl
    refine pure_ (i := 10) (N := some 17) (v := ?_) (a' := ?_) #[true, false, false, false, true, false, false, false, true, true, true, false, false, false, false] rfl rfl (any_of HT_.out (by kernel_rfl)) (fun _ _ _ h => h) (Or.inl ⟨by rfl, ?_⟩) ?_ ?_
    rotate_left
    ·
     intro w'
     go_simp
     with_reducible rfl
    rotate_left
    ·
     simp only [Act.put, List.setIfInBounds_toArray, List.set_cons_zero, List.set_cons_succ, i64_w, i32_w]
     rfl
    refine pure_ (i := 11) (N := some 18) (v := ?_) (a' := ?_) #[true, false, false, false, true, false, false, false, true, true, true, true, false, false, false] rfl rfl (any_of HT_.out (by kernel_rfl)) (fun _ _ _ h => h) (Or.inl ⟨by rfl, ?_⟩) ?_ ?_
    rotate_left
    ·
     intro w'
     go_simp
     with_reducible rfl
    rotate_left
    ·
     simp only [Act.put, List.setIfInBounds_toArray, List.set_cons_zero, List.set_cons_succ, i64_w, i32_w]
     rfl
    refine take_ (i := 1) (N := some 8) (v := ?_) (a' := ?_) #[true, true, false, false, true, false, false, false, true, true, true, true, false, false, false] rfl rfl (take_ofW HT_.out HW_.out (by kernel_rfl)) (fun _ _ _ h => h) (Or.inl ⟨by rfl, ?_⟩) hHeld ?_ ?_
    rotate_left
    ·
     intro w' _
     go_simp
     with_reducible rfl
    rotate_left
    ·
     simp only [Act.put, List.setIfInBounds_toArray, List.set_cons_zero, List.set_cons_succ, i64_w, i32_w]
     rfl
    refine pure_ (i := 2) (N := some 9) (v := ?_) (a' := ?_) #[true, true, true, false, true, false, false, false, true, true, true, true, false, false, false] rfl rfl (any_of HT_.out (by kernel_rfl)) (fun _ _ _ h => h) (Or.inl ⟨by rfl, ?_⟩) ?_ ?_
    rotate_left
    ·
     intro w'
     go_simp
     with_reducible rfl
    rotate_left
    ·
     simp only [Act.put, List.setIfInBounds_toArray, List.set_cons_zero, List.set_cons_succ, i64_w, i32_w]
     rfl
    refine pure_ (i := 3) (N := some 10) (v := ?_) (a' := ?_) #[true, true, true, true, true, false, false, false, true, true, true, true, false, false, false] rfl rfl (any_of HT_.out (by kernel_rfl)) (fun _ _ _ h => h) (Or.inl ⟨by rfl, ?_⟩) ?_ ?_
    rotate_left
    ·
     intro w'
     go_simp
     with_reducible rfl
    rotate_left
    ·
     simp only [Act.put, List.setIfInBounds_toArray, List.set_cons_zero, List.set_cons_succ, i64_w, i32_w]
     rfl
    refine one_ (i := 5) (N := some 12) #[true, true, true, true, true, true, false, false, true, true, true, true, false, false, false] rfl rfl (one_of HT_.out (by kernel_rfl)) (by decide) (fun K hK => ?_)
    refine goes_ Try.func103 (by kernel_rfl) rfl #[.int .i64 a1] (by rfl) rfl rfl (by (try simp only [List.map_toArray, List.map_cons, List.map_nil]); first | done | rfl | (simp only [List.length_drop, List.length_take]; rfl)) ?_
    with_reducible refine (impl_keysFrom.calls k a1 t197 _ A6.out).mono ?_
    rintro e w' ⟨rfl, ⟨nd, rfl⟩⟩
    refine ⟨_, rfl, ?_⟩
    refine hK.out _ _ trivial (fun hHeld => ?_)
    clear hK K
    refine norm_ (a' := ?_) ?_ ?_
    rotate_left
    ·
     show Act.put _ (some 12) _ = _
     simp only [Act.put, List.setIfInBounds_toArray, List.set_cons_zero, List.set_cons_succ, i64_w, i32_w]
     rfl
    refine pure_ (i := 6) (N := some 13) (v := ?_) (a' := ?_) #[true, true, true, true, true, true, true, false, true, true, true, true, false, false, false] rfl rfl (any_of HT_.out (by kernel_rfl)) (fun _ _ _ h => h) (Or.inl ⟨by rfl, ?_⟩) ?_ ?_
    rotate_left
    ·
     intro w'
     go_simp
     with_reducible rfl
    rotate_left
    ·
     simp only [Act.put, List.setIfInBounds_toArray, List.set_cons_zero, List.set_cons_succ, i64_w, i32_w]
     rfl
    refine pure_ (i := 7) (N := some 14) (v := ?_) (a' := ?_) #[true, true, true, true, true, true, true, true, true, true, true, true, false, false, false] rfl rfl (any_of HT_.out (by kernel_rfl)) (fun _ _ _ h => h) (Or.inl ⟨by rfl, ?_⟩) ?_ ?_
    rotate_left
    ·
     intro w'
     go_simp
     with_reducible rfl
    rotate_left
    ·
     simp only [Act.put, List.setIfInBounds_toArray, List.set_cons_zero, List.set_cons_succ, i64_w, i32_w]
     rfl
    refine one_ (i := 12) (N := some 19) #[true, true, true, true, true, true, true, true, true, true, true, true, true, false, false] rfl rfl (one_of HT_.out (by kernel_rfl)) (by decide) (fun K hK => ?_)
    refine goes_ Try.func91 (by kernel_rfl) rfl #[.string (a0.extract 1 a0.size), .int .i64 (wrap64 (a1 + 1))] (by rfl) rfl rfl (by (try simp only [List.map_toArray, List.map_cons, List.map_nil]); first | done | rfl | (simp only [List.length_drop, List.length_take]; rfl)) ?_
    with_reducible refine (ih k (by omega) (a0.extract 1 a0.size) (wrap64 (a1 + 1)) t198 _ A8.out).mono ?_
    rintro e w10 ⟨rfl, hb⟩
    refine ⟨_, rfl, ?_⟩
    have n0_ := Aside0.mk (below_step (bz) hb)
    clear HB
    have HB := n0_
    clear n0_
    (try clear hb)
    (try clear hb2)
    (try clear hk)
    (try clear hi)
    refine hK.out _ _ trivial (fun hHeld => ?_)
    clear hK K
    refine norm_ (a' := ?_) ?_ ?_
    rotate_left
    ·
     show Act.put _ (some 19) _ = _
     simp only [Act.put, List.setIfInBounds_toArray, List.set_cons_zero, List.set_cons_succ, i64_w, i32_w]
     rfl
    refine pure_ (i := 13) (N := some 20) (v := ?_) (a' := ?_) #[true, true, true, true, true, true, true, true, true, true, true, true, true, true, false] rfl rfl (any_of HT_.out (by kernel_rfl)) (fun _ _ _ h => h) (Or.inl ⟨by rfl, ?_⟩) ?_ ?_
    rotate_left
    ·
     intro w'
     go_simp
     with_reducible rfl
    rotate_left
    ·
     simp only [Act.put, List.setIfInBounds_toArray, List.set_cons_zero, List.set_cons_succ, i64_w, i32_w]
     rfl
    refine pure_ (i := 14) (N := some 4) (v := ?_) (a' := ?_) #[true, true, true, true, true, true, true, true, true, true, true, true, true, true, true] rfl rfl (any_of HT_.out (by kernel_rfl)) (fun _ _ _ h => h) (Or.inl ⟨by rfl, ?_⟩) ?_ ?_
    rotate_left
    ·
     intro w'
     go_simp
     with_reducible rfl
    rotate_left
    ·
     simp only [Act.put, List.setIfInBounds_toArray, List.set_cons_zero, List.set_cons_succ, i64_w, i32_w]
     rfl
    refine done_ (done_of HT_.out (by kernel_rfl)) ?_
    try go_wp2
    go_ret
    exact ⟨by first | rfl | (simp only [u8w, w64m]; rfl) | (simp [errW_none, errW_some] <;> rfl) | (simp [*, errW_none, errW_some] <;> rfl), bz⟩
   ·
    rw [if_neg c7] at H
    exact absurd H (by simp)
  ·
   rw [if_neg c4] at H
   exact absurd H (by simp)

/-! ### impl_KeyRank: function 67 -/
def impl_KeyRank.f (k : Nat) (a0 : ByteArray) : Option (Int) := (impl_KeyValid.f k a0).bind fun t199 => (if t199 = true then ((impl_rankBelow.f k a0 1).bind fun t200 => (some (wrap64 (t200 - 1)))) else (some (-1)))
theorem impl_KeyRank.mono : ∀ a0 k, LeO (impl_KeyRank.f k a0) (impl_KeyRank.f (k + 1) a0) := by
 intro a0 k
 unfold impl_KeyRank.f
 repeat' first
   | (with_reducible exact impl_KeyValid.mono _ _)
   | (with_reducible exact impl_rankBelow.mono _ _ _)
   | (with_reducible exact LeO.refl _)
   | (with_reducible exact LeO.none _)
   | (with_reducible refine LeO.ite ?_ ?_)
   | (with_reducible refine LeO.bind ?_ (fun _ => ?_))
   | exact impl_KeyValid.mono _ _
   | exact impl_rankBelow.mono _ _ _
   | exact LeO.none _
   | refine LeO.ite ?_ ?_
   | refine LeO.bind ?_ (fun _ => ?_)
set_option maxHeartbeats 8000000 in
set_option maxRecDepth 100000 in
theorem impl_KeyRank.calls (k : Nat) (a0 : ByteArray) (r : Int) (w : World) (h : impl_KeyRank.f k a0 = some r) :
  Calls Try.prog 67 #[.string a0] w fun e w' => e = .returned (.int .i64 r) ∧ Below w.heap.size w w' := by
 have HB := Aside0.mk (Below.refl w.heap.size w)
 have H : ((impl_KeyValid.f k a0).bind fun t199 => (if t199 = true then ((impl_rankBelow.f k a0 1).bind fun t200 => (some (wrap64 (t200 - 1)))) else (some (-1)))) = some r := h
 clear h
 replace H := Option.bind_eq_some_iff.mp H
 obtain ⟨t199, A20, H⟩ := H
 try dsimp only at H
 have A2 := Aside0.mk A20
 clear A20
 by_cases c3 : t199 = true
 ·
  subst c3
  rw [if_pos rfl] at H
  replace H := Option.bind_eq_some_iff.mp H
  obtain ⟨t200, A40, H⟩ := H
  try dsimp only at H
  have A4 := Aside0.mk A40
  clear A40
  obtain rfl := Option.some.inj H
  go_enter Try.func67, Try.ntmps67
  go_wp2_with (first | ((with_reducible refine gate_callee (f := 51) rfl ?_); refine goesL_ (some 4) rfl rfl Try.func51 (by kernel_rfl) rfl #[.string a0] rfl (by (try simp only [List.map_toArray, List.map_cons, List.map_nil]); first | done | rfl | (simp only [List.length_drop, List.length_take]; rfl)) ?_; (with_reducible refine (impl_KeyValid.calls k a0 true _ A2.out).mono ?_); rintro e w' ⟨rfl, ⟨nd, rfl⟩⟩; refine ⟨_, rfl, ?_⟩) | ((with_reducible refine gate_callee (f := 91) rfl ?_); refine goesL_ (some 7) rfl rfl Try.func91 (by kernel_rfl) rfl #[.string a0, .int .i64 1] rfl (by (try simp only [List.map_toArray, List.map_cons, List.map_nil]); first | done | rfl | (simp only [List.length_drop, List.length_take]; rfl)) ?_; (with_reducible refine (impl_rankBelow.calls k a0 1 t200 _ A4.out).mono ?_); rintro e w5 ⟨rfl, hb⟩; refine ⟨_, rfl, ?_⟩; have n0_ := Aside0.mk (below_step (bz) hb); clear HB; have HB := n0_; clear n0_; (try clear hb); (try clear hb2); (try clear hk); (try clear hi)))
  go_ret
  exact ⟨by first | rfl | (simp only [u8w, w64m]; rfl) | (simp [errW_none, errW_some] <;> rfl) | (simp [*, errW_none, errW_some] <;> rfl), bz⟩
 ·
  replace c3 := Bool.eq_false_iff.mpr c3
  subst c3
  rw [if_neg (show ¬ (false = true) by decide)] at H
  obtain rfl := Option.some.inj H
  go_enter Try.func67, Try.ntmps67
  go_wp2_with (first | ((with_reducible refine gate_callee (f := 51) rfl ?_); refine goesL_ (some 4) rfl rfl Try.func51 (by kernel_rfl) rfl #[.string a0] rfl (by (try simp only [List.map_toArray, List.map_cons, List.map_nil]); first | done | rfl | (simp only [List.length_drop, List.length_take]; rfl)) ?_; (with_reducible refine (impl_KeyValid.calls k a0 false _ A2.out).mono ?_); rintro e w' ⟨rfl, ⟨nd, rfl⟩⟩; refine ⟨_, rfl, ?_⟩))
  go_ret
  exact ⟨by first | rfl | (simp only [u8w, w64m]; rfl) | (simp [errW_none, errW_some] <;> rfl) | (simp [*, errW_none, errW_some] <;> rfl), bz⟩

end Go.Proofs.Ytoajkkfnblpnlaa.PFnPlanValid
