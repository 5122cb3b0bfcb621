/- Go functions as plain Lean functions, and for each a proof that its call comes to what the function says; under the conditions that each theorem names. Written by a program of this session. -/
import Derived.Test.YtkjkokljgbpbbaaPFnMergeRoutesx0
import Derived.Test.YtkjkokljgbpbbaaPFnMergeRoutesx6
import Derived.Test.YtkjkokljgbpbbaaPFnMergeRoutesx9
namespace Go.Proofs.Ytkjkokljgbpbbaa.PFnMergeRoutes
open Go.RowKit Go.Proofs.YtkjkokljgbpbbaaW.PrintWords Go.Proofs.YtkjkokljgbpbbaaW.PrintLast Go.Proofs.YtkjkokljgbpbbaaW.PrintMore
attribute [local go_sem high] str_gtr str_leq str_geq
attribute [local go_sem] max2_int min2_int max_two min_two max_three min_three max_four min_four   -- for this text's walks alone
set_option linter.unusedVariables false
set_option linter.unusedSimpArgs false

/-! ### spec_l20Routes: function 70 -/
def spec_l20Routes.l0 : Nat → Int → List (S35) → List (S31) → Int → Int → Int → List Int → Int → Option ((List (S35)) × Int)
 | 0, _, _, _, _, _, _, _, _ => none
 | k + 1, x1, x5, x6, x7, x8, x9, x1000, x1001 => if x9 < (x6.length : Int) then (if 0 ≤ x9 then (if x5.length < 3518437208883 then (spec_l20Routes.l0 k x1 (x5 ++ [(⟨x7, (⟨(rd_T31 x6 x9).f0, (rd_T31 x6 x9).f1⟩ : S31)⟩ : S35)]) x6 (Int.tmod (wrap64 (x7 + x8)) 8) x8 (wrap64 (x9 + 1)) x1000 x1001) else (none)) else (none)) else ((spec_l20Rd_odd.f k x1000 x1001 x1).bind fun bt275 => (if bt275.1 = true then ((spec_l20Rd_pick.f k x1000 bt275.2 4).bind fun bt277 => (if bt277.1 = 0 then (if 1 ≤ (x5.length : Int) then (some ((x5.drop (1 : Int).toNat), bt277.2)) else (none)) else (if bt277.1 = 1 then ((some (([(-1), 8] : List Int) : List Int)).bind fun y282 => ((spec_l20Rd_pick.f k x1000 bt277.2 2).bind fun bt285 => (if 0 ≤ bt285.1 then (if bt285.1 < (y282.length : Int) then (if 0 < (x5.length : Int) then (some ((x5.set (0 : Int).toNat (⟨rd y282 bt285.1, (⟨(rd_T35 x5 0).f1.f0, (rd_T35 x5 0).f1.f1⟩ : S31)⟩ : S35)), bt285.2)) else (none)) else (none)) else (none)))) else (if bt277.1 = 2 then (if 0 ≤ (wrap64 ((x5.length : Int) - 1)) then (if (wrap64 ((x5.length : Int) - 1)) < (x5.length : Int) then (if 0 < (x5.length : Int) then (some ((x5.set (0 : Int).toNat (⟨(rd_T35 x5 (wrap64 ((x5.length : Int) - 1))).f0, (⟨(rd_T35 x5 0).f1.f0, (rd_T35 x5 0).f1.f1⟩ : S31)⟩ : S35)), bt277.2)) else (none)) else (none)) else (none)) else (if 0 ≤ (wrap64 ((x5.length : Int) - 1)) then (if (wrap64 ((x5.length : Int) - 1)) < (x5.length : Int) then (some ((x5.set ((wrap64 ((x5.length : Int) - 1)) : Int).toNat (⟨(rd_T35 x5 (wrap64 ((x5.length : Int) - 1))).f0, (⟨(rd_T35 x5 (wrap64 ((x5.length : Int) - 1))).f1.f0, (⟨#[122, 122, 122, 122]⟩ : ByteArray)⟩ : S31)⟩ : S35)), bt277.2)) else (none)) else (none)))))) else (some (x5, bt275.2))))
def spec_l20Routes.f (k : Nat) (s0_0 : List Int) (s0_1 : Int) (a1 : Int) : Option ((List (S35)) × Int) := (spec_l20Parts.f k s0_0 s0_1 0).bind fun bt259 => ((spec_l20Rd_pick.f k s0_0 bt259.2 8).bind fun bt263 => ((some (([1, 3, 5, 7] : List Int) : List Int)).bind fun y265 => ((spec_l20Rd_pick.f k s0_0 bt263.2 4).bind fun bt268 => (if 0 ≤ bt268.1 then (if bt268.1 < (y265.length : Int) then (spec_l20Routes.l0 k a1 (([] : List (S35))) bt259.1 bt263.1 (rd y265 bt268.1) 0 s0_0 bt268.2) else (none)) else (none)))))
theorem spec_l20Routes.mono_l : ∀ k, (∀ y0 y1 y2 y3 y4 y5 y6 y7, LeO (spec_l20Routes.l0 k y0 y1 y2 y3 y4 y5 y6 y7) (spec_l20Routes.l0 (k + 1) y0 y1 y2 y3 y4 y5 y6 y7))
 | 0 => fun _ _ _ _ _ _ _ _ r h => by simp [spec_l20Routes.l0] at h
 | k + 1 => by
  have ih0 := spec_l20Routes.mono_l k
  ·
   intro y0 y1 y2 y3 y4 y5 y6 y7
   unfold spec_l20Routes.l0
   repeat' first
   | (with_reducible exact ih0 _ _ _ _ _ _ _ _)
   | (with_reducible exact spec_l20Parts.mono _ _ _ _)
   | (with_reducible exact spec_l20Rd_odd.mono _ _ _ _)
   | (with_reducible exact spec_l20Rd_pick.mono _ _ _ _)
   | (with_reducible exact LeO.refl _)
   | (with_reducible exact LeO.none _)
   | (with_reducible refine LeO.ite ?_ ?_)
   | (with_reducible refine LeO.bind ?_ (fun _ => ?_))
   | exact ih0 _ _ _ _ _ _ _ _
   | exact spec_l20Parts.mono _ _ _ _
   | exact spec_l20Rd_odd.mono _ _ _ _
   | exact spec_l20Rd_pick.mono _ _ _ _
   | exact LeO.none _
   | refine LeO.ite ?_ ?_
   | refine LeO.bind ?_ (fun _ => ?_)
theorem spec_l20Routes.mono : ∀ a0 a1 a2 k, LeO (spec_l20Routes.f k a0 a1 a2) (spec_l20Routes.f (k + 1) a0 a1 a2) := by
 intro a0 a1 a2 k
 have ih0 := spec_l20Routes.mono_l k
 unfold spec_l20Routes.f
 repeat' first
   | (with_reducible exact ih0 _ _ _ _ _ _ _ _)
   | (with_reducible exact spec_l20Parts.mono _ _ _ _)
   | (with_reducible exact spec_l20Rd_odd.mono _ _ _ _)
   | (with_reducible exact spec_l20Rd_pick.mono _ _ _ _)
   | (with_reducible exact LeO.refl _)
   | (with_reducible exact LeO.none _)
   | (with_reducible refine LeO.ite ?_ ?_)
   | (with_reducible refine LeO.bind ?_ (fun _ => ?_))
   | exact ih0 _ _ _ _ _ _ _ _
   | exact spec_l20Parts.mono _ _ _ _
   | exact spec_l20Rd_odd.mono _ _ _ _
   | exact spec_l20Rd_pick.mono _ _ _ _
   | exact LeO.none _
   | refine LeO.ite ?_ ?_
   | refine LeO.bind ?_ (fun _ => ?_)
set_option maxHeartbeats 8000000 in
set_option maxRecDepth 100000 in
theorem spec_l20Routes.calls (k : Nat) (g : Nat) (s0_0 : List Int) (s0_1 : Int) (a1 : Int) (r1 : List (S35)) (r2 : Int) (w0 w : World) (hI : IsS131 w0 w g s0_0 s0_1) (hB : Below w0.heap.size w0 w) (h : spec_l20Routes.f k s0_0 s0_1 a1 = some (r1, r2)) :
  Calls Try.prog 70 #[.pointer (some ⟨g, 0, none⟩), .int .i64 a1] w fun e w' => ∃ v0_ : Value, e = .returned (v0_) ∧ Kd.Q k35 35 w' w.heap.size (fun _ => True) v0_ r1 ∧ IsS131 w0 w' g s0_0 r2 ∧ Below w0.heap.size w0 w' ∧ KeepBut w w' g none := by
 have hu31 := Try.underlying31
 have hu35 := Try.underlying35
 have HI0 := Aside0.mk hI
 have HK := Aside0.mk (KeepBut.refl w g none)
 have HL := Aside0.mk hB.size
 clear hI
 have HW0 := Aside0.mk hB.size
 have HB := Aside0.mk hB
 clear hB
 have H : ((spec_l20Parts.f k s0_0 s0_1 0).bind fun bt259 => ((spec_l20Rd_pick.f k s0_0 bt259.2 8).bind fun bt263 => ((some (([1, 3, 5, 7] : List Int) : List Int)).bind fun y265 => ((spec_l20Rd_pick.f k s0_0 bt263.2 4).bind fun bt268 => (if 0 ≤ bt268.1 then (if bt268.1 < (y265.length : Int) then (spec_l20Routes.l0 k a1 (([] : List (S35))) bt259.1 bt263.1 (rd y265 bt268.1) 0 s0_0 bt268.2) else (none)) else (none)))))) = some (r1, r2) := h
 clear h
 obtain ⟨y256, hy256⟩ : ∃ y_ : List (S35), y_ = (([] : List (S35))) := ⟨_, rfl⟩
 replace H : ((spec_l20Parts.f k s0_0 s0_1 0).bind fun bt259 => ((spec_l20Rd_pick.f k s0_0 bt259.2 8).bind fun bt263 => ((some (([1, 3, 5, 7] : List Int) : List Int)).bind fun y265 => ((spec_l20Rd_pick.f k s0_0 bt263.2 4).bind fun bt268 => (if 0 ≤ bt268.1 then (if bt268.1 < (y265.length : Int) then (spec_l20Routes.l0 k a1 y256 bt259.1 bt263.1 (rd y265 bt268.1) 0 s0_0 bt268.2) else (none)) else (none)))))) = some (r1, r2) := by first | (rw [hy256]; with_reducible exact H) | (have H2_ := (Option.bind_some _ _).symm.trans H; rw [hy256]; with_reducible exact H2_) | (have H2_ := (Option.bind_some _ _).symm.trans H; with_reducible exact H2_) | with_reducible exact H | (rw [hy256]; exact H) | exact H
 have Ny256 := Aside0.mk hy256
 clear hy256
 replace H := Option.bind_eq_some_iff.mp H
 obtain ⟨⟨t259, t262⟩, A30, H⟩ := H
 try dsimp only at H
 have A3 := Aside0.mk A30
 clear A30
 replace H := Option.bind_eq_some_iff.mp H
 obtain ⟨⟨t263, t264⟩, A40, H⟩ := H
 try dsimp only at H
 have A4 := Aside0.mk A40
 clear A40
 obtain ⟨y265, hy265⟩ : ∃ y_ : List Int, y_ = (([1, 3, 5, 7] : List Int)) := ⟨_, rfl⟩
 replace H : ((spec_l20Rd_pick.f k s0_0 t264 4).bind fun bt268 => (if 0 ≤ bt268.1 then (if bt268.1 < (y265.length : Int) then (spec_l20Routes.l0 k a1 y256 t259 t263 (rd y265 bt268.1) 0 s0_0 bt268.2) else (none)) else (none))) = some (r1, r2) := by first | (rw [hy265]; with_reducible exact H) | (have H2_ := (Option.bind_some _ _).symm.trans H; rw [hy265]; with_reducible exact H2_) | (have H2_ := (Option.bind_some _ _).symm.trans H; with_reducible exact H2_) | with_reducible exact H | (rw [hy265]; exact H) | exact H
 have Ny265 := Aside0.mk hy265
 clear hy265
 replace H := Option.bind_eq_some_iff.mp H
 obtain ⟨⟨t268, t269⟩, A50, H⟩ := H
 try dsimp only at H
 have A5 := Aside0.mk A50
 clear A50
 by_cases c6 : 0 ≤ t268
 ·
  rw [if_pos c6] at H
  have c6b0 : decide (0 ≤ t268) = true := decide_eq_true c6
  clear c6
  by_cases c7 : t268 < (y265.length : Int)
  ·
   rw [if_pos c7] at H
   have c7b0 : decide (t268 < (y265.length : Int)) = true := decide_eq_true c7
   clear c7
   have H' := Aside0.mk H
   clear H
   go_enter Try.func70, Try.ntmps70
   go_wp2_with (first | ((with_reducible refine gate_dst (N := 10) rfl ?_); refine Kd.R_lit k35 _ 35 ?hg (N := 10) ?hd (xs := ([] : List (S35))) (inner := []) (ok := fun _ => True) (okp := fun _ => True) ?hr ?hp (fun _ hk => hk) trivial (Below.refl _ _) (Nat.le_refl _) (by simp) ?_; (case hd => rfl); (case hg => rfl); (case hr => first | (go_simp; done) | (go_simp; rfl)); (case hp => exact (Reps.none _ _)); intro v257 w8 ho9 hb hg_ hnew_; clear hg_ hnew_; (first | rw [← Ny256.out] at ho9 | (simp only [Int.reduceToNat] at ho9; rw [← Ny256.out] at ho9)); have n0_ := Aside0.mk (Kd.R_lower ho9 (keep_size (w := w) (g := g) (row := none) (kk))); have n1_ := Aside0.mk (IsS131.below (IsS131.run HI0) hb); have n2_ := Aside0.mk (KeepBut.trans (kk) (KeepBut.of_below hb g none) (.inl rfl)); have n3_ := Aside0.mk (below_step (IsS131.bz HI0) hb); clear HI0; clear HK; clear HB; have HO258 := n0_; have HI0 := n1_; have HK := n2_; have HB := n3_; clear n0_ n1_ n2_ n3_; clear hb ho9) | ((with_reducible refine gate_callee (f := 125) rfl ?_); refine goesL_ (some 12) rfl rfl Try.func125 (by kernel_rfl) rfl #[.pointer (some ⟨g, 0, none⟩), .int .i64 0] rfl (by (try simp only [List.map_toArray, List.map_cons, List.map_nil]); first | done | rfl | (simp only [List.length_drop, List.length_take]; rfl)) ?_; (with_reducible refine (spec_l20Parts.calls k g s0_0 s0_1 0 t259 t262 w0 _ ?side1 ?side2 A3.out).mono ?_); (case side1 => exact IsS131.run HI0); (case side2 => repeat (first | (with_reducible first | exact HB.out | apply below_alloc | apply pw_below_drewN | apply below_drew1 | refine below_set ?_ (IsS131.ge HI0.out)) | exact HB.out)); rintro e w10 ⟨v260, rfl, ho0, hi, hb, hk⟩; refine ⟨_, rfl, ?_⟩; have n0_ := Aside0.mk (Kd.R_mono (Kd.R_keep (IsS131.apart (show IsS131 w0 _ g s0_0 s0_1 from IsS131.run HI0) (by (with_reducible repeat (first | apply Kd.R_alloc | apply Kd.R_drewN | apply Kd.R_drew)); exact HO258.out) (by decide)) hk (fun _ h => h.2)) (fun _ h => h.1)); have n1_ := Aside0.mk (Kd.Q_lower ho0 (keep_size (w := w) (g := g) (row := none) (kk))); have n2_ := Aside0.mk (KeepBut.trans (kk) hk (.inl rfl)); have n3_ := Aside0.mk (hb); have n4_ := Aside0.mk (hi); clear HO258; clear HK; clear HB; clear HI0; have HO258 := n0_; have HO261 := n1_; have HK := n2_; have HB := n3_; have HI0 := n4_; clear n0_ n1_ n2_ n3_ n4_; (try clear hb); (try clear hb2); (try clear hk); (try clear hi); (try clear ho0)) | ((with_reducible refine gate_callee (f := 72) rfl ?_); refine goesL_ (some 14) rfl rfl Try.func72 (by kernel_rfl) rfl #[.pointer (some ⟨g, 0, none⟩), .int .i64 8] rfl (by (try simp only [List.map_toArray, List.map_cons, List.map_nil]); first | done | rfl | (simp only [List.length_drop, List.length_take]; rfl)) ?_; (with_reducible refine (spec_l20Rd_pick.calls k g s0_0 t262 8 t263 t264 w0 _ ?side1 ?side2 A4.out).mono ?_); (case side1 => exact IsS131.run HI0); (case side2 => repeat (first | (with_reducible first | exact HB.out | apply below_alloc | apply pw_below_drewN | apply below_drew1 | refine below_set ?_ (IsS131.ge HI0.out)) | exact HB.out)); rintro e w11 ⟨rfl, hi, hb, hk⟩; refine ⟨_, rfl, ?_⟩; have n0_ := Aside0.mk (Kd.R_mono (Kd.R_keep (IsS131.apart (show IsS131 w0 _ g s0_0 t262 from IsS131.run HI0) (by (with_reducible repeat (first | apply Kd.R_alloc | apply Kd.R_drewN | apply Kd.R_drew)); exact HO258.out) (by decide)) hk (fun _ h => h.2)) (fun _ h => h.1)); have n1_ := Aside0.mk (Kd.Q_mono (Kd.Q_keep (IsS131.apartQ (show IsS131 w0 _ g s0_0 t262 from IsS131.run HI0) (by (with_reducible repeat (first | apply Kd.Q_alloc | apply Kd.Q_drewN | apply Kd.Q_drew)); exact HO261.out) (by decide)) hk (fun _ h => h.2)) (fun _ h => h.1)); have n2_ := Aside0.mk (KeepBut.trans (kk) hk (.inl rfl)); have n3_ := Aside0.mk (hb); have n4_ := Aside0.mk (hi); clear HO258; clear HO261; clear HK; clear HB; clear HI0; have HO258 := n0_; have HO261 := n1_; have HK := n2_; have HB := n3_; have HI0 := n4_; clear n0_ n1_ n2_ n3_ n4_; (try clear hb); (try clear hb2); (try clear hk); (try clear hi)) | ((with_reducible refine gate_dst (N := 15) rfl ?_); refine Kd.R_lit (Kd.int .i64) _ 3 ?hg (N := 15) ?hd (xs := ([1, 3, 5, 7] : List Int)) (inner := [.int .i64 1, .int .i64 3, .int .i64 5, .int .i64 7]) (ok := fun _ => True) (okp := fun _ => True) ?hr ?hp (fun _ hk => hk) trivial (Below.refl _ _) (Nat.le_refl _) (by simp) ?_; (case hd => rfl); (case hg => rfl); (case hr => first | (go_simp; done) | (go_simp; rfl)); (case hp => exact (Reps.one (show Kd.M (Kd.int .i64) _ _ _ 1 [.int .i64 1] from rfl) (Reps.one (show Kd.M (Kd.int .i64) _ _ _ 3 [.int .i64 3] from rfl) (Reps.one (show Kd.M (Kd.int .i64) _ _ _ 5 [.int .i64 5] from rfl) (Reps.one (show Kd.M (Kd.int .i64) _ _ _ 7 [.int .i64 7] from rfl) (Reps.none _ _)))))); intro v266 w12 ho13 hb hg_ hnew_; clear hg_ hnew_; (first | rw [← Ny265.out] at ho13 | (simp only [Int.reduceToNat] at ho13; rw [← Ny265.out] at ho13)); have n0_ := Aside0.mk (Kd.R_below (by (with_reducible repeat (first | apply Kd.R_alloc | apply Kd.R_drewN | apply Kd.R_drew)); exact HO258.out) hb); have n1_ := Aside0.mk (Kd.Q_below (by (with_reducible repeat (first | apply Kd.Q_alloc | apply Kd.Q_drewN | apply Kd.Q_drew)); exact HO261.out) hb); have n2_ := Aside0.mk (Kd.R_lower ho13 (keep_size (w := w) (g := g) (row := none) (kk))); have n3_ := Aside0.mk (IsS131.below (IsS131.run HI0) hb); have n4_ := Aside0.mk (KeepBut.trans (kk) (KeepBut.of_below hb g none) (.inl rfl)); have n5_ := Aside0.mk (below_step (IsS131.bz HI0) hb); clear HO258; clear HO261; clear HI0; clear HK; clear HB; have HO258 := n0_; have HO261 := n1_; have HO267 := n2_; have HI0 := n3_; have HK := n4_; have HB := n5_; clear n0_ n1_ n2_ n3_ n4_ n5_; clear hb ho13) | ((with_reducible refine gate_callee (f := 72) rfl ?_); refine goesL_ (some 17) rfl rfl Try.func72 (by kernel_rfl) rfl #[.pointer (some ⟨g, 0, none⟩), .int .i64 4] rfl (by (try simp only [List.map_toArray, List.map_cons, List.map_nil]); first | done | rfl | (simp only [List.length_drop, List.length_take]; rfl)) ?_; (with_reducible refine (spec_l20Rd_pick.calls k g s0_0 t264 4 t268 t269 w0 _ ?side1 ?side2 A5.out).mono ?_); (case side1 => exact IsS131.run HI0); (case side2 => repeat (first | (with_reducible first | exact HB.out | apply below_alloc | apply pw_below_drewN | apply below_drew1 | refine below_set ?_ (IsS131.ge HI0.out)) | exact HB.out)); rintro e w14 ⟨rfl, hi, hb, hk⟩; refine ⟨_, rfl, ?_⟩; have n0_ := Aside0.mk (Kd.R_mono (Kd.R_keep (IsS131.apart (show IsS131 w0 _ g s0_0 t264 from IsS131.run HI0) (by (with_reducible repeat (first | apply Kd.R_alloc | apply Kd.R_drewN | apply Kd.R_drew)); exact HO258.out) (by decide)) hk (fun _ h => h.2)) (fun _ h => h.1)); have n1_ := Aside0.mk (Kd.Q_mono (Kd.Q_keep (IsS131.apartQ (show IsS131 w0 _ g s0_0 t264 from IsS131.run HI0) (by (with_reducible repeat (first | apply Kd.Q_alloc | apply Kd.Q_drewN | apply Kd.Q_drew)); exact HO261.out) (by decide)) hk (fun _ h => h.2)) (fun _ h => h.1)); have n2_ := Aside0.mk (Kd.R_mono (Kd.R_keep (IsS131.apart (show IsS131 w0 _ g s0_0 t264 from IsS131.run HI0) (by (with_reducible repeat (first | apply Kd.R_alloc | apply Kd.R_drewN | apply Kd.R_drew)); exact HO267.out) (by decide)) hk (fun _ h => h.2)) (fun _ h => h.1)); have n3_ := Aside0.mk (KeepBut.trans (kk) hk (.inl rfl)); have n4_ := Aside0.mk (hb); have n5_ := Aside0.mk (hi); clear HO258; clear HO261; clear HO267; clear HK; clear HB; clear HI0; have HO258 := n0_; have HO261 := n1_; have HO267 := n2_; have HK := n3_; have HB := n4_; have HI0 := n5_; clear n0_ n1_ n2_ n3_ n4_ n5_; (try clear hb); (try clear hb2); (try clear hk); (try clear hi); obtain ⟨Ao15, co15, eo15⟩ := Kd.R_slice HO267.out; subst eo15; have p270 : 0 ≤ (t268 : Int) := of_decide_eq_true (by first | (with_reducible assumption) | assumption); have q270 : t268 < (y265.length : Int) := of_decide_eq_true (by first | (with_reducible assumption) | assumption); obtain ⟨ad270, e270, hx270_0⟩ := Kd.at_int (Kd.R_reads' HO267.out).2.2 t268 p270 q270; cases e270; replace p270 := eq_true p270; replace q270 := eq_true q270))
   go_loopg [5, 7, 9] k (fun kq v5 v7 v9 w' => ∃ (x5_1 : List (S35)) (x7_1 : Int) (x9_1 : Int), v7 = .int .i64 x7_1 ∧ v9 = .int .i64 x9_1 ∧ Aside0 (spec_l20Routes.l0 kq a1 x5_1 t259 x7_1 (rd y265 t268) x9_1 s0_0 t269 = some (r1, r2)) ∧ Aside0 (kq ≤ k) ∧ Aside0 (Kd.R k35 35 w' w.heap.size (fun _ => True) v5 x5_1) ∧ Aside0 (Kd.Q k31 31 w' w.heap.size (fun _ => True) v260 t259) ∧ Aside0 (IsS131 w0 w' g s0_0 t269) ∧ Aside0 (KeepBut w w' g none) ∧ Aside0 (Below w0.heap.size w0 w'))
   case atStart => exact ⟨(y256), (t263), (0), (by first | rfl | (simp; done) | exact congrArg Value.bool (ne_nil_b _) | exact congrArg Value.bool (eq_nil_b _) | (simp [*]; done)), (by first | rfl | (simp; done) | exact congrArg Value.bool (ne_nil_b _) | exact congrArg Value.bool (eq_nil_b _) | (simp [*]; done)), H', ⟨Nat.le_refl _⟩, ⟨by (with_reducible repeat (first | apply Kd.R_alloc | apply Kd.R_drewN | apply Kd.R_drew)); exact HO258.out⟩, ⟨by (with_reducible repeat (first | apply Kd.Q_alloc | apply Kd.Q_drewN | apply Kd.Q_drew)); exact HO261.out⟩, ⟨IsS131.run HI0⟩, ⟨kk⟩, ⟨IsS131.bz HI0⟩⟩
   case round =>
    clear H'
    try clear c1
    try clear p2
    try clear q2
    try clear hx2
    try clear c6
    try clear c6b0
    try clear c7
    try clear c7b0
    try clear c12
    try clear hx270_0
    try clear p270
    try clear q270
    obtain ⟨x5_1, x7_1, x9_1, rfl, rfl, HA, HK1, HO_5, HO_6, HI0, HK, HB⟩ := hrel
    cases gk with
    | zero => exact absurd HA.out (by simp [spec_l20Routes.l0])
    | succ k1 =>
     have H := HA.out
     clear HA
     simp only [spec_l20Routes.l0] at H
     by_cases c16 : x9_1 < (t259.length : Int)
     ·
      rw [if_pos c16] at H
      have c16b0 : decide (x9_1 < (t259.length : Int)) = true := decide_eq_true c16
      clear c16
      by_cases c17 : 0 ≤ x9_1
      ·
       rw [if_pos c17] at H
       have c17b0 : decide (0 ≤ x9_1) = true := decide_eq_true c17
       clear c17
       by_cases c18 : x5_1.length < 3518437208883
       ·
        rw [if_pos c18] at H
        have LMc18 := Aside0.mk c18
        clear c18
        obtain ⟨y272, hy272⟩ : ∃ y_ : List (S35), y_ = (x5_1 ++ [(⟨x7_1, (⟨(rd_T31 t259 x9_1).f0, (rd_T31 t259 x9_1).f1⟩ : S31)⟩ : S35)]) := ⟨_, rfl⟩
        replace H : (spec_l20Routes.l0 k1 a1 y272 t259 (Int.tmod (wrap64 (x7_1 + (rd y265 t268))) 8) (rd y265 t268) (wrap64 (x9_1 + 1)) s0_0 t269) = some (r1, r2) := by first | (rw [hy272]; with_reducible exact H) | (have H2_ := (Option.bind_some _ _).symm.trans H; rw [hy272]; with_reducible exact H2_) | (have H2_ := (Option.bind_some _ _).symm.trans H; with_reducible exact H2_) | with_reducible exact H | (rw [hy272]; exact H) | exact H
        have Ny272 := Aside0.mk hy272
        clear hy272
        have H' := Aside0.mk H
        clear H
        obtain ⟨Ao19, co19, eo19, _⟩ := Kd.Q_slice HO_6.out
        subst eo19
        have p271 : 0 ≤ (x9_1 : Int) := of_decide_eq_true (by first | (with_reducible assumption) | assumption)
        have q271 : x9_1 < (t259.length : Int) := of_decide_eq_true (by first | (with_reducible assumption) | assumption)
        obtain ⟨ad271, e271, hx271_0, hx271_1⟩ := at_T31 (Kd.Q_reads' HO_6.out).2.2 x9_1 p271 q271
        cases e271
        replace p271 := eq_true p271
        replace q271 := eq_true q271
        go_wp2_with (first | ((with_reducible refine gate_builtin (b := .append) (xs := #[.tmp 26, .tmp 33]) rfl ?_); at_builtin; refine Kd.R_append k35 w.heap.size rfl (.tmp 26) (.tmp 33) 23 35 (.agg #[(.int .i64 0), (.string ⟨#[]⟩), (.string ⟨#[]⟩)]) 40 rfl Try.underlying23 info35 rfl (by decide) (by omega) u5 x5_1 (⟨x7_1, (⟨(rd_T31 t259 x9_1).f0, (rd_T31 t259 x9_1).f1⟩ : S31)⟩ : S35) [.int .i64 x7_1, .string ((rd_T31 t259 x9_1).f0), .string ((rd_T31 t259 x9_1).f1)] (fun _ => True) (fun _ => False) rfl rfl ?aP (fun _ hk => hk.elim) ?aF ?aO (Below.refl _ _) ?aS ?aL ?_; (case aP => exact k35_mkM _ _ _ (⟨x7_1, (⟨(rd_T31 t259 x9_1).f0, (rd_T31 t259 x9_1).f1⟩ : S31)⟩ : S35)); (case aF => exact (fun _ _ => trivial)); (case aO => exact (by (with_reducible repeat (first | apply Kd.R_alloc | apply Kd.R_drewN | apply Kd.R_drew)); exact HO_5.out)); (case aS => exact (keep_size (w := w) (g := g) (row := none) (kk))); (case aL => have := LMc18.out; omega); intro v273 w20 ho hb hg hat; rw [← Ny272.out] at ho; have n0_ := Aside0.mk (Kd.Q_over' (by (with_reducible repeat (first | apply Kd.Q_alloc | apply Kd.Q_drewN | apply Kd.Q_drew)); exact HO_6.out) (Kd.R_typed (by (with_reducible repeat (first | apply Kd.R_alloc | apply Kd.R_drewN | apply Kd.R_drew)); exact HO_5.out)) (by decide) hg); have n1_ := Aside0.mk (IsS131.grown (IsS131.run HI0) hg (IsS131.own_ne HI0.out HO_5.out (by decide))); have n2_ := Aside0.mk (below_weaken (IsS131.bz HI0) HL.out hb); have n3_ := Aside0.mk (KeepBut.trans (kk) (KeepBut.of_grown hg g) (Kd.R_base2 HO_5.out)); have n4_ := Aside0.mk (ho); clear HO_6; clear HI0; clear HB; clear HK; clear HO_5; have HO_6 := n0_; have HI0 := n1_; have HB := n2_; have HK := n3_; have HO274 := n4_; clear n0_ n1_ n2_ n3_ n4_; clear ho hb hg hat))
        go_roundg k1
        case measure => have := HK1.out; omega
        case rel => exact ⟨(y272), (Int.tmod (wrap64 (x7_1 + (rd y265 t268))) 8), (wrap64 (x9_1 + 1)), (by first | rfl | (simp; done) | exact congrArg Value.bool (ne_nil_b _) | exact congrArg Value.bool (eq_nil_b _) | (simp [*]; done)), (by first | rfl | (simp; done) | exact congrArg Value.bool (ne_nil_b _) | exact congrArg Value.bool (eq_nil_b _) | (simp [*]; done)), H', ⟨by have := HK1.out; omega⟩, ⟨by (with_reducible repeat (first | apply Kd.R_alloc | apply Kd.R_drewN | apply Kd.R_drew)); exact HO274.out⟩, ⟨by (with_reducible repeat (first | apply Kd.Q_alloc | apply Kd.Q_drewN | apply Kd.Q_drew)); exact HO_6.out⟩, ⟨IsS131.run HI0⟩, ⟨kk⟩, ⟨IsS131.bz HI0⟩⟩
       ·
        rw [if_neg c18] at H
        exact absurd H (by simp)
      ·
       rw [if_neg c17] at H
       exact absurd H (by simp)
     ·
      rw [if_neg c16] at H
      have c16b0 : decide (x9_1 < (t259.length : Int)) = false := decide_eq_false c16
      clear c16
      replace H := Option.bind_eq_some_iff.mp H
      obtain ⟨⟨t275, t276⟩, A210, H⟩ := H
      try dsimp only at H
      have A21 := Aside0.mk A210
      clear A210
      by_cases c22 : t275 = true
      ·
       subst c22
       rw [if_pos rfl] at H
       replace H := Option.bind_eq_some_iff.mp H
       obtain ⟨⟨t277, t278⟩, A230, H⟩ := H
       try dsimp only at H
       have A23 := Aside0.mk A230
       clear A230
       by_cases c24 : t277 = 0
       ·
        rw [if_pos c24] at H
        have c24b0 : (t277 == 0) = true := beq_iff_eq.mpr c24
        have c24b1 : (t277 != 0) = false := bne_eq_false_iff_eq.mpr c24
        clear c24
        by_cases c25 : 1 ≤ (x5_1.length : Int)
        ·
         rw [if_pos c25] at H
         have c25b0 := eq_true c25
         have c25b1 : decide (1 ≤ (x5_1.length : Int)) = true := decide_eq_true c25
         clear c25
         obtain ⟨y279, hy279⟩ : ∃ y_ : List (S35), y_ = (x5_1.drop (1 : Int).toNat) := ⟨_, rfl⟩
         replace H : (some (y279, t278)) = some (r1, r2) := by first | (rw [hy279]; with_reducible exact H) | (have H2_ := (Option.bind_some _ _).symm.trans H; rw [hy279]; with_reducible exact H2_) | (have H2_ := (Option.bind_some _ _).symm.trans H; with_reducible exact H2_) | with_reducible exact H | (rw [hy279]; exact H) | exact H
         have Ny279 := Aside0.mk hy279
         clear hy279
         simp only [Option.some.injEq, Prod.mk.injEq] at H
         obtain ⟨rfl, rfl⟩ := H
         obtain ⟨Ao26, co26, eo26, _⟩ := Kd.Q_slice HO_6.out
         subst eo26
         go_wp2_with (first | ((with_reducible refine gate_callee (f := 126) rfl ?_); refine goesL_ (some 41) rfl rfl Try.func126 (by kernel_rfl) rfl #[.pointer (some ⟨g, 0, none⟩), .int .i64 a1] rfl (by (try simp only [List.map_toArray, List.map_cons, List.map_nil]); first | done | rfl | (simp only [List.length_drop, List.length_take]; rfl)) ?_; (with_reducible refine (spec_l20Rd_odd.calls k1 g s0_0 t269 a1 true t276 w0 _ ?side1 ?side2 A21.out).mono ?_); (case side1 => exact IsS131.run HI0); (case side2 => repeat (first | (with_reducible first | exact HB.out | apply below_alloc | apply pw_below_drewN | apply below_drew1 | refine below_set ?_ (IsS131.ge HI0.out)) | exact HB.out)); rintro e w27 ⟨rfl, hi, hb, hk⟩; refine ⟨_, rfl, ?_⟩; have n0_ := Aside0.mk (Kd.R_mono (Kd.R_keep (IsS131.apart (show IsS131 w0 _ g s0_0 t269 from IsS131.run HI0) (by (with_reducible repeat (first | apply Kd.R_alloc | apply Kd.R_drewN | apply Kd.R_drew)); exact HO_5.out) (by decide)) hk (fun _ h => h.2)) (fun _ h => h.1)); have n1_ := Aside0.mk (Kd.Q_mono (Kd.Q_keep (IsS131.apartQ (show IsS131 w0 _ g s0_0 t269 from IsS131.run HI0) (by (with_reducible repeat (first | apply Kd.Q_alloc | apply Kd.Q_drewN | apply Kd.Q_drew)); exact HO_6.out) (by decide)) hk (fun _ h => h.2)) (fun _ h => h.1)); have n2_ := Aside0.mk (KeepBut.trans (kk) hk (.inl rfl)); have n3_ := Aside0.mk (hb); have n4_ := Aside0.mk (hi); clear HO_5; clear HO_6; clear HK; clear HB; clear HI0; have HO_5 := n0_; have HO_6 := n1_; have HK := n2_; have HB := n3_; have HI0 := n4_; clear n0_ n1_ n2_ n3_ n4_; (try clear hb); (try clear hb2); (try clear hk); (try clear hi)) | ((with_reducible refine gate_callee (f := 72) rfl ?_); refine goesL_ (some 43) rfl rfl Try.func72 (by kernel_rfl) rfl #[.pointer (some ⟨g, 0, none⟩), .int .i64 4] rfl (by (try simp only [List.map_toArray, List.map_cons, List.map_nil]); first | done | rfl | (simp only [List.length_drop, List.length_take]; rfl)) ?_; (with_reducible refine (spec_l20Rd_pick.calls k1 g s0_0 t276 4 t277 t278 w0 _ ?side1 ?side2 A23.out).mono ?_); (case side1 => exact IsS131.run HI0); (case side2 => repeat (first | (with_reducible first | exact HB.out | apply below_alloc | apply pw_below_drewN | apply below_drew1 | refine below_set ?_ (IsS131.ge HI0.out)) | exact HB.out)); rintro e w28 ⟨rfl, hi, hb, hk⟩; refine ⟨_, rfl, ?_⟩; have n0_ := Aside0.mk (Kd.R_mono (Kd.R_keep (IsS131.apart (show IsS131 w0 _ g s0_0 t276 from IsS131.run HI0) (by (with_reducible repeat (first | apply Kd.R_alloc | apply Kd.R_drewN | apply Kd.R_drew)); exact HO_5.out) (by decide)) hk (fun _ h => h.2)) (fun _ h => h.1)); have n1_ := Aside0.mk (Kd.Q_mono (Kd.Q_keep (IsS131.apartQ (show IsS131 w0 _ g s0_0 t276 from IsS131.run HI0) (by (with_reducible repeat (first | apply Kd.Q_alloc | apply Kd.Q_drewN | apply Kd.Q_drew)); exact HO_6.out) (by decide)) hk (fun _ h => h.2)) (fun _ h => h.1)); have n2_ := Aside0.mk (KeepBut.trans (kk) hk (.inl rfl)); have n3_ := Aside0.mk (hb); have n4_ := Aside0.mk (hi); clear HO_5; clear HO_6; clear HK; clear HB; clear HI0; have HO_5 := n0_; have HO_6 := n1_; have HK := n2_; have HB := n3_; have HI0 := n4_; clear n0_ n1_ n2_ n3_ n4_; (try clear hb); (try clear hb2); (try clear hk); (try clear hi); obtain ⟨Ao29, co29, eo29⟩ := Kd.R_slice HO_5.out; subst eo29; have q30 : (1 : Int) ≤ ((x5_1.length : Int) : Int) := of_decide_eq_true (by first | (with_reducible assumption) | assumption); obtain ⟨i030, hi030, _, hsz30, _⟩ := info_parts info35; have hcut30 := cut_from (P := Try.prog) 23 35 .i64 Try.underlying23 hi030 3 hsz30 Ao29 x5_1.length co29 1 (by omega) q30; have hr30 := Kd.Q_drop (k := (1 : Int).toNat) (Kd.Q_of_R HO_5.out) (by omega); obtain ⟨A30, hA30⟩ : ∃ A1, A1 = (if co29 = (1 : Int).toNat then Ao29 else (Ao29 : Option Addr).map (·.add ((1 : Int).toNat * 3))) := ⟨_, rfl⟩; obtain ⟨c30, hc30⟩ : ∃ c1, c1 = co29 - (1 : Int).toNat := ⟨_, rfl⟩; have hy30 : y279.length = x5_1.length - (1 : Int).toNat := (by rw [Ny279.out, List.length_drop]); rw [← Ny279.out] at hr30; rw [← hy30, ← hA30, ← hc30] at hcut30; replace hr30 : Kd.Q k35 35 w28 w.heap.size (fun _ => True) (.slice A30 y279.length c30) y279 := (by rw [hA30, hc30, hy30]; exact hr30); have HE30 : Aside0 ((Value.slice A30 y279.length c30).ownBlock = (.slice Ao29 x5_1.length co29 : Value).ownBlock) := ⟨by rw [hA30]; split <;> (cases (Ao29 : Option Addr) <;> rfl)⟩; clear hy30 hi030 hsz30 HO_5 hA30 hc30; have HO281 := Aside0.mk hr30; clear hr30; replace q30 := eq_true q30))
         go_ret
         exact ⟨_, by first | rfl | (simp only [u8w, w64m]; rfl) | (simp [errW_none, errW_some] <;> rfl) | (simp [*, errW_none, errW_some] <;> rfl), by (with_reducible repeat (first | apply Kd.Q_alloc | apply Kd.Q_drewN | apply Kd.Q_drew)); exact HO281.out, IsS131.run HI0, IsS131.bz HI0, kk⟩
        ·
         rw [if_neg c25] at H
         exact absurd H (by simp)
       ·
        rw [if_neg c24] at H
        have c24b0 : (t277 == 0) = false := beq_eq_false_iff_ne.mpr c24
        have c24b1 : (t277 != 0) = true := bne_iff_ne.mpr c24
        by_cases c31 : t277 = 1
        ·
         rw [if_pos c31] at H
         have c31b0 : (t277 == 1) = true := beq_iff_eq.mpr c31
         have c31b1 : (t277 != 1) = false := bne_eq_false_iff_eq.mpr c31
         clear c31
         obtain ⟨y282, hy282⟩ : ∃ y_ : List Int, y_ = (([(-1), 8] : List Int)) := ⟨_, rfl⟩
         replace H : ((spec_l20Rd_pick.f k1 s0_0 t278 2).bind fun bt285 => (if 0 ≤ bt285.1 then (if bt285.1 < (y282.length : Int) then (if 0 < (x5_1.length : Int) then (some ((x5_1.set (0 : Int).toNat (⟨rd y282 bt285.1, (⟨(rd_T35 x5_1 0).f1.f0, (rd_T35 x5_1 0).f1.f1⟩ : S31)⟩ : S35)), bt285.2)) else (none)) else (none)) else (none))) = some (r1, r2) := by first | (rw [hy282]; with_reducible exact H) | (have H2_ := (Option.bind_some _ _).symm.trans H; rw [hy282]; with_reducible exact H2_) | (have H2_ := (Option.bind_some _ _).symm.trans H; with_reducible exact H2_) | with_reducible exact H | (rw [hy282]; exact H) | exact H
         have Ny282 := Aside0.mk hy282
         clear hy282
         replace H := Option.bind_eq_some_iff.mp H
         obtain ⟨⟨t285, t286⟩, A320, H⟩ := H
         try dsimp only at H
         have A32 := Aside0.mk A320
         clear A320
         by_cases c33 : 0 ≤ t285
         ·
          rw [if_pos c33] at H
          have c33b0 : decide (0 ≤ t285) = true := decide_eq_true c33
          clear c33
          by_cases c34 : t285 < (y282.length : Int)
          ·
           rw [if_pos c34] at H
           have c34b0 : decide (t285 < (y282.length : Int)) = true := decide_eq_true c34
           clear c34
           by_cases c35 : 0 < (x5_1.length : Int)
           ·
            rw [if_pos c35] at H
            have c35b0 : decide (0 < (x5_1.length : Int)) = true := decide_eq_true c35
            have c35b1 : decide (0 < x5_1.length) = true := decide_eq_true (by omega)
            clear c35
            obtain ⟨y288, hy288⟩ : ∃ y_ : List (S35), y_ = (x5_1.set (0 : Int).toNat (⟨rd y282 t285, (⟨(rd_T35 x5_1 0).f1.f0, (rd_T35 x5_1 0).f1.f1⟩ : S31)⟩ : S35)) := ⟨_, rfl⟩
            replace H : (some (y288, t286)) = some (r1, r2) := by first | (rw [hy288]; with_reducible exact H) | (have H2_ := (Option.bind_some _ _).symm.trans H; rw [hy288]; with_reducible exact H2_) | (have H2_ := (Option.bind_some _ _).symm.trans H; with_reducible exact H2_) | with_reducible exact H | (rw [hy288]; exact H) | exact H
            have Ny288 := Aside0.mk hy288
            clear hy288
            simp only [Option.some.injEq, Prod.mk.injEq] at H
            obtain ⟨rfl, rfl⟩ := H
            obtain ⟨Ao37, co37, eo37, _⟩ := Kd.Q_slice HO_6.out
            subst eo37
            go_wp2_with (first | ((with_reducible refine gate_callee (f := 126) rfl ?_); refine goesL_ (some 41) rfl rfl Try.func126 (by kernel_rfl) rfl #[.pointer (some ⟨g, 0, none⟩), .int .i64 a1] rfl (by (try simp only [List.map_toArray, List.map_cons, List.map_nil]); first | done | rfl | (simp only [List.length_drop, List.length_take]; rfl)) ?_; (with_reducible refine (spec_l20Rd_odd.calls k1 g s0_0 t269 a1 true t276 w0 _ ?side1 ?side2 A21.out).mono ?_); (case side1 => exact IsS131.run HI0); (case side2 => repeat (first | (with_reducible first | exact HB.out | apply below_alloc | apply pw_below_drewN | apply below_drew1 | refine below_set ?_ (IsS131.ge HI0.out)) | exact HB.out)); rintro e w38 ⟨rfl, hi, hb, hk⟩; refine ⟨_, rfl, ?_⟩; have n0_ := Aside0.mk (Kd.R_mono (Kd.R_keep (IsS131.apart (show IsS131 w0 _ g s0_0 t269 from IsS131.run HI0) (by (with_reducible repeat (first | apply Kd.R_alloc | apply Kd.R_drewN | apply Kd.R_drew)); exact HO_5.out) (by decide)) hk (fun _ h => h.2)) (fun _ h => h.1)); have n1_ := Aside0.mk (Kd.Q_mono (Kd.Q_keep (IsS131.apartQ (show IsS131 w0 _ g s0_0 t269 from IsS131.run HI0) (by (with_reducible repeat (first | apply Kd.Q_alloc | apply Kd.Q_drewN | apply Kd.Q_drew)); exact HO_6.out) (by decide)) hk (fun _ h => h.2)) (fun _ h => h.1)); have n2_ := Aside0.mk (KeepBut.trans (kk) hk (.inl rfl)); have n3_ := Aside0.mk (hb); have n4_ := Aside0.mk (hi); clear HO_5; clear HO_6; clear HK; clear HB; clear HI0; have HO_5 := n0_; have HO_6 := n1_; have HK := n2_; have HB := n3_; have HI0 := n4_; clear n0_ n1_ n2_ n3_ n4_; (try clear hb); (try clear hb2); (try clear hk); (try clear hi)) | ((with_reducible refine gate_callee (f := 72) rfl ?_); refine goesL_ (some 43) rfl rfl Try.func72 (by kernel_rfl) rfl #[.pointer (some ⟨g, 0, none⟩), .int .i64 4] rfl (by (try simp only [List.map_toArray, List.map_cons, List.map_nil]); first | done | rfl | (simp only [List.length_drop, List.length_take]; rfl)) ?_; (with_reducible refine (spec_l20Rd_pick.calls k1 g s0_0 t276 4 t277 t278 w0 _ ?side1 ?side2 A23.out).mono ?_); (case side1 => exact IsS131.run HI0); (case side2 => repeat (first | (with_reducible first | exact HB.out | apply below_alloc | apply pw_below_drewN | apply below_drew1 | refine below_set ?_ (IsS131.ge HI0.out)) | exact HB.out)); rintro e w39 ⟨rfl, hi, hb, hk⟩; refine ⟨_, rfl, ?_⟩; have n0_ := Aside0.mk (Kd.R_mono (Kd.R_keep (IsS131.apart (show IsS131 w0 _ g s0_0 t276 from IsS131.run HI0) (by (with_reducible repeat (first | apply Kd.R_alloc | apply Kd.R_drewN | apply Kd.R_drew)); exact HO_5.out) (by decide)) hk (fun _ h => h.2)) (fun _ h => h.1)); have n1_ := Aside0.mk (Kd.Q_mono (Kd.Q_keep (IsS131.apartQ (show IsS131 w0 _ g s0_0 t276 from IsS131.run HI0) (by (with_reducible repeat (first | apply Kd.Q_alloc | apply Kd.Q_drewN | apply Kd.Q_drew)); exact HO_6.out) (by decide)) hk (fun _ h => h.2)) (fun _ h => h.1)); have n2_ := Aside0.mk (KeepBut.trans (kk) hk (.inl rfl)); have n3_ := Aside0.mk (hb); have n4_ := Aside0.mk (hi); clear HO_5; clear HO_6; clear HK; clear HB; clear HI0; have HO_5 := n0_; have HO_6 := n1_; have HK := n2_; have HB := n3_; have HI0 := n4_; clear n0_ n1_ n2_ n3_ n4_; (try clear hb); (try clear hb2); (try clear hk); (try clear hi)) | ((with_reducible refine gate_dst (N := 58) rfl ?_); refine Kd.R_lit (Kd.int .i64) _ 3 ?hg (N := 58) ?hd (xs := ([(-1), 8] : List Int)) (inner := [.int .i64 (-1), .int .i64 8]) (ok := fun _ => True) (okp := fun _ => True) ?hr ?hp (fun _ hk => hk) trivial (Below.refl _ _) (Nat.le_refl _) (by simp) ?_; (case hd => rfl); (case hg => rfl); (case hr => first | (go_simp; done) | (go_simp; rfl)); (case hp => exact (Reps.one (show Kd.M (Kd.int .i64) _ _ _ (-1) [.int .i64 (-1)] from rfl) (Reps.one (show Kd.M (Kd.int .i64) _ _ _ 8 [.int .i64 8] from rfl) (Reps.none _ _)))); intro v283 w40 ho41 hb hg_ hnew_; clear hg_ hnew_; (first | rw [← Ny282.out] at ho41 | (simp only [Int.reduceToNat] at ho41; rw [← Ny282.out] at ho41)); have n0_ := Aside0.mk (Kd.R_below (by (with_reducible repeat (first | apply Kd.R_alloc | apply Kd.R_drewN | apply Kd.R_drew)); exact HO_5.out) hb); have n1_ := Aside0.mk (Kd.Q_below (by (with_reducible repeat (first | apply Kd.Q_alloc | apply Kd.Q_drewN | apply Kd.Q_drew)); exact HO_6.out) hb); have n2_ := Aside0.mk (Kd.R_lower ho41 (keep_size (w := w) (g := g) (row := none) (kk))); have n3_ := Aside0.mk (IsS131.below (IsS131.run HI0) hb); have n4_ := Aside0.mk (KeepBut.trans (kk) (KeepBut.of_below hb g none) (.inl rfl)); have n5_ := Aside0.mk (below_step (IsS131.bz HI0) hb); clear HO_5; clear HO_6; clear HI0; clear HK; clear HB; have HO_5 := n0_; have HO_6 := n1_; have HO284 := n2_; have HI0 := n3_; have HK := n4_; have HB := n5_; clear n0_ n1_ n2_ n3_ n4_ n5_; clear hb ho41) | ((with_reducible refine gate_callee (f := 72) rfl ?_); refine goesL_ (some 60) rfl rfl Try.func72 (by kernel_rfl) rfl #[.pointer (some ⟨g, 0, none⟩), .int .i64 2] rfl (by (try simp only [List.map_toArray, List.map_cons, List.map_nil]); first | done | rfl | (simp only [List.length_drop, List.length_take]; rfl)) ?_; (with_reducible refine (spec_l20Rd_pick.calls k1 g s0_0 t278 2 t285 t286 w0 _ ?side1 ?side2 A32.out).mono ?_); (case side1 => exact IsS131.run HI0); (case side2 => repeat (first | (with_reducible first | exact HB.out | apply below_alloc | apply pw_below_drewN | apply below_drew1 | refine below_set ?_ (IsS131.ge HI0.out)) | exact HB.out)); rintro e w42 ⟨rfl, hi, hb, hk⟩; refine ⟨_, rfl, ?_⟩; have n0_ := Aside0.mk (Kd.R_mono (Kd.R_keep (IsS131.apart (show IsS131 w0 _ g s0_0 t278 from IsS131.run HI0) (by (with_reducible repeat (first | apply Kd.R_alloc | apply Kd.R_drewN | apply Kd.R_drew)); exact HO_5.out) (by decide)) hk (fun _ h => h.2)) (fun _ h => h.1)); have n1_ := Aside0.mk (Kd.Q_mono (Kd.Q_keep (IsS131.apartQ (show IsS131 w0 _ g s0_0 t278 from IsS131.run HI0) (by (with_reducible repeat (first | apply Kd.Q_alloc | apply Kd.Q_drewN | apply Kd.Q_drew)); exact HO_6.out) (by decide)) hk (fun _ h => h.2)) (fun _ h => h.1)); have n2_ := Aside0.mk (Kd.R_mono (Kd.R_keep (IsS131.apart (show IsS131 w0 _ g s0_0 t278 from IsS131.run HI0) (by (with_reducible repeat (first | apply Kd.R_alloc | apply Kd.R_drewN | apply Kd.R_drew)); exact HO284.out) (by decide)) hk (fun _ h => h.2)) (fun _ h => h.1)); have n3_ := Aside0.mk (KeepBut.trans (kk) hk (.inl rfl)); have n4_ := Aside0.mk (hb); have n5_ := Aside0.mk (hi); clear HO_5; clear HO_6; clear HO284; clear HK; clear HB; clear HI0; have HO_5 := n0_; have HO_6 := n1_; have HO284 := n2_; have HK := n3_; have HB := n4_; have HI0 := n5_; clear n0_ n1_ n2_ n3_ n4_ n5_; (try clear hb); (try clear hb2); (try clear hk); (try clear hi); obtain ⟨Ao43, co43, eo43⟩ := Kd.R_slice HO284.out; subst eo43; have p287 : 0 ≤ (t285 : Int) := of_decide_eq_true (by first | (with_reducible assumption) | assumption); have q287 : t285 < (y282.length : Int) := of_decide_eq_true (by first | (with_reducible assumption) | assumption); obtain ⟨ad287, e287, hx287_0⟩ := Kd.at_int (Kd.R_reads' HO284.out).2.2 t285 p287 q287; cases e287; replace p287 := eq_true p287; replace q287 := eq_true q287; have p36 : 0 ≤ (0 : Int) := (by omega); have q36 : (0 : Int) < ((x5_1.length : Int) : Int) := of_decide_eq_true (by first | (with_reducible assumption) | assumption); have qi36 : (0 < x5_1.length) = True := eq_true (by omega); obtain ⟨go36, co36, eo36, gb36, gl36, cl36, HG36⟩ := Kd.R_form HO_5.out (by omega); (first | cases eo36 | (injection eo36 with ea_ en_ ec_; (first | subst ea_ | (injection ea_ with ea_; subst ea_)); subst ec_; clear en_)); have GB36 := Aside0.mk gb36; have GG36 := Aside0.mk HG36; clear gb36 gl36 HG36; obtain ⟨ce36, hcl36, hM36, hcc36, hfr36⟩ := Kd.R_elem HO_5.out z35 (0 : Int) p36 q36; obtain rfl := k35_openM hM36; have hx36_0 : w42.cell? ⟨go36, (0 : Int).toNat * 3, none⟩ = some (.int .i64 ((rd_T35 x5_1 0).f0)) := hcc36 0 _ rfl; have hx36_1 : w42.cell? ⟨go36, (0 : Int).toNat * 3 + 1, none⟩ = some (.string ((rd_T35 x5_1 0).f1.f0)) := hcc36 1 _ rfl; have hx36_2 : w42.cell? ⟨go36, (0 : Int).toNat * 3 + 2, none⟩ = some (.string ((rd_T35 x5_1 0).f1.f1)) := hcc36 2 _ rfl; have hf36_0 : w42.frozen? ⟨go36, (0 : Int).toNat * 3, none⟩ = false := hfr36 0; have hf36_1 : w42.frozen? ⟨go36, (0 : Int).toNat * 3 + 1, none⟩ = false := hfr36 1; have hf36_2 : w42.frozen? ⟨go36, (0 : Int).toNat * 3 + 2, none⟩ = false := hfr36 2; clear hcl36 hcc36 hfr36 hM36; (try rw [show ((0 : Int)).toNat = 0 from rfl] at hx36_0); (try simp only [Nat.reduceMul, Nat.zero_mul, Nat.zero_add, Nat.reduceAdd] at hx36_0); (try rw [show ((0 : Int)).toNat = 0 from rfl] at hf36_0); (try simp only [Nat.reduceMul, Nat.zero_mul, Nat.zero_add, Nat.reduceAdd] at hf36_0); (try rw [show ((0 : Int)).toNat = 0 from rfl] at hx36_1); (try simp only [Nat.reduceMul, Nat.zero_mul, Nat.zero_add, Nat.reduceAdd] at hx36_1); (try rw [show ((0 : Int)).toNat = 0 from rfl] at hf36_1); (try simp only [Nat.reduceMul, Nat.zero_mul, Nat.zero_add, Nat.reduceAdd] at hf36_1); (try rw [show ((0 : Int)).toNat = 0 from rfl] at hx36_2); (try simp only [Nat.reduceMul, Nat.zero_mul, Nat.zero_add, Nat.reduceAdd] at hx36_2); (try rw [show ((0 : Int)).toNat = 0 from rfl] at hf36_2); (try simp only [Nat.reduceMul, Nat.zero_mul, Nat.zero_add, Nat.reduceAdd] at hf36_2); replace p36 := eq_true p36; replace q36 := eq_true q36; have HX44 := Aside0.mk (show Kd.R k35 35 w42 w.heap.size (fun _ => True) (.slice (some ⟨go36, 0, none⟩) x5_1.length co36) x5_1 from (by (with_reducible repeat (first | apply Kd.R_alloc | apply Kd.R_drewN | apply Kd.R_drew)); exact HO_5.out)); obtain ⟨ce44, hcl44, hM44, hcc44, hfr44⟩ := Kd.R_elem HX44.out z35 (0 : Int) (by omega) (by have h_ : (0 : Int) < ((x5_1.length : Int) : Int) := of_decide_eq_true (by first | (with_reducible assumption) | assumption); first | exact h_ | (have e_ := (Kd.R_reads' HO_5.out).1; omega) | simpa using h_); obtain rfl := k35_openM hM44; have HP44 := Kd.R_seg HX44.out (0 : Int) (by omega) (by have h_ : (0 : Int) < ((x5_1.length : Int) : Int) := of_decide_eq_true (by first | (with_reducible assumption) | assumption); first | exact h_ | (have e_ := (Kd.R_reads' HO_5.out).1; omega) | simpa using h_) (seg := [.int .i64 (rd y282 t285)]) (j := 0) hcl44 hcc44 (show 1 ≤ 3 from by decide) (x' := (⟨rd y282 t285, (⟨(rd_T35 x5_1 0).f1.f0, (rd_T35 x5_1 0).f1.f1⟩ : S31)⟩ : S35)) (k35_mkM _ _ _ (⟨rd y282 t285, (⟨(rd_T35 x5_1 0).f1.f0, (rd_T35 x5_1 0).f1.f1⟩ : S31)⟩ : S35) ) (fun _ hk => hk); have hx44_0 := hcc44 0 _ rfl; (try simp only [show (k35).sz = 3 from rfl, Nat.mul_one, Nat.add_zero] at hx44_0); (try rw [show ((0 : Int)).toNat = 0 from rfl] at hx44_0); (try simp only [Nat.reduceMul, Nat.zero_mul, Nat.zero_add, Nat.reduceAdd] at hx44_0); have hf44_0 := hfr44 0; (try simp only [show (k35).sz = 3 from rfl, Nat.mul_one, Nat.add_zero] at hf44_0); (try rw [show ((0 : Int)).toNat = 0 from rfl] at hf44_0); (try simp only [Nat.reduceMul, Nat.zero_mul, Nat.zero_add, Nat.reduceAdd] at hf44_0); clear hcl44 hcc44 hfr44 hM44) | ((with_reducible refine gate_store (t := 3) (p := 64) rfl ?_); refine store_event (t := 3) (p := 64) (v := ?vo_w45) (w1 := (w42.setCell ⟨go36, 0, none⟩ (.int .i64 (rd y282 t285)))) ?hg ?ho ?hn ?hr ?_; (case ho => rfl); (case hg => rfl); (case hn => rfl); (case hr => first | (go_simp; done) | (go_simp; rfl)); intro w45 hw; have hg : w42.grownBy w45 (some go36) := (by rw [hw]; exact HP44.2); have hp_ : Kd.R k35 35 w45 w.heap.size (fun _ => True) (.slice (some ⟨go36, 0, none⟩) x5_1.length co36) y288 := (by rw [hw, Ny288.out]; exact HP44.1); clear HP44; have n0_ := Aside0.mk (hp_); have n1_ := Aside0.mk (Kd.Q_over' (v := (.slice (some ⟨go36, 0, none⟩) x5_1.length co36)) (by (with_reducible repeat (first | apply Kd.Q_alloc | apply Kd.Q_drewN | apply Kd.Q_drew)); exact HO_6.out) (Kd.R_typed HO_5.out) (by decide) hg); have n2_ := Aside0.mk (IsS131.grown (IsS131.run HI0) hg (IsS131.own_ne HI0.out HO_5.out (by decide))); have n3_ := Aside0.mk (Kd.R_over' (v := (.slice (some ⟨go36, 0, none⟩) x5_1.length co36)) (by (with_reducible repeat (first | apply Kd.R_alloc | apply Kd.R_drewN | apply Kd.R_drew)); exact HO284.out) (Kd.R_typed HO_5.out) (by decide) hg); have n4_ := Aside0.mk ((by rw [hw]; exact below_set (HB.out) (Nat.le_trans HL.out GB36.out) : Below w0.heap.size w0 w45)); have n5_ := Aside0.mk (KeepBut.trans (kk) (KeepBut.of_grown hg g) (Kd.R_base2 HO_5.out)); clear HO_5; clear HO_6; clear HI0; clear HO284; clear HB; clear HK; have HO_5 := n0_; have HO_6 := n1_; have HI0 := n2_; have HO284 := n3_; have HB := n4_; have HK := n5_; clear n0_ n1_ n2_ n3_ n4_ n5_; clear hg hw hp_))
            go_ret
            exact ⟨_, by first | rfl | (simp only [u8w, w64m]; rfl) | (simp [errW_none, errW_some] <;> rfl) | (simp [*, errW_none, errW_some] <;> rfl), Kd.Q_of_R (by (with_reducible repeat (first | apply Kd.R_alloc | apply Kd.R_drewN | apply Kd.R_drew)); exact HO_5.out), IsS131.run HI0, IsS131.bz HI0, kk⟩
           ·
            rw [if_neg c35] at H
            exact absurd H (by simp)
          ·
           rw [if_neg c34] at H
           exact absurd H (by simp)
         ·
          rw [if_neg c33] at H
          exact absurd H (by simp)
        ·
         rw [if_neg c31] at H
         have c31b0 : (t277 == 1) = false := beq_eq_false_iff_ne.mpr c31
         have c31b1 : (t277 != 1) = true := bne_iff_ne.mpr c31
         by_cases c46 : t277 = 2
         ·
          rw [if_pos c46] at H
          have c46b0 : (t277 == 2) = true := beq_iff_eq.mpr c46
          have c46b1 : (t277 != 2) = false := bne_eq_false_iff_eq.mpr c46
          clear c46
          obtain ⟨ji47, hji47⟩ : ∃ j_ : Int, (wrap64 ((x5_1.length : Int) - 1)) = j_ := ⟨_, rfl⟩
          replace H : (if 0 ≤ (ji47) then (if (ji47) < (x5_1.length : Int) then (if 0 < (x5_1.length : Int) then (some ((x5_1.set (0 : Int).toNat (⟨(rd_T35 x5_1 (ji47)).f0, (⟨(rd_T35 x5_1 0).f1.f0, (rd_T35 x5_1 0).f1.f1⟩ : S31)⟩ : S35)), t278)) else (none)) else (none)) else (none)) = some (r1, r2) := by first | (rw [hji47] at H; exact H) | (simp only [hji47] at H ⊢; exact H)
          (try rw [hji47] at A21)
          (try rw [hji47] at A23)
          have hji47w : (IntKind.i64.wrap ((x5_1.length : Int) - 1)) = ji47 := (i64_w _).trans hji47
          by_cases c48 : 0 ≤ (ji47)
          ·
           rw [if_pos c48] at H
           have c48b0 : decide (0 ≤ (ji47)) = true := decide_eq_true c48
           clear c48
           by_cases c49 : (ji47) < (x5_1.length : Int)
           ·
            rw [if_pos c49] at H
            have c49b0 : decide ((ji47) < (x5_1.length : Int)) = true := decide_eq_true c49
            clear c49
            by_cases c50 : 0 < (x5_1.length : Int)
            ·
             rw [if_pos c50] at H
             have c50b0 : decide (0 < (x5_1.length : Int)) = true := decide_eq_true c50
             have c50b1 : decide (0 < x5_1.length) = true := decide_eq_true (by omega)
             clear c50
             obtain ⟨y290, hy290⟩ : ∃ y_ : List (S35), y_ = (x5_1.set (0 : Int).toNat (⟨(rd_T35 x5_1 (ji47)).f0, (⟨(rd_T35 x5_1 0).f1.f0, (rd_T35 x5_1 0).f1.f1⟩ : S31)⟩ : S35)) := ⟨_, rfl⟩
             replace H : (some (y290, t278)) = some (r1, r2) := by first | (rw [hy290]; with_reducible exact H) | (have H2_ := (Option.bind_some _ _).symm.trans H; rw [hy290]; with_reducible exact H2_) | (have H2_ := (Option.bind_some _ _).symm.trans H; with_reducible exact H2_) | with_reducible exact H | (rw [hy290]; exact H) | exact H
             have Ny290 := Aside0.mk hy290
             clear hy290
             simp only [Option.some.injEq, Prod.mk.injEq] at H
             obtain ⟨rfl, rfl⟩ := H
             obtain ⟨Ao52, co52, eo52, _⟩ := Kd.Q_slice HO_6.out
             subst eo52
             go_wp2_with (first | ((with_reducible refine gate_callee (f := 126) rfl ?_); refine goesL_ (some 41) rfl rfl Try.func126 (by kernel_rfl) rfl #[.pointer (some ⟨g, 0, none⟩), .int .i64 a1] rfl (by (try simp only [List.map_toArray, List.map_cons, List.map_nil]); first | done | rfl | (simp only [List.length_drop, List.length_take]; rfl)) ?_; (with_reducible refine (spec_l20Rd_odd.calls k1 g s0_0 t269 a1 true t276 w0 _ ?side1 ?side2 A21.out).mono ?_); (case side1 => exact IsS131.run HI0); (case side2 => repeat (first | (with_reducible first | exact HB.out | apply below_alloc | apply pw_below_drewN | apply below_drew1 | refine below_set ?_ (IsS131.ge HI0.out)) | exact HB.out)); rintro e w53 ⟨rfl, hi, hb, hk⟩; refine ⟨_, rfl, ?_⟩; have n0_ := Aside0.mk (Kd.R_mono (Kd.R_keep (IsS131.apart (show IsS131 w0 _ g s0_0 t269 from IsS131.run HI0) (by (with_reducible repeat (first | apply Kd.R_alloc | apply Kd.R_drewN | apply Kd.R_drew)); exact HO_5.out) (by decide)) hk (fun _ h => h.2)) (fun _ h => h.1)); have n1_ := Aside0.mk (Kd.Q_mono (Kd.Q_keep (IsS131.apartQ (show IsS131 w0 _ g s0_0 t269 from IsS131.run HI0) (by (with_reducible repeat (first | apply Kd.Q_alloc | apply Kd.Q_drewN | apply Kd.Q_drew)); exact HO_6.out) (by decide)) hk (fun _ h => h.2)) (fun _ h => h.1)); have n2_ := Aside0.mk (KeepBut.trans (kk) hk (.inl rfl)); have n3_ := Aside0.mk (hb); have n4_ := Aside0.mk (hi); clear HO_5; clear HO_6; clear HK; clear HB; clear HI0; have HO_5 := n0_; have HO_6 := n1_; have HK := n2_; have HB := n3_; have HI0 := n4_; clear n0_ n1_ n2_ n3_ n4_; (try clear hb); (try clear hb2); (try clear hk); (try clear hi)) | ((with_reducible refine gate_callee (f := 72) rfl ?_); refine goesL_ (some 43) rfl rfl Try.func72 (by kernel_rfl) rfl #[.pointer (some ⟨g, 0, none⟩), .int .i64 4] rfl (by (try simp only [List.map_toArray, List.map_cons, List.map_nil]); first | done | rfl | (simp only [List.length_drop, List.length_take]; rfl)) ?_; (with_reducible refine (spec_l20Rd_pick.calls k1 g s0_0 t276 4 t277 t278 w0 _ ?side1 ?side2 A23.out).mono ?_); (case side1 => exact IsS131.run HI0); (case side2 => repeat (first | (with_reducible first | exact HB.out | apply below_alloc | apply pw_below_drewN | apply below_drew1 | refine below_set ?_ (IsS131.ge HI0.out)) | exact HB.out)); rintro e w54 ⟨rfl, hi, hb, hk⟩; refine ⟨_, rfl, ?_⟩; have n0_ := Aside0.mk (Kd.R_mono (Kd.R_keep (IsS131.apart (show IsS131 w0 _ g s0_0 t276 from IsS131.run HI0) (by (with_reducible repeat (first | apply Kd.R_alloc | apply Kd.R_drewN | apply Kd.R_drew)); exact HO_5.out) (by decide)) hk (fun _ h => h.2)) (fun _ h => h.1)); have n1_ := Aside0.mk (Kd.Q_mono (Kd.Q_keep (IsS131.apartQ (show IsS131 w0 _ g s0_0 t276 from IsS131.run HI0) (by (with_reducible repeat (first | apply Kd.Q_alloc | apply Kd.Q_drewN | apply Kd.Q_drew)); exact HO_6.out) (by decide)) hk (fun _ h => h.2)) (fun _ h => h.1)); have n2_ := Aside0.mk (KeepBut.trans (kk) hk (.inl rfl)); have n3_ := Aside0.mk (hb); have n4_ := Aside0.mk (hi); clear HO_5; clear HO_6; clear HK; clear HB; clear HI0; have HO_5 := n0_; have HO_6 := n1_; have HK := n2_; have HB := n3_; have HI0 := n4_; clear n0_ n1_ n2_ n3_ n4_; (try clear hb); (try clear hb2); (try clear hk); (try clear hi); obtain ⟨Ao55, co55, eo55⟩ := Kd.R_slice HO_5.out; subst eo55; have p289 : 0 ≤ ((ji47) : Int) := of_decide_eq_true (by first | (with_reducible assumption) | assumption); have q289 : (ji47) < (x5_1.length : Int) := of_decide_eq_true (by first | (with_reducible assumption) | assumption); obtain ⟨ad289, e289, hx289_0, hx289_1, hx289_2⟩ := at_T35 (Kd.R_reads' HO_5.out).2.2 (ji47) p289 q289; cases e289; replace p289 := eq_true p289; replace q289 := eq_true q289; have p51 : 0 ≤ (0 : Int) := (by omega); have q51 : (0 : Int) < ((x5_1.length : Int) : Int) := of_decide_eq_true (by first | (with_reducible assumption) | assumption); have qi51 : (0 < x5_1.length) = True := eq_true (by omega); obtain ⟨go51, co51, eo51, gb51, gl51, cl51, HG51⟩ := Kd.R_form HO_5.out (by omega); (first | cases eo51 | (injection eo51 with ea_ en_ ec_; (first | subst ea_ | (injection ea_ with ea_; subst ea_)); subst ec_; clear en_)); have GB51 := Aside0.mk gb51; have GG51 := Aside0.mk HG51; clear gb51 gl51 HG51; (first | simp only [add_plain] at hx289_0 | skip); (first | simp only [add_plain] at hx289_1 | skip); (first | simp only [add_plain] at hx289_2 | skip); obtain ⟨ce51, hcl51, hM51, hcc51, hfr51⟩ := Kd.R_elem HO_5.out z35 (0 : Int) p51 q51; obtain rfl := k35_openM hM51; have hx51_0 : w54.cell? ⟨go51, (0 : Int).toNat * 3, none⟩ = some (.int .i64 ((rd_T35 x5_1 0).f0)) := hcc51 0 _ rfl; have hx51_1 : w54.cell? ⟨go51, (0 : Int).toNat * 3 + 1, none⟩ = some (.string ((rd_T35 x5_1 0).f1.f0)) := hcc51 1 _ rfl; have hx51_2 : w54.cell? ⟨go51, (0 : Int).toNat * 3 + 2, none⟩ = some (.string ((rd_T35 x5_1 0).f1.f1)) := hcc51 2 _ rfl; have hf51_0 : w54.frozen? ⟨go51, (0 : Int).toNat * 3, none⟩ = false := hfr51 0; have hf51_1 : w54.frozen? ⟨go51, (0 : Int).toNat * 3 + 1, none⟩ = false := hfr51 1; have hf51_2 : w54.frozen? ⟨go51, (0 : Int).toNat * 3 + 2, none⟩ = false := hfr51 2; clear hcl51 hcc51 hfr51 hM51; (try rw [show ((0 : Int)).toNat = 0 from rfl] at hx51_0); (try simp only [Nat.reduceMul, Nat.zero_mul, Nat.zero_add, Nat.reduceAdd] at hx51_0); (try rw [show ((0 : Int)).toNat = 0 from rfl] at hf51_0); (try simp only [Nat.reduceMul, Nat.zero_mul, Nat.zero_add, Nat.reduceAdd] at hf51_0); (try rw [show ((0 : Int)).toNat = 0 from rfl] at hx51_1); (try simp only [Nat.reduceMul, Nat.zero_mul, Nat.zero_add, Nat.reduceAdd] at hx51_1); (try rw [show ((0 : Int)).toNat = 0 from rfl] at hf51_1); (try simp only [Nat.reduceMul, Nat.zero_mul, Nat.zero_add, Nat.reduceAdd] at hf51_1); (try rw [show ((0 : Int)).toNat = 0 from rfl] at hx51_2); (try simp only [Nat.reduceMul, Nat.zero_mul, Nat.zero_add, Nat.reduceAdd] at hx51_2); (try rw [show ((0 : Int)).toNat = 0 from rfl] at hf51_2); (try simp only [Nat.reduceMul, Nat.zero_mul, Nat.zero_add, Nat.reduceAdd] at hf51_2); replace p51 := eq_true p51; replace q51 := eq_true q51; have HX56 := Aside0.mk (show Kd.R k35 35 w54 w.heap.size (fun _ => True) (.slice (some ⟨go51, 0, none⟩) x5_1.length co55) x5_1 from (by (with_reducible repeat (first | apply Kd.R_alloc | apply Kd.R_drewN | apply Kd.R_drew)); exact HO_5.out)); obtain ⟨ce56, hcl56, hM56, hcc56, hfr56⟩ := Kd.R_elem HX56.out z35 (0 : Int) (by omega) (by have h_ : (0 : Int) < ((x5_1.length : Int) : Int) := of_decide_eq_true (by first | (with_reducible assumption) | assumption); first | exact h_ | (have e_ := (Kd.R_reads' HO_5.out).1; omega) | simpa using h_); obtain rfl := k35_openM hM56; have HP56 := Kd.R_seg HX56.out (0 : Int) (by omega) (by have h_ : (0 : Int) < ((x5_1.length : Int) : Int) := of_decide_eq_true (by first | (with_reducible assumption) | assumption); first | exact h_ | (have e_ := (Kd.R_reads' HO_5.out).1; omega) | simpa using h_) (seg := [.int .i64 ((rd_T35 x5_1 (ji47)).f0)]) (j := 0) hcl56 hcc56 (show 1 ≤ 3 from by decide) (x' := (⟨(rd_T35 x5_1 (ji47)).f0, (⟨(rd_T35 x5_1 0).f1.f0, (rd_T35 x5_1 0).f1.f1⟩ : S31)⟩ : S35)) (k35_mkM _ _ _ (⟨(rd_T35 x5_1 (ji47)).f0, (⟨(rd_T35 x5_1 0).f1.f0, (rd_T35 x5_1 0).f1.f1⟩ : S31)⟩ : S35) ) (fun _ hk => hk); have hx56_0 := hcc56 0 _ rfl; (try simp only [show (k35).sz = 3 from rfl, Nat.mul_one, Nat.add_zero] at hx56_0); (try rw [show ((0 : Int)).toNat = 0 from rfl] at hx56_0); (try simp only [Nat.reduceMul, Nat.zero_mul, Nat.zero_add, Nat.reduceAdd] at hx56_0); have hf56_0 := hfr56 0; (try simp only [show (k35).sz = 3 from rfl, Nat.mul_one, Nat.add_zero] at hf56_0); (try rw [show ((0 : Int)).toNat = 0 from rfl] at hf56_0); (try simp only [Nat.reduceMul, Nat.zero_mul, Nat.zero_add, Nat.reduceAdd] at hf56_0); clear hcl56 hcc56 hfr56 hM56) | ((with_reducible refine gate_store (t := 3) (p := 76) rfl ?_); refine store_event (t := 3) (p := 76) (v := ?vo_w57) (w1 := (w54.setCell ⟨go51, 0, none⟩ (.int .i64 ((rd_T35 x5_1 (ji47)).f0)))) ?hg ?ho ?hn ?hr ?_; (case ho => rfl); (case hg => rfl); (case hn => rfl); (case hr => first | (go_simp; done) | (go_simp; rfl)); intro w57 hw; have hg : w54.grownBy w57 (some go51) := (by rw [hw]; exact HP56.2); have hp_ : Kd.R k35 35 w57 w.heap.size (fun _ => True) (.slice (some ⟨go51, 0, none⟩) x5_1.length co55) y290 := (by rw [hw, Ny290.out]; exact HP56.1); clear HP56; have n0_ := Aside0.mk (hp_); have n1_ := Aside0.mk (Kd.Q_over' (v := (.slice (some ⟨go51, 0, none⟩) x5_1.length co55)) (by (with_reducible repeat (first | apply Kd.Q_alloc | apply Kd.Q_drewN | apply Kd.Q_drew)); exact HO_6.out) (Kd.R_typed HO_5.out) (by decide) hg); have n2_ := Aside0.mk (IsS131.grown (IsS131.run HI0) hg (IsS131.own_ne HI0.out HO_5.out (by decide))); have n3_ := Aside0.mk ((by rw [hw]; exact below_set (HB.out) (Nat.le_trans HL.out GB51.out) : Below w0.heap.size w0 w57)); have n4_ := Aside0.mk (KeepBut.trans (kk) (KeepBut.of_grown hg g) (Kd.R_base2 HO_5.out)); clear HO_5; clear HO_6; clear HI0; clear HB; clear HK; have HO_5 := n0_; have HO_6 := n1_; have HI0 := n2_; have HB := n3_; have HK := n4_; clear n0_ n1_ n2_ n3_ n4_; clear hg hw hp_))
             go_ret
             exact ⟨_, by first | rfl | (simp only [u8w, w64m]; rfl) | (simp [errW_none, errW_some] <;> rfl) | (simp only [← hji47]; first | rfl | (simp [errW_none, errW_some] <;> rfl)) | (simp [*, errW_none, errW_some] <;> rfl), Kd.Q_of_R (by (with_reducible repeat (first | apply Kd.R_alloc | apply Kd.R_drewN | apply Kd.R_drew)); exact HO_5.out), IsS131.run HI0, IsS131.bz HI0, kk⟩
            ·
             rw [if_neg c50] at H
             exact absurd H (by simp)
           ·
            rw [if_neg c49] at H
            exact absurd H (by simp)
          ·
           rw [if_neg c48] at H
           exact absurd H (by simp)
         ·
          rw [if_neg c46] at H
          have c46b0 : (t277 == 2) = false := beq_eq_false_iff_ne.mpr c46
          have c46b1 : (t277 != 2) = true := bne_iff_ne.mpr c46
          obtain ⟨ji58, hji58⟩ : ∃ j_ : Int, (wrap64 ((x5_1.length : Int) - 1)) = j_ := ⟨_, rfl⟩
          replace H : (if 0 ≤ (ji58) then (if (ji58) < (x5_1.length : Int) then (some ((x5_1.set ((ji58) : Int).toNat (⟨(rd_T35 x5_1 (ji58)).f0, (⟨(rd_T35 x5_1 (ji58)).f1.f0, (⟨#[122, 122, 122, 122]⟩ : ByteArray)⟩ : S31)⟩ : S35)), t278)) else (none)) else (none)) = some (r1, r2) := by first | (rw [hji58] at H; exact H) | (simp only [hji58] at H ⊢; exact H)
          (try rw [hji58] at A21)
          (try rw [hji58] at A23)
          have hji58w : (IntKind.i64.wrap ((x5_1.length : Int) - 1)) = ji58 := (i64_w _).trans hji58
          by_cases c59 : 0 ≤ (ji58)
          ·
           rw [if_pos c59] at H
           have c59b0 : decide (0 ≤ (ji58)) = true := decide_eq_true c59
           clear c59
           by_cases c60 : (ji58) < (x5_1.length : Int)
           ·
            rw [if_pos c60] at H
            have c60b0 : decide ((ji58) < (x5_1.length : Int)) = true := decide_eq_true c60
            clear c60
            obtain ⟨y291, hy291⟩ : ∃ y_ : List (S35), y_ = (x5_1.set ((ji58) : Int).toNat (⟨(rd_T35 x5_1 (ji58)).f0, (⟨(rd_T35 x5_1 (ji58)).f1.f0, (⟨#[122, 122, 122, 122]⟩ : ByteArray)⟩ : S31)⟩ : S35)) := ⟨_, rfl⟩
            replace H : (some (y291, t278)) = some (r1, r2) := by first | (rw [hy291]; with_reducible exact H) | (have H2_ := (Option.bind_some _ _).symm.trans H; rw [hy291]; with_reducible exact H2_) | (have H2_ := (Option.bind_some _ _).symm.trans H; with_reducible exact H2_) | with_reducible exact H | (rw [hy291]; exact H) | exact H
            have Ny291 := Aside0.mk hy291
            clear hy291
            simp only [Option.some.injEq, Prod.mk.injEq] at H
            obtain ⟨rfl, rfl⟩ := H
            obtain ⟨Ao62, co62, eo62, _⟩ := Kd.Q_slice HO_6.out
            subst eo62
            go_wp2_with (first | ((with_reducible refine gate_callee (f := 126) rfl ?_); refine goesL_ (some 41) rfl rfl Try.func126 (by kernel_rfl) rfl #[.pointer (some ⟨g, 0, none⟩), .int .i64 a1] rfl (by (try simp only [List.map_toArray, List.map_cons, List.map_nil]); first | done | rfl | (simp only [List.length_drop, List.length_take]; rfl)) ?_; (with_reducible refine (spec_l20Rd_odd.calls k1 g s0_0 t269 a1 true t276 w0 _ ?side1 ?side2 A21.out).mono ?_); (case side1 => exact IsS131.run HI0); (case side2 => repeat (first | (with_reducible first | exact HB.out | apply below_alloc | apply pw_below_drewN | apply below_drew1 | refine below_set ?_ (IsS131.ge HI0.out)) | exact HB.out)); rintro e w63 ⟨rfl, hi, hb, hk⟩; refine ⟨_, rfl, ?_⟩; have n0_ := Aside0.mk (Kd.R_mono (Kd.R_keep (IsS131.apart (show IsS131 w0 _ g s0_0 t269 from IsS131.run HI0) (by (with_reducible repeat (first | apply Kd.R_alloc | apply Kd.R_drewN | apply Kd.R_drew)); exact HO_5.out) (by decide)) hk (fun _ h => h.2)) (fun _ h => h.1)); have n1_ := Aside0.mk (Kd.Q_mono (Kd.Q_keep (IsS131.apartQ (show IsS131 w0 _ g s0_0 t269 from IsS131.run HI0) (by (with_reducible repeat (first | apply Kd.Q_alloc | apply Kd.Q_drewN | apply Kd.Q_drew)); exact HO_6.out) (by decide)) hk (fun _ h => h.2)) (fun _ h => h.1)); have n2_ := Aside0.mk (KeepBut.trans (kk) hk (.inl rfl)); have n3_ := Aside0.mk (hb); have n4_ := Aside0.mk (hi); clear HO_5; clear HO_6; clear HK; clear HB; clear HI0; have HO_5 := n0_; have HO_6 := n1_; have HK := n2_; have HB := n3_; have HI0 := n4_; clear n0_ n1_ n2_ n3_ n4_; (try clear hb); (try clear hb2); (try clear hk); (try clear hi)) | ((with_reducible refine gate_callee (f := 72) rfl ?_); refine goesL_ (some 43) rfl rfl Try.func72 (by kernel_rfl) rfl #[.pointer (some ⟨g, 0, none⟩), .int .i64 4] rfl (by (try simp only [List.map_toArray, List.map_cons, List.map_nil]); first | done | rfl | (simp only [List.length_drop, List.length_take]; rfl)) ?_; (with_reducible refine (spec_l20Rd_pick.calls k1 g s0_0 t276 4 t277 t278 w0 _ ?side1 ?side2 A23.out).mono ?_); (case side1 => exact IsS131.run HI0); (case side2 => repeat (first | (with_reducible first | exact HB.out | apply below_alloc | apply pw_below_drewN | apply below_drew1 | refine below_set ?_ (IsS131.ge HI0.out)) | exact HB.out)); rintro e w64 ⟨rfl, hi, hb, hk⟩; refine ⟨_, rfl, ?_⟩; have n0_ := Aside0.mk (Kd.R_mono (Kd.R_keep (IsS131.apart (show IsS131 w0 _ g s0_0 t276 from IsS131.run HI0) (by (with_reducible repeat (first | apply Kd.R_alloc | apply Kd.R_drewN | apply Kd.R_drew)); exact HO_5.out) (by decide)) hk (fun _ h => h.2)) (fun _ h => h.1)); have n1_ := Aside0.mk (Kd.Q_mono (Kd.Q_keep (IsS131.apartQ (show IsS131 w0 _ g s0_0 t276 from IsS131.run HI0) (by (with_reducible repeat (first | apply Kd.Q_alloc | apply Kd.Q_drewN | apply Kd.Q_drew)); exact HO_6.out) (by decide)) hk (fun _ h => h.2)) (fun _ h => h.1)); have n2_ := Aside0.mk (KeepBut.trans (kk) hk (.inl rfl)); have n3_ := Aside0.mk (hb); have n4_ := Aside0.mk (hi); clear HO_5; clear HO_6; clear HK; clear HB; clear HI0; have HO_5 := n0_; have HO_6 := n1_; have HK := n2_; have HB := n3_; have HI0 := n4_; clear n0_ n1_ n2_ n3_ n4_; (try clear hb); (try clear hb2); (try clear hk); (try clear hi); obtain ⟨Ao65, co65, eo65⟩ := Kd.R_slice HO_5.out; subst eo65; have p61 : 0 ≤ ((ji58) : Int) := of_decide_eq_true (by first | (with_reducible assumption) | assumption); have q61 : ((ji58) : Int) < ((x5_1.length : Int) : Int) := of_decide_eq_true (by first | (with_reducible assumption) | assumption); obtain ⟨go61, co61, eo61, gb61, gl61, cl61, HG61⟩ := Kd.R_form HO_5.out (by omega); (first | cases eo61 | (injection eo61 with ea_ en_ ec_; (first | subst ea_ | (injection ea_ with ea_; subst ea_)); subst ec_; clear en_)); have GB61 := Aside0.mk gb61; have GG61 := Aside0.mk HG61; clear gb61 gl61 HG61; obtain ⟨ce61, hcl61, hM61, hcc61, hfr61⟩ := Kd.R_elem HO_5.out z35 ((ji58) : Int) p61 q61; obtain rfl := k35_openM hM61; have hx61_0 : w64.cell? ⟨go61, ((ji58) : Int).toNat * 3, none⟩ = some (.int .i64 ((rd_T35 x5_1 (ji58)).f0)) := hcc61 0 _ rfl; have hx61_1 : w64.cell? ⟨go61, ((ji58) : Int).toNat * 3 + 1, none⟩ = some (.string ((rd_T35 x5_1 (ji58)).f1.f0)) := hcc61 1 _ rfl; have hx61_2 : w64.cell? ⟨go61, ((ji58) : Int).toNat * 3 + 2, none⟩ = some (.string ((rd_T35 x5_1 (ji58)).f1.f1)) := hcc61 2 _ rfl; have hf61_0 : w64.frozen? ⟨go61, ((ji58) : Int).toNat * 3, none⟩ = false := hfr61 0; have hf61_1 : w64.frozen? ⟨go61, ((ji58) : Int).toNat * 3 + 1, none⟩ = false := hfr61 1; have hf61_2 : w64.frozen? ⟨go61, ((ji58) : Int).toNat * 3 + 2, none⟩ = false := hfr61 2; clear hcl61 hcc61 hfr61 hM61; replace p61 := eq_true p61; replace q61 := eq_true q61; have HX66 := Aside0.mk (show Kd.R k35 35 w64 w.heap.size (fun _ => True) (.slice (some ⟨go61, 0, none⟩) x5_1.length co65) x5_1 from (by (with_reducible repeat (first | apply Kd.R_alloc | apply Kd.R_drewN | apply Kd.R_drew)); exact HO_5.out)); obtain ⟨ce66, hcl66, hM66, hcc66, hfr66⟩ := Kd.R_elem HX66.out z35 ((ji58) : Int) (of_decide_eq_true (by first | (with_reducible assumption) | assumption)) (by have h_ : ((ji58) : Int) < ((x5_1.length : Int) : Int) := of_decide_eq_true (by first | (with_reducible assumption) | assumption); first | exact h_ | (have e_ := (Kd.R_reads' HO_5.out).1; omega) | simpa using h_); obtain rfl := k35_openM hM66; have HP66 := Kd.R_seg HX66.out ((ji58) : Int) (of_decide_eq_true (by first | (with_reducible assumption) | assumption)) (by have h_ : ((ji58) : Int) < ((x5_1.length : Int) : Int) := of_decide_eq_true (by first | (with_reducible assumption) | assumption); first | exact h_ | (have e_ := (Kd.R_reads' HO_5.out).1; omega) | simpa using h_) (seg := [.string (⟨#[122, 122, 122, 122]⟩ : ByteArray)]) (j := 2) hcl66 hcc66 (show 3 ≤ 3 from by decide) (x' := (⟨(rd_T35 x5_1 (ji58)).f0, (⟨(rd_T35 x5_1 (ji58)).f1.f0, (⟨#[122, 122, 122, 122]⟩ : ByteArray)⟩ : S31)⟩ : S35)) (k35_mkM _ _ _ (⟨(rd_T35 x5_1 (ji58)).f0, (⟨(rd_T35 x5_1 (ji58)).f1.f0, (⟨#[122, 122, 122, 122]⟩ : ByteArray)⟩ : S31)⟩ : S35) ) (fun _ hk => hk); have hx66_2 := hcc66 2 _ rfl; (try simp only [show (k35).sz = 3 from rfl, Nat.mul_one, Nat.add_zero] at hx66_2); have hf66_2 := hfr66 2; (try simp only [show (k35).sz = 3 from rfl, Nat.mul_one, Nat.add_zero] at hf66_2); clear hcl66 hcc66 hfr66 hM66) | ((with_reducible refine gate_store (t := 9) (p := 50) rfl ?_); refine store_event (t := 9) (p := 50) (v := ?vo_w67) (w1 := (w64.setCell ⟨go61, ((ji58) : Int).toNat * 3 + 2, none⟩ (.string (⟨#[122, 122, 122, 122]⟩ : ByteArray)))) ?hg ?ho ?hn ?hr ?_; (case ho => rfl); (case hg => rfl); (case hn => rfl); (case hr => first | (go_simp; done) | (go_simp; rfl)); intro w67 hw; have hg : w64.grownBy w67 (some go61) := (by rw [hw]; exact HP66.2); have hp_ : Kd.R k35 35 w67 w.heap.size (fun _ => True) (.slice (some ⟨go61, 0, none⟩) x5_1.length co65) y291 := (by rw [hw, Ny291.out]; exact HP66.1); clear HP66; have n0_ := Aside0.mk (hp_); have n1_ := Aside0.mk (Kd.Q_over' (v := (.slice (some ⟨go61, 0, none⟩) x5_1.length co65)) (by (with_reducible repeat (first | apply Kd.Q_alloc | apply Kd.Q_drewN | apply Kd.Q_drew)); exact HO_6.out) (Kd.R_typed HO_5.out) (by decide) hg); have n2_ := Aside0.mk (IsS131.grown (IsS131.run HI0) hg (IsS131.own_ne HI0.out HO_5.out (by decide))); have n3_ := Aside0.mk ((by rw [hw]; exact below_set (HB.out) (Nat.le_trans HL.out GB61.out) : Below w0.heap.size w0 w67)); have n4_ := Aside0.mk (KeepBut.trans (kk) (KeepBut.of_grown hg g) (Kd.R_base2 HO_5.out)); clear HO_5; clear HO_6; clear HI0; clear HB; clear HK; have HO_5 := n0_; have HO_6 := n1_; have HI0 := n2_; have HB := n3_; have HK := n4_; clear n0_ n1_ n2_ n3_ n4_; clear hg hw hp_))
            go_ret
            exact ⟨_, by first | rfl | (simp only [u8w, w64m]; rfl) | (simp [errW_none, errW_some] <;> rfl) | (simp only [← hji58]; first | rfl | (simp [errW_none, errW_some] <;> rfl)) | (simp [*, errW_none, errW_some] <;> rfl), Kd.Q_of_R (by (with_reducible repeat (first | apply Kd.R_alloc | apply Kd.R_drewN | apply Kd.R_drew)); exact HO_5.out), IsS131.run HI0, IsS131.bz HI0, kk⟩
           ·
            rw [if_neg c60] at H
            exact absurd H (by simp)
          ·
           rw [if_neg c59] at H
           exact absurd H (by simp)
      ·
       replace c22 := Bool.eq_false_iff.mpr c22
       subst c22
       rw [if_neg (show ¬ (false = true) by decide)] at H
       simp only [Option.some.injEq, Prod.mk.injEq] at H
       obtain ⟨rfl, rfl⟩ := H
       obtain ⟨Ao68, co68, eo68, _⟩ := Kd.Q_slice HO_6.out
       subst eo68
       go_wp2_with (first | ((with_reducible refine gate_callee (f := 126) rfl ?_); refine goesL_ (some 41) rfl rfl Try.func126 (by kernel_rfl) rfl #[.pointer (some ⟨g, 0, none⟩), .int .i64 a1] rfl (by (try simp only [List.map_toArray, List.map_cons, List.map_nil]); first | done | rfl | (simp only [List.length_drop, List.length_take]; rfl)) ?_; (with_reducible refine (spec_l20Rd_odd.calls k1 g s0_0 t269 a1 false t276 w0 _ ?side1 ?side2 A21.out).mono ?_); (case side1 => exact IsS131.run HI0); (case side2 => repeat (first | (with_reducible first | exact HB.out | apply below_alloc | apply pw_below_drewN | apply below_drew1 | refine below_set ?_ (IsS131.ge HI0.out)) | exact HB.out)); rintro e w69 ⟨rfl, hi, hb, hk⟩; refine ⟨_, rfl, ?_⟩; have n0_ := Aside0.mk (Kd.R_mono (Kd.R_keep (IsS131.apart (show IsS131 w0 _ g s0_0 t269 from IsS131.run HI0) (by (with_reducible repeat (first | apply Kd.R_alloc | apply Kd.R_drewN | apply Kd.R_drew)); exact HO_5.out) (by decide)) hk (fun _ h => h.2)) (fun _ h => h.1)); have n1_ := Aside0.mk (Kd.Q_mono (Kd.Q_keep (IsS131.apartQ (show IsS131 w0 _ g s0_0 t269 from IsS131.run HI0) (by (with_reducible repeat (first | apply Kd.Q_alloc | apply Kd.Q_drewN | apply Kd.Q_drew)); exact HO_6.out) (by decide)) hk (fun _ h => h.2)) (fun _ h => h.1)); have n2_ := Aside0.mk (KeepBut.trans (kk) hk (.inl rfl)); have n3_ := Aside0.mk (hb); have n4_ := Aside0.mk (hi); clear HO_5; clear HO_6; clear HK; clear HB; clear HI0; have HO_5 := n0_; have HO_6 := n1_; have HK := n2_; have HB := n3_; have HI0 := n4_; clear n0_ n1_ n2_ n3_ n4_; (try clear hb); (try clear hb2); (try clear hk); (try clear hi)))
       go_ret
       exact ⟨_, by first | rfl | (simp only [u8w, w64m]; rfl) | (simp [errW_none, errW_some] <;> rfl) | (simp [*, errW_none, errW_some] <;> rfl), Kd.Q_of_R (by (with_reducible repeat (first | apply Kd.R_alloc | apply Kd.R_drewN | apply Kd.R_drew)); exact HO_5.out), IsS131.run HI0, IsS131.bz HI0, kk⟩
  ·
   rw [if_neg c7] at H
   exact absurd H (by simp)
 ·
  rw [if_neg c6] at H
  exact absurd H (by simp)

/-! ### spec_l20Shard: function 93 -/
def spec_l20Shard.j0 : Nat → List (S35) → Bool → List Int → Int → Option (Int × Int)
 | 0, _, _, _, _ => none
 | k + 1, x1, x12, x1000, x1001 => if x12 = true then ((spec_l20Rd_pick.f k x1000 x1001 (x1.length : Int)).bind fun bt294 => (if 0 ≤ bt294.1 then (if bt294.1 < (x1.length : Int) then (some ((rd_T35 x1 bt294.1).f0, bt294.2)) else (none)) else (none))) else ((spec_l20Rd_pick.f k x1000 x1001 10).bind fun bt297 => (some (wrap64 (bt297.1 - 1), bt297.2)))
def spec_l20Shard.f (k : Nat) (s0_0 : List Int) (s0_1 : Int) (l1 : List (S35)) : Option (Int × Int) := if (l1.length : Int) > 0 then ((spec_l20Rd_pick.f k s0_0 s0_1 4).bind fun bt292 => (spec_l20Shard.j0 k l1 (decide (bt292.1 > 0)) s0_0 bt292.2)) else (spec_l20Shard.j0 k l1 false s0_0 s0_1)
theorem spec_l20Shard.mono_l : ∀ k, (∀ y0 y1 y2 y3, LeO (spec_l20Shard.j0 k y0 y1 y2 y3) (spec_l20Shard.j0 (k + 1) y0 y1 y2 y3))
 | 0 => fun _ _ _ _ r h => by simp [spec_l20Shard.j0] at h
 | k + 1 => by
  have ih0 := spec_l20Shard.mono_l k
  ·
   intro y0 y1 y2 y3
   unfold spec_l20Shard.j0
   repeat' first
   | (with_reducible exact ih0 _ _ _ _)
   | (with_reducible exact spec_l20Rd_pick.mono _ _ _ _)
   | (with_reducible exact LeO.refl _)
   | (with_reducible exact LeO.none _)
   | (with_reducible refine LeO.ite ?_ ?_)
   | (with_reducible refine LeO.bind ?_ (fun _ => ?_))
   | exact ih0 _ _ _ _
   | exact spec_l20Rd_pick.mono _ _ _ _
   | exact LeO.none _
   | refine LeO.ite ?_ ?_
   | refine LeO.bind ?_ (fun _ => ?_)
theorem spec_l20Shard.mono : ∀ a0 a1 a2 k, LeO (spec_l20Shard.f k a0 a1 a2) (spec_l20Shard.f (k + 1) a0 a1 a2) := by
 intro a0 a1 a2 k
 have ih0 := spec_l20Shard.mono_l k
 unfold spec_l20Shard.f
 repeat' first
   | (with_reducible exact ih0 _ _ _ _)
   | (with_reducible exact spec_l20Rd_pick.mono _ _ _ _)
   | (with_reducible exact LeO.refl _)
   | (with_reducible exact LeO.none _)
   | (with_reducible refine LeO.ite ?_ ?_)
   | (with_reducible refine LeO.bind ?_ (fun _ => ?_))
   | exact ih0 _ _ _ _
   | exact spec_l20Rd_pick.mono _ _ _ _
   | exact LeO.none _
   | refine LeO.ite ?_ ?_
   | refine LeO.bind ?_ (fun _ => ?_)
set_option maxHeartbeats 8000000 in
set_option maxRecDepth 100000 in
theorem spec_l20Shard.calls (k : Nat) (g : Nat) (s0_0 : List Int) (s0_1 : Int) (A1 : Option Addr) (c1 : Nat) (l1 : List (S35)) (r1 : Int) (r2 : Int) (w0 w : World) (hI : IsS131 w0 w g s0_0 s0_1) (hB : Below w0.heap.size w0 w) (hr1 : ∀ W_, KeepBut w W_ g none → Kd.C k35 W_ A1 l1.length l1) (hc1 : l1.length ≤ c1) (h : spec_l20Shard.f k s0_0 s0_1 l1 = some (r1, r2)) :
  Calls Try.prog 93 #[.pointer (some ⟨g, 0, none⟩), .slice A1 l1.length c1] w fun e w' => e = .returned (.int .i64 r1) ∧ IsS131 w0 w' g s0_0 r2 ∧ Below w0.heap.size w0 w' ∧ KeepBut w w' g none := by
 have HR1 := Aside0.mk hr1
 have HC1 := Aside0.mk hc1
 clear hr1 hc1
 have HI0 := Aside0.mk hI
 have HK := Aside0.mk (KeepBut.refl w g none)
 have HL := Aside0.mk hB.size
 clear hI
 have HW0 := Aside0.mk hB.size
 have HB := Aside0.mk hB
 clear hB
 have H : (if (l1.length : Int) > 0 then ((spec_l20Rd_pick.f k s0_0 s0_1 4).bind fun bt292 => (spec_l20Shard.j0 k l1 (decide (bt292.1 > 0)) s0_0 bt292.2)) else (spec_l20Shard.j0 k l1 false s0_0 s0_1)) = some (r1, r2) := h
 clear h
 have HC3 := Aside0.mk H
 clear H
 go_enter Try.func93, Try.ntmps93
 go_upto_region 1 with (fail)
 go_cut [12] (fun v12 wc => ∃ (kq : Nat) (x12_2 : Bool) (x1001_2 : Int), v12 = .bool x12_2 ∧ Aside0 (spec_l20Shard.j0 kq l1 x12_2 s0_0 x1001_2 = some (r1, r2)) ∧ Aside0 (kq ≤ k) ∧ Aside0 (IsS131 w0 wc g s0_0 x1001_2) ∧ Aside0 (KeepBut w wc g none) ∧ Aside0 (Below w0.heap.size w0 wc))
 case first =>
  have H := HC3.out
  clear HC3
  by_cases c4 : (l1.length : Int) > 0
  ·
   rw [if_pos c4] at H
   have c4b0 : decide (0 < (l1.length : Int)) = true := decide_eq_true c4
   have c4b1 : decide (0 < l1.length) = true := decide_eq_true (by omega)
   clear c4
   (first | rw [c4b0] | (simp only [i64_w, i32_w]; rw [c4b0]) | skip)
   replace H := Option.bind_eq_some_iff.mp H
   obtain ⟨⟨t292, t293⟩, A50, H⟩ := H
   try dsimp only at H
   have A5 := Aside0.mk A50
   clear A50
   have H' := Aside0.mk H
   clear H
   go_wp2_with (first | (go_at_call 72; (with_reducible refine (spec_l20Rd_pick.calls k g s0_0 s0_1 4 t292 t293 w0 _ ?side1 ?side2 A5.out).mono ?_); (case side1 => exact IsS131.run HI0); (case side2 => repeat (first | (with_reducible first | exact HB.out | apply below_alloc | apply pw_below_drewN | apply below_drew1 | refine below_set ?_ (IsS131.ge HI0.out)) | exact HB.out)); rintro e w6 ⟨rfl, hi, hb, hk⟩; have n0_ := Aside0.mk (KeepBut.trans (kk) hk (.inl rfl)); have n1_ := Aside0.mk (hb); have n2_ := Aside0.mk (hi); clear HK; clear HB; clear HI0; have HK := n0_; have HB := n1_; have HI0 := n2_; clear n0_ n1_ n2_; (try clear hb); (try clear hb2); (try clear hk); (try clear hi)))
   go_meet
   case rel => exact ⟨_, (decide (t292 > 0)), (t293), (by first | rfl | (simp; done) | exact congrArg Value.bool (ne_nil_b _) | exact congrArg Value.bool (eq_nil_b _) | (simp [*]; done)), H', ⟨by first | omega | exact Nat.le_refl _⟩, ⟨IsS131.run HI0⟩, ⟨kk⟩, ⟨IsS131.bz HI0⟩⟩
  ·
   rw [if_neg c4] at H
   have c4b0 : decide (0 < (l1.length : Int)) = false := decide_eq_false c4
   have c4b1 : decide (0 < l1.length) = false := decide_eq_false (by omega)
   clear c4
   (first | rw [c4b0] | (simp only [i64_w, i32_w]; rw [c4b0]) | skip)
   have H' := Aside0.mk H
   clear H
   go_wp2
   go_meet
   case rel => exact ⟨_, (false), (s0_1), (by first | rfl | (simp; done) | exact congrArg Value.bool (ne_nil_b _) | exact congrArg Value.bool (eq_nil_b _) | (simp [*]; done)), H', ⟨by first | omega | exact Nat.le_refl _⟩, ⟨IsS131.run HI0⟩, ⟨kk⟩, ⟨IsS131.bz HI0⟩⟩
 case rest =>
  clear HC3
  try clear c1
  try clear p2
  try clear c4
  try clear c4b0
  try clear c4b1
  obtain ⟨kq, x12_2, x1001_2, rfl, HA, HJ2, HI0, HK, HB⟩ := hcut
  cases kq with
  | zero => exact absurd HA.out (by simp [spec_l20Shard.j0])
  | succ kj2 =>
   have H := HA.out
   clear HA
   simp only [spec_l20Shard.j0] at H
   by_cases c7 : x12_2 = true
   ·
    subst c7
    rw [if_pos rfl] at H
    replace H := Option.bind_eq_some_iff.mp H
    obtain ⟨⟨t294, t295⟩, A80, H⟩ := H
    try dsimp only at H
    have A8 := Aside0.mk A80
    clear A80
    by_cases c9 : 0 ≤ t294
    ·
     rw [if_pos c9] at H
     have c9b0 : decide (0 ≤ t294) = true := decide_eq_true c9
     clear c9
     by_cases c10 : t294 < (l1.length : Int)
     ·
      rw [if_pos c10] at H
      have c10b0 : decide (t294 < (l1.length : Int)) = true := decide_eq_true c10
      clear c10
      simp only [Option.some.injEq, Prod.mk.injEq] at H
      obtain ⟨rfl, rfl⟩ := H
      go_wp2_with (first | ((with_reducible refine gate_callee (f := 72) rfl ?_); refine goesL_ (some 17) rfl rfl Try.func72 (by kernel_rfl) rfl #[.pointer (some ⟨g, 0, none⟩), .int .i64 (l1.length : Int)] rfl (by (try simp only [List.map_toArray, List.map_cons, List.map_nil]); first | done | rfl | (simp only [List.length_drop, List.length_take]; rfl)) ?_; (with_reducible refine (spec_l20Rd_pick.calls kj2 g s0_0 x1001_2 (l1.length : Int) t294 t295 w0 _ ?side1 ?side2 A8.out).mono ?_); (case side1 => exact IsS131.run HI0); (case side2 => repeat (first | (with_reducible first | exact HB.out | apply below_alloc | apply pw_below_drewN | apply below_drew1 | refine below_set ?_ (IsS131.ge HI0.out)) | exact HB.out)); rintro e w11 ⟨rfl, hi, hb, hk⟩; refine ⟨_, rfl, ?_⟩; have n0_ := Aside0.mk (KeepBut.trans (kk) hk (.inl rfl)); have n1_ := Aside0.mk (hb); have n2_ := Aside0.mk (hi); clear HK; clear HB; clear HI0; have HK := n0_; have HB := n1_; have HI0 := n2_; clear n0_ n1_ n2_; (try clear hb); (try clear hb2); (try clear hk); (try clear hi); have p296 : 0 ≤ (t294 : Int) := of_decide_eq_true (by first | (with_reducible assumption) | assumption); have q296 : t294 < (l1.length : Int) := of_decide_eq_true (by first | (with_reducible assumption) | assumption); obtain ⟨ad296, e296, hx296_0, hx296_1, hx296_2⟩ := at_T35 (Kd.C_foot_now HR1.out HK.out) t294 p296 q296; cases e296; replace p296 := eq_true p296; replace q296 := eq_true q296))
      go_ret
      exact ⟨by first | rfl | (simp only [u8w, w64m]; rfl) | (simp [errW_none, errW_some] <;> rfl) | (simp [*, errW_none, errW_some] <;> rfl), IsS131.run HI0, IsS131.bz HI0, kk⟩
     ·
      rw [if_neg c10] at H
      exact absurd H (by simp)
    ·
     rw [if_neg c9] at H
     exact absurd H (by simp)
   ·
    replace c7 := Bool.eq_false_iff.mpr c7
    subst c7
    rw [if_neg (show ¬ (false = true) by decide)] at H
    replace H := Option.bind_eq_some_iff.mp H
    obtain ⟨⟨t297, t298⟩, A120, H⟩ := H
    try dsimp only at H
    have A12 := Aside0.mk A120
    clear A120
    simp only [Option.some.injEq, Prod.mk.injEq] at H
    obtain ⟨rfl, rfl⟩ := H
    go_wp2_with (first | ((with_reducible refine gate_callee (f := 72) rfl ?_); refine goesL_ (some 22) rfl rfl Try.func72 (by kernel_rfl) rfl #[.pointer (some ⟨g, 0, none⟩), .int .i64 10] rfl (by (try simp only [List.map_toArray, List.map_cons, List.map_nil]); first | done | rfl | (simp only [List.length_drop, List.length_take]; rfl)) ?_; (with_reducible refine (spec_l20Rd_pick.calls kj2 g s0_0 x1001_2 10 t297 t298 w0 _ ?side1 ?side2 A12.out).mono ?_); (case side1 => exact IsS131.run HI0); (case side2 => repeat (first | (with_reducible first | exact HB.out | apply below_alloc | apply pw_below_drewN | apply below_drew1 | refine below_set ?_ (IsS131.ge HI0.out)) | exact HB.out)); rintro e w13 ⟨rfl, hi, hb, hk⟩; refine ⟨_, rfl, ?_⟩; have n0_ := Aside0.mk (KeepBut.trans (kk) hk (.inl rfl)); have n1_ := Aside0.mk (hb); have n2_ := Aside0.mk (hi); clear HK; clear HB; clear HI0; have HK := n0_; have HB := n1_; have HI0 := n2_; clear n0_ n1_ n2_; (try clear hb); (try clear hb2); (try clear hk); (try clear hi)))
    go_ret
    exact ⟨by first | rfl | (simp only [u8w, w64m]; rfl) | (simp [errW_none, errW_some] <;> rfl) | (simp [*, errW_none, errW_some] <;> rfl), IsS131.run HI0, IsS131.bz HI0, kk⟩

/-! ### spec_DrawMergeRoutes: function 30 -/
def spec_DrawMergeRoutes.f (k : Nat) (l0 : List Int) : Option ((List (S35)) × Int × Int) := (spec_l20Open.f l0).bind fun bt299 => ((spec_l20Routes.f k bt299.1 bt299.2 12).bind fun bt302 => ((spec_l20Shard.f k bt299.1 bt302.2 bt302.1).bind fun bt306 => ((spec_l20Rd_pick.f k bt299.1 bt306.2 9).bind fun bt308 => ((spec_l20Rd_pick.f k bt299.1 bt308.2 20).bind fun bt310 => ((spec_l20Rd_pick.f k bt299.1 bt310.2 3).bind fun bt312 => (if bt312.1 = 0 then (some (bt302.1, bt306.1, bt306.1)) else (some (bt302.1, bt306.1, wrap64 (bt308.1 - (wrap64 (Int.tdiv bt310.1 19)))))))))))
theorem spec_DrawMergeRoutes.mono : ∀ a0 k, LeO (spec_DrawMergeRoutes.f k a0) (spec_DrawMergeRoutes.f (k + 1) a0) := by
 intro a0 k
 unfold spec_DrawMergeRoutes.f
 repeat' first
   | (with_reducible exact spec_l20Rd_pick.mono _ _ _ _)
   | (with_reducible exact spec_l20Routes.mono _ _ _ _)
   | (with_reducible exact spec_l20Shard.mono _ _ _ _)
   | (with_reducible exact LeO.refl _)
   | (with_reducible exact LeO.none _)
   | (with_reducible refine LeO.ite ?_ ?_)
   | (with_reducible refine LeO.bind ?_ (fun _ => ?_))
   | exact spec_l20Rd_pick.mono _ _ _ _
   | exact spec_l20Routes.mono _ _ _ _
   | exact spec_l20Shard.mono _ _ _ _
   | exact LeO.none _
   | refine LeO.ite ?_ ?_
   | refine LeO.bind ?_ (fun _ => ?_)
set_option maxHeartbeats 8000000 in
set_option maxRecDepth 100000 in
theorem spec_DrawMergeRoutes.calls (k : Nat) (A0 : Option Addr) (c0 : Nat) (l0 : List Int) (r1 : List (S35)) (r2 : Int) (r3 : Int) (w : World) (hr0 : Kd.C (Kd.int .u8) w A0 l0.length l0) (hc0 : l0.length ≤ c0) (h : spec_DrawMergeRoutes.f k l0 = some (r1, r2, r3)) :
  Calls Try.prog 30 #[.slice A0 l0.length c0] w fun e w' => ∃ v0_ : Value, e = .returned (.tuple #[v0_, .int .i64 r2, .int .i64 r3]) ∧ Kd.Q k35 35 w' w.heap.size (fun _ => True) v0_ r1 ∧ Below w.heap.size w w' := by
 have HR0 := Aside0.mk hr0
 have HC0 := Aside0.mk hc0
 clear hr0 hc0
 have HB := Aside0.mk (Below.refl w.heap.size w)
 have H : ((spec_l20Open.f l0).bind fun bt299 => ((spec_l20Routes.f k bt299.1 bt299.2 12).bind fun bt302 => ((spec_l20Shard.f k bt299.1 bt302.2 bt302.1).bind fun bt306 => ((spec_l20Rd_pick.f k bt299.1 bt306.2 9).bind fun bt308 => ((spec_l20Rd_pick.f k bt299.1 bt308.2 20).bind fun bt310 => ((spec_l20Rd_pick.f k bt299.1 bt310.2 3).bind fun bt312 => (if bt312.1 = 0 then (some (bt302.1, bt306.1, bt306.1)) else (some (bt302.1, bt306.1, wrap64 (bt308.1 - (wrap64 (Int.tdiv bt310.1 19)))))))))))) = some (r1, r2, r3) := h
 clear h
 replace H := Option.bind_eq_some_iff.mp H
 obtain ⟨⟨t299, t300⟩, A20, H⟩ := H
 try dsimp only at H
 have A2 := Aside0.mk A20
 clear A20
 replace H := Option.bind_eq_some_iff.mp H
 obtain ⟨⟨t302, t305⟩, A30, H⟩ := H
 try dsimp only at H
 have A3 := Aside0.mk A30
 clear A30
 replace H := Option.bind_eq_some_iff.mp H
 obtain ⟨⟨t306, t307⟩, A40, H⟩ := H
 try dsimp only at H
 have A4 := Aside0.mk A40
 clear A40
 replace H := Option.bind_eq_some_iff.mp H
 obtain ⟨⟨t308, t309⟩, A50, H⟩ := H
 try dsimp only at H
 have A5 := Aside0.mk A50
 clear A50
 replace H := Option.bind_eq_some_iff.mp H
 obtain ⟨⟨t310, t311⟩, A60, H⟩ := H
 try dsimp only at H
 have A6 := Aside0.mk A60
 clear A60
 replace H := Option.bind_eq_some_iff.mp H
 obtain ⟨⟨t312, t313⟩, A70, H⟩ := H
 try dsimp only at H
 have A7 := Aside0.mk A70
 clear A70
 by_cases c8 : t312 = 0
 ·
  rw [if_pos c8] at H
  have c8b0 : (t312 == 0) = true := beq_iff_eq.mpr c8
  have c8b1 : (t312 != 0) = false := bne_eq_false_iff_eq.mpr c8
  clear c8
  simp only [Option.some.injEq, Prod.mk.injEq] at H
  obtain ⟨rfl, rfl, rfl⟩ := H
  go_enter Try.func30, Try.ntmps30
  go_wp2_with (first | ((with_reducible refine gate_callee (f := 69) rfl ?_); refine goesL_ (some 10) rfl rfl Try.func69 (by kernel_rfl) rfl #[.slice A0 l0.length c0] rfl (by (try simp only [List.map_toArray, List.map_cons, List.map_nil]); first | done | rfl | (simp only [List.length_drop, List.length_take]; rfl)) ?_; (with_reducible refine (spec_l20Open.calls _ _ l0 t299 t300 w _ ?side1 ?side2 ?side3 A2.out).mono ?_); (case side1 => repeat (first | (with_reducible first | exact HB.out | apply below_alloc | apply pw_below_drewN | apply below_drew1) | exact HB.out)); (case side2 => exact HR0.out); (case side3 => exact HC0.out); rintro e w9 ⟨g301, rfl, hi, hb, hb2⟩; refine ⟨_, rfl, ?_⟩; have n0_ := Aside0.mk (hb); have n1_ := Aside0.mk (hi); clear HB; have HB := n0_; have HI301 := n1_; clear n0_ n1_; (try clear hb); (try clear hb2); (try clear hk); (try clear hi)) | ((with_reducible refine gate_callee (f := 70) rfl ?_); refine goesL_ (some 12) rfl rfl Try.func70 (by kernel_rfl) rfl #[.pointer (some ⟨g301, 0, none⟩), .int .i64 12] rfl (by (try simp only [List.map_toArray, List.map_cons, List.map_nil]); first | done | rfl | (simp only [List.length_drop, List.length_take]; rfl)) ?_; (with_reducible refine (spec_l20Routes.calls k g301 t299 t300 12 t302 t305 w _ ?side1 ?side2 A3.out).mono ?_); (case side1 => exact IsS131.run HI301); (case side2 => repeat (first | (with_reducible first | exact HB.out | apply below_alloc | apply pw_below_drewN | apply below_drew1 | refine below_set ?_ (IsS131.ge HI301.out)) | exact HB.out)); rintro e w10 ⟨v303, rfl, ho0, hi, hb, hk⟩; refine ⟨_, rfl, ?_⟩; have n0_ := Aside0.mk (Kd.Q_lower ho0 (below_size (IsS131.bz HI301))); have n1_ := Aside0.mk (hb); have n2_ := Aside0.mk (hi); clear HB; clear HI301; have HO304 := n0_; have HB := n1_; have HI301 := n2_; clear n0_ n1_ n2_; (try clear hb); (try clear hb2); (try clear hk); (try clear hi); (try clear ho0); obtain ⟨Ao11, co11, eo11, _⟩ := Kd.Q_slice HO304.out; subst eo11) | ((with_reducible refine gate_callee (f := 93) rfl ?_); refine goesL_ (some 15) rfl rfl Try.func93 (by kernel_rfl) rfl #[.pointer (some ⟨g301, 0, none⟩), .slice Ao11 t302.length co11] rfl (by (try simp only [List.map_toArray, List.map_cons, List.map_nil]); first | done | rfl | (simp only [List.length_drop, List.length_take]; rfl)) ?_; (with_reducible refine (spec_l20Shard.calls k g301 t299 t305 _ _ t302 t306 t307 w _ ?side1 ?side2 ?side3 ?side4 A4.out).mono ?_); (case side1 => exact IsS131.run HI301); (case side2 => repeat (first | (with_reducible first | exact HB.out | apply below_alloc | apply pw_below_drewN | apply below_drew1 | refine below_set ?_ (IsS131.ge HI301.out)) | exact HB.out)); (case side3 => exact Kd.C_foot_ownQ (IsS131.apartQ (show IsS131 w _ g301 t299 t305 from IsS131.run HI301) (by (with_reducible repeat (first | apply Kd.Q_alloc | apply Kd.Q_drewN | apply Kd.Q_drew)); exact HO304.out) (by decide)) (fun _ h_ => h_.2)); (case side4 => exact (Kd.Q_reads' HO304.out).2.1); rintro e w12 ⟨rfl, hi, hb, hk⟩; refine ⟨_, rfl, ?_⟩; have n0_ := Aside0.mk (Kd.Q_mono (Kd.Q_keep (IsS131.apartQ (show IsS131 w _ g301 t299 t305 from IsS131.run HI301) (by (with_reducible repeat (first | apply Kd.Q_alloc | apply Kd.Q_drewN | apply Kd.Q_drew)); exact HO304.out) (by decide)) hk (fun _ h => h.2)) (fun _ h => h.1)); have n1_ := Aside0.mk (hb); have n2_ := Aside0.mk (hi); clear HO304; clear HB; clear HI301; have HO304 := n0_; have HB := n1_; have HI301 := n2_; clear n0_ n1_ n2_; (try clear hb); (try clear hb2); (try clear hk); (try clear hi)) | ((with_reducible refine gate_callee (f := 72) rfl ?_); refine goesL_ (some 17) rfl rfl Try.func72 (by kernel_rfl) rfl #[.pointer (some ⟨g301, 0, none⟩), .int .i64 9] rfl (by (try simp only [List.map_toArray, List.map_cons, List.map_nil]); first | done | rfl | (simp only [List.length_drop, List.length_take]; rfl)) ?_; (with_reducible refine (spec_l20Rd_pick.calls k g301 t299 t307 9 t308 t309 w _ ?side1 ?side2 A5.out).mono ?_); (case side1 => exact IsS131.run HI301); (case side2 => repeat (first | (with_reducible first | exact HB.out | apply below_alloc | apply pw_below_drewN | apply below_drew1 | refine below_set ?_ (IsS131.ge HI301.out)) | exact HB.out)); rintro e w13 ⟨rfl, hi, hb, hk⟩; refine ⟨_, rfl, ?_⟩; have n0_ := Aside0.mk (Kd.Q_mono (Kd.Q_keep (IsS131.apartQ (show IsS131 w _ g301 t299 t307 from IsS131.run HI301) (by (with_reducible repeat (first | apply Kd.Q_alloc | apply Kd.Q_drewN | apply Kd.Q_drew)); exact HO304.out) (by decide)) hk (fun _ h => h.2)) (fun _ h => h.1)); have n1_ := Aside0.mk (hb); have n2_ := Aside0.mk (hi); clear HO304; clear HB; clear HI301; have HO304 := n0_; have HB := n1_; have HI301 := n2_; clear n0_ n1_ n2_; (try clear hb); (try clear hb2); (try clear hk); (try clear hi)) | ((with_reducible refine gate_callee (f := 72) rfl ?_); refine goesL_ (some 19) rfl rfl Try.func72 (by kernel_rfl) rfl #[.pointer (some ⟨g301, 0, none⟩), .int .i64 20] rfl (by (try simp only [List.map_toArray, List.map_cons, List.map_nil]); first | done | rfl | (simp only [List.length_drop, List.length_take]; rfl)) ?_; (with_reducible refine (spec_l20Rd_pick.calls k g301 t299 t309 20 t310 t311 w _ ?side1 ?side2 A6.out).mono ?_); (case side1 => exact IsS131.run HI301); (case side2 => repeat (first | (with_reducible first | exact HB.out | apply below_alloc | apply pw_below_drewN | apply below_drew1 | refine below_set ?_ (IsS131.ge HI301.out)) | exact HB.out)); rintro e w14 ⟨rfl, hi, hb, hk⟩; refine ⟨_, rfl, ?_⟩; have n0_ := Aside0.mk (Kd.Q_mono (Kd.Q_keep (IsS131.apartQ (show IsS131 w _ g301 t299 t309 from IsS131.run HI301) (by (with_reducible repeat (first | apply Kd.Q_alloc | apply Kd.Q_drewN | apply Kd.Q_drew)); exact HO304.out) (by decide)) hk (fun _ h => h.2)) (fun _ h => h.1)); have n1_ := Aside0.mk (hb); have n2_ := Aside0.mk (hi); clear HO304; clear HB; clear HI301; have HO304 := n0_; have HB := n1_; have HI301 := n2_; clear n0_ n1_ n2_; (try clear hb); (try clear hb2); (try clear hk); (try clear hi)) | ((with_reducible refine gate_callee (f := 72) rfl ?_); refine goesL_ (some 23) rfl rfl Try.func72 (by kernel_rfl) rfl #[.pointer (some ⟨g301, 0, none⟩), .int .i64 3] rfl (by (try simp only [List.map_toArray, List.map_cons, List.map_nil]); first | done | rfl | (simp only [List.length_drop, List.length_take]; rfl)) ?_; (with_reducible refine (spec_l20Rd_pick.calls k g301 t299 t311 3 t312 t313 w _ ?side1 ?side2 A7.out).mono ?_); (case side1 => exact IsS131.run HI301); (case side2 => repeat (first | (with_reducible first | exact HB.out | apply below_alloc | apply pw_below_drewN | apply below_drew1 | refine below_set ?_ (IsS131.ge HI301.out)) | exact HB.out)); rintro e w15 ⟨rfl, hi, hb, hk⟩; refine ⟨_, rfl, ?_⟩; have n0_ := Aside0.mk (Kd.Q_mono (Kd.Q_keep (IsS131.apartQ (show IsS131 w _ g301 t299 t311 from IsS131.run HI301) (by (with_reducible repeat (first | apply Kd.Q_alloc | apply Kd.Q_drewN | apply Kd.Q_drew)); exact HO304.out) (by decide)) hk (fun _ h => h.2)) (fun _ h => h.1)); have n1_ := Aside0.mk (hb); have n2_ := Aside0.mk (hi); clear HO304; clear HB; clear HI301; have HO304 := n0_; have HB := n1_; have HI301 := n2_; clear n0_ n1_ n2_; (try clear hb); (try clear hb2); (try clear hk); (try clear hi)))
  go_ret3
  exact ⟨_, by first | rfl | (simp only [u8w, w64m]; rfl) | (simp [errW_none, errW_some] <;> rfl) | (simp [*, errW_none, errW_some] <;> rfl), by (with_reducible repeat (first | apply Kd.Q_alloc | apply Kd.Q_drewN | apply Kd.Q_drew)); exact HO304.out, IsS131.bz HI301⟩
 ·
  rw [if_neg c8] at H
  have c8b0 : (t312 == 0) = false := beq_eq_false_iff_ne.mpr c8
  have c8b1 : (t312 != 0) = true := bne_iff_ne.mpr c8
  simp only [Option.some.injEq, Prod.mk.injEq] at H
  obtain ⟨rfl, rfl, rfl⟩ := H
  go_enter Try.func30, Try.ntmps30
  go_wp2_with (first | ((with_reducible refine gate_callee (f := 69) rfl ?_); refine goesL_ (some 10) rfl rfl Try.func69 (by kernel_rfl) rfl #[.slice A0 l0.length c0] rfl (by (try simp only [List.map_toArray, List.map_cons, List.map_nil]); first | done | rfl | (simp only [List.length_drop, List.length_take]; rfl)) ?_; (with_reducible refine (spec_l20Open.calls _ _ l0 t299 t300 w _ ?side1 ?side2 ?side3 A2.out).mono ?_); (case side1 => repeat (first | (with_reducible first | exact HB.out | apply below_alloc | apply pw_below_drewN | apply below_drew1) | exact HB.out)); (case side2 => exact HR0.out); (case side3 => exact HC0.out); rintro e w16 ⟨g301, rfl, hi, hb, hb2⟩; refine ⟨_, rfl, ?_⟩; have n0_ := Aside0.mk (hb); have n1_ := Aside0.mk (hi); clear HB; have HB := n0_; have HI301 := n1_; clear n0_ n1_; (try clear hb); (try clear hb2); (try clear hk); (try clear hi)) | ((with_reducible refine gate_callee (f := 70) rfl ?_); refine goesL_ (some 12) rfl rfl Try.func70 (by kernel_rfl) rfl #[.pointer (some ⟨g301, 0, none⟩), .int .i64 12] rfl (by (try simp only [List.map_toArray, List.map_cons, List.map_nil]); first | done | rfl | (simp only [List.length_drop, List.length_take]; rfl)) ?_; (with_reducible refine (spec_l20Routes.calls k g301 t299 t300 12 t302 t305 w _ ?side1 ?side2 A3.out).mono ?_); (case side1 => exact IsS131.run HI301); (case side2 => repeat (first | (with_reducible first | exact HB.out | apply below_alloc | apply pw_below_drewN | apply below_drew1 | refine below_set ?_ (IsS131.ge HI301.out)) | exact HB.out)); rintro e w17 ⟨v303, rfl, ho0, hi, hb, hk⟩; refine ⟨_, rfl, ?_⟩; have n0_ := Aside0.mk (Kd.Q_lower ho0 (below_size (IsS131.bz HI301))); have n1_ := Aside0.mk (hb); have n2_ := Aside0.mk (hi); clear HB; clear HI301; have HO304 := n0_; have HB := n1_; have HI301 := n2_; clear n0_ n1_ n2_; (try clear hb); (try clear hb2); (try clear hk); (try clear hi); (try clear ho0); obtain ⟨Ao18, co18, eo18, _⟩ := Kd.Q_slice HO304.out; subst eo18) | ((with_reducible refine gate_callee (f := 93) rfl ?_); refine goesL_ (some 15) rfl rfl Try.func93 (by kernel_rfl) rfl #[.pointer (some ⟨g301, 0, none⟩), .slice Ao18 t302.length co18] rfl (by (try simp only [List.map_toArray, List.map_cons, List.map_nil]); first | done | rfl | (simp only [List.length_drop, List.length_take]; rfl)) ?_; (with_reducible refine (spec_l20Shard.calls k g301 t299 t305 _ _ t302 t306 t307 w _ ?side1 ?side2 ?side3 ?side4 A4.out).mono ?_); (case side1 => exact IsS131.run HI301); (case side2 => repeat (first | (with_reducible first | exact HB.out | apply below_alloc | apply pw_below_drewN | apply below_drew1 | refine below_set ?_ (IsS131.ge HI301.out)) | exact HB.out)); (case side3 => exact Kd.C_foot_ownQ (IsS131.apartQ (show IsS131 w _ g301 t299 t305 from IsS131.run HI301) (by (with_reducible repeat (first | apply Kd.Q_alloc | apply Kd.Q_drewN | apply Kd.Q_drew)); exact HO304.out) (by decide)) (fun _ h_ => h_.2)); (case side4 => exact (Kd.Q_reads' HO304.out).2.1); rintro e w19 ⟨rfl, hi, hb, hk⟩; refine ⟨_, rfl, ?_⟩; have n0_ := Aside0.mk (Kd.Q_mono (Kd.Q_keep (IsS131.apartQ (show IsS131 w _ g301 t299 t305 from IsS131.run HI301) (by (with_reducible repeat (first | apply Kd.Q_alloc | apply Kd.Q_drewN | apply Kd.Q_drew)); exact HO304.out) (by decide)) hk (fun _ h => h.2)) (fun _ h => h.1)); have n1_ := Aside0.mk (hb); have n2_ := Aside0.mk (hi); clear HO304; clear HB; clear HI301; have HO304 := n0_; have HB := n1_; have HI301 := n2_; clear n0_ n1_ n2_; (try clear hb); (try clear hb2); (try clear hk); (try clear hi)) | ((with_reducible refine gate_callee (f := 72) rfl ?_); refine goesL_ (some 17) rfl rfl Try.func72 (by kernel_rfl) rfl #[.pointer (some ⟨g301, 0, none⟩), .int .i64 9] rfl (by (try simp only [List.map_toArray, List.map_cons, List.map_nil]); first | done | rfl | (simp only [List.length_drop, List.length_take]; rfl)) ?_; (with_reducible refine (spec_l20Rd_pick.calls k g301 t299 t307 9 t308 t309 w _ ?side1 ?side2 A5.out).mono ?_); (case side1 => exact IsS131.run HI301); (case side2 => repeat (first | (with_reducible first | exact HB.out | apply below_alloc | apply pw_below_drewN | apply below_drew1 | refine below_set ?_ (IsS131.ge HI301.out)) | exact HB.out)); rintro e w20 ⟨rfl, hi, hb, hk⟩; refine ⟨_, rfl, ?_⟩; have n0_ := Aside0.mk (Kd.Q_mono (Kd.Q_keep (IsS131.apartQ (show IsS131 w _ g301 t299 t307 from IsS131.run HI301) (by (with_reducible repeat (first | apply Kd.Q_alloc | apply Kd.Q_drewN | apply Kd.Q_drew)); exact HO304.out) (by decide)) hk (fun _ h => h.2)) (fun _ h => h.1)); have n1_ := Aside0.mk (hb); have n2_ := Aside0.mk (hi); clear HO304; clear HB; clear HI301; have HO304 := n0_; have HB := n1_; have HI301 := n2_; clear n0_ n1_ n2_; (try clear hb); (try clear hb2); (try clear hk); (try clear hi)) | ((with_reducible refine gate_callee (f := 72) rfl ?_); refine goesL_ (some 19) rfl rfl Try.func72 (by kernel_rfl) rfl #[.pointer (some ⟨g301, 0, none⟩), .int .i64 20] rfl (by (try simp only [List.map_toArray, List.map_cons, List.map_nil]); first | done | rfl | (simp only [List.length_drop, List.length_take]; rfl)) ?_; (with_reducible refine (spec_l20Rd_pick.calls k g301 t299 t309 20 t310 t311 w _ ?side1 ?side2 A6.out).mono ?_); (case side1 => exact IsS131.run HI301); (case side2 => repeat (first | (with_reducible first | exact HB.out | apply below_alloc | apply pw_below_drewN | apply below_drew1 | refine below_set ?_ (IsS131.ge HI301.out)) | exact HB.out)); rintro e w21 ⟨rfl, hi, hb, hk⟩; refine ⟨_, rfl, ?_⟩; have n0_ := Aside0.mk (Kd.Q_mono (Kd.Q_keep (IsS131.apartQ (show IsS131 w _ g301 t299 t309 from IsS131.run HI301) (by (with_reducible repeat (first | apply Kd.Q_alloc | apply Kd.Q_drewN | apply Kd.Q_drew)); exact HO304.out) (by decide)) hk (fun _ h => h.2)) (fun _ h => h.1)); have n1_ := Aside0.mk (hb); have n2_ := Aside0.mk (hi); clear HO304; clear HB; clear HI301; have HO304 := n0_; have HB := n1_; have HI301 := n2_; clear n0_ n1_ n2_; (try clear hb); (try clear hb2); (try clear hk); (try clear hi)) | ((with_reducible refine gate_callee (f := 72) rfl ?_); refine goesL_ (some 23) rfl rfl Try.func72 (by kernel_rfl) rfl #[.pointer (some ⟨g301, 0, none⟩), .int .i64 3] rfl (by (try simp only [List.map_toArray, List.map_cons, List.map_nil]); first | done | rfl | (simp only [List.length_drop, List.length_take]; rfl)) ?_; (with_reducible refine (spec_l20Rd_pick.calls k g301 t299 t311 3 t312 t313 w _ ?side1 ?side2 A7.out).mono ?_); (case side1 => exact IsS131.run HI301); (case side2 => repeat (first | (with_reducible first | exact HB.out | apply below_alloc | apply pw_below_drewN | apply below_drew1 | refine below_set ?_ (IsS131.ge HI301.out)) | exact HB.out)); rintro e w22 ⟨rfl, hi, hb, hk⟩; refine ⟨_, rfl, ?_⟩; have n0_ := Aside0.mk (Kd.Q_mono (Kd.Q_keep (IsS131.apartQ (show IsS131 w _ g301 t299 t311 from IsS131.run HI301) (by (with_reducible repeat (first | apply Kd.Q_alloc | apply Kd.Q_drewN | apply Kd.Q_drew)); exact HO304.out) (by decide)) hk (fun _ h => h.2)) (fun _ h => h.1)); have n1_ := Aside0.mk (hb); have n2_ := Aside0.mk (hi); clear HO304; clear HB; clear HI301; have HO304 := n0_; have HB := n1_; have HI301 := n2_; clear n0_ n1_ n2_; (try clear hb); (try clear hb2); (try clear hk); (try clear hi)))
  go_ret3
  exact ⟨_, by first | rfl | (simp only [u8w, w64m]; rfl) | (simp [errW_none, errW_some] <;> rfl) | (simp [*, errW_none, errW_some] <;> rfl), by (with_reducible repeat (first | apply Kd.Q_alloc | apply Kd.Q_drewN | apply Kd.Q_drew)); exact HO304.out, IsS131.bz HI301⟩

/-! ### impl_Route_94: function 94 -/
def impl_Route_94.f (l0 : List (S35)) : Option ((List (S35))) := if ([] : List (S35)).length + l0.length < 3518437208883 then (some (([] : List (S35)) ++ l0)) else (none)
set_option maxHeartbeats 8000000 in
set_option maxRecDepth 100000 in
theorem impl_Route_94.calls (A0 : Option Addr) (c0 : Nat) (l0 : List (S35)) (r : List (S35)) (w : World) (hr0 : Kd.C k35 w A0 l0.length l0) (hc0 : l0.length ≤ c0) (h : impl_Route_94.f l0 = some r) :
  Calls Try.prog 94 #[.slice A0 l0.length c0] w fun e w' => ∃ v0_ : Value, e = .returned (v0_) ∧ Kd.R k35 35 w' w.heap.size (fun _ => True) v0_ r ∧ Below w.heap.size w w' := by
 have HR0 := Aside0.mk hr0
 have HC0 := Aside0.mk hc0
 clear hr0 hc0
 have HB := Aside0.mk (Below.refl w.heap.size w)
 have H : (if ([] : List (S35)).length + l0.length < 3518437208883 then (some (([] : List (S35)) ++ l0)) else (none)) = some r := h
 clear h
 by_cases c2 : ([] : List (S35)).length + l0.length < 3518437208883
 ·
  rw [if_pos c2] at H
  have LMc2 := Aside0.mk c2
  clear c2
  obtain ⟨y314, hy314⟩ : ∃ y_ : List (S35), y_ = (([] : List (S35)) ++ l0) := ⟨_, rfl⟩
  replace H : (some y314) = some r := by first | (rw [hy314]; with_reducible exact H) | (have H2_ := (Option.bind_some _ _).symm.trans H; rw [hy314]; with_reducible exact H2_) | (have H2_ := (Option.bind_some _ _).symm.trans H; with_reducible exact H2_) | with_reducible exact H | (rw [hy314]; exact H) | exact H
  have Ny314 := Aside0.mk hy314
  clear hy314
  obtain rfl := Option.some.inj H
  go_enter Try.func94, Try.ntmps94
  go_wp2_with (first | ((with_reducible refine gate_builtin (b := .append) (xs := #[.const (.slice none 0 0), .tmp 3]) rfl ?_); at_builtin; refine Kd.R_append_rows k35 (w0 := w) w.heap.size rfl (.const (.slice none 0 0)) (.tmp 3) 23 35 (.agg #[(.int .i64 0), (.string ⟨#[]⟩), (.string ⟨#[]⟩)]) 40 rfl Try.underlying23 info35 rfl (by decide) (by omega) (.slice none 0 0) ([] : List (S35)) l0 _ _ _ (fun _ => True) (fun _ => False) rfl rfl ?aO ?aR (fun _ _ h => h) (fun _ h => h.elim) ?aF ?aB ?aS ?aL ?_; (case aR => repeat (first | exact HR0.out | (with_reducible refine Kd.C_alloc ?_ _) | (with_reducible refine Kd.C_drewN ?_ _) | (with_reducible refine Kd.C_drew ?_))); (case aB => exact (bz)); (case aF => exact (fun _ _ => trivial)); (case aO => exact ((Kd.R_nil _ _ _ _ (fun _ => True)))); (case aS => exact (below_size (bz))); (case aL => have := LMc2.out; omega); intro v315 w3 ho hb hg hat; rw [← Ny314.out] at ho; have n0_ := Aside0.mk (hb); have n1_ := Aside0.mk (ho); clear HB; have HB := n0_; have HO316 := n1_; clear n0_ n1_; clear ho hb hg hat))
  go_ret
  exact ⟨_, by first | rfl | (simp only [u8w, w64m]; rfl) | (simp [errW_none, errW_some] <;> rfl) | (simp [*, errW_none, errW_some] <;> rfl), by (with_reducible repeat (first | apply Kd.R_alloc | apply Kd.R_drewN | apply Kd.R_drew)); exact HO316.out, bz⟩
 ·
  rw [if_neg c2] at H
  exact absurd H (by simp)

/-! ### impl_Route_96: function 96 -/
def impl_Route_96.f (l0 : List (S35)) (a1 : Int) (a2 : Int) (l3 : List (S35)) : Option ((List (S35))) := if 0 ≤ (wrap64 ((wrap64 ((l0.length : Int) - a2)) + (l3.length : Int))) then (if (wrap64 ((wrap64 ((l0.length : Int) - a2)) + (l3.length : Int)) : Int).toNat ≤ 7036874417766 then ((some (([] : List (S35)) : List (S35))).bind fun y317 => (if 0 ≤ a1 then (if a1 ≤ (l0.length : Int) then ((some (l0.take (a1 : Int).toNat : List (S35))).bind fun y320 => (if y317.length + y320.length < 3518437208883 then ((some (y317 ++ y320 : List (S35))).bind fun y324 => (if y324.length + l3.length < 3518437208883 then ((some (y324 ++ l3 : List (S35))).bind fun y327 => (if 0 ≤ (wrap64 (a1 + a2)) then (if (wrap64 (a1 + a2)) ≤ (l0.length : Int) then ((some (l0.drop ((wrap64 (a1 + a2)) : Int).toNat : List (S35))).bind fun y330 => (if y327.length + y330.length < 3518437208883 then (some (y327 ++ y330)) else (none))) else (none)) else (none))) else (none))) else (none))) else (none)) else (none))) else (none)) else (none)
set_option maxHeartbeats 8000000 in
set_option maxRecDepth 100000 in
theorem impl_Route_96.calls (A0 : Option Addr) (c0 : Nat) (l0 : List (S35)) (a1 : Int) (a2 : Int) (A3 : Option Addr) (c3 : Nat) (l3 : List (S35)) (r : List (S35)) (w : World) (hr0 : Kd.C k35 w A0 l0.length l0) (hc0 : l0.length ≤ c0) (hr3 : Kd.C k35 w A3 l3.length l3) (hc3 : l3.length ≤ c3) (h : impl_Route_96.f l0 a1 a2 l3 = some r) :
  Calls Try.prog 96 #[.slice A0 l0.length c0, .int .i64 a1, .int .i64 a2, .slice A3 l3.length c3] w fun e w' => ∃ v0_ : Value, e = .returned (v0_) ∧ Kd.R k35 35 w' w.heap.size (fun _ => True) v0_ r ∧ Below w.heap.size w w' := by
 have HR0 := Aside0.mk hr0
 have HC0 := Aside0.mk hc0
 clear hr0 hc0
 have HR3 := Aside0.mk hr3
 have HC3 := Aside0.mk hc3
 clear hr3 hc3
 have HB := Aside0.mk (Below.refl w.heap.size w)
 have H : (if 0 ≤ (wrap64 ((wrap64 ((l0.length : Int) - a2)) + (l3.length : Int))) then (if (wrap64 ((wrap64 ((l0.length : Int) - a2)) + (l3.length : Int)) : Int).toNat ≤ 7036874417766 then ((some (([] : List (S35)) : List (S35))).bind fun y317 => (if 0 ≤ a1 then (if a1 ≤ (l0.length : Int) then ((some (l0.take (a1 : Int).toNat : List (S35))).bind fun y320 => (if y317.length + y320.length < 3518437208883 then ((some (y317 ++ y320 : List (S35))).bind fun y324 => (if y324.length + l3.length < 3518437208883 then ((some (y324 ++ l3 : List (S35))).bind fun y327 => (if 0 ≤ (wrap64 (a1 + a2)) then (if (wrap64 (a1 + a2)) ≤ (l0.length : Int) then ((some (l0.drop ((wrap64 (a1 + a2)) : Int).toNat : List (S35))).bind fun y330 => (if y327.length + y330.length < 3518437208883 then (some (y327 ++ y330)) else (none))) else (none)) else (none))) else (none))) else (none))) else (none)) else (none))) else (none)) else (none)) = some r := h
 clear h
 obtain ⟨ji5, hji5⟩ : ∃ j_ : Int, (wrap64 ((wrap64 ((l0.length : Int) - a2)) + (l3.length : Int))) = j_ := ⟨_, rfl⟩
 replace H : (if 0 ≤ (ji5) then (if (ji5 : Int).toNat ≤ 7036874417766 then ((some (([] : List (S35)) : List (S35))).bind fun y317 => (if 0 ≤ a1 then (if a1 ≤ (l0.length : Int) then ((some (l0.take (a1 : Int).toNat : List (S35))).bind fun y320 => (if y317.length + y320.length < 3518437208883 then ((some (y317 ++ y320 : List (S35))).bind fun y324 => (if y324.length + l3.length < 3518437208883 then ((some (y324 ++ l3 : List (S35))).bind fun y327 => (if 0 ≤ (wrap64 (a1 + a2)) then (if (wrap64 (a1 + a2)) ≤ (l0.length : Int) then ((some (l0.drop ((wrap64 (a1 + a2)) : Int).toNat : List (S35))).bind fun y330 => (if y327.length + y330.length < 3518437208883 then (some (y327 ++ y330)) else (none))) else (none)) else (none))) else (none))) else (none))) else (none)) else (none))) else (none)) else (none)) = some r := by first | (rw [hji5] at H; exact H) | (simp only [hji5] at H ⊢; exact H)
 have hji5w : (IntKind.i64.wrap ((wrap64 ((l0.length : Int) - a2)) + (l3.length : Int))) = ji5 := (i64_w _).trans hji5
 by_cases c6 : 0 ≤ (ji5)
 ·
  rw [if_pos c6] at H
  have c6b0 := eq_true c6
  have c6b1 : decide (0 ≤ (ji5)) = true := decide_eq_true c6
  clear c6
  by_cases c7 : (ji5 : Int).toNat ≤ 7036874417766
  ·
   rw [if_pos c7] at H
   have c7b0 := eq_true c7
   have c7b1 : decide ((ji5 : Int).toNat ≤ 7036874417766) = true := decide_eq_true c7
   clear c7
   obtain ⟨y317, hy317⟩ : ∃ y_ : List (S35), y_ = (([] : List (S35))) := ⟨_, rfl⟩
   replace H : (if 0 ≤ a1 then (if a1 ≤ (l0.length : Int) then ((some (l0.take (a1 : Int).toNat : List (S35))).bind fun y320 => (if y317.length + y320.length < 3518437208883 then ((some (y317 ++ y320 : List (S35))).bind fun y324 => (if y324.length + l3.length < 3518437208883 then ((some (y324 ++ l3 : List (S35))).bind fun y327 => (if 0 ≤ (wrap64 (a1 + a2)) then (if (wrap64 (a1 + a2)) ≤ (l0.length : Int) then ((some (l0.drop ((wrap64 (a1 + a2)) : Int).toNat : List (S35))).bind fun y330 => (if y327.length + y330.length < 3518437208883 then (some (y327 ++ y330)) else (none))) else (none)) else (none))) else (none))) else (none))) else (none)) else (none)) = some r := by first | (rw [hy317]; with_reducible exact H) | (have H2_ := (Option.bind_some _ _).symm.trans H; rw [hy317]; with_reducible exact H2_) | (have H2_ := (Option.bind_some _ _).symm.trans H; with_reducible exact H2_) | with_reducible exact H | (rw [hy317]; exact H) | exact H
   have Ny317 := Aside0.mk hy317
   clear hy317
   by_cases c8 : 0 ≤ a1
   ·
    rw [if_pos c8] at H
    have c8b0 := eq_true c8
    have c8b1 : decide (0 ≤ a1) = true := decide_eq_true c8
    clear c8
    by_cases c9 : a1 ≤ (l0.length : Int)
    ·
     rw [if_pos c9] at H
     have c9b0 := eq_true c9
     have c9b1 : decide (a1 ≤ (l0.length : Int)) = true := decide_eq_true c9
     clear c9
     obtain ⟨y320, hy320⟩ : ∃ y_ : List (S35), y_ = (l0.take (a1 : Int).toNat) := ⟨_, rfl⟩
     replace H : (if y317.length + y320.length < 3518437208883 then ((some (y317 ++ y320 : List (S35))).bind fun y324 => (if y324.length + l3.length < 3518437208883 then ((some (y324 ++ l3 : List (S35))).bind fun y327 => (if 0 ≤ (wrap64 (a1 + a2)) then (if (wrap64 (a1 + a2)) ≤ (l0.length : Int) then ((some (l0.drop ((wrap64 (a1 + a2)) : Int).toNat : List (S35))).bind fun y330 => (if y327.length + y330.length < 3518437208883 then (some (y327 ++ y330)) else (none))) else (none)) else (none))) else (none))) else (none)) = some r := by first | (rw [hy320]; with_reducible exact H) | (have H2_ := (Option.bind_some _ _).symm.trans H; rw [hy320]; with_reducible exact H2_) | (have H2_ := (Option.bind_some _ _).symm.trans H; with_reducible exact H2_) | with_reducible exact H | (rw [hy320]; exact H) | exact H
     have Ny320 := Aside0.mk hy320
     clear hy320
     by_cases c10 : y317.length + y320.length < 3518437208883
     ·
      rw [if_pos c10] at H
      have LMc10 := Aside0.mk c10
      clear c10
      obtain ⟨y324, hy324⟩ : ∃ y_ : List (S35), y_ = (y317 ++ y320) := ⟨_, rfl⟩
      replace H : (if y324.length + l3.length < 3518437208883 then ((some (y324 ++ l3 : List (S35))).bind fun y327 => (if 0 ≤ (wrap64 (a1 + a2)) then (if (wrap64 (a1 + a2)) ≤ (l0.length : Int) then ((some (l0.drop ((wrap64 (a1 + a2)) : Int).toNat : List (S35))).bind fun y330 => (if y327.length + y330.length < 3518437208883 then (some (y327 ++ y330)) else (none))) else (none)) else (none))) else (none)) = some r := by first | (rw [hy324]; with_reducible exact H) | (have H2_ := (Option.bind_some _ _).symm.trans H; rw [hy324]; with_reducible exact H2_) | (have H2_ := (Option.bind_some _ _).symm.trans H; with_reducible exact H2_) | with_reducible exact H | (rw [hy324]; exact H) | exact H
      have Ny324 := Aside0.mk hy324
      clear hy324
      by_cases c11 : y324.length + l3.length < 3518437208883
      ·
       rw [if_pos c11] at H
       have LMc11 := Aside0.mk c11
       clear c11
       obtain ⟨y327, hy327⟩ : ∃ y_ : List (S35), y_ = (y324 ++ l3) := ⟨_, rfl⟩
       replace H : (if 0 ≤ (wrap64 (a1 + a2)) then (if (wrap64 (a1 + a2)) ≤ (l0.length : Int) then ((some (l0.drop ((wrap64 (a1 + a2)) : Int).toNat : List (S35))).bind fun y330 => (if y327.length + y330.length < 3518437208883 then (some (y327 ++ y330)) else (none))) else (none)) else (none)) = some r := by first | (rw [hy327]; with_reducible exact H) | (have H2_ := (Option.bind_some _ _).symm.trans H; rw [hy327]; with_reducible exact H2_) | (have H2_ := (Option.bind_some _ _).symm.trans H; with_reducible exact H2_) | with_reducible exact H | (rw [hy327]; exact H) | exact H
       have Ny327 := Aside0.mk hy327
       clear hy327
       obtain ⟨ji12, hji12⟩ : ∃ j_ : Int, (wrap64 (a1 + a2)) = j_ := ⟨_, rfl⟩
       replace H : (if 0 ≤ (ji12) then (if (ji12) ≤ (l0.length : Int) then ((some (l0.drop ((ji12) : Int).toNat : List (S35))).bind fun y330 => (if y327.length + y330.length < 3518437208883 then (some (y327 ++ y330)) else (none))) else (none)) else (none)) = some r := by first | (rw [hji12] at H; exact H) | (simp only [hji12] at H ⊢; exact H)
       have hji12w : (IntKind.i64.wrap (a1 + a2)) = ji12 := (i64_w _).trans hji12
       by_cases c13 : 0 ≤ (ji12)
       ·
        rw [if_pos c13] at H
        have c13b0 := eq_true c13
        have c13b1 : decide (0 ≤ (ji12)) = true := decide_eq_true c13
        clear c13
        by_cases c14 : (ji12) ≤ (l0.length : Int)
        ·
         rw [if_pos c14] at H
         have c14b0 := eq_true c14
         have c14b1 : decide ((ji12) ≤ (l0.length : Int)) = true := decide_eq_true c14
         clear c14
         obtain ⟨y330, hy330⟩ : ∃ y_ : List (S35), y_ = (l0.drop ((ji12) : Int).toNat) := ⟨_, rfl⟩
         replace H : (if y327.length + y330.length < 3518437208883 then (some (y327 ++ y330)) else (none)) = some r := by first | (rw [hy330]; with_reducible exact H) | (have H2_ := (Option.bind_some _ _).symm.trans H; rw [hy330]; with_reducible exact H2_) | (have H2_ := (Option.bind_some _ _).symm.trans H; with_reducible exact H2_) | with_reducible exact H | (rw [hy330]; exact H) | exact H
         have Ny330 := Aside0.mk hy330
         clear hy330
         by_cases c15 : y327.length + y330.length < 3518437208883
         ·
          rw [if_pos c15] at H
          have LMc15 := Aside0.mk c15
          clear c15
          obtain ⟨y334, hy334⟩ : ∃ y_ : List (S35), y_ = (y327 ++ y330) := ⟨_, rfl⟩
          replace H : (some y334) = some r := by first | (rw [hy334]; with_reducible exact H) | (have H2_ := (Option.bind_some _ _).symm.trans H; rw [hy334]; with_reducible exact H2_) | (have H2_ := (Option.bind_some _ _).symm.trans H; with_reducible exact H2_) | with_reducible exact H | (rw [hy334]; exact H) | exact H
          have Ny334 := Aside0.mk hy334
          clear hy334
          obtain rfl := Option.some.inj H
          go_enter Try.func96, Try.ntmps96
          go_wp2_with (first | ((with_reducible refine gate_dst (N := 17) rfl ?_); refine Kd.R_make_cap k35 _ 35 rfl 23 _ _ rfl ji5 rfl (by first | rfl | exact congrArg (Value.int .i64) (Eq.symm (by assumption))) Try.underlying23 (.agg #[(.int .i64 0), (.string ⟨#[]⟩), (.string ⟨#[]⟩)]) 40 info35 (by decide) (by omega) (ok := fun _ => True) trivial (of_decide_eq_true (by first | (with_reducible assumption) | assumption)) (Nat.le_trans (Nat.mul_le_mul_right _ (of_decide_eq_true (by first | (with_reducible assumption) | assumption) : ji5.toNat ≤ 7036874417766)) (by omega)) (Nat.le_trans (of_decide_eq_true (by first | (with_reducible assumption) | assumption) : ji5.toNat ≤ 7036874417766) (by decide)) (Below.refl _ _) (Nat.le_refl _) ?_; intro v318 w16 ho17 hb hg_ hnew_; clear hg_ hnew_; (first | rw [← Ny317.out] at ho17 | (simp only [Int.reduceToNat] at ho17; rw [← Ny317.out] at ho17)); have n0_ := Aside0.mk (Kd.R_lower ho17 (below_size (bz))); have n1_ := Aside0.mk (below_step (bz) hb); clear HB; have HO319 := n0_; have HB := n1_; clear n0_ n1_; clear hb ho17; have q18 : (a1 : Int) ≤ ((l0.length : Int) : Int) := of_decide_eq_true (by first | (with_reducible assumption) | assumption); obtain ⟨i018, hi018, _, hsz18, _⟩ := info_parts info35; have hroom18 : l0.length ≤ c0 := HC0.out; have hC18 : Kd.C k35 _ A0 l0.length l0 := HR0.out; have hcut18 := cut_to (P := Try.prog) 23 35 .i64 Try.underlying23 hi018 A0 l0.length c0 a1 (of_decide_eq_true (by first | (with_reducible assumption) | assumption)) q18 hroom18; have hr18 := Kd.C_take (m := (a1 : Int).toNat) hC18 (by omega); have hy18 : y320.length = (a1 : Int).toNat := (by rw [Ny320.out, List.length_take]; omega); rw [← Ny320.out] at hr18; rw [← hy18] at hcut18; have HR323 := Aside0.mk hr18; have HC323 := Aside0.mk (show y320.length ≤ c0 from by omega); clear hr18 hC18 hroom18 hi018 hsz18; have KY18 := Aside0.mk hy18; clear hy18; replace q18 := eq_true q18) | ((with_reducible refine gate_builtin (b := .append) (xs := #[.tmp 18, .tmp 21]) rfl ?_); at_builtin; refine Kd.R_append_rows k35 (w0 := w) w.heap.size rfl (.tmp 18) (.tmp 21) 23 35 (.agg #[(.int .i64 0), (.string ⟨#[]⟩), (.string ⟨#[]⟩)]) 40 rfl Try.underlying23 info35 rfl (by decide) (by omega) v318 y317 y320 _ _ _ (fun _ => True) (fun _ => False) rfl rfl ?aO ?aR (fun _ _ h => h) (fun _ h => h.elim) ?aF ?aB ?aS ?aL ?_; (case aR => repeat (first | exact (Kd.C_below HR323.out HB.out) | (with_reducible refine Kd.C_alloc ?_ _) | (with_reducible refine Kd.C_drewN ?_ _) | (with_reducible refine Kd.C_drew ?_))); (case aB => exact (bz)); (case aF => exact (fun _ _ => trivial)); (case aO => exact (by (with_reducible repeat (first | apply Kd.R_alloc | apply Kd.R_drewN | apply Kd.R_drew)); exact HO319.out)); (case aS => exact (below_size (bz))); (case aL => have := LMc10.out; omega); intro v325 w19 ho hb hg hat; rw [← Ny324.out] at ho; have n0_ := Aside0.mk (hb); have n1_ := Aside0.mk (ho); clear HB; clear HO319; have HB := n0_; have HO326 := n1_; clear n0_ n1_; clear ho hb hg hat) | ((with_reducible refine gate_builtin (b := .append) (xs := #[.tmp 23, .tmp 24]) rfl ?_); at_builtin; refine Kd.R_append_rows k35 (w0 := w) w.heap.size rfl (.tmp 23) (.tmp 24) 23 35 (.agg #[(.int .i64 0), (.string ⟨#[]⟩), (.string ⟨#[]⟩)]) 40 rfl Try.underlying23 info35 rfl (by decide) (by omega) v325 y324 l3 _ _ _ (fun _ => True) (fun _ => False) rfl rfl ?aO ?aR (fun _ _ h => h) (fun _ h => h.elim) ?aF ?aB ?aS ?aL ?_; (case aR => repeat (first | exact (Kd.C_below HR3.out HB.out) | (with_reducible refine Kd.C_alloc ?_ _) | (with_reducible refine Kd.C_drewN ?_ _) | (with_reducible refine Kd.C_drew ?_))); (case aB => exact (bz)); (case aF => exact (fun _ _ => trivial)); (case aO => exact (by (with_reducible repeat (first | apply Kd.R_alloc | apply Kd.R_drewN | apply Kd.R_drew)); exact HO326.out)); (case aS => exact (below_size (bz))); (case aL => have := LMc11.out; omega); intro v328 w20 ho hb hg hat; rw [← Ny327.out] at ho; have n0_ := Aside0.mk (hb); have n1_ := Aside0.mk (ho); clear HB; clear HO326; have HB := n0_; have HO329 := n1_; clear n0_ n1_; clear ho hb hg hat; have q21 : ((ji12) : Int) ≤ ((l0.length : Int) : Int) := of_decide_eq_true (by first | (with_reducible assumption) | assumption); obtain ⟨i021, hi021, _, hsz21, _⟩ := info_parts info35; have hroom21 : l0.length ≤ c0 := HC0.out; have hC21 : Kd.C k35 _ A0 l0.length l0 := HR0.out; have q021 : (0 : Int) ≤ ((ji12) : Int) := of_decide_eq_true (by first | (with_reducible assumption) | assumption); have hcut21 := cut_from (P := Try.prog) 23 35 .i64 Try.underlying23 hi021 3 hsz21 A0 l0.length c0 (ji12) q021 q21; have hr21 := Kd.C_drop (m := ((ji12) : Int).toNat) (c := c0) hC21 (by omega) hroom21; obtain ⟨A21, hA21⟩ : ∃ A1, A1 = (if c0 = ((ji12) : Int).toNat then A0 else (A0 : Option Addr).map (·.add (((ji12) : Int).toNat * 3))) := ⟨_, rfl⟩; obtain ⟨c21, hc21⟩ : ∃ c1, c1 = c0 - ((ji12) : Int).toNat := ⟨_, rfl⟩; have hy21 : y330.length = l0.length - ((ji12) : Int).toNat := (by rw [Ny330.out, List.length_drop] <;> omega); rw [show (l0).drop ((ji12) : Int).toNat = y330 from Ny330.out.symm] at hr21; replace hr21 : Kd.C k35 _ A21 y330.length y330 := (by rw [hA21]; exact hr21); rw [← hy21, ← hA21, ← hc21] at hcut21; have HR333 := Aside0.mk hr21; have HC333 := Aside0.mk (show y330.length ≤ c21 from by rw [hy21, hc21]; exact Nat.sub_le_sub_right hroom21 _); clear hr21 hC21 hroom21 hi021 hsz21 hc21; have KY21 := Aside0.mk hy21; have KA21 := Aside0.mk hA21; clear hy21 hA21; replace q21 := eq_true q21) | ((with_reducible refine gate_builtin (b := .append) (xs := #[.tmp 26, .tmp 31]) rfl ?_); at_builtin; refine Kd.R_append_rows k35 (w0 := w) w.heap.size rfl (.tmp 26) (.tmp 31) 23 35 (.agg #[(.int .i64 0), (.string ⟨#[]⟩), (.string ⟨#[]⟩)]) 40 rfl Try.underlying23 info35 rfl (by decide) (by omega) v328 y327 y330 _ _ _ (fun _ => True) (fun _ => False) rfl rfl ?aO ?aR (fun _ _ h => h) (fun _ h => h.elim) ?aF ?aB ?aS ?aL ?_; (case aR => repeat (first | exact (Kd.C_below HR333.out HB.out) | (with_reducible refine Kd.C_alloc ?_ _) | (with_reducible refine Kd.C_drewN ?_ _) | (with_reducible refine Kd.C_drew ?_))); (case aB => exact (bz)); (case aF => exact (fun _ _ => trivial)); (case aO => exact (by (with_reducible repeat (first | apply Kd.R_alloc | apply Kd.R_drewN | apply Kd.R_drew)); exact HO329.out)); (case aS => exact (below_size (bz))); (case aL => have := LMc15.out; omega); intro v335 w22 ho hb hg hat; rw [← Ny334.out] at ho; have n0_ := Aside0.mk (hb); have n1_ := Aside0.mk (ho); clear HB; clear HO329; have HB := n0_; have HO336 := n1_; clear n0_ n1_; clear ho hb hg hat))
          go_ret
          exact ⟨_, by first | rfl | (simp only [u8w, w64m]; rfl) | (simp [errW_none, errW_some] <;> rfl) | (simp only [← hji5, ← hji12]; first | rfl | (simp [errW_none, errW_some] <;> rfl)) | (simp [*, errW_none, errW_some] <;> rfl), by (with_reducible repeat (first | apply Kd.R_alloc | apply Kd.R_drewN | apply Kd.R_drew)); exact HO336.out, bz⟩
         ·
          rw [if_neg c15] at H
          exact absurd H (by simp)
        ·
         rw [if_neg c14] at H
         exact absurd H (by simp)
       ·
        rw [if_neg c13] at H
        exact absurd H (by simp)
      ·
       rw [if_neg c11] at H
       exact absurd H (by simp)
     ·
      rw [if_neg c10] at H
      exact absurd H (by simp)
    ·
     rw [if_neg c9] at H
     exact absurd H (by simp)
   ·
    rw [if_neg c8] at H
    exact absurd H (by simp)
  ·
   rw [if_neg c7] at H
   exact absurd H (by simp)
 ·
  rw [if_neg c6] at H
  exact absurd H (by simp)

end Go.Proofs.Ytkjkokljgbpbbaa.PFnMergeRoutes
