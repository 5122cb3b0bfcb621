/- Go functions as plain Lean functions, and for each a proof that its call comes to what the function says; under the conditions that each theorem names. Written by a program of this session. -/
import Derived.Test.YtkjkokljgbpbbaaPFnGiveUpx0
import Derived.Test.YtkjkokljgbpbbaaPFnGiveUpx7
import Derived.Test.YtkjkokljgbpbbaaPFnGiveUpx10
namespace Go.Proofs.Ytkjkokljgbpbbaa.PFnGiveUp
open Go.RowKit Go.Proofs.YtkjkokljgbpbbaaW.PrintWords Go.Proofs.YtkjkokljgbpbbaaW.PrintLast Go.Proofs.YtkjkokljgbpbbaaW.PrintMore
attribute [local go_sem high] str_gtr str_leq str_geq
attribute [local go_sem] max2_int min2_int max_two min_two max_three min_three max_four min_four   -- for this text's walks alone
set_option linter.unusedVariables false
set_option linter.unusedSimpArgs false

/-! ### spec_l20Cmd: function 115 -/
def spec_l20Cmd.j0 : Nat → ByteArray → List Int → Int → Option (Int × ByteArray × Int × Int × Int)
 | 0, _, _, _ => none
 | k + 1, x5, x1000, x1001 => (spec_l20Rd_pick.f k x1000 x1001 8).bind fun bt283 => (if bt283.1 = 0 then (some (1, x5, 0, 0, bt283.2)) else (if bt283.1 = 1 then (some (3, x5, 0, 0, bt283.2)) else (if bt283.1 = 2 then ((spec_l20Rd_pick.f k x1000 bt283.2 5).bind fun bt285 => ((spec_l20Rd_pick.f k x1000 bt285.2 5).bind fun bt287 => (some (4, x5, bt287.1, wrap64 (bt285.1 - 1), bt287.2)))) else ((spec_l20Value.f k x1000 bt283.2 0).bind fun bt289 => (some (2, x5, Int.tmod bt289.1 1000, 0, bt289.2))))))
def spec_l20Cmd.f (k : Nat) (s0_0 : List Int) (s0_1 : Int) (a1 : Int) : Option (Int × ByteArray × Int × Int × Int) := (spec_l20Rd_odd.f k s0_0 s0_1 a1).bind fun bt265 => (if bt265.1 = true then ((some (([(⟨0, (⟨#[]⟩ : ByteArray), 0, 0⟩ : S39), (⟨1, (⟨#[]⟩ : ByteArray), 0, 0⟩ : S39), (⟨1, (⟨#[98]⟩ : ByteArray), 1, 0⟩ : S39), (⟨2, (⟨#[98]⟩ : ByteArray), 1000, 0⟩ : S39), (⟨2, (⟨#[98]⟩ : ByteArray), 0, 1⟩ : S39), (⟨4, (⟨#[98]⟩ : ByteArray), 0, (-2)⟩ : S39), (⟨4, (⟨#[98]⟩ : ByteArray), (-1), 0⟩ : S39), (⟨6, (⟨#[98]⟩ : ByteArray), 0, 0⟩ : S39), (⟨3, (⟨#[65]⟩ : ByteArray), 0, 0⟩ : S39), (⟨5, (⟨#[98, 49]⟩ : ByteArray), 0, 0⟩ : S39)] : List (S39)) : List (S39))).bind fun y267 => ((spec_l20Rd_pick.f k s0_0 bt265.2 10).bind fun bt270 => (if 0 ≤ bt270.1 then (if bt270.1 < (y267.length : Int) then (some ((rd_T39 y267 bt270.1).f0, (rd_T39 y267 bt270.1).f1, (rd_T39 y267 bt270.1).f2, (rd_T39 y267 bt270.1).f3, bt270.2)) else (none)) else (none)))) else ((spec_l20Key.f k s0_0 bt265.2 0).bind fun bt273 => ((spec_l20Rd_pick.f k s0_0 bt273.2 2).bind fun bt275 => (if bt275.1 = 0 then ((some (([(⟨#[98]⟩ : ByteArray), (⟨#[99]⟩ : ByteArray), (⟨#[100]⟩ : ByteArray), (⟨#[109]⟩ : ByteArray)] : List ByteArray) : List ByteArray)).bind fun y277 => ((spec_l20Rd_pick.f k s0_0 bt275.2 4).bind fun bt280 => (if 0 ≤ bt280.1 then (if bt280.1 < (y277.length : Int) then (spec_l20Cmd.j0 k (rdOf ByteArray.empty y277 bt280.1) s0_0 bt280.2) else (none)) else (none)))) else (spec_l20Cmd.j0 k bt273.1 s0_0 bt275.2)))))
theorem spec_l20Cmd.mono_l : ∀ k, (∀ y0 y1 y2, LeO (spec_l20Cmd.j0 k y0 y1 y2) (spec_l20Cmd.j0 (k + 1) y0 y1 y2))
 | 0 => fun _ _ _ r h => by simp [spec_l20Cmd.j0] at h
 | k + 1 => by
  have ih0 := spec_l20Cmd.mono_l k
  ·
   intro y0 y1 y2
   unfold spec_l20Cmd.j0
   repeat' first
   | (with_reducible exact ih0 _ _ _)
   | (with_reducible exact spec_l20Key.mono _ _ _ _)
   | (with_reducible exact spec_l20Rd_odd.mono _ _ _ _)
   | (with_reducible exact spec_l20Rd_pick.mono _ _ _ _)
   | (with_reducible exact spec_l20Value.mono _ _ _ _)
   | (with_reducible exact LeO.refl _)
   | (with_reducible exact LeO.none _)
   | (with_reducible refine LeO.ite ?_ ?_)
   | (with_reducible refine LeO.bind ?_ (fun _ => ?_))
   | exact ih0 _ _ _
   | exact spec_l20Key.mono _ _ _ _
   | exact spec_l20Rd_odd.mono _ _ _ _
   | exact spec_l20Rd_pick.mono _ _ _ _
   | exact spec_l20Value.mono _ _ _ _
   | exact LeO.none _
   | refine LeO.ite ?_ ?_
   | refine LeO.bind ?_ (fun _ => ?_)
theorem spec_l20Cmd.mono : ∀ a0 a1 a2 k, LeO (spec_l20Cmd.f k a0 a1 a2) (spec_l20Cmd.f (k + 1) a0 a1 a2) := by
 intro a0 a1 a2 k
 have ih0 := spec_l20Cmd.mono_l k
 unfold spec_l20Cmd.f
 repeat' first
   | (with_reducible exact ih0 _ _ _)
   | (with_reducible exact spec_l20Key.mono _ _ _ _)
   | (with_reducible exact spec_l20Rd_odd.mono _ _ _ _)
   | (with_reducible exact spec_l20Rd_pick.mono _ _ _ _)
   | (with_reducible exact spec_l20Value.mono _ _ _ _)
   | (with_reducible exact LeO.refl _)
   | (with_reducible exact LeO.none _)
   | (with_reducible refine LeO.ite ?_ ?_)
   | (with_reducible refine LeO.bind ?_ (fun _ => ?_))
   | exact ih0 _ _ _
   | exact spec_l20Key.mono _ _ _ _
   | exact spec_l20Rd_odd.mono _ _ _ _
   | exact spec_l20Rd_pick.mono _ _ _ _
   | exact spec_l20Value.mono _ _ _ _
   | exact LeO.none _
   | refine LeO.ite ?_ ?_
   | refine LeO.bind ?_ (fun _ => ?_)
set_option maxHeartbeats 8000000 in
set_option maxRecDepth 100000 in
theorem spec_l20Cmd.calls (k : Nat) (g : Nat) (s0_0 : List Int) (s0_1 : Int) (a1 : Int) (r1 : Int) (r2 : ByteArray) (r3 : Int) (r4 : Int) (r5 : Int) (w0 w : World) (hI : IsS131 w0 w g s0_0 s0_1) (hB : Below w0.heap.size w0 w) (h : spec_l20Cmd.f k s0_0 s0_1 a1 = some (r1, r2, r3, r4, r5)) :
  Calls Try.prog 115 #[.pointer (some ⟨g, 0, none⟩), .int .i64 a1] w fun e w' => e = .returned (.agg #[.int .i64 r1, .string r2, .int .i64 r3, .int .i64 r4]) ∧ IsS131 w0 w' g s0_0 r5 ∧ Below w0.heap.size w0 w' ∧ KeepBut w w' g none := by
 have hu39 := Try.underlying39
 have HI0 := Aside0.mk hI
 have HK := Aside0.mk (KeepBut.refl w g none)
 have HL := Aside0.mk hB.size
 clear hI
 have HW0 := Aside0.mk hB.size
 have HB := Aside0.mk hB
 clear hB
 have H : ((spec_l20Rd_odd.f k s0_0 s0_1 a1).bind fun bt265 => (if bt265.1 = true then ((some (([(⟨0, (⟨#[]⟩ : ByteArray), 0, 0⟩ : S39), (⟨1, (⟨#[]⟩ : ByteArray), 0, 0⟩ : S39), (⟨1, (⟨#[98]⟩ : ByteArray), 1, 0⟩ : S39), (⟨2, (⟨#[98]⟩ : ByteArray), 1000, 0⟩ : S39), (⟨2, (⟨#[98]⟩ : ByteArray), 0, 1⟩ : S39), (⟨4, (⟨#[98]⟩ : ByteArray), 0, (-2)⟩ : S39), (⟨4, (⟨#[98]⟩ : ByteArray), (-1), 0⟩ : S39), (⟨6, (⟨#[98]⟩ : ByteArray), 0, 0⟩ : S39), (⟨3, (⟨#[65]⟩ : ByteArray), 0, 0⟩ : S39), (⟨5, (⟨#[98, 49]⟩ : ByteArray), 0, 0⟩ : S39)] : List (S39)) : List (S39))).bind fun y267 => ((spec_l20Rd_pick.f k s0_0 bt265.2 10).bind fun bt270 => (if 0 ≤ bt270.1 then (if bt270.1 < (y267.length : Int) then (some ((rd_T39 y267 bt270.1).f0, (rd_T39 y267 bt270.1).f1, (rd_T39 y267 bt270.1).f2, (rd_T39 y267 bt270.1).f3, bt270.2)) else (none)) else (none)))) else ((spec_l20Key.f k s0_0 bt265.2 0).bind fun bt273 => ((spec_l20Rd_pick.f k s0_0 bt273.2 2).bind fun bt275 => (if bt275.1 = 0 then ((some (([(⟨#[98]⟩ : ByteArray), (⟨#[99]⟩ : ByteArray), (⟨#[100]⟩ : ByteArray), (⟨#[109]⟩ : ByteArray)] : List ByteArray) : List ByteArray)).bind fun y277 => ((spec_l20Rd_pick.f k s0_0 bt275.2 4).bind fun bt280 => (if 0 ≤ bt280.1 then (if bt280.1 < (y277.length : Int) then (spec_l20Cmd.j0 k (rdOf ByteArray.empty y277 bt280.1) s0_0 bt280.2) else (none)) else (none)))) else (spec_l20Cmd.j0 k bt273.1 s0_0 bt275.2)))))) = some (r1, r2, r3, r4, r5) := h
 clear h
 replace H := Option.bind_eq_some_iff.mp H
 obtain ⟨⟨t265, t266⟩, A30, H⟩ := H
 try dsimp only at H
 have A3 := Aside0.mk A30
 clear A30
 by_cases c4 : t265 = true
 ·
  subst c4
  rw [if_pos rfl] at H
  obtain ⟨y267, hy267⟩ : ∃ y_ : List (S39), y_ = (([(⟨0, (⟨#[]⟩ : ByteArray), 0, 0⟩ : S39), (⟨1, (⟨#[]⟩ : ByteArray), 0, 0⟩ : S39), (⟨1, (⟨#[98]⟩ : ByteArray), 1, 0⟩ : S39), (⟨2, (⟨#[98]⟩ : ByteArray), 1000, 0⟩ : S39), (⟨2, (⟨#[98]⟩ : ByteArray), 0, 1⟩ : S39), (⟨4, (⟨#[98]⟩ : ByteArray), 0, (-2)⟩ : S39), (⟨4, (⟨#[98]⟩ : ByteArray), (-1), 0⟩ : S39), (⟨6, (⟨#[98]⟩ : ByteArray), 0, 0⟩ : S39), (⟨3, (⟨#[65]⟩ : ByteArray), 0, 0⟩ : S39), (⟨5, (⟨#[98, 49]⟩ : ByteArray), 0, 0⟩ : S39)] : List (S39))) := ⟨_, rfl⟩
  replace H : ((spec_l20Rd_pick.f k s0_0 t266 10).bind fun bt270 => (if 0 ≤ bt270.1 then (if bt270.1 < (y267.length : Int) then (some ((rd_T39 y267 bt270.1).f0, (rd_T39 y267 bt270.1).f1, (rd_T39 y267 bt270.1).f2, (rd_T39 y267 bt270.1).f3, bt270.2)) else (none)) else (none))) = some (r1, r2, r3, r4, r5) := by first | (rw [hy267]; with_reducible exact H) | (have H2_ := (Option.bind_some _ _).symm.trans H; rw [hy267]; with_reducible exact H2_) | (have H2_ := (Option.bind_some _ _).symm.trans H; with_reducible exact H2_) | with_reducible exact H | (rw [hy267]; exact H) | exact H
  have Ny267 := Aside0.mk hy267
  clear hy267
  replace H := Option.bind_eq_some_iff.mp H
  obtain ⟨⟨t270, t271⟩, A50, H⟩ := H
  try dsimp only at H
  have A5 := Aside0.mk A50
  clear A50
  by_cases c6 : 0 ≤ t270
  ·
   rw [if_pos c6] at H
   have c6b0 : decide (0 ≤ t270) = true := decide_eq_true c6
   clear c6
   by_cases c7 : t270 < (y267.length : Int)
   ·
    rw [if_pos c7] at H
    have c7b0 : decide (t270 < (y267.length : Int)) = true := decide_eq_true c7
    clear c7
    simp only [Option.some.injEq, Prod.mk.injEq] at H
    obtain ⟨rfl, rfl, rfl, rfl, rfl⟩ := H
    go_enter Try.func115, Try.ntmps115
    go_wp2_with (first | ((with_reducible refine gate_dst (N := 4) rfl ?_); refine box_event ?hg (N := 4) ?hd (cs := #[.int .i64 0, .string (⟨#[]⟩ : ByteArray), .int .i64 0, .int .i64 0]) (t := 39) ?hr ?_; (case hd => rfl); (case hg => rfl); (case hr => first | (go_simp; done) | (go_simp; rfl)); intro gb264 hg w8 hbox hb; have n0_ := Aside0.mk (IsS131.below (IsS131.run HI0) hb); have n1_ := Aside0.mk (KeepBut.trans (kk) (KeepBut.of_below hb g none) (.inl rfl)); have n2_ := Aside0.mk (below_step (IsS131.bz HI0) hb); have n3_ := Aside0.mk (hbox); have n4_ := Aside0.mk ((by rw [hg]; exact (keep_size (w := w) (g := g) (row := none) (kk)) : w.heap.size ≤ gb264)); have n5_ := Aside0.mk ((Nat.le_trans HW0.out (by rw [hg]; exact (keep_size (w := w) (g := g) (row := none) (kk)) : w.heap.size ≤ gb264) : w0.heap.size ≤ gb264)); have n6_ := Aside0.mk ((by rw [hg]; exact Nat.ne_of_lt (IsS131.lt (show IsS131 w0 _ g s0_0 s0_1 from IsS131.run HI0)) : g ≠ gb264)); have n7_ := Aside0.mk ((by rw [hg]; exact Nat.ne_of_gt (IsS131.lt (show IsS131 w0 _ g s0_0 s0_1 from IsS131.run HI0)) : gb264 ≠ g)); clear HI0 HK HB; have HI0 := n0_; have HK := n1_; have HB := n2_; have BK264 := n3_; have GW264 := n4_; have GE264 := n5_; have NB0_264 := n6_; have NB264_0 := n7_; clear n0_ n1_ n2_ n3_ n4_ n5_ n6_ n7_; clear hb hbox hg) | ((with_reducible refine gate_callee (f := 126) rfl ?_); refine goesL_ (some 8) rfl rfl Try.func126 (by kernel_rfl) rfl #[.pointer (some ⟨g, 0, none⟩), .int .i64 a1] rfl ga ?_; (with_reducible refine (spec_l20Rd_odd.calls k g s0_0 s0_1 a1 true t266 w0 _ ?side1 ?side2 A3.out).mono ?_); (case side1 => exact IsS131.run HI0); (case side2 => repeat (first | (with_reducible first | exact HB.out | apply below_alloc | apply pw_below_drewN | apply below_drew1 | refine below_set ?_ (IsS131.ge HI0.out) | refine below_set ?_ GE264.out) | exact HB.out)); rintro e w9 ⟨rfl, hi, hb, hk⟩; refine ⟨_, rfl, ?_⟩; have n0_ := Aside0.mk (KeepBut.blk hk (g' := gb264) (o := .cells #[.int .i64 0, .string (⟨#[]⟩ : ByteArray), .int .i64 0, .int .i64 0] 39 (0, 0)) (bq BK264) NB264_0.out (by simp)); have n1_ := Aside0.mk (KeepBut.trans (by repeat (first | (with_reducible first | exact HK.out | apply KeepBut.set_ | apply keep_drewN | apply keep_drew | apply keep_alloc | refine keep_far ?_ GW264.out _) | exact HK.out)) hk (.inl rfl)); have n2_ := Aside0.mk (hb); have n3_ := Aside0.mk (hi); clear BK264 HK HB HI0; have BK264 := n0_; have HK := n1_; have HB := n2_; have HI0 := n3_; clear n0_ n1_ n2_ n3_; (try clear hb); (try clear hb2); (try clear hk); (try clear hi)) | ((with_reducible refine gate_dst (N := 19) rfl ?_); refine Kd.R_lit k39 _ 39 ?hg (N := 19) ?hd (xs := ([(⟨0, (⟨#[]⟩ : ByteArray), 0, 0⟩ : S39), (⟨1, (⟨#[]⟩ : ByteArray), 0, 0⟩ : S39), (⟨1, (⟨#[98]⟩ : ByteArray), 1, 0⟩ : S39), (⟨2, (⟨#[98]⟩ : ByteArray), 1000, 0⟩ : S39), (⟨2, (⟨#[98]⟩ : ByteArray), 0, 1⟩ : S39), (⟨4, (⟨#[98]⟩ : ByteArray), 0, (-2)⟩ : S39), (⟨4, (⟨#[98]⟩ : ByteArray), (-1), 0⟩ : S39), (⟨6, (⟨#[98]⟩ : ByteArray), 0, 0⟩ : S39), (⟨3, (⟨#[65]⟩ : ByteArray), 0, 0⟩ : S39), (⟨5, (⟨#[98, 49]⟩ : ByteArray), 0, 0⟩ : S39)] : List (S39))) (inner := [.int .i64 0, .string (⟨#[]⟩ : ByteArray), .int .i64 0, .int .i64 0, .int .i64 1, .string (⟨#[]⟩ : ByteArray), .int .i64 0, .int .i64 0, .int .i64 1, .string (⟨#[98]⟩ : ByteArray), .int .i64 1, .int .i64 0, .int .i64 2, .string (⟨#[98]⟩ : ByteArray), .int .i64 1000, .int .i64 0, .int .i64 2, .string (⟨#[98]⟩ : ByteArray), .int .i64 0, .int .i64 1, .int .i64 4, .string (⟨#[98]⟩ : ByteArray), .int .i64 0, .int .i64 (-2), .int .i64 4, .string (⟨#[98]⟩ : ByteArray), .int .i64 (-1), .int .i64 0, .int .i64 6, .string (⟨#[98]⟩ : ByteArray), .int .i64 0, .int .i64 0, .int .i64 3, .string (⟨#[65]⟩ : ByteArray), .int .i64 0, .int .i64 0, .int .i64 5, .string (⟨#[98, 49]⟩ : ByteArray), .int .i64 0, .int .i64 0]) (ok := fun _ => True) (okp := fun _ => True) ?hr ?hp (fun _ hk => hk) trivial (Below.refl _ _) (Nat.le_refl _) (by simp) ?_; (case hd => rfl); (case hg => rfl); (case hr => first | (go_simp; done) | (go_simp; rfl)); (case hp => exact (Reps.c4 (show Kd.M k39 _ _ _ (⟨0, (⟨#[]⟩ : ByteArray), 0, 0⟩ : S39) [.int .i64 0, .string (⟨#[]⟩ : ByteArray), .int .i64 0, .int .i64 0] from (k39_mkM _ _ _ (⟨0, (⟨#[]⟩ : ByteArray), 0, 0⟩ : S39) )) (Reps.c4 (show Kd.M k39 _ _ _ (⟨1, (⟨#[]⟩ : ByteArray), 0, 0⟩ : S39) [.int .i64 1, .string (⟨#[]⟩ : ByteArray), .int .i64 0, .int .i64 0] from (k39_mkM _ _ _ (⟨1, (⟨#[]⟩ : ByteArray), 0, 0⟩ : S39) )) (Reps.c4 (show Kd.M k39 _ _ _ (⟨1, (⟨#[98]⟩ : ByteArray), 1, 0⟩ : S39) [.int .i64 1, .string (⟨#[98]⟩ : ByteArray), .int .i64 1, .int .i64 0] from (k39_mkM _ _ _ (⟨1, (⟨#[98]⟩ : ByteArray), 1, 0⟩ : S39) )) (Reps.c4 (show Kd.M k39 _ _ _ (⟨2, (⟨#[98]⟩ : ByteArray), 1000, 0⟩ : S39) [.int .i64 2, .string (⟨#[98]⟩ : ByteArray), .int .i64 1000, .int .i64 0] from (k39_mkM _ _ _ (⟨2, (⟨#[98]⟩ : ByteArray), 1000, 0⟩ : S39) )) (Reps.c4 (show Kd.M k39 _ _ _ (⟨2, (⟨#[98]⟩ : ByteArray), 0, 1⟩ : S39) [.int .i64 2, .string (⟨#[98]⟩ : ByteArray), .int .i64 0, .int .i64 1] from (k39_mkM _ _ _ (⟨2, (⟨#[98]⟩ : ByteArray), 0, 1⟩ : S39) )) (Reps.c4 (show Kd.M k39 _ _ _ (⟨4, (⟨#[98]⟩ : ByteArray), 0, (-2)⟩ : S39) [.int .i64 4, .string (⟨#[98]⟩ : ByteArray), .int .i64 0, .int .i64 (-2)] from (k39_mkM _ _ _ (⟨4, (⟨#[98]⟩ : ByteArray), 0, (-2)⟩ : S39) )) (Reps.c4 (show Kd.M k39 _ _ _ (⟨4, (⟨#[98]⟩ : ByteArray), (-1), 0⟩ : S39) [.int .i64 4, .string (⟨#[98]⟩ : ByteArray), .int .i64 (-1), .int .i64 0] from (k39_mkM _ _ _ (⟨4, (⟨#[98]⟩ : ByteArray), (-1), 0⟩ : S39) )) (Reps.c4 (show Kd.M k39 _ _ _ (⟨6, (⟨#[98]⟩ : ByteArray), 0, 0⟩ : S39) [.int .i64 6, .string (⟨#[98]⟩ : ByteArray), .int .i64 0, .int .i64 0] from (k39_mkM _ _ _ (⟨6, (⟨#[98]⟩ : ByteArray), 0, 0⟩ : S39) )) (Reps.c4 (show Kd.M k39 _ _ _ (⟨3, (⟨#[65]⟩ : ByteArray), 0, 0⟩ : S39) [.int .i64 3, .string (⟨#[65]⟩ : ByteArray), .int .i64 0, .int .i64 0] from (k39_mkM _ _ _ (⟨3, (⟨#[65]⟩ : ByteArray), 0, 0⟩ : S39) )) (Reps.c4 (show Kd.M k39 _ _ _ (⟨5, (⟨#[98, 49]⟩ : ByteArray), 0, 0⟩ : S39) [.int .i64 5, .string (⟨#[98, 49]⟩ : ByteArray), .int .i64 0, .int .i64 0] from (k39_mkM _ _ _ (⟨5, (⟨#[98, 49]⟩ : ByteArray), 0, 0⟩ : S39) )) (Reps.none _ _)))))))))))); intro v268 w10 ho11 hb hg_ hnew_; clear hg_ hnew_; (first | rw [← Ny267.out] at ho11 | (simp only [Int.reduceToNat] at ho11; rw [← Ny267.out] at ho11)); have n0_ := Aside0.mk (Kd.R_lower (Kd.R_newB ho11 (g := gb264) (o := .cells #[.int .i64 0, .string (⟨#[]⟩ : ByteArray), .int .i64 0, .int .i64 0] 39 (0, 0)) (bq BK264)) (keep_size (w := w) (g := g) (row := none) (by repeat (first | (with_reducible first | exact HK.out | apply KeepBut.set_ | apply keep_drewN | apply keep_drew | apply keep_alloc | refine keep_far ?_ GW264.out _) | exact HK.out)))); have n1_ := Aside0.mk (IsS131.below (IsS131.run HI0) hb); have n2_ := bkb BK264 hb; have n3_ := Aside0.mk (KeepBut.trans (by repeat (first | (with_reducible first | exact HK.out | apply KeepBut.set_ | apply keep_drewN | apply keep_drew | apply keep_alloc | refine keep_far ?_ GW264.out _) | exact HK.out)) (KeepBut.of_below hb g none) (.inl rfl)); have n4_ := Aside0.mk (below_step (IsS131.bz HI0) hb); clear HI0 BK264 HK HB; have HO269 := n0_; have HI0 := n1_; have BK264 := n2_; have HK := n3_; have HB := n4_; clear n0_ n1_ n2_ n3_ n4_; clear hb ho11) | ((with_reducible refine gate_callee (f := 72) rfl ?_); refine goesL_ (some 21) rfl rfl Try.func72 (by kernel_rfl) rfl #[.pointer (some ⟨g, 0, none⟩), .int .i64 10] rfl ga ?_; (with_reducible refine (spec_l20Rd_pick.calls k g s0_0 t266 10 t270 t271 w0 _ ?side1 ?side2 A5.out).mono ?_); (case side1 => exact IsS131.run HI0); (case side2 => repeat (first | (with_reducible first | exact HB.out | apply below_alloc | apply pw_below_drewN | apply below_drew1 | refine below_set ?_ (IsS131.ge HI0.out) | refine below_set ?_ GE264.out) | exact HB.out)); rintro e w12 ⟨rfl, hi, hb, hk⟩; refine ⟨_, rfl, ?_⟩; have n0_ := Aside0.mk (KeepBut.blk hk (g' := gb264) (o := .cells #[.int .i64 0, .string (⟨#[]⟩ : ByteArray), .int .i64 0, .int .i64 0] 39 (0, 0)) (bq BK264) NB264_0.out (by simp)); have n1_ := Aside0.mk (Kd.R_mono (Kd.R_keep (IsS131.apart (show IsS131 w0 _ g s0_0 t266 from IsS131.run HI0) (by (with_reducible repeat (first | apply Kd.R_alloc | apply Kd.R_drewN | apply Kd.R_drew)); exact HO269.out) (by decide)) hk (fun _ h => h.2)) (fun _ h => h.1)); have n2_ := Aside0.mk (KeepBut.trans (by repeat (first | (with_reducible first | exact HK.out | apply KeepBut.set_ | apply keep_drewN | apply keep_drew | apply keep_alloc | refine keep_far ?_ GW264.out _) | exact HK.out)) hk (.inl rfl)); have n3_ := Aside0.mk (hb); have n4_ := Aside0.mk (hi); clear BK264 HO269 HK HB HI0; have BK264 := n0_; have HO269 := n1_; have HK := n2_; have HB := n3_; have HI0 := n4_; clear n0_ n1_ n2_ n3_ n4_; (try clear hb); (try clear hb2); (try clear hk); (try clear hi); obtain ⟨Ao13, co13, eo13⟩ := Kd.R_slice HO269.out; subst eo13; have p272 : 0 ≤ (t270 : Int) := of_decide_eq_true (by first | (with_reducible assumption) | assumption); have q272 : t270 < (y267.length : Int) := of_decide_eq_true (by first | (with_reducible assumption) | assumption); obtain ⟨ad272, e272, hx272_0, hx272_1, hx272_2, hx272_3⟩ := at_T39 (Kd.R_reads' HO269.out).2.2 t270 p272 q272; cases e272; replace p272 := eq_true p272; replace q272 := eq_true q272; have hnb14 := NB264_0.out; have hnc14 := NB0_264.out; obtain ⟨hcz15_0, hcz15_1, hcz15_2, hcz15_3⟩ := cl4 BK264; obtain ⟨hfz15_0, hfz15_1, hfz15_2, hfz15_3⟩ := fz4 BK264))
    refine bodyPost_ret (results_cell_row rfl _ _ gb264 39 #[.int .i64 ((rd_T39 y267 t270).f0), .string ((rd_T39 y267 t270).f1), .int .i64 ((rd_T39 y267 t270).f2), .int .i64 ((rd_T39 y267 t270).f3)] (0, 0) _ rfl (by (with_reducible repeat (first | refine blk_drewN ?_ _ | refine blk_drew ?_ | refine blk_alloc ?_ _)); refine blk_put (cs := #[.int .i64 ((rd_T39 y267 t270).f0), .string ((rd_T39 y267 t270).f1), .int .i64 ((rd_T39 y267 t270).f2), .int .i64 0]) ?_ 3 _ rfl; (with_reducible repeat (first | refine blk_drewN ?_ _ | refine blk_drew ?_ | refine blk_alloc ?_ _)); refine blk_put (cs := #[.int .i64 ((rd_T39 y267 t270).f0), .string ((rd_T39 y267 t270).f1), .int .i64 0, .int .i64 0]) ?_ 2 _ rfl; (with_reducible repeat (first | refine blk_drewN ?_ _ | refine blk_drew ?_ | refine blk_alloc ?_ _)); refine blk_put (cs := #[.int .i64 ((rd_T39 y267 t270).f0), .string (⟨#[]⟩ : ByteArray), .int .i64 0, .int .i64 0]) ?_ 1 _ rfl; (with_reducible repeat (first | refine blk_drewN ?_ _ | refine blk_drew ?_ | refine blk_alloc ?_ _)); refine blk_put (cs := #[.int .i64 0, .string (⟨#[]⟩ : ByteArray), .int .i64 0, .int .i64 0]) ?_ 0 _ rfl; (with_reducible repeat (first | refine blk_drewN ?_ _ | refine blk_drew ?_ | refine blk_alloc ?_ _)); exact BK264.out) Try.underlying39 rfl (by kernel_rfl)) rfl ?_
    exact ⟨by first | rfl | (simp only [u8w, w64m]; rfl) | (simp [errW_none, errW_some] <;> rfl) | (simp [*, errW_none, errW_some] <;> rfl), IsS131.run HI0, IsS131.bz HI0, by repeat (first | (with_reducible first | exact HK.out | apply KeepBut.set_ | apply keep_drewN | apply keep_drew | apply keep_alloc | refine keep_far ?_ GW264.out _) | exact HK.out)⟩
   ·
    rw [if_neg c7] at H
    exact absurd H (by simp)
  ·
   rw [if_neg c6] at H
   exact absurd H (by simp)
 ·
  replace c4 := Bool.eq_false_iff.mpr c4
  subst c4
  rw [if_neg (show ¬ (false = true) by decide)] at H
  replace H := Option.bind_eq_some_iff.mp H
  obtain ⟨⟨t273, t274⟩, A160, H⟩ := H
  try dsimp only at H
  have A16 := Aside0.mk A160
  clear A160
  replace H := Option.bind_eq_some_iff.mp H
  obtain ⟨⟨t275, t276⟩, A170, H⟩ := H
  try dsimp only at H
  have A17 := Aside0.mk A170
  clear A170
  have HC18 := Aside0.mk H
  clear H
  go_enter Try.func115, Try.ntmps115
  go_upto_if 28 with (first | ((with_reducible refine gate_dst (N := 4) rfl ?_); refine box_event ?hg (N := 4) ?hd (cs := #[.int .i64 0, .string (⟨#[]⟩ : ByteArray), .int .i64 0, .int .i64 0]) (t := 39) ?hr ?_; (case hd => rfl); (case hg => rfl); (case hr => first | (go_simp; done) | (go_simp; rfl)); intro gb264 hg w19 hbox hb; have n0_ := Aside0.mk (IsS131.below (IsS131.run HI0) hb); have n1_ := Aside0.mk (KeepBut.trans (kk) (KeepBut.of_below hb g none) (.inl rfl)); have n2_ := Aside0.mk (below_step (IsS131.bz HI0) hb); have n3_ := Aside0.mk (hbox); have n4_ := Aside0.mk ((by rw [hg]; exact (keep_size (w := w) (g := g) (row := none) (kk)) : w.heap.size ≤ gb264)); have n5_ := Aside0.mk ((Nat.le_trans HW0.out (by rw [hg]; exact (keep_size (w := w) (g := g) (row := none) (kk)) : w.heap.size ≤ gb264) : w0.heap.size ≤ gb264)); have n6_ := Aside0.mk ((by rw [hg]; exact Nat.ne_of_lt (IsS131.lt (show IsS131 w0 _ g s0_0 s0_1 from IsS131.run HI0)) : g ≠ gb264)); have n7_ := Aside0.mk ((by rw [hg]; exact Nat.ne_of_gt (IsS131.lt (show IsS131 w0 _ g s0_0 s0_1 from IsS131.run HI0)) : gb264 ≠ g)); clear HI0 HK HB; have HI0 := n0_; have HK := n1_; have HB := n2_; have BK264 := n3_; have GW264 := n4_; have GE264 := n5_; have NB0_264 := n6_; have NB264_0 := n7_; clear n0_ n1_ n2_ n3_ n4_ n5_ n6_ n7_; clear hb hbox hg) | ((with_reducible refine gate_callee (f := 126) rfl ?_); refine goesL_ (some 8) rfl rfl Try.func126 (by kernel_rfl) rfl #[.pointer (some ⟨g, 0, none⟩), .int .i64 a1] rfl ga ?_; (with_reducible refine (spec_l20Rd_odd.calls k g s0_0 s0_1 a1 false t266 w0 _ ?side1 ?side2 A3.out).mono ?_); (case side1 => exact IsS131.run HI0); (case side2 => repeat (first | (with_reducible first | exact HB.out | apply below_alloc | apply pw_below_drewN | apply below_drew1 | refine below_set ?_ (IsS131.ge HI0.out) | refine below_set ?_ GE264.out) | exact HB.out)); rintro e w20 ⟨rfl, hi, hb, hk⟩; refine ⟨_, rfl, ?_⟩; have n0_ := Aside0.mk (KeepBut.blk hk (g' := gb264) (o := .cells #[.int .i64 0, .string (⟨#[]⟩ : ByteArray), .int .i64 0, .int .i64 0] 39 (0, 0)) (bq BK264) NB264_0.out (by simp)); have n1_ := Aside0.mk (KeepBut.trans (by repeat (first | (with_reducible first | exact HK.out | apply KeepBut.set_ | apply keep_drewN | apply keep_drew | apply keep_alloc | refine keep_far ?_ GW264.out _) | exact HK.out)) hk (.inl rfl)); have n2_ := Aside0.mk (hb); have n3_ := Aside0.mk (hi); clear BK264 HK HB HI0; have BK264 := n0_; have HK := n1_; have HB := n2_; have HI0 := n3_; clear n0_ n1_ n2_ n3_; (try clear hb); (try clear hb2); (try clear hk); (try clear hi)) | ((with_reducible refine gate_callee (f := 71) rfl ?_); refine goesL_ (some 25) rfl rfl Try.func71 (by kernel_rfl) rfl #[.pointer (some ⟨g, 0, none⟩), .int .i64 0] rfl ga ?_; (with_reducible refine (spec_l20Key.calls k g s0_0 t266 0 t273 t274 w0 _ ?side1 ?side2 A16.out).mono ?_); (case side1 => exact IsS131.run HI0); (case side2 => repeat (first | (with_reducible first | exact HB.out | apply below_alloc | apply pw_below_drewN | apply below_drew1 | refine below_set ?_ (IsS131.ge HI0.out) | refine below_set ?_ GE264.out) | exact HB.out)); rintro e w21 ⟨rfl, hi, hb, hk⟩; refine ⟨_, rfl, ?_⟩; have n0_ := Aside0.mk (KeepBut.blk hk (g' := gb264) (o := .cells #[.int .i64 0, .string (⟨#[]⟩ : ByteArray), .int .i64 0, .int .i64 0] 39 (0, 0)) (bq BK264) NB264_0.out (by simp)); have n1_ := Aside0.mk (KeepBut.trans (by repeat (first | (with_reducible first | exact HK.out | apply KeepBut.set_ | apply keep_drewN | apply keep_drew | apply keep_alloc | refine keep_far ?_ GW264.out _) | exact HK.out)) hk (.inl rfl)); have n2_ := Aside0.mk (hb); have n3_ := Aside0.mk (hi); clear BK264 HK HB HI0; have BK264 := n0_; have HK := n1_; have HB := n2_; have HI0 := n3_; clear n0_ n1_ n2_ n3_; (try clear hb); (try clear hb2); (try clear hk); (try clear hi)) | ((with_reducible refine gate_callee (f := 72) rfl ?_); refine goesL_ (some 27) rfl rfl Try.func72 (by kernel_rfl) rfl #[.pointer (some ⟨g, 0, none⟩), .int .i64 2] rfl ga ?_; (with_reducible refine (spec_l20Rd_pick.calls k g s0_0 t274 2 t275 t276 w0 _ ?side1 ?side2 A17.out).mono ?_); (case side1 => exact IsS131.run HI0); (case side2 => repeat (first | (with_reducible first | exact HB.out | apply below_alloc | apply pw_below_drewN | apply below_drew1 | refine below_set ?_ (IsS131.ge HI0.out) | refine below_set ?_ GE264.out) | exact HB.out)); rintro e w22 ⟨rfl, hi, hb, hk⟩; refine ⟨_, rfl, ?_⟩; have n0_ := Aside0.mk (KeepBut.blk hk (g' := gb264) (o := .cells #[.int .i64 0, .string (⟨#[]⟩ : ByteArray), .int .i64 0, .int .i64 0] 39 (0, 0)) (bq BK264) NB264_0.out (by simp)); have n1_ := Aside0.mk (KeepBut.trans (by repeat (first | (with_reducible first | exact HK.out | apply KeepBut.set_ | apply keep_drewN | apply keep_drew | apply keep_alloc | refine keep_far ?_ GW264.out _) | exact HK.out)) hk (.inl rfl)); have n2_ := Aside0.mk (hb); have n3_ := Aside0.mk (hi); clear BK264 HK HB HI0; have BK264 := n0_; have HK := n1_; have HB := n2_; have HI0 := n3_; clear n0_ n1_ n2_ n3_; (try clear hb); (try clear hb2); (try clear hk); (try clear hi)))
  (try simp only [Act.put, List.setIfInBounds_toArray, List.set_cons_zero, List.set_cons_succ])
  go_cut [5] (fun v5 wc => ∃ (kq : Nat) (x5_17 : ByteArray) (x1001_17 : Int), v5 = .string x5_17 ∧ Aside0 (spec_l20Cmd.j0 kq x5_17 s0_0 x1001_17 = some (r1, r2, r3, r4, r5)) ∧ Aside0 (kq ≤ k) ∧ Aside0 (wc.heap[gb264]? = some (.cells #[.int .i64 0, .string (⟨#[]⟩ : ByteArray), .int .i64 0, .int .i64 0] 39 (0, 0))) ∧ Aside0 (IsS131 w0 wc g s0_0 x1001_17) ∧ Aside0 (KeepBut w wc g none) ∧ Aside0 (Below w0.heap.size w0 wc))
  case first =>
   have H := HC18.out
   clear HC18
   by_cases c23 : t275 = 0
   ·
    rw [if_pos c23] at H
    have c23b0 : (t275 == 0) = true := beq_iff_eq.mpr c23
    have c23b1 : (t275 != 0) = false := bne_eq_false_iff_eq.mpr c23
    clear c23
    (first | rw [c23b0] | (simp only [i64_w, i32_w]; rw [c23b0]) | skip)
    obtain ⟨y277, hy277⟩ : ∃ y_ : List ByteArray, y_ = (([(⟨#[98]⟩ : ByteArray), (⟨#[99]⟩ : ByteArray), (⟨#[100]⟩ : ByteArray), (⟨#[109]⟩ : ByteArray)] : List ByteArray)) := ⟨_, rfl⟩
    replace H : ((spec_l20Rd_pick.f k s0_0 t276 4).bind fun bt280 => (if 0 ≤ bt280.1 then (if bt280.1 < (y277.length : Int) then (spec_l20Cmd.j0 k (rdOf ByteArray.empty y277 bt280.1) s0_0 bt280.2) else (none)) else (none))) = some (r1, r2, r3, r4, r5) := by first | (rw [hy277]; with_reducible exact H) | (have H2_ := (Option.bind_some _ _).symm.trans H; rw [hy277]; with_reducible exact H2_) | (have H2_ := (Option.bind_some _ _).symm.trans H; with_reducible exact H2_) | with_reducible exact H | (rw [hy277]; exact H) | exact H
    have Ny277 := Aside0.mk hy277
    clear hy277
    replace H := Option.bind_eq_some_iff.mp H
    obtain ⟨⟨t280, t281⟩, A240, H⟩ := H
    try dsimp only at H
    have A24 := Aside0.mk A240
    clear A240
    by_cases c25 : 0 ≤ t280
    ·
     rw [if_pos c25] at H
     have c25b0 : decide (0 ≤ t280) = true := decide_eq_true c25
     clear c25
     by_cases c26 : t280 < (y277.length : Int)
     ·
      rw [if_pos c26] at H
      have c26b0 : decide (t280 < (y277.length : Int)) = true := decide_eq_true c26
      clear c26
      have H' := Aside0.mk H
      clear H
      go_wp2_with (first | ((with_reducible refine gate_dst (N := 29) rfl ?_); refine Kd.R_lit Kd.string _ 9 ?hg (N := 29) ?hd (xs := ([(⟨#[98]⟩ : ByteArray), (⟨#[99]⟩ : ByteArray), (⟨#[100]⟩ : ByteArray), (⟨#[109]⟩ : ByteArray)] : List ByteArray)) (inner := [.string (⟨#[98]⟩ : ByteArray), .string (⟨#[99]⟩ : ByteArray), .string (⟨#[100]⟩ : ByteArray), .string (⟨#[109]⟩ : ByteArray)]) (ok := fun _ => True) (okp := fun _ => True) ?hr ?hp (fun _ hk => hk) trivial (Below.refl _ _) (Nat.le_refl _) (by simp) ?_; (case hd => rfl); (case hg => rfl); (case hr => first | (go_simp; done) | (go_simp; rfl)); (case hp => exact (Reps.one (show Kd.M Kd.string _ _ _ (⟨#[98]⟩ : ByteArray) [.string (⟨#[98]⟩ : ByteArray)] from rfl) (Reps.one (show Kd.M Kd.string _ _ _ (⟨#[99]⟩ : ByteArray) [.string (⟨#[99]⟩ : ByteArray)] from rfl) (Reps.one (show Kd.M Kd.string _ _ _ (⟨#[100]⟩ : ByteArray) [.string (⟨#[100]⟩ : ByteArray)] from rfl) (Reps.one (show Kd.M Kd.string _ _ _ (⟨#[109]⟩ : ByteArray) [.string (⟨#[109]⟩ : ByteArray)] from rfl) (Reps.none _ _)))))); intro v278 w27 ho28 hb hg_ hnew_; clear hg_ hnew_; (first | rw [← Ny277.out] at ho28 | (simp only [Int.reduceToNat] at ho28; rw [← Ny277.out] at ho28)); have n0_ := Aside0.mk (Kd.R_lower ho28 (keep_size (w := w) (g := g) (row := none) (by repeat (first | (with_reducible first | exact HK.out | apply KeepBut.set_ | apply keep_drewN | apply keep_drew | apply keep_alloc | refine keep_far ?_ GW264.out _) | exact HK.out)))); have n1_ := Aside0.mk (IsS131.below (IsS131.run HI0) hb); have n2_ := bkb BK264 hb; have n3_ := Aside0.mk (KeepBut.trans (by repeat (first | (with_reducible first | exact HK.out | apply KeepBut.set_ | apply keep_drewN | apply keep_drew | apply keep_alloc | refine keep_far ?_ GW264.out _) | exact HK.out)) (KeepBut.of_below hb g none) (.inl rfl)); have n4_ := Aside0.mk (below_step (IsS131.bz HI0) hb); clear HI0 BK264 HK HB; have HO279 := n0_; have HI0 := n1_; have BK264 := n2_; have HK := n3_; have HB := n4_; clear n0_ n1_ n2_ n3_ n4_; clear hb ho28) | ((with_reducible refine gate_callee (f := 72) rfl ?_); refine goesL_ (some 31) rfl rfl Try.func72 (by kernel_rfl) rfl #[.pointer (some ⟨g, 0, none⟩), .int .i64 4] rfl ga ?_; (with_reducible refine (spec_l20Rd_pick.calls k g s0_0 t276 4 t280 t281 w0 _ ?side1 ?side2 A24.out).mono ?_); (case side1 => exact IsS131.run HI0); (case side2 => repeat (first | (with_reducible first | exact HB.out | apply below_alloc | apply pw_below_drewN | apply below_drew1 | refine below_set ?_ (IsS131.ge HI0.out) | refine below_set ?_ GE264.out) | exact HB.out)); rintro e w29 ⟨rfl, hi, hb, hk⟩; refine ⟨_, rfl, ?_⟩; have n0_ := Aside0.mk (KeepBut.blk hk (g' := gb264) (o := .cells #[.int .i64 0, .string (⟨#[]⟩ : ByteArray), .int .i64 0, .int .i64 0] 39 (0, 0)) (bq BK264) NB264_0.out (by simp)); have n1_ := Aside0.mk (Kd.R_mono (Kd.R_keep (IsS131.apart (show IsS131 w0 _ g s0_0 t276 from IsS131.run HI0) (by (with_reducible repeat (first | apply Kd.R_alloc | apply Kd.R_drewN | apply Kd.R_drew)); exact HO279.out) (by decide)) hk (fun _ h => h.2)) (fun _ h => h.1)); have n2_ := Aside0.mk (KeepBut.trans (by repeat (first | (with_reducible first | exact HK.out | apply KeepBut.set_ | apply keep_drewN | apply keep_drew | apply keep_alloc | refine keep_far ?_ GW264.out _) | exact HK.out)) hk (.inl rfl)); have n3_ := Aside0.mk (hb); have n4_ := Aside0.mk (hi); clear BK264 HO279 HK HB HI0; have BK264 := n0_; have HO279 := n1_; have HK := n2_; have HB := n3_; have HI0 := n4_; clear n0_ n1_ n2_ n3_ n4_; (try clear hb); (try clear hb2); (try clear hk); (try clear hi); obtain ⟨Ao30, co30, eo30⟩ := Kd.R_slice HO279.out; subst eo30; have p282 : 0 ≤ (t280 : Int) := of_decide_eq_true (by first | (with_reducible assumption) | assumption); have q282 : t280 < (y277.length : Int) := of_decide_eq_true (by first | (with_reducible assumption) | assumption); obtain ⟨ad282, e282, hx282_0⟩ := Kd.at_string (Kd.R_reads' HO279.out).2.2 t280 p282 q282; cases e282; replace p282 := eq_true p282; replace q282 := eq_true q282))
      go_meet
      case rel => exact ⟨_, (rdOf ByteArray.empty y277 t280), (t281), (by first | rfl | (simp; done) | exact congrArg Value.bool (ne_nil_b _) | exact congrArg Value.bool (eq_nil_b _) | (simp [*]; done)), H', ⟨by first | omega | exact Nat.le_refl _⟩, ⟨by (with_reducible repeat (first | refine blk_drewN ?_ _ | refine blk_drew ?_ | refine blk_alloc ?_ _)); exact BK264.out⟩, ⟨IsS131.run HI0⟩, ⟨by repeat (first | (with_reducible first | exact HK.out | apply KeepBut.set_ | apply keep_drewN | apply keep_drew | apply keep_alloc | refine keep_far ?_ GW264.out _) | exact HK.out)⟩, ⟨IsS131.bz HI0⟩⟩
     ·
      rw [if_neg c26] at H
      exact absurd H (by simp)
    ·
     rw [if_neg c25] at H
     exact absurd H (by simp)
   ·
    rw [if_neg c23] at H
    have c23b0 : (t275 == 0) = false := beq_eq_false_iff_ne.mpr c23
    have c23b1 : (t275 != 0) = true := bne_iff_ne.mpr c23
    (first | rw [c23b0] | (simp only [i64_w, i32_w]; rw [c23b0]) | skip)
    have H' := Aside0.mk H
    clear H
    go_wp2
    go_meet
    case rel => exact ⟨_, (t273), (t276), (by first | rfl | (simp; done) | exact congrArg Value.bool (ne_nil_b _) | exact congrArg Value.bool (eq_nil_b _) | (simp [*]; done)), H', ⟨by first | omega | exact Nat.le_refl _⟩, ⟨by (with_reducible repeat (first | refine blk_drewN ?_ _ | refine blk_drew ?_ | refine blk_alloc ?_ _)); exact BK264.out⟩, ⟨IsS131.run HI0⟩, ⟨by repeat (first | (with_reducible first | exact HK.out | apply KeepBut.set_ | apply keep_drewN | apply keep_drew | apply keep_alloc | refine keep_far ?_ GW264.out _) | exact HK.out)⟩, ⟨IsS131.bz HI0⟩⟩
  case rest =>
   clear HC18
   try clear c1
   try clear c2
   try clear p2
   try clear q2
   try clear hx2
   try clear c4
   try clear c6
   try clear c6b0
   try clear c7
   try clear c7b0
   try clear c11
   try clear c12
   try clear c14
   try clear c23
   try clear c23b0
   try clear c23b1
   try clear c25
   try clear c25b0
   try clear c26
   try clear c26b0
   try clear p27
   try clear q27
   try clear hx27
   try clear p28
   try clear q28
   try clear hx28
   try clear hcz15_0 hcz15_1 hcz15_2 hcz15_3
   try clear hfz15_0 hfz15_1 hfz15_2 hfz15_3
   try clear hx272_0
   try clear hx272_1
   try clear hx272_2
   try clear hx272_3
   try clear hx282_0
   try clear p272
   try clear p282
   try clear q272
   try clear q282
   obtain ⟨kq, x5_17, x1001_17, rfl, HA, HJ17, BK264, HI0, HK, HB⟩ := hcut
   cases kq with
   | zero => exact absurd HA.out (by simp [spec_l20Cmd.j0])
   | succ kj17 =>
    have H := HA.out
    clear HA
    simp only [spec_l20Cmd.j0] at H
    replace H := Option.bind_eq_some_iff.mp H
    obtain ⟨⟨t283, t284⟩, A310, H⟩ := H
    try dsimp only at H
    have A31 := Aside0.mk A310
    clear A310
    by_cases c32 : t283 = 0
    ·
     rw [if_pos c32] at H
     have c32b0 : (t283 == 0) = true := beq_iff_eq.mpr c32
     have c32b1 : (t283 != 0) = false := bne_eq_false_iff_eq.mpr c32
     clear c32
     simp only [Option.some.injEq, Prod.mk.injEq] at H
     obtain ⟨rfl, rfl, rfl, rfl, rfl⟩ := H
     go_wp2_with (first | ((with_reducible refine gate_callee (f := 72) rfl ?_); refine goesL_ (some 35) rfl rfl Try.func72 (by kernel_rfl) rfl #[.pointer (some ⟨g, 0, none⟩), .int .i64 8] rfl ga ?_; (with_reducible refine (spec_l20Rd_pick.calls kj17 g s0_0 x1001_17 8 t283 t284 w0 _ ?side1 ?side2 A31.out).mono ?_); (case side1 => exact IsS131.run HI0); (case side2 => repeat (first | (with_reducible first | exact HB.out | apply below_alloc | apply pw_below_drewN | apply below_drew1 | refine below_set ?_ (IsS131.ge HI0.out) | refine below_set ?_ GE264.out) | exact HB.out)); rintro e w33 ⟨rfl, hi, hb, hk⟩; refine ⟨_, rfl, ?_⟩; have n0_ := Aside0.mk (KeepBut.blk hk (g' := gb264) (o := .cells #[.int .i64 0, .string (⟨#[]⟩ : ByteArray), .int .i64 0, .int .i64 0] 39 (0, 0)) (bq BK264) NB264_0.out (by simp)); have n1_ := Aside0.mk (KeepBut.trans (by repeat (first | (with_reducible first | exact HK.out | apply KeepBut.set_ | apply keep_drewN | apply keep_drew | apply keep_alloc | refine keep_far ?_ GW264.out _) | exact HK.out)) hk (.inl rfl)); have n2_ := Aside0.mk (hb); have n3_ := Aside0.mk (hi); clear BK264 HK HB HI0; have BK264 := n0_; have HK := n1_; have HB := n2_; have HI0 := n3_; clear n0_ n1_ n2_ n3_; (try clear hb); (try clear hb2); (try clear hk); (try clear hi); have hnb34 := NB264_0.out; have hnc34 := NB0_264.out; obtain ⟨hcz35_0, hcz35_1, hcz35_2, hcz35_3⟩ := cl4 BK264; obtain ⟨hfz35_0, hfz35_1, hfz35_2, hfz35_3⟩ := fz4 BK264))
     refine bodyPost_ret (results_cell_row rfl _ _ gb264 39 #[.int .i64 1, .string x5_17, .int .i64 0, .int .i64 0] (0, 0) _ rfl (by (with_reducible repeat (first | refine blk_drewN ?_ _ | refine blk_drew ?_ | refine blk_alloc ?_ _)); refine blk_put (cs := #[.int .i64 1, .string x5_17, .int .i64 0, .int .i64 0]) ?_ 3 _ rfl; (with_reducible repeat (first | refine blk_drewN ?_ _ | refine blk_drew ?_ | refine blk_alloc ?_ _)); refine blk_put (cs := #[.int .i64 1, .string x5_17, .int .i64 0, .int .i64 0]) ?_ 2 _ rfl; (with_reducible repeat (first | refine blk_drewN ?_ _ | refine blk_drew ?_ | refine blk_alloc ?_ _)); refine blk_put (cs := #[.int .i64 1, .string (⟨#[]⟩ : ByteArray), .int .i64 0, .int .i64 0]) ?_ 1 _ rfl; (with_reducible repeat (first | refine blk_drewN ?_ _ | refine blk_drew ?_ | refine blk_alloc ?_ _)); refine blk_put (cs := #[.int .i64 0, .string (⟨#[]⟩ : ByteArray), .int .i64 0, .int .i64 0]) ?_ 0 _ rfl; (with_reducible repeat (first | refine blk_drewN ?_ _ | refine blk_drew ?_ | refine blk_alloc ?_ _)); exact BK264.out) Try.underlying39 rfl (by kernel_rfl)) rfl ?_
     exact ⟨by first | rfl | (simp only [u8w, w64m]; rfl) | (simp [errW_none, errW_some] <;> rfl) | (simp [*, errW_none, errW_some] <;> rfl), IsS131.run HI0, IsS131.bz HI0, by repeat (first | (with_reducible first | exact HK.out | apply KeepBut.set_ | apply keep_drewN | apply keep_drew | apply keep_alloc | refine keep_far ?_ GW264.out _) | exact HK.out)⟩
    ·
     rw [if_neg c32] at H
     have c32b0 : (t283 == 0) = false := beq_eq_false_iff_ne.mpr c32
     have c32b1 : (t283 != 0) = true := bne_iff_ne.mpr c32
     by_cases c36 : t283 = 1
     ·
      rw [if_pos c36] at H
      have c36b0 : (t283 == 1) = true := beq_iff_eq.mpr c36
      have c36b1 : (t283 != 1) = false := bne_eq_false_iff_eq.mpr c36
      clear c36
      simp only [Option.some.injEq, Prod.mk.injEq] at H
      obtain ⟨rfl, rfl, rfl, rfl, rfl⟩ := H
      go_wp2_with (first | ((with_reducible refine gate_callee (f := 72) rfl ?_); refine goesL_ (some 35) rfl rfl Try.func72 (by kernel_rfl) rfl #[.pointer (some ⟨g, 0, none⟩), .int .i64 8] rfl ga ?_; (with_reducible refine (spec_l20Rd_pick.calls kj17 g s0_0 x1001_17 8 t283 t284 w0 _ ?side1 ?side2 A31.out).mono ?_); (case side1 => exact IsS131.run HI0); (case side2 => repeat (first | (with_reducible first | exact HB.out | apply below_alloc | apply pw_below_drewN | apply below_drew1 | refine below_set ?_ (IsS131.ge HI0.out) | refine below_set ?_ GE264.out) | exact HB.out)); rintro e w37 ⟨rfl, hi, hb, hk⟩; refine ⟨_, rfl, ?_⟩; have n0_ := Aside0.mk (KeepBut.blk hk (g' := gb264) (o := .cells #[.int .i64 0, .string (⟨#[]⟩ : ByteArray), .int .i64 0, .int .i64 0] 39 (0, 0)) (bq BK264) NB264_0.out (by simp)); have n1_ := Aside0.mk (KeepBut.trans (by repeat (first | (with_reducible first | exact HK.out | apply KeepBut.set_ | apply keep_drewN | apply keep_drew | apply keep_alloc | refine keep_far ?_ GW264.out _) | exact HK.out)) hk (.inl rfl)); have n2_ := Aside0.mk (hb); have n3_ := Aside0.mk (hi); clear BK264 HK HB HI0; have BK264 := n0_; have HK := n1_; have HB := n2_; have HI0 := n3_; clear n0_ n1_ n2_ n3_; (try clear hb); (try clear hb2); (try clear hk); (try clear hi); have hnb38 := NB264_0.out; have hnc38 := NB0_264.out; obtain ⟨hcz39_0, hcz39_1, hcz39_2, hcz39_3⟩ := cl4 BK264; obtain ⟨hfz39_0, hfz39_1, hfz39_2, hfz39_3⟩ := fz4 BK264))
      refine bodyPost_ret (results_cell_row rfl _ _ gb264 39 #[.int .i64 3, .string x5_17, .int .i64 0, .int .i64 0] (0, 0) _ rfl (by (with_reducible repeat (first | refine blk_drewN ?_ _ | refine blk_drew ?_ | refine blk_alloc ?_ _)); refine blk_put (cs := #[.int .i64 3, .string x5_17, .int .i64 0, .int .i64 0]) ?_ 3 _ rfl; (with_reducible repeat (first | refine blk_drewN ?_ _ | refine blk_drew ?_ | refine blk_alloc ?_ _)); refine blk_put (cs := #[.int .i64 3, .string x5_17, .int .i64 0, .int .i64 0]) ?_ 2 _ rfl; (with_reducible repeat (first | refine blk_drewN ?_ _ | refine blk_drew ?_ | refine blk_alloc ?_ _)); refine blk_put (cs := #[.int .i64 3, .string (⟨#[]⟩ : ByteArray), .int .i64 0, .int .i64 0]) ?_ 1 _ rfl; (with_reducible repeat (first | refine blk_drewN ?_ _ | refine blk_drew ?_ | refine blk_alloc ?_ _)); refine blk_put (cs := #[.int .i64 0, .string (⟨#[]⟩ : ByteArray), .int .i64 0, .int .i64 0]) ?_ 0 _ rfl; (with_reducible repeat (first | refine blk_drewN ?_ _ | refine blk_drew ?_ | refine blk_alloc ?_ _)); exact BK264.out) Try.underlying39 rfl (by kernel_rfl)) rfl ?_
      exact ⟨by first | rfl | (simp only [u8w, w64m]; rfl) | (simp [errW_none, errW_some] <;> rfl) | (simp [*, errW_none, errW_some] <;> rfl), IsS131.run HI0, IsS131.bz HI0, by repeat (first | (with_reducible first | exact HK.out | apply KeepBut.set_ | apply keep_drewN | apply keep_drew | apply keep_alloc | refine keep_far ?_ GW264.out _) | exact HK.out)⟩
     ·
      rw [if_neg c36] at H
      have c36b0 : (t283 == 1) = false := beq_eq_false_iff_ne.mpr c36
      have c36b1 : (t283 != 1) = true := bne_iff_ne.mpr c36
      by_cases c40 : t283 = 2
      ·
       rw [if_pos c40] at H
       have c40b0 : (t283 == 2) = true := beq_iff_eq.mpr c40
       have c40b1 : (t283 != 2) = false := bne_eq_false_iff_eq.mpr c40
       clear c40
       replace H := Option.bind_eq_some_iff.mp H
       obtain ⟨⟨t285, t286⟩, A410, H⟩ := H
       try dsimp only at H
       have A41 := Aside0.mk A410
       clear A410
       replace H := Option.bind_eq_some_iff.mp H
       obtain ⟨⟨t287, t288⟩, A420, H⟩ := H
       try dsimp only at H
       have A42 := Aside0.mk A420
       clear A420
       simp only [Option.some.injEq, Prod.mk.injEq] at H
       obtain ⟨rfl, rfl, rfl, rfl, rfl⟩ := H
       go_wp2_with (first | ((with_reducible refine gate_callee (f := 72) rfl ?_); refine goesL_ (some 35) rfl rfl Try.func72 (by kernel_rfl) rfl #[.pointer (some ⟨g, 0, none⟩), .int .i64 8] rfl ga ?_; (with_reducible refine (spec_l20Rd_pick.calls kj17 g s0_0 x1001_17 8 t283 t284 w0 _ ?side1 ?side2 A31.out).mono ?_); (case side1 => exact IsS131.run HI0); (case side2 => repeat (first | (with_reducible first | exact HB.out | apply below_alloc | apply pw_below_drewN | apply below_drew1 | refine below_set ?_ (IsS131.ge HI0.out) | refine below_set ?_ GE264.out) | exact HB.out)); rintro e w43 ⟨rfl, hi, hb, hk⟩; refine ⟨_, rfl, ?_⟩; have n0_ := Aside0.mk (KeepBut.blk hk (g' := gb264) (o := .cells #[.int .i64 0, .string (⟨#[]⟩ : ByteArray), .int .i64 0, .int .i64 0] 39 (0, 0)) (bq BK264) NB264_0.out (by simp)); have n1_ := Aside0.mk (KeepBut.trans (by repeat (first | (with_reducible first | exact HK.out | apply KeepBut.set_ | apply keep_drewN | apply keep_drew | apply keep_alloc | refine keep_far ?_ GW264.out _) | exact HK.out)) hk (.inl rfl)); have n2_ := Aside0.mk (hb); have n3_ := Aside0.mk (hi); clear BK264 HK HB HI0; have BK264 := n0_; have HK := n1_; have HB := n2_; have HI0 := n3_; clear n0_ n1_ n2_ n3_; (try clear hb); (try clear hb2); (try clear hk); (try clear hi)) | ((with_reducible refine gate_callee (f := 72) rfl ?_); refine goesL_ (some 48) rfl rfl Try.func72 (by kernel_rfl) rfl #[.pointer (some ⟨g, 0, none⟩), .int .i64 5] rfl ga ?_; (with_reducible refine (spec_l20Rd_pick.calls kj17 g s0_0 t284 5 t285 t286 w0 _ ?side1 ?side2 A41.out).mono ?_); (case side1 => exact IsS131.run HI0); (case side2 => repeat (first | (with_reducible first | exact HB.out | apply below_alloc | apply pw_below_drewN | apply below_drew1 | refine below_set ?_ (IsS131.ge HI0.out) | refine below_set ?_ GE264.out) | exact HB.out)); rintro e w44 ⟨rfl, hi, hb, hk⟩; refine ⟨_, rfl, ?_⟩; have n0_ := Aside0.mk (KeepBut.blk hk (g' := gb264) (o := .cells #[.int .i64 0, .string (⟨#[]⟩ : ByteArray), .int .i64 0, .int .i64 0] 39 (0, 0)) (bq BK264) NB264_0.out (by simp)); have n1_ := Aside0.mk (KeepBut.trans (by repeat (first | (with_reducible first | exact HK.out | apply KeepBut.set_ | apply keep_drewN | apply keep_drew | apply keep_alloc | refine keep_far ?_ GW264.out _) | exact HK.out)) hk (.inl rfl)); have n2_ := Aside0.mk (hb); have n3_ := Aside0.mk (hi); clear BK264 HK HB HI0; have BK264 := n0_; have HK := n1_; have HB := n2_; have HI0 := n3_; clear n0_ n1_ n2_ n3_; (try clear hb); (try clear hb2); (try clear hk); (try clear hi)) | ((with_reducible refine gate_callee (f := 72) rfl ?_); refine goesL_ (some 51) rfl rfl Try.func72 (by kernel_rfl) rfl #[.pointer (some ⟨g, 0, none⟩), .int .i64 5] rfl ga ?_; (with_reducible refine (spec_l20Rd_pick.calls kj17 g s0_0 t286 5 t287 t288 w0 _ ?side1 ?side2 A42.out).mono ?_); (case side1 => exact IsS131.run HI0); (case side2 => repeat (first | (with_reducible first | exact HB.out | apply below_alloc | apply pw_below_drewN | apply below_drew1 | refine below_set ?_ (IsS131.ge HI0.out) | refine below_set ?_ GE264.out) | exact HB.out)); rintro e w45 ⟨rfl, hi, hb, hk⟩; refine ⟨_, rfl, ?_⟩; have n0_ := Aside0.mk (KeepBut.blk hk (g' := gb264) (o := .cells #[.int .i64 0, .string (⟨#[]⟩ : ByteArray), .int .i64 0, .int .i64 0] 39 (0, 0)) (bq BK264) NB264_0.out (by simp)); have n1_ := Aside0.mk (KeepBut.trans (by repeat (first | (with_reducible first | exact HK.out | apply KeepBut.set_ | apply keep_drewN | apply keep_drew | apply keep_alloc | refine keep_far ?_ GW264.out _) | exact HK.out)) hk (.inl rfl)); have n2_ := Aside0.mk (hb); have n3_ := Aside0.mk (hi); clear BK264 HK HB HI0; have BK264 := n0_; have HK := n1_; have HB := n2_; have HI0 := n3_; clear n0_ n1_ n2_ n3_; (try clear hb); (try clear hb2); (try clear hk); (try clear hi); have hnb46 := NB264_0.out; have hnc46 := NB0_264.out; obtain ⟨hcz47_0, hcz47_1, hcz47_2, hcz47_3⟩ := cl4 BK264; obtain ⟨hfz47_0, hfz47_1, hfz47_2, hfz47_3⟩ := fz4 BK264))
       refine bodyPost_ret (results_cell_row rfl _ _ gb264 39 #[.int .i64 4, .string x5_17, .int .i64 t287, .int .i64 (wrap64 (t285 - 1))] (0, 0) _ rfl (by (with_reducible repeat (first | refine blk_drewN ?_ _ | refine blk_drew ?_ | refine blk_alloc ?_ _)); refine blk_put (cs := #[.int .i64 4, .string x5_17, .int .i64 t287, .int .i64 0]) ?_ 3 _ rfl; (with_reducible repeat (first | refine blk_drewN ?_ _ | refine blk_drew ?_ | refine blk_alloc ?_ _)); refine blk_put (cs := #[.int .i64 4, .string x5_17, .int .i64 0, .int .i64 0]) ?_ 2 _ rfl; (with_reducible repeat (first | refine blk_drewN ?_ _ | refine blk_drew ?_ | refine blk_alloc ?_ _)); refine blk_put (cs := #[.int .i64 4, .string (⟨#[]⟩ : ByteArray), .int .i64 0, .int .i64 0]) ?_ 1 _ rfl; (with_reducible repeat (first | refine blk_drewN ?_ _ | refine blk_drew ?_ | refine blk_alloc ?_ _)); refine blk_put (cs := #[.int .i64 0, .string (⟨#[]⟩ : ByteArray), .int .i64 0, .int .i64 0]) ?_ 0 _ rfl; (with_reducible repeat (first | refine blk_drewN ?_ _ | refine blk_drew ?_ | refine blk_alloc ?_ _)); exact BK264.out) Try.underlying39 rfl (by kernel_rfl)) rfl ?_
       exact ⟨by first | rfl | (simp only [u8w, w64m]; rfl) | (simp [errW_none, errW_some] <;> rfl) | (simp [*, errW_none, errW_some] <;> rfl), IsS131.run HI0, IsS131.bz HI0, by repeat (first | (with_reducible first | exact HK.out | apply KeepBut.set_ | apply keep_drewN | apply keep_drew | apply keep_alloc | refine keep_far ?_ GW264.out _) | exact HK.out)⟩
      ·
       rw [if_neg c40] at H
       have c40b0 : (t283 == 2) = false := beq_eq_false_iff_ne.mpr c40
       have c40b1 : (t283 != 2) = true := bne_iff_ne.mpr c40
       replace H := Option.bind_eq_some_iff.mp H
       obtain ⟨⟨t289, t290⟩, A480, H⟩ := H
       try dsimp only at H
       have A48 := Aside0.mk A480
       clear A480
       simp only [Option.some.injEq, Prod.mk.injEq] at H
       obtain ⟨rfl, rfl, rfl, rfl, rfl⟩ := H
       go_wp2_with (first | ((with_reducible refine gate_callee (f := 72) rfl ?_); refine goesL_ (some 35) rfl rfl Try.func72 (by kernel_rfl) rfl #[.pointer (some ⟨g, 0, none⟩), .int .i64 8] rfl ga ?_; (with_reducible refine (spec_l20Rd_pick.calls kj17 g s0_0 x1001_17 8 t283 t284 w0 _ ?side1 ?side2 A31.out).mono ?_); (case side1 => exact IsS131.run HI0); (case side2 => repeat (first | (with_reducible first | exact HB.out | apply below_alloc | apply pw_below_drewN | apply below_drew1 | refine below_set ?_ (IsS131.ge HI0.out) | refine below_set ?_ GE264.out) | exact HB.out)); rintro e w49 ⟨rfl, hi, hb, hk⟩; refine ⟨_, rfl, ?_⟩; have n0_ := Aside0.mk (KeepBut.blk hk (g' := gb264) (o := .cells #[.int .i64 0, .string (⟨#[]⟩ : ByteArray), .int .i64 0, .int .i64 0] 39 (0, 0)) (bq BK264) NB264_0.out (by simp)); have n1_ := Aside0.mk (KeepBut.trans (by repeat (first | (with_reducible first | exact HK.out | apply KeepBut.set_ | apply keep_drewN | apply keep_drew | apply keep_alloc | refine keep_far ?_ GW264.out _) | exact HK.out)) hk (.inl rfl)); have n2_ := Aside0.mk (hb); have n3_ := Aside0.mk (hi); clear BK264 HK HB HI0; have BK264 := n0_; have HK := n1_; have HB := n2_; have HI0 := n3_; clear n0_ n1_ n2_ n3_; (try clear hb); (try clear hb2); (try clear hk); (try clear hi)) | ((with_reducible refine gate_callee (f := 137) rfl ?_); refine goesL_ (some 55) rfl rfl Try.func137 (by kernel_rfl) rfl #[.pointer (some ⟨g, 0, none⟩), .int .i64 0] rfl ga ?_; (with_reducible refine (spec_l20Value.calls kj17 g s0_0 t284 0 t289 t290 w0 _ ?side1 ?side2 A48.out).mono ?_); (case side1 => exact IsS131.run HI0); (case side2 => repeat (first | (with_reducible first | exact HB.out | apply below_alloc | apply pw_below_drewN | apply below_drew1 | refine below_set ?_ (IsS131.ge HI0.out) | refine below_set ?_ GE264.out) | exact HB.out)); rintro e w50 ⟨rfl, hi, hb, hk⟩; refine ⟨_, rfl, ?_⟩; have n0_ := Aside0.mk (KeepBut.blk hk (g' := gb264) (o := .cells #[.int .i64 0, .string (⟨#[]⟩ : ByteArray), .int .i64 0, .int .i64 0] 39 (0, 0)) (bq BK264) NB264_0.out (by simp)); have n1_ := Aside0.mk (KeepBut.trans (by repeat (first | (with_reducible first | exact HK.out | apply KeepBut.set_ | apply keep_drewN | apply keep_drew | apply keep_alloc | refine keep_far ?_ GW264.out _) | exact HK.out)) hk (.inl rfl)); have n2_ := Aside0.mk (hb); have n3_ := Aside0.mk (hi); clear BK264 HK HB HI0; have BK264 := n0_; have HK := n1_; have HB := n2_; have HI0 := n3_; clear n0_ n1_ n2_ n3_; (try clear hb); (try clear hb2); (try clear hk); (try clear hi); have hnb51 := NB264_0.out; have hnc51 := NB0_264.out; obtain ⟨hcz52_0, hcz52_1, hcz52_2, hcz52_3⟩ := cl4 BK264; obtain ⟨hfz52_0, hfz52_1, hfz52_2, hfz52_3⟩ := fz4 BK264))
       refine bodyPost_ret (results_cell_row rfl _ _ gb264 39 #[.int .i64 2, .string x5_17, .int .i64 (Int.tmod t289 1000), .int .i64 0] (0, 0) _ rfl (by (with_reducible repeat (first | refine blk_drewN ?_ _ | refine blk_drew ?_ | refine blk_alloc ?_ _)); refine blk_put (cs := #[.int .i64 2, .string x5_17, .int .i64 (Int.tmod t289 1000), .int .i64 0]) ?_ 3 _ rfl; (with_reducible repeat (first | refine blk_drewN ?_ _ | refine blk_drew ?_ | refine blk_alloc ?_ _)); refine blk_put (cs := #[.int .i64 2, .string x5_17, .int .i64 0, .int .i64 0]) ?_ 2 _ rfl; (with_reducible repeat (first | refine blk_drewN ?_ _ | refine blk_drew ?_ | refine blk_alloc ?_ _)); refine blk_put (cs := #[.int .i64 2, .string (⟨#[]⟩ : ByteArray), .int .i64 0, .int .i64 0]) ?_ 1 _ rfl; (with_reducible repeat (first | refine blk_drewN ?_ _ | refine blk_drew ?_ | refine blk_alloc ?_ _)); refine blk_put (cs := #[.int .i64 0, .string (⟨#[]⟩ : ByteArray), .int .i64 0, .int .i64 0]) ?_ 0 _ rfl; (with_reducible repeat (first | refine blk_drewN ?_ _ | refine blk_drew ?_ | refine blk_alloc ?_ _)); exact BK264.out) Try.underlying39 rfl (by kernel_rfl)) rfl ?_
       exact ⟨by first | rfl | (simp only [u8w, w64m]; rfl) | (simp [errW_none, errW_some] <;> rfl) | (simp [*, errW_none, errW_some] <;> rfl), IsS131.run HI0, IsS131.bz HI0, by repeat (first | (with_reducible first | exact HK.out | apply KeepBut.set_ | apply keep_drewN | apply keep_drew | apply keep_alloc | refine keep_far ?_ GW264.out _) | exact HK.out)⟩

/-! ### spec_IntervalMeet: function 105 -/
mutual
def spec_IntervalMeet.j0 : Nat → Bool → ByteArray → ByteArray → ByteArray → ByteArray → Option (ByteArray × ByteArray × Bool)
 | 0, _, _, _, _, _ => none
 | k + 1, x14, x292000, x292001, x293000, x293001 => if x14 = true then (some ((⟨#[]⟩ : ByteArray), (⟨#[]⟩ : ByteArray), false)) else (if (Op.bytesLess x292000.toList x293000.toList) = true then (spec_IntervalMeet.j1 k x292000 x292001 x293000 x293001 x293000 x292001) else (spec_IntervalMeet.j1 k x292000 x292001 x293000 x293001 x292000 x292001))
def spec_IntervalMeet.j1 : Nat → ByteArray → ByteArray → ByteArray → ByteArray → ByteArray → ByteArray → Option (ByteArray × ByteArray × Bool)
 | 0, _, _, _, _, _, _ => none
 | k + 1, x292000, x292001, x293000, x293001, x297000, x297001 => if x293001.toList = ([] : List UInt8) then (spec_IntervalMeet.j2 k false x293000 x293001 x297000 x297001) else (if x292001.toList = ([] : List UInt8) then (spec_IntervalMeet.j2 k true x293000 x293001 x297000 x297001) else (spec_IntervalMeet.j2 k (Op.bytesLess x293001.toList x292001.toList) x293000 x293001 x297000 x297001))
def spec_IntervalMeet.j2 : Nat → Bool → ByteArray → ByteArray → ByteArray → ByteArray → Option (ByteArray × ByteArray × Bool)
 | 0, _, _, _, _, _ => none
 | k + 1, x39, x293000, x293001, x297000, x297001 => if x39 = true then ((spec_IntervalValid.f k x297000 x293001).bind fun t297 => (if t297 = true then (some (x297000, x293001, true)) else (some ((⟨#[]⟩ : ByteArray), (⟨#[]⟩ : ByteArray), false)))) else ((spec_IntervalValid.f k x297000 x297001).bind fun t298 => (if t298 = true then (some (x297000, x297001, true)) else (some ((⟨#[]⟩ : ByteArray), (⟨#[]⟩ : ByteArray), false))))
end
def spec_IntervalMeet.f (k : Nat) (a0_0 : ByteArray) (a0_1 : ByteArray) (a1_0 : ByteArray) (a1_1 : ByteArray) : Option (ByteArray × ByteArray × Bool) := (spec_IntervalValid.f k a0_0 a0_1).bind fun t294 => (if t294 = true then ((spec_IntervalValid.f k a1_0 a1_1).bind fun t295 => (spec_IntervalMeet.j0 k (!t295) a0_0 a0_1 a1_0 a1_1)) else (spec_IntervalMeet.j0 k true a0_0 a0_1 a1_0 a1_1))
theorem spec_IntervalMeet.mono_l : ∀ k, (∀ y0 y1 y2 y3 y4, LeO (spec_IntervalMeet.j0 k y0 y1 y2 y3 y4) (spec_IntervalMeet.j0 (k + 1) y0 y1 y2 y3 y4)) ∧ (∀ y0 y1 y2 y3 y4 y5, LeO (spec_IntervalMeet.j1 k y0 y1 y2 y3 y4 y5) (spec_IntervalMeet.j1 (k + 1) y0 y1 y2 y3 y4 y5)) ∧ (∀ y0 y1 y2 y3 y4, LeO (spec_IntervalMeet.j2 k y0 y1 y2 y3 y4) (spec_IntervalMeet.j2 (k + 1) y0 y1 y2 y3 y4))
 | 0 => ⟨fun _ _ _ _ _ r h => by simp [spec_IntervalMeet.j0] at h, fun _ _ _ _ _ _ r h => by simp [spec_IntervalMeet.j1] at h, fun _ _ _ _ _ r h => by simp [spec_IntervalMeet.j2] at h⟩
 | k + 1 => by
  obtain ⟨ih0, ih1, ih2⟩ := spec_IntervalMeet.mono_l k
  refine ⟨?_, ?_, ?_⟩
  ·
   intro y0 y1 y2 y3 y4
   unfold spec_IntervalMeet.j0
   repeat' first
   | (with_reducible exact ih0 _ _ _ _ _)
   | (with_reducible exact ih1 _ _ _ _ _ _)
   | (with_reducible exact ih2 _ _ _ _ _)
   | (with_reducible exact spec_IntervalValid.mono _ _ _)
   | (with_reducible exact LeO.refl _)
   | (with_reducible exact LeO.none _)
   | (with_reducible refine LeO.ite ?_ ?_)
   | (with_reducible refine LeO.bind ?_ (fun _ => ?_))
   | exact ih0 _ _ _ _ _
   | exact ih1 _ _ _ _ _ _
   | exact ih2 _ _ _ _ _
   | exact spec_IntervalValid.mono _ _ _
   | exact LeO.none _
   | refine LeO.ite ?_ ?_
   | refine LeO.bind ?_ (fun _ => ?_)
  ·
   intro y0 y1 y2 y3 y4 y5
   unfold spec_IntervalMeet.j1
   repeat' first
   | (with_reducible exact ih0 _ _ _ _ _)
   | (with_reducible exact ih1 _ _ _ _ _ _)
   | (with_reducible exact ih2 _ _ _ _ _)
   | (with_reducible exact spec_IntervalValid.mono _ _ _)
   | (with_reducible exact LeO.refl _)
   | (with_reducible exact LeO.none _)
   | (with_reducible refine LeO.ite ?_ ?_)
   | (with_reducible refine LeO.bind ?_ (fun _ => ?_))
   | exact ih0 _ _ _ _ _
   | exact ih1 _ _ _ _ _ _
   | exact ih2 _ _ _ _ _
   | exact spec_IntervalValid.mono _ _ _
   | exact LeO.none _
   | refine LeO.ite ?_ ?_
   | refine LeO.bind ?_ (fun _ => ?_)
  ·
   intro y0 y1 y2 y3 y4
   unfold spec_IntervalMeet.j2
   repeat' first
   | (with_reducible exact ih0 _ _ _ _ _)
   | (with_reducible exact ih1 _ _ _ _ _ _)
   | (with_reducible exact ih2 _ _ _ _ _)
   | (with_reducible exact spec_IntervalValid.mono _ _ _)
   | (with_reducible exact LeO.refl _)
   | (with_reducible exact LeO.none _)
   | (with_reducible refine LeO.ite ?_ ?_)
   | (with_reducible refine LeO.bind ?_ (fun _ => ?_))
   | exact ih0 _ _ _ _ _
   | exact ih1 _ _ _ _ _ _
   | exact ih2 _ _ _ _ _
   | exact spec_IntervalValid.mono _ _ _
   | exact LeO.none _
   | refine LeO.ite ?_ ?_
   | refine LeO.bind ?_ (fun _ => ?_)
theorem spec_IntervalMeet.mono : ∀ a0 a1 a2 a3 k, LeO (spec_IntervalMeet.f k a0 a1 a2 a3) (spec_IntervalMeet.f (k + 1) a0 a1 a2 a3) := by
 intro a0 a1 a2 a3 k
 obtain ⟨ih0, ih1, ih2⟩ := spec_IntervalMeet.mono_l k
 unfold spec_IntervalMeet.f
 repeat' first
   | (with_reducible exact ih0 _ _ _ _ _)
   | (with_reducible exact ih1 _ _ _ _ _ _)
   | (with_reducible exact ih2 _ _ _ _ _)
   | (with_reducible exact spec_IntervalValid.mono _ _ _)
   | (with_reducible exact LeO.refl _)
   | (with_reducible exact LeO.none _)
   | (with_reducible refine LeO.ite ?_ ?_)
   | (with_reducible refine LeO.bind ?_ (fun _ => ?_))
   | exact ih0 _ _ _ _ _
   | exact ih1 _ _ _ _ _ _
   | exact ih2 _ _ _ _ _
   | exact spec_IntervalValid.mono _ _ _
   | exact LeO.none _
   | refine LeO.ite ?_ ?_
   | refine LeO.bind ?_ (fun _ => ?_)
set_option maxHeartbeats 8000000 in
set_option maxRecDepth 100000 in
theorem spec_IntervalMeet.calls (k : Nat) (a0_0 : ByteArray) (a0_1 : ByteArray) (a1_0 : ByteArray) (a1_1 : ByteArray) (r1 : ByteArray) (r2 : ByteArray) (r3 : Bool) (w : World) (h : spec_IntervalMeet.f k a0_0 a0_1 a1_0 a1_1 = some (r1, r2, r3)) :
  Calls Try.prog 105 #[.agg #[.string a0_0, .string a0_1], .agg #[.string a1_0, .string a1_1]] w fun e w' => e = .returned (.tuple #[.agg #[.string r1, .string r2], .bool r3]) ∧ Below w.heap.size w w' := by
 have hu31 := Try.underlying31
 have HB := Aside0.mk (Below.refl w.heap.size w)
 have H : ((spec_IntervalValid.f k a0_0 a0_1).bind fun t294 => (if t294 = true then ((spec_IntervalValid.f k a1_0 a1_1).bind fun t295 => (spec_IntervalMeet.j0 k (!t295) a0_0 a0_1 a1_0 a1_1)) else (spec_IntervalMeet.j0 k true a0_0 a0_1 a1_0 a1_1))) = some (r1, r2, r3) := h
 clear h
 have HC3 := Aside0.mk H
 clear H
 go_enter Try.func105, Try.ntmps105
 go_upto_region 1 with (first | ((with_reducible refine gate_dst (N := 2) rfl ?_); refine box_event ?hg (N := 2) ?hd (cs := #[.string a0_0, .string a0_1]) (t := 31) ?hr ?_; (case hd => rfl); (case hg => rfl); (case hr => first | (go_simp; done) | (go_simp; rfl)); intro gb291 hg w4 hbox hb; have n0_ := Aside0.mk (below_step (bz) hb); have n1_ := Aside0.mk (hbox); have n2_ : Aside0 (w.heap.size ≤ gb291) := bsg hg; have n3_ : Aside0 (w.heap.size ≤ gb291) := bsg hg; clear HB; have HB := n0_; have BK291 := n1_; have GW291 := n2_; have GE291 := n3_; clear n0_ n1_ n2_ n3_; clear hb hbox hg) | ((with_reducible refine gate_dst (N := 3) rfl ?_); refine box_event ?hg (N := 3) ?hd (cs := #[.string a1_0, .string a1_1]) (t := 31) ?hr ?_; (case hd => rfl); (case hg => rfl); (case hr => first | (go_simp; done) | (go_simp; rfl)); intro gb292 hg w5 hbox hb; have n0_ := bkb BK291 hb; have n1_ := Aside0.mk (below_step (bz) hb); have n2_ := Aside0.mk (hbox); have n3_ : Aside0 (w.heap.size ≤ gb292) := bsg hg; have n4_ : Aside0 (w.heap.size ≤ gb292) := bsg hg; have n5_ := nlt hg BK291; have n6_ := ngt hg BK291; clear BK291 HB; have BK291 := n0_; have HB := n1_; have BK292 := n2_; have GW292 := n3_; have GE292 := n4_; have NB291_292 := n5_; have NB292_291 := n6_; clear n0_ n1_ n2_ n3_ n4_ n5_ n6_; clear hb hbox hg) | ((with_reducible refine gate_dst (N := 4) rfl ?_); refine box_event ?hg (N := 4) ?hd (cs := #[.string (⟨#[]⟩ : ByteArray), .string (⟨#[]⟩ : ByteArray)]) (t := 31) ?hr ?_; (case hd => rfl); (case hg => rfl); (case hr => first | (go_simp; done) | (go_simp; rfl)); intro gb293 hg w6 hbox hb; have n0_ := bkb BK291 hb; have n1_ := bkb BK292 hb; have n2_ := Aside0.mk (below_step (bz) hb); have n3_ := Aside0.mk (hbox); have n4_ : Aside0 (w.heap.size ≤ gb293) := bsg hg; have n5_ : Aside0 (w.heap.size ≤ gb293) := bsg hg; have n6_ := nlt hg BK291; have n7_ := ngt hg BK291; have n8_ := nlt hg BK292; have n9_ := ngt hg BK292; clear BK291 BK292 HB; have BK291 := n0_; have BK292 := n1_; have HB := n2_; have BK293 := n3_; have GW293 := n4_; have GE293 := n5_; have NB291_293 := n6_; have NB293_291 := n7_; have NB292_293 := n8_; have NB293_292 := n9_; clear n0_ n1_ n2_ n3_ n4_ n5_ n6_ n7_ n8_ n9_; clear hb hbox hg))
 (try simp only [Act.put, List.setIfInBounds_toArray, List.set_cons_zero, List.set_cons_succ])
 go_cut [14] (fun v14 wc => ∃ (kq : Nat) (x14_2 : Bool), v14 = .bool x14_2 ∧ Aside0 (spec_IntervalMeet.j0 kq x14_2 a0_0 a0_1 a1_0 a1_1 = some (r1, r2, r3)) ∧ Aside0 (kq ≤ k) ∧ Aside0 (wc.heap[gb291]? = some (.cells #[.string a0_0, .string a0_1] 31 (0, 0))) ∧ Aside0 (wc.heap[gb292]? = some (.cells #[.string a1_0, .string a1_1] 31 (0, 0))) ∧ Aside0 (wc.heap[gb293]? = some (.cells #[.string (⟨#[]⟩ : ByteArray), .string (⟨#[]⟩ : ByteArray)] 31 (0, 0))) ∧ Aside0 (Below w.heap.size w wc))
 case first =>
  have H := HC3.out
  clear HC3
  replace H := Option.bind_eq_some_iff.mp H
  obtain ⟨t294, A70, H⟩ := H
  try dsimp only at H
  have A7 := Aside0.mk A70
  clear A70
  by_cases c8 : t294 = true
  ·
   subst c8
   rw [if_pos rfl] at H
   replace H := Option.bind_eq_some_iff.mp H
   obtain ⟨t295, A90, H⟩ := H
   try dsimp only at H
   have A9 := Aside0.mk A90
   clear A90
   have H' := Aside0.mk H
   clear H
   have hnb10 := NB291_292.out
   have hnc10 := NB292_291.out
   have hnb11 := NB291_293.out
   have hnc11 := NB293_291.out
   obtain ⟨hcz12_0, hcz12_1⟩ := cl2 BK291
   obtain ⟨hfz12_0, hfz12_1⟩ := fz2 BK291
   go_wp2_with (first | ((with_reducible refine gate_callee (f := 128) rfl ?_); refine goesL_ (some 8) rfl rfl Try.func128 (by kernel_rfl) rfl #[.agg #[.string a0_0, .string a0_1]] rfl ga ?_; (with_reducible refine (spec_IntervalValid.calls k a0_0 a0_1 true _ A7.out).mono ?_); rintro e w13 ⟨rfl, hb⟩; refine ⟨_, rfl, ?_⟩; have n0_ := bkb BK291 hb; have n1_ := bkb BK292 hb; have n2_ := bkb BK293 hb; have n3_ := Aside0.mk (below_step (bz) hb); clear BK291 BK292 BK293 HB; have BK291 := n0_; have BK292 := n1_; have BK293 := n2_; have HB := n3_; clear n0_ n1_ n2_ n3_; (try clear hb); (try clear hb2); (try clear hk); (try clear hi); have hnb14 := NB292_293.out; have hnc14 := NB293_292.out; obtain ⟨hcz15_0, hcz15_1⟩ := cl2 BK292; obtain ⟨hfz15_0, hfz15_1⟩ := fz2 BK292) | (go_at_call 128; (with_reducible refine (spec_IntervalValid.calls k a1_0 a1_1 t295 _ A9.out).mono ?_); rintro e w16 ⟨rfl, hb⟩; have n0_ := bkb BK291 hb; have n1_ := bkb BK292 hb; have n2_ := bkb BK293 hb; have n3_ := Aside0.mk (below_step (bz) hb); clear BK291 BK292 BK293 HB; have BK291 := n0_; have BK292 := n1_; have BK293 := n2_; have HB := n3_; clear n0_ n1_ n2_ n3_; (try clear hb); (try clear hb2); (try clear hk); (try clear hi)))
   go_meet
   case rel => exact ⟨_, (!t295), (by first | rfl | (simp; done) | exact congrArg Value.bool (ne_nil_b _) | exact congrArg Value.bool (eq_nil_b _) | (simp [*]; done)), H', ⟨by first | omega | exact Nat.le_refl _⟩, ⟨by (with_reducible repeat (first | refine blk_drewN ?_ _ | refine blk_drew ?_ | refine blk_alloc ?_ _)); exact BK291.out⟩, ⟨by (with_reducible repeat (first | refine blk_drewN ?_ _ | refine blk_drew ?_ | refine blk_alloc ?_ _)); exact BK292.out⟩, ⟨by (with_reducible repeat (first | refine blk_drewN ?_ _ | refine blk_drew ?_ | refine blk_alloc ?_ _)); exact BK293.out⟩, ⟨bz⟩⟩
  ·
   replace c8 := Bool.eq_false_iff.mpr c8
   subst c8
   rw [if_neg (show ¬ (false = true) by decide)] at H
   have H' := Aside0.mk H
   clear H
   have hnb17 := NB291_292.out
   have hnc17 := NB292_291.out
   have hnb18 := NB291_293.out
   have hnc18 := NB293_291.out
   obtain ⟨hcz19_0, hcz19_1⟩ := cl2 BK291
   obtain ⟨hfz19_0, hfz19_1⟩ := fz2 BK291
   go_wp2_with (first | ((with_reducible refine gate_callee (f := 128) rfl ?_); refine goesL_ (some 8) rfl rfl Try.func128 (by kernel_rfl) rfl #[.agg #[.string a0_0, .string a0_1]] rfl ga ?_; (with_reducible refine (spec_IntervalValid.calls k a0_0 a0_1 false _ A7.out).mono ?_); rintro e w20 ⟨rfl, hb⟩; refine ⟨_, rfl, ?_⟩; have n0_ := bkb BK291 hb; have n1_ := bkb BK292 hb; have n2_ := bkb BK293 hb; have n3_ := Aside0.mk (below_step (bz) hb); clear BK291 BK292 BK293 HB; have BK291 := n0_; have BK292 := n1_; have BK293 := n2_; have HB := n3_; clear n0_ n1_ n2_ n3_; (try clear hb); (try clear hb2); (try clear hk); (try clear hi)))
   go_meet
   case rel => exact ⟨_, (true), (by first | rfl | (simp; done) | exact congrArg Value.bool (ne_nil_b _) | exact congrArg Value.bool (eq_nil_b _) | (simp [*]; done)), H', ⟨by first | omega | exact Nat.le_refl _⟩, ⟨by (with_reducible repeat (first | refine blk_drewN ?_ _ | refine blk_drew ?_ | refine blk_alloc ?_ _)); exact BK291.out⟩, ⟨by (with_reducible repeat (first | refine blk_drewN ?_ _ | refine blk_drew ?_ | refine blk_alloc ?_ _)); exact BK292.out⟩, ⟨by (with_reducible repeat (first | refine blk_drewN ?_ _ | refine blk_drew ?_ | refine blk_alloc ?_ _)); exact BK293.out⟩, ⟨bz⟩⟩
 case rest =>
  clear HC3
  try clear c1
  try clear p2
  try clear c8
  try clear c10
  try clear c11
  try clear c12
  try clear c14
  try clear c17
  try clear c18
  try clear hcz12_0 hcz12_1
  try clear hcz15_0 hcz15_1
  try clear hcz19_0 hcz19_1
  try clear hfz12_0 hfz12_1
  try clear hfz15_0 hfz15_1
  try clear hfz19_0 hfz19_1
  obtain ⟨kq, x14_2, rfl, HA, HJ2, BK291, BK292, BK293, HB⟩ := hcut
  cases kq with
  | zero => exact absurd HA.out (by simp [spec_IntervalMeet.j0])
  | succ kj2 =>
   have H := HA.out
   clear HA
   simp only [spec_IntervalMeet.j0] at H
   by_cases c21 : x14_2 = true
   ·
    subst c21
    rw [if_pos rfl] at H
    simp only [Option.some.injEq, Prod.mk.injEq] at H
    obtain ⟨rfl, rfl, rfl⟩ := H
    have hnb22 := NB293_291.out
    have hnc22 := NB291_293.out
    have hnb23 := NB293_292.out
    have hnc23 := NB292_293.out
    obtain ⟨hcz24_0, hcz24_1⟩ := cl2 BK293
    obtain ⟨hfz24_0, hfz24_1⟩ := fz2 BK293
    go_wp2
    refine bodyPost_ret (results_ct rfl _ _ gb293 31 #[.string (⟨#[]⟩ : ByteArray), .string (⟨#[]⟩ : ByteArray)] (0, 0) _ rfl (by (with_reducible repeat (first | refine blk_drewN ?_ _ | refine blk_drew ?_ | refine blk_alloc ?_ _)); refine blk_put (cs := #[.string (⟨#[]⟩ : ByteArray), .string (⟨#[]⟩ : ByteArray)]) ?_ 1 _ rfl; (with_reducible repeat (first | refine blk_drewN ?_ _ | refine blk_drew ?_ | refine blk_alloc ?_ _)); refine blk_put (cs := #[.string (⟨#[]⟩ : ByteArray), .string (⟨#[]⟩ : ByteArray)]) ?_ 0 _ rfl; (with_reducible repeat (first | refine blk_drewN ?_ _ | refine blk_drew ?_ | refine blk_alloc ?_ _)); exact BK293.out) Try.underlying31 rfl (by kernel_rfl)) rfl ?_
    exact ⟨by first | rfl | (simp only [u8w, w64m]; rfl) | (simp [errW_none, errW_some] <;> rfl) | (simp [*, errW_none, errW_some] <;> rfl), bz⟩
   ·
    replace c21 := Bool.eq_false_iff.mpr c21
    subst c21
    rw [if_neg (show ¬ (false = true) by decide)] at H
    have HC25 := Aside0.mk H
    clear H
    have hnb26 := NB291_292.out
    have hnc26 := NB292_291.out
    have hnb27 := NB291_293.out
    have hnc27 := NB293_291.out
    obtain ⟨hcz28_0, hcz28_1⟩ := cl2 BK291
    obtain ⟨hfz28_0, hfz28_1⟩ := fz2 BK291
    go_upto_if 21 with (first | ((with_reducible refine gate_dst (N := 6) rfl ?_); refine box_event ?hg (N := 6) ?hd (cs := #[.string (⟨#[]⟩ : ByteArray), .string (⟨#[]⟩ : ByteArray)]) (t := 31) ?hr ?_; (case hd => rfl); (case hg => rfl); (case hr => first | (go_simp; done) | (go_simp; rfl)); intro gb296 hg w29 hbox hb; have n0_ := bkb BK291 hb; have n1_ := bkb BK292 hb; have n2_ := bkb BK293 hb; have n3_ := Aside0.mk (below_step (bz) hb); have n4_ := Aside0.mk (hbox); have n5_ : Aside0 (w.heap.size ≤ gb296) := bsg hg; have n6_ : Aside0 (w.heap.size ≤ gb296) := bsg hg; have n7_ := nlt hg BK291; have n8_ := ngt hg BK291; have n9_ := nlt hg BK292; have n10_ := ngt hg BK292; have n11_ := nlt hg BK293; have n12_ := ngt hg BK293; clear BK291 BK292 BK293 HB; have BK291 := n0_; have BK292 := n1_; have BK293 := n2_; have HB := n3_; have BK296 := n4_; have GW296 := n5_; have GE296 := n6_; have NB291_296 := n7_; have NB296_291 := n8_; have NB292_296 := n9_; have NB296_292 := n10_; have NB293_296 := n11_; have NB296_293 := n12_; clear n0_ n1_ n2_ n3_ n4_ n5_ n6_ n7_ n8_ n9_ n10_ n11_ n12_; clear hb hbox hg; have hnb30 := NB296_291.out; have hnc30 := NB291_296.out; have hnb31 := NB296_292.out; have hnc31 := NB292_296.out; have hnb32 := NB296_293.out; have hnc32 := NB293_296.out; obtain ⟨hcz33_0, hcz33_1⟩ := cl2 BK296; obtain ⟨hfz33_0, hfz33_1⟩ := fz2 BK296; have hnb34 := NB292_293.out; have hnc34 := NB293_292.out; obtain ⟨hcz35_0, hcz35_1⟩ := cl2 BK292; obtain ⟨hfz35_0, hfz35_1⟩ := fz2 BK292; obtain ⟨hcz36_0, hcz36_1⟩ := cl2 BK291; obtain ⟨hfz36_0, hfz36_1⟩ := fz2 BK291))
    (try simp only [Act.put, List.setIfInBounds_toArray, List.set_cons_zero, List.set_cons_succ])
    go_cut [] (fun wc => ∃ (kq : Nat) (x297000_24 : ByteArray), Aside0 (spec_IntervalMeet.j1 kq a0_0 a0_1 a1_0 a1_1 x297000_24 a0_1 = some (r1, r2, r3)) ∧ Aside0 (kq ≤ kj2) ∧ Aside0 (wc.heap[gb291]? = some (.cells #[.string a0_0, .string a0_1] 31 (0, 0))) ∧ Aside0 (wc.heap[gb292]? = some (.cells #[.string a1_0, .string a1_1] 31 (0, 0))) ∧ Aside0 (wc.heap[gb293]? = some (.cells #[.string (⟨#[]⟩ : ByteArray), .string (⟨#[]⟩ : ByteArray)] 31 (0, 0))) ∧ Aside0 (wc.heap[gb296]? = some (.cells #[.string x297000_24, .string a0_1] 31 (0, 0))) ∧ Aside0 (Below w.heap.size w wc))
    case first =>
     have H := HC25.out
     clear HC25
     by_cases c37 : (Op.bytesLess a0_0.toList a1_0.toList) = true
     ·
      rw [if_pos c37] at H
      have c37b0 : (Op.bytesLess a0_0.toList a1_0.toList) = true := c37
      clear c37
      (first | rw [c37b0] | (simp only [i64_w, i32_w]; rw [c37b0]) | skip)
      have H' := Aside0.mk H
      clear H
      have hnb38 := NB292_291.out
      have hnc38 := NB291_292.out
      have hnb39 := NB292_293.out
      have hnc39 := NB293_292.out
      have hnb40 := NB292_296.out
      have hnc40 := NB296_292.out
      obtain ⟨hcz41_0, hcz41_1⟩ := cl2 BK292
      obtain ⟨hfz41_0, hfz41_1⟩ := fz2 BK292
      have hnb42 := NB296_291.out
      have hnc42 := NB291_296.out
      have hnb43 := NB296_293.out
      have hnc43 := NB293_296.out
      obtain ⟨hcz44_0, hcz44_1⟩ := cl2 BK296
      obtain ⟨hfz44_0, hfz44_1⟩ := fz2 BK296
      go_wp2
      go_meet
      case rel => exact ⟨_, (a1_0), H', ⟨by have := HJ2.out; first | omega | exact Nat.le_refl _⟩, ⟨by (with_reducible repeat (first | refine blk_drewN ?_ _ | refine blk_drew ?_ | refine blk_alloc ?_ _)); refine blk_far ?_ NB291_296.out _; (with_reducible repeat (first | refine blk_drewN ?_ _ | refine blk_drew ?_ | refine blk_alloc ?_ _)); refine blk_far ?_ NB291_296.out _; (with_reducible repeat (first | refine blk_drewN ?_ _ | refine blk_drew ?_ | refine blk_alloc ?_ _)); refine blk_far ?_ NB291_296.out _; (with_reducible repeat (first | refine blk_drewN ?_ _ | refine blk_drew ?_ | refine blk_alloc ?_ _)); exact BK291.out⟩, ⟨by (with_reducible repeat (first | refine blk_drewN ?_ _ | refine blk_drew ?_ | refine blk_alloc ?_ _)); refine blk_far ?_ NB292_296.out _; (with_reducible repeat (first | refine blk_drewN ?_ _ | refine blk_drew ?_ | refine blk_alloc ?_ _)); refine blk_far ?_ NB292_296.out _; (with_reducible repeat (first | refine blk_drewN ?_ _ | refine blk_drew ?_ | refine blk_alloc ?_ _)); refine blk_far ?_ NB292_296.out _; (with_reducible repeat (first | refine blk_drewN ?_ _ | refine blk_drew ?_ | refine blk_alloc ?_ _)); exact BK292.out⟩, ⟨by (with_reducible repeat (first | refine blk_drewN ?_ _ | refine blk_drew ?_ | refine blk_alloc ?_ _)); refine blk_far ?_ NB293_296.out _; (with_reducible repeat (first | refine blk_drewN ?_ _ | refine blk_drew ?_ | refine blk_alloc ?_ _)); refine blk_far ?_ NB293_296.out _; (with_reducible repeat (first | refine blk_drewN ?_ _ | refine blk_drew ?_ | refine blk_alloc ?_ _)); refine blk_far ?_ NB293_296.out _; (with_reducible repeat (first | refine blk_drewN ?_ _ | refine blk_drew ?_ | refine blk_alloc ?_ _)); exact BK293.out⟩, ⟨by (with_reducible repeat (first | refine blk_drewN ?_ _ | refine blk_drew ?_ | refine blk_alloc ?_ _)); refine blk_put (cs := #[.string a0_0, .string a0_1]) ?_ 0 _ rfl; (with_reducible repeat (first | refine blk_drewN ?_ _ | refine blk_drew ?_ | refine blk_alloc ?_ _)); refine blk_put (cs := #[.string a0_0, .string (⟨#[]⟩ : ByteArray)]) ?_ 1 _ rfl; (with_reducible repeat (first | refine blk_drewN ?_ _ | refine blk_drew ?_ | refine blk_alloc ?_ _)); refine blk_put (cs := #[.string (⟨#[]⟩ : ByteArray), .string (⟨#[]⟩ : ByteArray)]) ?_ 0 _ rfl; (with_reducible repeat (first | refine blk_drewN ?_ _ | refine blk_drew ?_ | refine blk_alloc ?_ _)); exact BK296.out⟩, ⟨bz⟩⟩
     ·
      rw [if_neg c37] at H
      have c37b0 : (Op.bytesLess a0_0.toList a1_0.toList) = false := by simpa using c37
      clear c37
      (first | rw [c37b0] | (simp only [i64_w, i32_w]; rw [c37b0]) | skip)
      have H' := Aside0.mk H
      clear H
      go_wp2
      go_meet
      case rel => exact ⟨_, (a0_0), H', ⟨by have := HJ2.out; first | omega | exact Nat.le_refl _⟩, ⟨by (with_reducible repeat (first | refine blk_drewN ?_ _ | refine blk_drew ?_ | refine blk_alloc ?_ _)); refine blk_far ?_ NB291_296.out _; (with_reducible repeat (first | refine blk_drewN ?_ _ | refine blk_drew ?_ | refine blk_alloc ?_ _)); refine blk_far ?_ NB291_296.out _; (with_reducible repeat (first | refine blk_drewN ?_ _ | refine blk_drew ?_ | refine blk_alloc ?_ _)); exact BK291.out⟩, ⟨by (with_reducible repeat (first | refine blk_drewN ?_ _ | refine blk_drew ?_ | refine blk_alloc ?_ _)); refine blk_far ?_ NB292_296.out _; (with_reducible repeat (first | refine blk_drewN ?_ _ | refine blk_drew ?_ | refine blk_alloc ?_ _)); refine blk_far ?_ NB292_296.out _; (with_reducible repeat (first | refine blk_drewN ?_ _ | refine blk_drew ?_ | refine blk_alloc ?_ _)); exact BK292.out⟩, ⟨by (with_reducible repeat (first | refine blk_drewN ?_ _ | refine blk_drew ?_ | refine blk_alloc ?_ _)); refine blk_far ?_ NB293_296.out _; (with_reducible repeat (first | refine blk_drewN ?_ _ | refine blk_drew ?_ | refine blk_alloc ?_ _)); refine blk_far ?_ NB293_296.out _; (with_reducible repeat (first | refine blk_drewN ?_ _ | refine blk_drew ?_ | refine blk_alloc ?_ _)); exact BK293.out⟩, ⟨by (with_reducible repeat (first | refine blk_drewN ?_ _ | refine blk_drew ?_ | refine blk_alloc ?_ _)); refine blk_put (cs := #[.string a0_0, .string (⟨#[]⟩ : ByteArray)]) ?_ 1 _ rfl; (with_reducible repeat (first | refine blk_drewN ?_ _ | refine blk_drew ?_ | refine blk_alloc ?_ _)); refine blk_put (cs := #[.string (⟨#[]⟩ : ByteArray), .string (⟨#[]⟩ : ByteArray)]) ?_ 0 _ rfl; (with_reducible repeat (first | refine blk_drewN ?_ _ | refine blk_drew ?_ | refine blk_alloc ?_ _)); exact BK296.out⟩, ⟨bz⟩⟩
    case rest =>
     clear HC25
     try clear c1
     try clear c2
     try clear p2
     try clear c3
     try clear c4
     try clear c8
     try clear c10
     try clear c11
     try clear c12
     try clear c14
     try clear c17
     try clear c18
     try clear c21
     try clear c22
     try clear c23
     try clear c26
     try clear c27
     try clear c30
     try clear c31
     try clear c32
     try clear c34
     try clear c37
     try clear c37b0
     try clear c38
     try clear c39
     try clear c40
     try clear c42
     try clear c43
     try clear hcz12_0 hcz12_1
     try clear hcz15_0 hcz15_1
     try clear hcz19_0 hcz19_1
     try clear hcz24_0 hcz24_1
     try clear hcz28_0 hcz28_1
     try clear hcz33_0 hcz33_1
     try clear hcz35_0 hcz35_1
     try clear hcz36_0 hcz36_1
     try clear hcz41_0 hcz41_1
     try clear hcz44_0 hcz44_1
     try clear hfz12_0 hfz12_1
     try clear hfz15_0 hfz15_1
     try clear hfz19_0 hfz19_1
     try clear hfz24_0 hfz24_1
     try clear hfz28_0 hfz28_1
     try clear hfz33_0 hfz33_1
     try clear hfz35_0 hfz35_1
     try clear hfz36_0 hfz36_1
     try clear hfz41_0 hfz41_1
     try clear hfz44_0 hfz44_1
     try clear p2
     obtain ⟨kq, x297000_24, HA, HJ24, BK291, BK292, BK293, BK296, HB⟩ := hcut
     cases kq with
     | zero => exact absurd HA.out (by simp [spec_IntervalMeet.j1])
     | succ kj24 =>
      have H := HA.out
      clear HA
      simp only [spec_IntervalMeet.j1] at H
      have HC45 := Aside0.mk H
      clear H
      go_upto_region 6 with (fail)
      go_cut [39] (fun v39 wc => ∃ (kq : Nat) (x39_44 : Bool), v39 = .bool x39_44 ∧ Aside0 (spec_IntervalMeet.j2 kq x39_44 a1_0 a1_1 x297000_24 a0_1 = some (r1, r2, r3)) ∧ Aside0 (kq ≤ kj24) ∧ Aside0 (wc.heap[gb291]? = some (.cells #[.string a0_0, .string a0_1] 31 (0, 0))) ∧ Aside0 (wc.heap[gb292]? = some (.cells #[.string a1_0, .string a1_1] 31 (0, 0))) ∧ Aside0 (wc.heap[gb293]? = some (.cells #[.string (⟨#[]⟩ : ByteArray), .string (⟨#[]⟩ : ByteArray)] 31 (0, 0))) ∧ Aside0 (wc.heap[gb296]? = some (.cells #[.string x297000_24, .string a0_1] 31 (0, 0))) ∧ Aside0 (Below w.heap.size w wc))
      case first =>
       have H := HC45.out
       clear HC45
       by_cases c46 : a1_1.toList = ([] : List UInt8)
       ·
        rw [if_pos c46] at H
        have c46b0 : (a1_1.toList == ([] : List UInt8)) = true := beq_iff_eq.mpr c46
        have c46b1 : (a1_1.toList != ([] : List UInt8)) = false := bne_eq_false_iff_eq.mpr c46
        clear c46
        (first | rw [c46b0] | (simp only [i64_w, i32_w]; rw [c46b0]) | skip)
        have H' := Aside0.mk H
        clear H
        have hnb47 := NB292_291.out
        have hnc47 := NB291_292.out
        have hnb48 := NB292_293.out
        have hnc48 := NB293_292.out
        have hnb49 := NB292_296.out
        have hnc49 := NB296_292.out
        obtain ⟨hcz50_0, hcz50_1⟩ := cl2 BK292
        obtain ⟨hfz50_0, hfz50_1⟩ := fz2 BK292
        go_wp2
        go_meet
        case rel => exact ⟨_, (false), (by first | rfl | (simp; done) | exact congrArg Value.bool (ne_nil_b _) | exact congrArg Value.bool (eq_nil_b _) | (simp [*]; done)), H', ⟨by have := HJ2.out; have := HJ24.out; first | omega | exact Nat.le_refl _⟩, ⟨by (with_reducible repeat (first | refine blk_drewN ?_ _ | refine blk_drew ?_ | refine blk_alloc ?_ _)); exact BK291.out⟩, ⟨by (with_reducible repeat (first | refine blk_drewN ?_ _ | refine blk_drew ?_ | refine blk_alloc ?_ _)); exact BK292.out⟩, ⟨by (with_reducible repeat (first | refine blk_drewN ?_ _ | refine blk_drew ?_ | refine blk_alloc ?_ _)); exact BK293.out⟩, ⟨by (with_reducible repeat (first | refine blk_drewN ?_ _ | refine blk_drew ?_ | refine blk_alloc ?_ _)); exact BK296.out⟩, ⟨bz⟩⟩
       ·
        rw [if_neg c46] at H
        have c46b0 : (a1_1.toList == ([] : List UInt8)) = false := beq_eq_false_iff_ne.mpr c46
        have c46b1 : (a1_1.toList != ([] : List UInt8)) = true := bne_iff_ne.mpr c46
        (first | rw [c46b0] | (simp only [i64_w, i32_w]; rw [c46b0]) | skip)
        by_cases c51 : a0_1.toList = ([] : List UInt8)
        ·
         rw [if_pos c51] at H
         have c51b0 : (a0_1.toList == ([] : List UInt8)) = true := beq_iff_eq.mpr c51
         have c51b1 : (a0_1.toList != ([] : List UInt8)) = false := bne_eq_false_iff_eq.mpr c51
         clear c51
         have H' := Aside0.mk H
         clear H
         have hnb52 := NB292_291.out
         have hnc52 := NB291_292.out
         have hnb53 := NB292_293.out
         have hnc53 := NB293_292.out
         have hnb54 := NB292_296.out
         have hnc54 := NB296_292.out
         obtain ⟨hcz55_0, hcz55_1⟩ := cl2 BK292
         obtain ⟨hfz55_0, hfz55_1⟩ := fz2 BK292
         have hnb56 := NB291_293.out
         have hnc56 := NB293_291.out
         have hnb57 := NB291_296.out
         have hnc57 := NB296_291.out
         obtain ⟨hcz58_0, hcz58_1⟩ := cl2 BK291
         obtain ⟨hfz58_0, hfz58_1⟩ := fz2 BK291
         go_wp2
         go_meet
         case rel => exact ⟨_, (true), (by first | rfl | (simp; done) | exact congrArg Value.bool (ne_nil_b _) | exact congrArg Value.bool (eq_nil_b _) | (simp [*]; done)), H', ⟨by have := HJ2.out; have := HJ24.out; first | omega | exact Nat.le_refl _⟩, ⟨by (with_reducible repeat (first | refine blk_drewN ?_ _ | refine blk_drew ?_ | refine blk_alloc ?_ _)); exact BK291.out⟩, ⟨by (with_reducible repeat (first | refine blk_drewN ?_ _ | refine blk_drew ?_ | refine blk_alloc ?_ _)); exact BK292.out⟩, ⟨by (with_reducible repeat (first | refine blk_drewN ?_ _ | refine blk_drew ?_ | refine blk_alloc ?_ _)); exact BK293.out⟩, ⟨by (with_reducible repeat (first | refine blk_drewN ?_ _ | refine blk_drew ?_ | refine blk_alloc ?_ _)); exact BK296.out⟩, ⟨bz⟩⟩
        ·
         rw [if_neg c51] at H
         have c51b0 : (a0_1.toList == ([] : List UInt8)) = false := beq_eq_false_iff_ne.mpr c51
         have c51b1 : (a0_1.toList != ([] : List UInt8)) = true := bne_iff_ne.mpr c51
         have H' := Aside0.mk H
         clear H
         have hnb59 := NB292_291.out
         have hnc59 := NB291_292.out
         have hnb60 := NB292_293.out
         have hnc60 := NB293_292.out
         have hnb61 := NB292_296.out
         have hnc61 := NB296_292.out
         obtain ⟨hcz62_0, hcz62_1⟩ := cl2 BK292
         obtain ⟨hfz62_0, hfz62_1⟩ := fz2 BK292
         have hnb63 := NB291_293.out
         have hnc63 := NB293_291.out
         have hnb64 := NB291_296.out
         have hnc64 := NB296_291.out
         obtain ⟨hcz65_0, hcz65_1⟩ := cl2 BK291
         obtain ⟨hfz65_0, hfz65_1⟩ := fz2 BK291
         go_wp2
         go_meet
         case rel => exact ⟨_, ((Op.bytesLess a1_1.toList a0_1.toList)), (by first | rfl | (simp; done) | exact congrArg Value.bool (ne_nil_b _) | exact congrArg Value.bool (eq_nil_b _) | (simp [*]; done)), H', ⟨by have := HJ2.out; have := HJ24.out; first | omega | exact Nat.le_refl _⟩, ⟨by (with_reducible repeat (first | refine blk_drewN ?_ _ | refine blk_drew ?_ | refine blk_alloc ?_ _)); exact BK291.out⟩, ⟨by (with_reducible repeat (first | refine blk_drewN ?_ _ | refine blk_drew ?_ | refine blk_alloc ?_ _)); exact BK292.out⟩, ⟨by (with_reducible repeat (first | refine blk_drewN ?_ _ | refine blk_drew ?_ | refine blk_alloc ?_ _)); exact BK293.out⟩, ⟨by (with_reducible repeat (first | refine blk_drewN ?_ _ | refine blk_drew ?_ | refine blk_alloc ?_ _)); exact BK296.out⟩, ⟨bz⟩⟩
      case rest =>
       clear HC45
       try clear c1
       try clear c2
       try clear p2
       try clear c3
       try clear c4
       try clear c5
       try clear c6
       try clear c8
       try clear c10
       try clear c11
       try clear c12
       try clear c14
       try clear c17
       try clear c18
       try clear c21
       try clear c22
       try clear c23
       try clear c26
       try clear c27
       try clear c30
       try clear c31
       try clear c32
       try clear c34
       try clear c37
       try clear c37b0
       try clear c38
       try clear c39
       try clear c40
       try clear c42
       try clear c43
       try clear c46
       try clear c46b0
       try clear c46b1
       try clear c47
       try clear c48
       try clear c49
       try clear c51
       try clear c51b0
       try clear c51b1
       try clear c52
       try clear c53
       try clear c54
       try clear c56
       try clear c57
       try clear c59
       try clear c60
       try clear c61
       try clear c63
       try clear c64
       try clear hcz12_0 hcz12_1
       try clear hcz15_0 hcz15_1
       try clear hcz19_0 hcz19_1
       try clear hcz24_0 hcz24_1
       try clear hcz28_0 hcz28_1
       try clear hcz33_0 hcz33_1
       try clear hcz35_0 hcz35_1
       try clear hcz36_0 hcz36_1
       try clear hcz41_0 hcz41_1
       try clear hcz44_0 hcz44_1
       try clear hcz50_0 hcz50_1
       try clear hcz55_0 hcz55_1
       try clear hcz58_0 hcz58_1
       try clear hcz62_0 hcz62_1
       try clear hcz65_0 hcz65_1
       try clear hfz12_0 hfz12_1
       try clear hfz15_0 hfz15_1
       try clear hfz19_0 hfz19_1
       try clear hfz24_0 hfz24_1
       try clear hfz28_0 hfz28_1
       try clear hfz33_0 hfz33_1
       try clear hfz35_0 hfz35_1
       try clear hfz36_0 hfz36_1
       try clear hfz41_0 hfz41_1
       try clear hfz44_0 hfz44_1
       try clear hfz50_0 hfz50_1
       try clear hfz55_0 hfz55_1
       try clear hfz58_0 hfz58_1
       try clear hfz62_0 hfz62_1
       try clear hfz65_0 hfz65_1
       try clear p2
       obtain ⟨kq, x39_44, rfl, HA, HJ44, BK291, BK292, BK293, BK296, HB⟩ := hcut
       cases kq with
       | zero => exact absurd HA.out (by simp [spec_IntervalMeet.j2])
       | succ kj44 =>
        have H := HA.out
        clear HA
        simp only [spec_IntervalMeet.j2] at H
        by_cases c66 : x39_44 = true
        ·
         subst c66
         rw [if_pos rfl] at H
         replace H := Option.bind_eq_some_iff.mp H
         obtain ⟨t297, A670, H⟩ := H
         try dsimp only at H
         have A67 := Aside0.mk A670
         clear A670
         by_cases c68 : t297 = true
         ·
          subst c68
          rw [if_pos rfl] at H
          simp only [Option.some.injEq, Prod.mk.injEq] at H
          obtain ⟨rfl, rfl, rfl⟩ := H
          have hnb69 := NB292_291.out
          have hnc69 := NB291_292.out
          have hnb70 := NB292_293.out
          have hnc70 := NB293_292.out
          have hnb71 := NB292_296.out
          have hnc71 := NB296_292.out
          obtain ⟨hcz72_0, hcz72_1⟩ := cl2 BK292
          obtain ⟨hfz72_0, hfz72_1⟩ := fz2 BK292
          have hnb73 := NB296_291.out
          have hnc73 := NB291_296.out
          have hnb74 := NB296_293.out
          have hnc74 := NB293_296.out
          obtain ⟨hcz75_0, hcz75_1⟩ := cl2 BK296
          obtain ⟨hfz75_0, hfz75_1⟩ := fz2 BK296
          go_wp2_with (first | ((with_reducible refine gate_callee (f := 128) rfl ?_); refine goesL_ (some 44) rfl rfl Try.func128 (by kernel_rfl) rfl #[.agg #[.string x297000_24, .string a1_1]] rfl ga ?_; (with_reducible refine (spec_IntervalValid.calls kj44 x297000_24 a1_1 true _ A67.out).mono ?_); rintro e w76 ⟨rfl, hb⟩; refine ⟨_, rfl, ?_⟩; have n0_ := bkb BK291 hb; have n1_ := bkb BK292 hb; have n2_ := bkb BK293 hb; have n3_ := Aside0.mk (blk_below (g := gb296) (o := .cells #[.string x297000_24, .string a1_1] 31 (0, 0)) (by (with_reducible repeat (first | refine blk_drewN ?_ _ | refine blk_drew ?_ | refine blk_alloc ?_ _)); refine blk_put (cs := #[.string x297000_24, .string a0_1]) ?_ 1 _ rfl; (with_reducible repeat (first | refine blk_drewN ?_ _ | refine blk_drew ?_ | refine blk_alloc ?_ _)); exact BK296.out) hb); have n4_ := Aside0.mk (below_step (bz) hb); clear BK291 BK292 BK293 BK296 HB; have BK291 := n0_; have BK292 := n1_; have BK293 := n2_; have BK296 := n3_; have HB := n4_; clear n0_ n1_ n2_ n3_ n4_; (try clear hb); (try clear hb2); (try clear hk); (try clear hi); obtain ⟨hcz77_0, hcz77_1⟩ := cl2 BK296; obtain ⟨hfz77_0, hfz77_1⟩ := fz2 BK296; have hnb78 := NB293_291.out; have hnc78 := NB291_293.out; obtain ⟨hcz79_0, hcz79_1⟩ := cl2 BK293; obtain ⟨hfz79_0, hfz79_1⟩ := fz2 BK293))
          refine bodyPost_ret (results_ct rfl _ _ gb293 31 #[.string x297000_24, .string a1_1] (0, 0) _ rfl (by (with_reducible repeat (first | refine blk_drewN ?_ _ | refine blk_drew ?_ | refine blk_alloc ?_ _)); refine blk_put (cs := #[.string x297000_24, .string (⟨#[]⟩ : ByteArray)]) ?_ 1 _ rfl; (with_reducible repeat (first | refine blk_drewN ?_ _ | refine blk_drew ?_ | refine blk_alloc ?_ _)); refine blk_put (cs := #[.string (⟨#[]⟩ : ByteArray), .string (⟨#[]⟩ : ByteArray)]) ?_ 0 _ rfl; (with_reducible repeat (first | refine blk_drewN ?_ _ | refine blk_drew ?_ | refine blk_alloc ?_ _)); exact BK293.out) Try.underlying31 rfl (by kernel_rfl)) rfl ?_
          exact ⟨by first | rfl | (simp only [u8w, w64m]; rfl) | (simp [errW_none, errW_some] <;> rfl) | (simp [*, errW_none, errW_some] <;> rfl), bz⟩
         ·
          replace c68 := Bool.eq_false_iff.mpr c68
          subst c68
          rw [if_neg (show ¬ (false = true) by decide)] at H
          simp only [Option.some.injEq, Prod.mk.injEq] at H
          obtain ⟨rfl, rfl, rfl⟩ := H
          have hnb80 := NB292_291.out
          have hnc80 := NB291_292.out
          have hnb81 := NB292_293.out
          have hnc81 := NB293_292.out
          have hnb82 := NB292_296.out
          have hnc82 := NB296_292.out
          obtain ⟨hcz83_0, hcz83_1⟩ := cl2 BK292
          obtain ⟨hfz83_0, hfz83_1⟩ := fz2 BK292
          have hnb84 := NB296_291.out
          have hnc84 := NB291_296.out
          have hnb85 := NB296_293.out
          have hnc85 := NB293_296.out
          obtain ⟨hcz86_0, hcz86_1⟩ := cl2 BK296
          obtain ⟨hfz86_0, hfz86_1⟩ := fz2 BK296
          go_wp2_with (first | ((with_reducible refine gate_callee (f := 128) rfl ?_); refine goesL_ (some 44) rfl rfl Try.func128 (by kernel_rfl) rfl #[.agg #[.string x297000_24, .string a1_1]] rfl ga ?_; (with_reducible refine (spec_IntervalValid.calls kj44 x297000_24 a1_1 false _ A67.out).mono ?_); rintro e w87 ⟨rfl, hb⟩; refine ⟨_, rfl, ?_⟩; have n0_ := bkb BK291 hb; have n1_ := bkb BK292 hb; have n2_ := bkb BK293 hb; have n3_ := Aside0.mk (blk_below (g := gb296) (o := .cells #[.string x297000_24, .string a1_1] 31 (0, 0)) (by (with_reducible repeat (first | refine blk_drewN ?_ _ | refine blk_drew ?_ | refine blk_alloc ?_ _)); refine blk_put (cs := #[.string x297000_24, .string a0_1]) ?_ 1 _ rfl; (with_reducible repeat (first | refine blk_drewN ?_ _ | refine blk_drew ?_ | refine blk_alloc ?_ _)); exact BK296.out) hb); have n4_ := Aside0.mk (below_step (bz) hb); clear BK291 BK292 BK293 BK296 HB; have BK291 := n0_; have BK292 := n1_; have BK293 := n2_; have BK296 := n3_; have HB := n4_; clear n0_ n1_ n2_ n3_ n4_; (try clear hb); (try clear hb2); (try clear hk); (try clear hi); have hnb88 := NB293_291.out; have hnc88 := NB291_293.out; obtain ⟨hcz89_0, hcz89_1⟩ := cl2 BK293; obtain ⟨hfz89_0, hfz89_1⟩ := fz2 BK293))
          refine bodyPost_ret (results_ct rfl _ _ gb293 31 #[.string (⟨#[]⟩ : ByteArray), .string (⟨#[]⟩ : ByteArray)] (0, 0) _ rfl (by (with_reducible repeat (first | refine blk_drewN ?_ _ | refine blk_drew ?_ | refine blk_alloc ?_ _)); refine blk_put (cs := #[.string (⟨#[]⟩ : ByteArray), .string (⟨#[]⟩ : ByteArray)]) ?_ 1 _ rfl; (with_reducible repeat (first | refine blk_drewN ?_ _ | refine blk_drew ?_ | refine blk_alloc ?_ _)); refine blk_put (cs := #[.string (⟨#[]⟩ : ByteArray), .string (⟨#[]⟩ : ByteArray)]) ?_ 0 _ rfl; (with_reducible repeat (first | refine blk_drewN ?_ _ | refine blk_drew ?_ | refine blk_alloc ?_ _)); exact BK293.out) Try.underlying31 rfl (by kernel_rfl)) rfl ?_
          exact ⟨by first | rfl | (simp only [u8w, w64m]; rfl) | (simp [errW_none, errW_some] <;> rfl) | (simp [*, errW_none, errW_some] <;> rfl), bz⟩
        ·
         replace c66 := Bool.eq_false_iff.mpr c66
         subst c66
         rw [if_neg (show ¬ (false = true) by decide)] at H
         replace H := Option.bind_eq_some_iff.mp H
         obtain ⟨t298, A900, H⟩ := H
         try dsimp only at H
         have A90 := Aside0.mk A900
         clear A900
         by_cases c91 : t298 = true
         ·
          subst c91
          rw [if_pos rfl] at H
          simp only [Option.some.injEq, Prod.mk.injEq] at H
          obtain ⟨rfl, rfl, rfl⟩ := H
          have hnb92 := NB296_291.out
          have hnc92 := NB291_296.out
          have hnb93 := NB296_292.out
          have hnc93 := NB292_296.out
          have hnb94 := NB296_293.out
          have hnc94 := NB293_296.out
          obtain ⟨hcz95_0, hcz95_1⟩ := cl2 BK296
          obtain ⟨hfz95_0, hfz95_1⟩ := fz2 BK296
          go_wp2_with (first | ((with_reducible refine gate_callee (f := 128) rfl ?_); refine goesL_ (some 44) rfl rfl Try.func128 (by kernel_rfl) rfl #[.agg #[.string x297000_24, .string a0_1]] rfl ga ?_; (with_reducible refine (spec_IntervalValid.calls kj44 x297000_24 a0_1 true _ A90.out).mono ?_); rintro e w96 ⟨rfl, hb⟩; refine ⟨_, rfl, ?_⟩; have n0_ := bkb BK291 hb; have n1_ := bkb BK292 hb; have n2_ := bkb BK293 hb; have n3_ := bkb BK296 hb; have n4_ := Aside0.mk (below_step (bz) hb); clear BK291 BK292 BK293 BK296 HB; have BK291 := n0_; have BK292 := n1_; have BK293 := n2_; have BK296 := n3_; have HB := n4_; clear n0_ n1_ n2_ n3_ n4_; (try clear hb); (try clear hb2); (try clear hk); (try clear hi); obtain ⟨hcz97_0, hcz97_1⟩ := cl2 BK296; obtain ⟨hfz97_0, hfz97_1⟩ := fz2 BK296; have hnb98 := NB293_291.out; have hnc98 := NB291_293.out; have hnb99 := NB293_292.out; have hnc99 := NB292_293.out; obtain ⟨hcz100_0, hcz100_1⟩ := cl2 BK293; obtain ⟨hfz100_0, hfz100_1⟩ := fz2 BK293))
          refine bodyPost_ret (results_ct rfl _ _ gb293 31 #[.string x297000_24, .string a0_1] (0, 0) _ rfl (by (with_reducible repeat (first | refine blk_drewN ?_ _ | refine blk_drew ?_ | refine blk_alloc ?_ _)); refine blk_put (cs := #[.string x297000_24, .string (⟨#[]⟩ : ByteArray)]) ?_ 1 _ rfl; (with_reducible repeat (first | refine blk_drewN ?_ _ | refine blk_drew ?_ | refine blk_alloc ?_ _)); refine blk_put (cs := #[.string (⟨#[]⟩ : ByteArray), .string (⟨#[]⟩ : ByteArray)]) ?_ 0 _ rfl; (with_reducible repeat (first | refine blk_drewN ?_ _ | refine blk_drew ?_ | refine blk_alloc ?_ _)); exact BK293.out) Try.underlying31 rfl (by kernel_rfl)) rfl ?_
          exact ⟨by first | rfl | (simp only [u8w, w64m]; rfl) | (simp [errW_none, errW_some] <;> rfl) | (simp [*, errW_none, errW_some] <;> rfl), bz⟩
         ·
          replace c91 := Bool.eq_false_iff.mpr c91
          subst c91
          rw [if_neg (show ¬ (false = true) by decide)] at H
          simp only [Option.some.injEq, Prod.mk.injEq] at H
          obtain ⟨rfl, rfl, rfl⟩ := H
          have hnb101 := NB296_291.out
          have hnc101 := NB291_296.out
          have hnb102 := NB296_292.out
          have hnc102 := NB292_296.out
          have hnb103 := NB296_293.out
          have hnc103 := NB293_296.out
          obtain ⟨hcz104_0, hcz104_1⟩ := cl2 BK296
          obtain ⟨hfz104_0, hfz104_1⟩ := fz2 BK296
          go_wp2_with (first | ((with_reducible refine gate_callee (f := 128) rfl ?_); refine goesL_ (some 44) rfl rfl Try.func128 (by kernel_rfl) rfl #[.agg #[.string x297000_24, .string a0_1]] rfl ga ?_; (with_reducible refine (spec_IntervalValid.calls kj44 x297000_24 a0_1 false _ A90.out).mono ?_); rintro e w105 ⟨rfl, hb⟩; refine ⟨_, rfl, ?_⟩; have n0_ := bkb BK291 hb; have n1_ := bkb BK292 hb; have n2_ := bkb BK293 hb; have n3_ := bkb BK296 hb; have n4_ := Aside0.mk (below_step (bz) hb); clear BK291 BK292 BK293 BK296 HB; have BK291 := n0_; have BK292 := n1_; have BK293 := n2_; have BK296 := n3_; have HB := n4_; clear n0_ n1_ n2_ n3_ n4_; (try clear hb); (try clear hb2); (try clear hk); (try clear hi); have hnb106 := NB293_291.out; have hnc106 := NB291_293.out; have hnb107 := NB293_292.out; have hnc107 := NB292_293.out; obtain ⟨hcz108_0, hcz108_1⟩ := cl2 BK293; obtain ⟨hfz108_0, hfz108_1⟩ := fz2 BK293))
          refine bodyPost_ret (results_ct rfl _ _ gb293 31 #[.string (⟨#[]⟩ : ByteArray), .string (⟨#[]⟩ : ByteArray)] (0, 0) _ rfl (by (with_reducible repeat (first | refine blk_drewN ?_ _ | refine blk_drew ?_ | refine blk_alloc ?_ _)); refine blk_put (cs := #[.string (⟨#[]⟩ : ByteArray), .string (⟨#[]⟩ : ByteArray)]) ?_ 1 _ rfl; (with_reducible repeat (first | refine blk_drewN ?_ _ | refine blk_drew ?_ | refine blk_alloc ?_ _)); refine blk_put (cs := #[.string (⟨#[]⟩ : ByteArray), .string (⟨#[]⟩ : ByteArray)]) ?_ 0 _ rfl; (with_reducible repeat (first | refine blk_drewN ?_ _ | refine blk_drew ?_ | refine blk_alloc ?_ _)); exact BK293.out) Try.underlying31 rfl (by kernel_rfl)) rfl ?_
          exact ⟨by first | rfl | (simp only [u8w, w64m]; rfl) | (simp [errW_none, errW_some] <;> rfl) | (simp [*, errW_none, errW_some] <;> rfl), bz⟩

end Go.Proofs.Ytkjkokljgbpbbaa.PFnGiveUp
