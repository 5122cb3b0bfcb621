/- Go functions as plain Lean functions, and for each a proof that its call comes to what the function says; under the conditions that each theorem names. Written by a program of this session. -/
import Derived.Test.YtkjkokljgbpbbaaPFnGiveUpx0
import Derived.Test.YtkjkokljgbpbbaaPFnGiveUpx10
import Derived.Test.YtkjkokljgbpbbaaPFnGiveUpx12
namespace Go.Proofs.Ytkjkokljgbpbbaa.PFnGiveUp
open Go.RowKit Go.Proofs.YtkjkokljgbpbbaaW.PrintWords Go.Proofs.YtkjkokljgbpbbaaW.PrintLast Go.Proofs.YtkjkokljgbpbbaaW.PrintMore
attribute [local go_sem high] str_gtr str_leq str_geq
attribute [local go_sem] max2_int min2_int max_two min_two max_three min_three max_four min_four   -- for this text's walks alone
set_option linter.unusedVariables false
set_option linter.unusedSimpArgs false

/-! ### spec_l20Span: function 143 -/
def spec_l20Span.j0 : Nat → ByteArray → ByteArray → List Int → Int → Option (ByteArray × ByteArray × Int)
 | 0, _, _, _, _ => none
 | k + 1, x5, x6, x1000, x1001 => if (Op.bytesLess x5.toList x6.toList) = true then (some (x5, x6, x1001)) else (if (Op.bytesLess x6.toList x5.toList) = true then (some (x6, x5, x1001)) else (some (x5, (⟨#[]⟩ : ByteArray), x1001)))
def spec_l20Span.f (k : Nat) (s0_0 : List Int) (s0_1 : Int) (a1 : Int) : Option (ByteArray × ByteArray × Int) := (spec_l20Rd_odd.f k s0_0 s0_1 a1).bind fun bt334 => (if bt334.1 = true then ((some (([(⟨(⟨#[98]⟩ : ByteArray), (⟨#[98]⟩ : ByteArray)⟩ : S31), (⟨(⟨#[99]⟩ : ByteArray), (⟨#[98]⟩ : ByteArray)⟩ : S31), (⟨(⟨#[]⟩ : ByteArray), (⟨#[97]⟩ : ByteArray)⟩ : S31), (⟨(⟨#[65]⟩ : ByteArray), (⟨#[]⟩ : ByteArray)⟩ : S31), (⟨(⟨#[]⟩ : ByteArray), (⟨#[97, 98, 99, 100, 101]⟩ : ByteArray)⟩ : S31)] : List (S31)) : List (S31))).bind fun y336 => ((spec_l20Rd_pick.f k s0_0 bt334.2 5).bind fun bt339 => (if 0 ≤ bt339.1 then (if bt339.1 < (y336.length : Int) then (some ((rd_T31 y336 bt339.1).f0, (rd_T31 y336 bt339.1).f1, bt339.2)) else (none)) else (none)))) else ((spec_l20Key.f k s0_0 bt334.2 0).bind fun bt342 => ((spec_l20Key.f k s0_0 bt342.2 0).bind fun bt344 => ((spec_l20Rd_pick.f k s0_0 bt344.2 6).bind fun bt346 => (if bt346.1 = 0 then (some ((⟨#[]⟩ : ByteArray), (⟨#[]⟩ : ByteArray), bt346.2)) else (if bt346.1 = 1 then (some (bt342.1, (⟨#[]⟩ : ByteArray), bt346.2)) else (if bt346.1 = 2 then (if bt344.1.toList = ([97] : List UInt8) then (spec_l20Span.j0 k bt342.1 bt344.1 s0_0 bt346.2) else (some ((⟨#[]⟩ : ByteArray), bt344.1, bt346.2))) else (spec_l20Span.j0 k bt342.1 bt344.1 s0_0 bt346.2))))))))
theorem spec_l20Span.mono_l : ∀ k, (∀ y0 y1 y2 y3, LeO (spec_l20Span.j0 k y0 y1 y2 y3) (spec_l20Span.j0 (k + 1) y0 y1 y2 y3))
 | 0 => fun _ _ _ _ r h => by simp [spec_l20Span.j0] at h
 | k + 1 => by
  have ih0 := spec_l20Span.mono_l k
  ·
   intro y0 y1 y2 y3
   unfold spec_l20Span.j0
   repeat' first
   | (with_reducible exact ih0 _ _ _ _)
   | (with_reducible exact spec_l20Key.mono _ _ _ _)
   | (with_reducible exact spec_l20Rd_odd.mono _ _ _ _)
   | (with_reducible exact spec_l20Rd_pick.mono _ _ _ _)
   | (with_reducible exact LeO.refl _)
   | (with_reducible exact LeO.none _)
   | (with_reducible refine LeO.ite ?_ ?_)
   | (with_reducible refine LeO.bind ?_ (fun _ => ?_))
   | exact ih0 _ _ _ _
   | exact spec_l20Key.mono _ _ _ _
   | exact spec_l20Rd_odd.mono _ _ _ _
   | exact spec_l20Rd_pick.mono _ _ _ _
   | exact LeO.none _
   | refine LeO.ite ?_ ?_
   | refine LeO.bind ?_ (fun _ => ?_)
theorem spec_l20Span.mono : ∀ a0 a1 a2 k, LeO (spec_l20Span.f k a0 a1 a2) (spec_l20Span.f (k + 1) a0 a1 a2) := by
 intro a0 a1 a2 k
 have ih0 := spec_l20Span.mono_l k
 unfold spec_l20Span.f
 repeat' first
   | (with_reducible exact ih0 _ _ _ _)
   | (with_reducible exact spec_l20Key.mono _ _ _ _)
   | (with_reducible exact spec_l20Rd_odd.mono _ _ _ _)
   | (with_reducible exact spec_l20Rd_pick.mono _ _ _ _)
   | (with_reducible exact LeO.refl _)
   | (with_reducible exact LeO.none _)
   | (with_reducible refine LeO.ite ?_ ?_)
   | (with_reducible refine LeO.bind ?_ (fun _ => ?_))
   | exact ih0 _ _ _ _
   | exact spec_l20Key.mono _ _ _ _
   | exact spec_l20Rd_odd.mono _ _ _ _
   | exact spec_l20Rd_pick.mono _ _ _ _
   | exact LeO.none _
   | refine LeO.ite ?_ ?_
   | refine LeO.bind ?_ (fun _ => ?_)
set_option maxHeartbeats 8000000 in
set_option maxRecDepth 100000 in
theorem spec_l20Span.calls (k : Nat) (g : Nat) (s0_0 : List Int) (s0_1 : Int) (a1 : Int) (r1 : ByteArray) (r2 : ByteArray) (r3 : Int) (w0 w : World) (hI : IsS131 w0 w g s0_0 s0_1) (hB : Below w0.heap.size w0 w) (h : spec_l20Span.f k s0_0 s0_1 a1 = some (r1, r2, r3)) :
  Calls Try.prog 143 #[.pointer (some ⟨g, 0, none⟩), .int .i64 a1] w fun e w' => e = .returned (.agg #[.string r1, .string r2]) ∧ IsS131 w0 w' g s0_0 r3 ∧ Below w0.heap.size w0 w' ∧ KeepBut w w' g none := by
 have hu31 := Try.underlying31
 have HI0 := Aside0.mk hI
 have HK := Aside0.mk (KeepBut.refl w g none)
 have HL := Aside0.mk hB.size
 clear hI
 have HW0 := Aside0.mk hB.size
 have HB := Aside0.mk hB
 clear hB
 have H : ((spec_l20Rd_odd.f k s0_0 s0_1 a1).bind fun bt334 => (if bt334.1 = true then ((some (([(⟨(⟨#[98]⟩ : ByteArray), (⟨#[98]⟩ : ByteArray)⟩ : S31), (⟨(⟨#[99]⟩ : ByteArray), (⟨#[98]⟩ : ByteArray)⟩ : S31), (⟨(⟨#[]⟩ : ByteArray), (⟨#[97]⟩ : ByteArray)⟩ : S31), (⟨(⟨#[65]⟩ : ByteArray), (⟨#[]⟩ : ByteArray)⟩ : S31), (⟨(⟨#[]⟩ : ByteArray), (⟨#[97, 98, 99, 100, 101]⟩ : ByteArray)⟩ : S31)] : List (S31)) : List (S31))).bind fun y336 => ((spec_l20Rd_pick.f k s0_0 bt334.2 5).bind fun bt339 => (if 0 ≤ bt339.1 then (if bt339.1 < (y336.length : Int) then (some ((rd_T31 y336 bt339.1).f0, (rd_T31 y336 bt339.1).f1, bt339.2)) else (none)) else (none)))) else ((spec_l20Key.f k s0_0 bt334.2 0).bind fun bt342 => ((spec_l20Key.f k s0_0 bt342.2 0).bind fun bt344 => ((spec_l20Rd_pick.f k s0_0 bt344.2 6).bind fun bt346 => (if bt346.1 = 0 then (some ((⟨#[]⟩ : ByteArray), (⟨#[]⟩ : ByteArray), bt346.2)) else (if bt346.1 = 1 then (some (bt342.1, (⟨#[]⟩ : ByteArray), bt346.2)) else (if bt346.1 = 2 then (if bt344.1.toList = ([97] : List UInt8) then (spec_l20Span.j0 k bt342.1 bt344.1 s0_0 bt346.2) else (some ((⟨#[]⟩ : ByteArray), bt344.1, bt346.2))) else (spec_l20Span.j0 k bt342.1 bt344.1 s0_0 bt346.2))))))))) = some (r1, r2, r3) := h
 clear h
 replace H := Option.bind_eq_some_iff.mp H
 obtain ⟨⟨t334, t335⟩, A30, H⟩ := H
 try dsimp only at H
 have A3 := Aside0.mk A30
 clear A30
 by_cases c4 : t334 = true
 ·
  subst c4
  rw [if_pos rfl] at H
  obtain ⟨y336, hy336⟩ : ∃ y_ : List (S31), y_ = (([(⟨(⟨#[98]⟩ : ByteArray), (⟨#[98]⟩ : ByteArray)⟩ : S31), (⟨(⟨#[99]⟩ : ByteArray), (⟨#[98]⟩ : ByteArray)⟩ : S31), (⟨(⟨#[]⟩ : ByteArray), (⟨#[97]⟩ : ByteArray)⟩ : S31), (⟨(⟨#[65]⟩ : ByteArray), (⟨#[]⟩ : ByteArray)⟩ : S31), (⟨(⟨#[]⟩ : ByteArray), (⟨#[97, 98, 99, 100, 101]⟩ : ByteArray)⟩ : S31)] : List (S31))) := ⟨_, rfl⟩
  replace H : ((spec_l20Rd_pick.f k s0_0 t335 5).bind fun bt339 => (if 0 ≤ bt339.1 then (if bt339.1 < (y336.length : Int) then (some ((rd_T31 y336 bt339.1).f0, (rd_T31 y336 bt339.1).f1, bt339.2)) else (none)) else (none))) = some (r1, r2, r3) := by first | (rw [hy336]; with_reducible exact H) | (have H2_ := (Option.bind_some _ _).symm.trans H; rw [hy336]; with_reducible exact H2_) | (have H2_ := (Option.bind_some _ _).symm.trans H; with_reducible exact H2_) | with_reducible exact H | (rw [hy336]; exact H) | exact H
  have Ny336 := Aside0.mk hy336
  clear hy336
  replace H := Option.bind_eq_some_iff.mp H
  obtain ⟨⟨t339, t340⟩, A50, H⟩ := H
  try dsimp only at H
  have A5 := Aside0.mk A50
  clear A50
  by_cases c6 : 0 ≤ t339
  ·
   rw [if_pos c6] at H
   have c6b0 : decide (0 ≤ t339) = true := decide_eq_true c6
   clear c6
   by_cases c7 : t339 < (y336.length : Int)
   ·
    rw [if_pos c7] at H
    have c7b0 : decide (t339 < (y336.length : Int)) = true := decide_eq_true c7
    clear c7
    simp only [Option.some.injEq, Prod.mk.injEq] at H
    obtain ⟨rfl, rfl, rfl⟩ := H
    go_enter Try.func143, Try.ntmps143
    go_wp2_with (first | ((with_reducible refine gate_dst (N := 4) rfl ?_); refine box_event ?hg (N := 4) ?hd (cs := #[.string (⟨#[]⟩ : ByteArray), .string (⟨#[]⟩ : ByteArray)]) (t := 31) ?hr ?_; (case hd => rfl); (case hg => rfl); (case hr => first | (go_simp; done) | (go_simp; rfl)); intro gb333 hg w8 hbox hb; have n0_ := Aside0.mk (IsS131.below (IsS131.run HI0) hb); have n1_ := Aside0.mk (KeepBut.trans (kk) (KeepBut.of_below hb g none) (.inl rfl)); have n2_ := Aside0.mk (below_step (IsS131.bz HI0) hb); have n3_ := Aside0.mk (hbox); have n4_ := Aside0.mk ((by rw [hg]; exact (keep_size (w := w) (g := g) (row := none) (kk)) : w.heap.size ≤ gb333)); have n5_ := Aside0.mk ((Nat.le_trans HW0.out (by rw [hg]; exact (keep_size (w := w) (g := g) (row := none) (kk)) : w.heap.size ≤ gb333) : w0.heap.size ≤ gb333)); have n6_ := Aside0.mk ((by rw [hg]; exact Nat.ne_of_lt (IsS131.lt (show IsS131 w0 _ g s0_0 s0_1 from IsS131.run HI0)) : g ≠ gb333)); have n7_ := Aside0.mk ((by rw [hg]; exact Nat.ne_of_gt (IsS131.lt (show IsS131 w0 _ g s0_0 s0_1 from IsS131.run HI0)) : gb333 ≠ g)); clear HI0 HK HB; have HI0 := n0_; have HK := n1_; have HB := n2_; have BK333 := n3_; have GW333 := n4_; have GE333 := n5_; have NB0_333 := n6_; have NB333_0 := n7_; clear n0_ n1_ n2_ n3_ n4_ n5_ n6_ n7_; clear hb hbox hg) | ((with_reducible refine gate_callee (f := 126) rfl ?_); refine goesL_ (some 9) rfl rfl Try.func126 (by kernel_rfl) rfl #[.pointer (some ⟨g, 0, none⟩), .int .i64 a1] rfl ga ?_; (with_reducible refine (spec_l20Rd_odd.calls k g s0_0 s0_1 a1 true t335 w0 _ ?side1 ?side2 A3.out).mono ?_); (case side1 => exact IsS131.run HI0); (case side2 => repeat (first | (with_reducible first | exact HB.out | apply below_alloc | apply pw_below_drewN | apply below_drew1 | refine below_set ?_ (IsS131.ge HI0.out) | refine below_set ?_ GE333.out) | exact HB.out)); rintro e w9 ⟨rfl, hi, hb, hk⟩; refine ⟨_, rfl, ?_⟩; have n0_ := Aside0.mk (KeepBut.blk hk (g' := gb333) (o := .cells #[.string (⟨#[]⟩ : ByteArray), .string (⟨#[]⟩ : ByteArray)] 31 (0, 0)) (bq BK333) NB333_0.out (by simp)); have n1_ := Aside0.mk (KeepBut.trans (by repeat (first | (with_reducible first | exact HK.out | apply KeepBut.set_ | apply keep_drewN | apply keep_drew | apply keep_alloc | refine keep_far ?_ GW333.out _) | exact HK.out)) hk (.inl rfl)); have n2_ := Aside0.mk (hb); have n3_ := Aside0.mk (hi); clear BK333 HK HB HI0; have BK333 := n0_; have HK := n1_; have HB := n2_; have HI0 := n3_; clear n0_ n1_ n2_ n3_; (try clear hb); (try clear hb2); (try clear hk); (try clear hi)) | ((with_reducible refine gate_dst (N := 15) rfl ?_); refine Kd.R_lit k31 _ 31 ?hg (N := 15) ?hd (xs := ([(⟨(⟨#[98]⟩ : ByteArray), (⟨#[98]⟩ : ByteArray)⟩ : S31), (⟨(⟨#[99]⟩ : ByteArray), (⟨#[98]⟩ : ByteArray)⟩ : S31), (⟨(⟨#[]⟩ : ByteArray), (⟨#[97]⟩ : ByteArray)⟩ : S31), (⟨(⟨#[65]⟩ : ByteArray), (⟨#[]⟩ : ByteArray)⟩ : S31), (⟨(⟨#[]⟩ : ByteArray), (⟨#[97, 98, 99, 100, 101]⟩ : ByteArray)⟩ : S31)] : List (S31))) (inner := [.string (⟨#[98]⟩ : ByteArray), .string (⟨#[98]⟩ : ByteArray), .string (⟨#[99]⟩ : ByteArray), .string (⟨#[98]⟩ : ByteArray), .string (⟨#[]⟩ : ByteArray), .string (⟨#[97]⟩ : ByteArray), .string (⟨#[65]⟩ : ByteArray), .string (⟨#[]⟩ : ByteArray), .string (⟨#[]⟩ : ByteArray), .string (⟨#[97, 98, 99, 100, 101]⟩ : ByteArray)]) (ok := fun _ => True) (okp := fun _ => True) ?hr ?hp (fun _ hk => hk) trivial (Below.refl _ _) (Nat.le_refl _) (by simp) ?_; (case hd => rfl); (case hg => rfl); (case hr => first | (go_simp; done) | (go_simp; rfl)); (case hp => exact (Reps.c2 (show Kd.M k31 _ _ _ (⟨(⟨#[98]⟩ : ByteArray), (⟨#[98]⟩ : ByteArray)⟩ : S31) [.string (⟨#[98]⟩ : ByteArray), .string (⟨#[98]⟩ : ByteArray)] from (k31_mkM _ _ _ (⟨(⟨#[98]⟩ : ByteArray), (⟨#[98]⟩ : ByteArray)⟩ : S31) )) (Reps.c2 (show Kd.M k31 _ _ _ (⟨(⟨#[99]⟩ : ByteArray), (⟨#[98]⟩ : ByteArray)⟩ : S31) [.string (⟨#[99]⟩ : ByteArray), .string (⟨#[98]⟩ : ByteArray)] from (k31_mkM _ _ _ (⟨(⟨#[99]⟩ : ByteArray), (⟨#[98]⟩ : ByteArray)⟩ : S31) )) (Reps.c2 (show Kd.M k31 _ _ _ (⟨(⟨#[]⟩ : ByteArray), (⟨#[97]⟩ : ByteArray)⟩ : S31) [.string (⟨#[]⟩ : ByteArray), .string (⟨#[97]⟩ : ByteArray)] from (k31_mkM _ _ _ (⟨(⟨#[]⟩ : ByteArray), (⟨#[97]⟩ : ByteArray)⟩ : S31) )) (Reps.c2 (show Kd.M k31 _ _ _ (⟨(⟨#[65]⟩ : ByteArray), (⟨#[]⟩ : ByteArray)⟩ : S31) [.string (⟨#[65]⟩ : ByteArray), .string (⟨#[]⟩ : ByteArray)] from (k31_mkM _ _ _ (⟨(⟨#[65]⟩ : ByteArray), (⟨#[]⟩ : ByteArray)⟩ : S31) )) (Reps.c2 (show Kd.M k31 _ _ _ (⟨(⟨#[]⟩ : ByteArray), (⟨#[97, 98, 99, 100, 101]⟩ : ByteArray)⟩ : S31) [.string (⟨#[]⟩ : ByteArray), .string (⟨#[97, 98, 99, 100, 101]⟩ : ByteArray)] from (k31_mkM _ _ _ (⟨(⟨#[]⟩ : ByteArray), (⟨#[97, 98, 99, 100, 101]⟩ : ByteArray)⟩ : S31) )) (Reps.none _ _))))))); intro v337 w10 ho11 hb hg_ hnew_; clear hg_ hnew_; (first | rw [← Ny336.out] at ho11 | (simp only [Int.reduceToNat] at ho11; rw [← Ny336.out] at ho11)); have n0_ := Aside0.mk (Kd.R_lower (Kd.R_newB ho11 (g := gb333) (o := .cells #[.string (⟨#[]⟩ : ByteArray), .string (⟨#[]⟩ : ByteArray)] 31 (0, 0)) (bq BK333)) (keep_size (w := w) (g := g) (row := none) (by repeat (first | (with_reducible first | exact HK.out | apply KeepBut.set_ | apply keep_drewN | apply keep_drew | apply keep_alloc | refine keep_far ?_ GW333.out _) | exact HK.out)))); have n1_ := Aside0.mk (IsS131.below (IsS131.run HI0) hb); have n2_ := bkb BK333 hb; have n3_ := Aside0.mk (KeepBut.trans (by repeat (first | (with_reducible first | exact HK.out | apply KeepBut.set_ | apply keep_drewN | apply keep_drew | apply keep_alloc | refine keep_far ?_ GW333.out _) | exact HK.out)) (KeepBut.of_below hb g none) (.inl rfl)); have n4_ := Aside0.mk (below_step (IsS131.bz HI0) hb); clear HI0 BK333 HK HB; have HO338 := n0_; have HI0 := n1_; have BK333 := n2_; have HK := n3_; have HB := n4_; clear n0_ n1_ n2_ n3_ n4_; clear hb ho11) | ((with_reducible refine gate_callee (f := 72) rfl ?_); refine goesL_ (some 17) rfl rfl Try.func72 (by kernel_rfl) rfl #[.pointer (some ⟨g, 0, none⟩), .int .i64 5] rfl ga ?_; (with_reducible refine (spec_l20Rd_pick.calls k g s0_0 t335 5 t339 t340 w0 _ ?side1 ?side2 A5.out).mono ?_); (case side1 => exact IsS131.run HI0); (case side2 => repeat (first | (with_reducible first | exact HB.out | apply below_alloc | apply pw_below_drewN | apply below_drew1 | refine below_set ?_ (IsS131.ge HI0.out) | refine below_set ?_ GE333.out) | exact HB.out)); rintro e w12 ⟨rfl, hi, hb, hk⟩; refine ⟨_, rfl, ?_⟩; have n0_ := Aside0.mk (KeepBut.blk hk (g' := gb333) (o := .cells #[.string (⟨#[]⟩ : ByteArray), .string (⟨#[]⟩ : ByteArray)] 31 (0, 0)) (bq BK333) NB333_0.out (by simp)); have n1_ := Aside0.mk (Kd.R_mono (Kd.R_keep (IsS131.apart (show IsS131 w0 _ g s0_0 t335 from IsS131.run HI0) (by (with_reducible repeat (first | apply Kd.R_alloc | apply Kd.R_drewN | apply Kd.R_drew)); exact HO338.out) (by decide)) hk (fun _ h => h.2)) (fun _ h => h.1)); have n2_ := Aside0.mk (KeepBut.trans (by repeat (first | (with_reducible first | exact HK.out | apply KeepBut.set_ | apply keep_drewN | apply keep_drew | apply keep_alloc | refine keep_far ?_ GW333.out _) | exact HK.out)) hk (.inl rfl)); have n3_ := Aside0.mk (hb); have n4_ := Aside0.mk (hi); clear BK333 HO338 HK HB HI0; have BK333 := n0_; have HO338 := n1_; have HK := n2_; have HB := n3_; have HI0 := n4_; clear n0_ n1_ n2_ n3_ n4_; (try clear hb); (try clear hb2); (try clear hk); (try clear hi); obtain ⟨Ao13, co13, eo13⟩ := Kd.R_slice HO338.out; subst eo13; have p341 : 0 ≤ (t339 : Int) := of_decide_eq_true (by first | (with_reducible assumption) | assumption); have q341 : t339 < (y336.length : Int) := of_decide_eq_true (by first | (with_reducible assumption) | assumption); obtain ⟨ad341, e341, hx341_0, hx341_1⟩ := at_T31 (Kd.R_reads' HO338.out).2.2 t339 p341 q341; cases e341; replace p341 := eq_true p341; replace q341 := eq_true q341; have hnb14 := NB333_0.out; have hnc14 := NB0_333.out; obtain ⟨hcz15_0, hcz15_1⟩ := cl2 BK333; obtain ⟨hfz15_0, hfz15_1⟩ := fz2 BK333))
    refine bodyPost_ret (results_cell_row rfl _ _ gb333 31 #[.string ((rd_T31 y336 t339).f0), .string ((rd_T31 y336 t339).f1)] (0, 0) _ rfl (by (with_reducible repeat (first | refine blk_drewN ?_ _ | refine blk_drew ?_ | refine blk_alloc ?_ _)); refine blk_put (cs := #[.string ((rd_T31 y336 t339).f0), .string (⟨#[]⟩ : ByteArray)]) ?_ 1 _ rfl; (with_reducible repeat (first | refine blk_drewN ?_ _ | refine blk_drew ?_ | refine blk_alloc ?_ _)); refine blk_put (cs := #[.string (⟨#[]⟩ : ByteArray), .string (⟨#[]⟩ : ByteArray)]) ?_ 0 _ rfl; (with_reducible repeat (first | refine blk_drewN ?_ _ | refine blk_drew ?_ | refine blk_alloc ?_ _)); exact BK333.out) Try.underlying31 rfl (by kernel_rfl)) rfl ?_
    exact ⟨by first | rfl | (simp only [u8w, w64m]; rfl) | (simp [errW_none, errW_some] <;> rfl) | (simp [*, errW_none, errW_some] <;> rfl), IsS131.run HI0, IsS131.bz HI0, by repeat (first | (with_reducible first | exact HK.out | apply KeepBut.set_ | apply keep_drewN | apply keep_drew | apply keep_alloc | refine keep_far ?_ GW333.out _) | exact HK.out)⟩
   ·
    rw [if_neg c7] at H
    exact absurd H (by simp)
  ·
   rw [if_neg c6] at H
   exact absurd H (by simp)
 ·
  replace c4 := Bool.eq_false_iff.mpr c4
  subst c4
  rw [if_neg (show ¬ (false = true) by decide)] at H
  replace H := Option.bind_eq_some_iff.mp H
  obtain ⟨⟨t342, t343⟩, A160, H⟩ := H
  try dsimp only at H
  have A16 := Aside0.mk A160
  clear A160
  replace H := Option.bind_eq_some_iff.mp H
  obtain ⟨⟨t344, t345⟩, A170, H⟩ := H
  try dsimp only at H
  have A17 := Aside0.mk A170
  clear A170
  replace H := Option.bind_eq_some_iff.mp H
  obtain ⟨⟨t346, t347⟩, A180, H⟩ := H
  try dsimp only at H
  have A18 := Aside0.mk A180
  clear A180
  have HC19 := Aside0.mk H
  clear H
  go_enter Try.func143, Try.ntmps143
  go_upto_block 0 with (first | ((with_reducible refine gate_dst (N := 4) rfl ?_); refine box_event ?hg (N := 4) ?hd (cs := #[.string (⟨#[]⟩ : ByteArray), .string (⟨#[]⟩ : ByteArray)]) (t := 31) ?hr ?_; (case hd => rfl); (case hg => rfl); (case hr => first | (go_simp; done) | (go_simp; rfl)); intro gb333 hg w20 hbox hb; have n0_ := Aside0.mk (IsS131.below (IsS131.run HI0) hb); have n1_ := Aside0.mk (KeepBut.trans (kk) (KeepBut.of_below hb g none) (.inl rfl)); have n2_ := Aside0.mk (below_step (IsS131.bz HI0) hb); have n3_ := Aside0.mk (hbox); have n4_ := Aside0.mk ((by rw [hg]; exact (keep_size (w := w) (g := g) (row := none) (kk)) : w.heap.size ≤ gb333)); have n5_ := Aside0.mk ((Nat.le_trans HW0.out (by rw [hg]; exact (keep_size (w := w) (g := g) (row := none) (kk)) : w.heap.size ≤ gb333) : w0.heap.size ≤ gb333)); have n6_ := Aside0.mk ((by rw [hg]; exact Nat.ne_of_lt (IsS131.lt (show IsS131 w0 _ g s0_0 s0_1 from IsS131.run HI0)) : g ≠ gb333)); have n7_ := Aside0.mk ((by rw [hg]; exact Nat.ne_of_gt (IsS131.lt (show IsS131 w0 _ g s0_0 s0_1 from IsS131.run HI0)) : gb333 ≠ g)); clear HI0 HK HB; have HI0 := n0_; have HK := n1_; have HB := n2_; have BK333 := n3_; have GW333 := n4_; have GE333 := n5_; have NB0_333 := n6_; have NB333_0 := n7_; clear n0_ n1_ n2_ n3_ n4_ n5_ n6_ n7_; clear hb hbox hg) | ((with_reducible refine gate_callee (f := 126) rfl ?_); refine goesL_ (some 9) rfl rfl Try.func126 (by kernel_rfl) rfl #[.pointer (some ⟨g, 0, none⟩), .int .i64 a1] rfl ga ?_; (with_reducible refine (spec_l20Rd_odd.calls k g s0_0 s0_1 a1 false t335 w0 _ ?side1 ?side2 A3.out).mono ?_); (case side1 => exact IsS131.run HI0); (case side2 => repeat (first | (with_reducible first | exact HB.out | apply below_alloc | apply pw_below_drewN | apply below_drew1 | refine below_set ?_ (IsS131.ge HI0.out) | refine below_set ?_ GE333.out) | exact HB.out)); rintro e w21 ⟨rfl, hi, hb, hk⟩; refine ⟨_, rfl, ?_⟩; have n0_ := Aside0.mk (KeepBut.blk hk (g' := gb333) (o := .cells #[.string (⟨#[]⟩ : ByteArray), .string (⟨#[]⟩ : ByteArray)] 31 (0, 0)) (bq BK333) NB333_0.out (by simp)); have n1_ := Aside0.mk (KeepBut.trans (by repeat (first | (with_reducible first | exact HK.out | apply KeepBut.set_ | apply keep_drewN | apply keep_drew | apply keep_alloc | refine keep_far ?_ GW333.out _) | exact HK.out)) hk (.inl rfl)); have n2_ := Aside0.mk (hb); have n3_ := Aside0.mk (hi); clear BK333 HK HB HI0; have BK333 := n0_; have HK := n1_; have HB := n2_; have HI0 := n3_; clear n0_ n1_ n2_ n3_; (try clear hb); (try clear hb2); (try clear hk); (try clear hi)) | ((with_reducible refine gate_callee (f := 71) rfl ?_); refine goesL_ (some 21) rfl rfl Try.func71 (by kernel_rfl) rfl #[.pointer (some ⟨g, 0, none⟩), .int .i64 0] rfl ga ?_; (with_reducible refine (spec_l20Key.calls k g s0_0 t335 0 t342 t343 w0 _ ?side1 ?side2 A16.out).mono ?_); (case side1 => exact IsS131.run HI0); (case side2 => repeat (first | (with_reducible first | exact HB.out | apply below_alloc | apply pw_below_drewN | apply below_drew1 | refine below_set ?_ (IsS131.ge HI0.out) | refine below_set ?_ GE333.out) | exact HB.out)); rintro e w22 ⟨rfl, hi, hb, hk⟩; refine ⟨_, rfl, ?_⟩; have n0_ := Aside0.mk (KeepBut.blk hk (g' := gb333) (o := .cells #[.string (⟨#[]⟩ : ByteArray), .string (⟨#[]⟩ : ByteArray)] 31 (0, 0)) (bq BK333) NB333_0.out (by simp)); have n1_ := Aside0.mk (KeepBut.trans (by repeat (first | (with_reducible first | exact HK.out | apply KeepBut.set_ | apply keep_drewN | apply keep_drew | apply keep_alloc | refine keep_far ?_ GW333.out _) | exact HK.out)) hk (.inl rfl)); have n2_ := Aside0.mk (hb); have n3_ := Aside0.mk (hi); clear BK333 HK HB HI0; have BK333 := n0_; have HK := n1_; have HB := n2_; have HI0 := n3_; clear n0_ n1_ n2_ n3_; (try clear hb); (try clear hb2); (try clear hk); (try clear hi)) | ((with_reducible refine gate_callee (f := 71) rfl ?_); refine goesL_ (some 23) rfl rfl Try.func71 (by kernel_rfl) rfl #[.pointer (some ⟨g, 0, none⟩), .int .i64 0] rfl ga ?_; (with_reducible refine (spec_l20Key.calls k g s0_0 t343 0 t344 t345 w0 _ ?side1 ?side2 A17.out).mono ?_); (case side1 => exact IsS131.run HI0); (case side2 => repeat (first | (with_reducible first | exact HB.out | apply below_alloc | apply pw_below_drewN | apply below_drew1 | refine below_set ?_ (IsS131.ge HI0.out) | refine below_set ?_ GE333.out) | exact HB.out)); rintro e w23 ⟨rfl, hi, hb, hk⟩; refine ⟨_, rfl, ?_⟩; have n0_ := Aside0.mk (KeepBut.blk hk (g' := gb333) (o := .cells #[.string (⟨#[]⟩ : ByteArray), .string (⟨#[]⟩ : ByteArray)] 31 (0, 0)) (bq BK333) NB333_0.out (by simp)); have n1_ := Aside0.mk (KeepBut.trans (by repeat (first | (with_reducible first | exact HK.out | apply KeepBut.set_ | apply keep_drewN | apply keep_drew | apply keep_alloc | refine keep_far ?_ GW333.out _) | exact HK.out)) hk (.inl rfl)); have n2_ := Aside0.mk (hb); have n3_ := Aside0.mk (hi); clear BK333 HK HB HI0; have BK333 := n0_; have HK := n1_; have HB := n2_; have HI0 := n3_; clear n0_ n1_ n2_ n3_; (try clear hb); (try clear hb2); (try clear hk); (try clear hi)) | ((with_reducible refine gate_callee (f := 72) rfl ?_); refine goesL_ (some 25) rfl rfl Try.func72 (by kernel_rfl) rfl #[.pointer (some ⟨g, 0, none⟩), .int .i64 6] rfl ga ?_; (with_reducible refine (spec_l20Rd_pick.calls k g s0_0 t345 6 t346 t347 w0 _ ?side1 ?side2 A18.out).mono ?_); (case side1 => exact IsS131.run HI0); (case side2 => repeat (first | (with_reducible first | exact HB.out | apply below_alloc | apply pw_below_drewN | apply below_drew1 | refine below_set ?_ (IsS131.ge HI0.out) | refine below_set ?_ GE333.out) | exact HB.out)); rintro e w24 ⟨rfl, hi, hb, hk⟩; refine ⟨_, rfl, ?_⟩; have n0_ := Aside0.mk (KeepBut.blk hk (g' := gb333) (o := .cells #[.string (⟨#[]⟩ : ByteArray), .string (⟨#[]⟩ : ByteArray)] 31 (0, 0)) (bq BK333) NB333_0.out (by simp)); have n1_ := Aside0.mk (KeepBut.trans (by repeat (first | (with_reducible first | exact HK.out | apply KeepBut.set_ | apply keep_drewN | apply keep_drew | apply keep_alloc | refine keep_far ?_ GW333.out _) | exact HK.out)) hk (.inl rfl)); have n2_ := Aside0.mk (hb); have n3_ := Aside0.mk (hi); clear BK333 HK HB HI0; have BK333 := n0_; have HK := n1_; have HB := n2_; have HI0 := n3_; clear n0_ n1_ n2_ n3_; (try clear hb); (try clear hb2); (try clear hk); (try clear hi)))
  (try simp only [Act.put, List.setIfInBounds_toArray, List.set_cons_zero, List.set_cons_succ])
  go_cut [] (fun wc => ∃ (kq : Nat) (x334000_18 : ByteArray) (x334001_18 : ByteArray), Aside0 (spec_l20Span.j0 kq t342 t344 s0_0 t347 = some (r1, r2, r3)) ∧ Aside0 (kq ≤ k) ∧ Aside0 (wc.heap[gb333]? = some (.cells #[.string x334000_18, .string x334001_18] 31 (0, 0))) ∧ Aside0 (IsS131 w0 wc g s0_0 t347) ∧ Aside0 (KeepBut w wc g none) ∧ Aside0 (Below w0.heap.size w0 wc))
  case first =>
   have H := HC19.out
   clear HC19
   by_cases c25 : t346 = 0
   ·
    rw [if_pos c25] at H
    have c25b0 : (t346 == 0) = true := beq_iff_eq.mpr c25
    have c25b1 : (t346 != 0) = false := bne_eq_false_iff_eq.mpr c25
    clear c25
    (first | rw [c25b0] | (simp only [i64_w, i32_w]; rw [c25b0]) | skip)
    simp only [Option.some.injEq, Prod.mk.injEq] at H
    obtain ⟨rfl, rfl, rfl⟩ := H
    have hnb26 := NB333_0.out
    have hnc26 := NB0_333.out
    obtain ⟨hcz27_0, hcz27_1⟩ := cl2 BK333
    obtain ⟨hfz27_0, hfz27_1⟩ := fz2 BK333
    go_wp2
    refine bodyPost_ret (results_cell_row rfl _ _ gb333 31 #[.string (⟨#[]⟩ : ByteArray), .string (⟨#[]⟩ : ByteArray)] (0, 0) _ rfl (by (with_reducible repeat (first | refine blk_drewN ?_ _ | refine blk_drew ?_ | refine blk_alloc ?_ _)); refine blk_put (cs := #[.string (⟨#[]⟩ : ByteArray), .string (⟨#[]⟩ : ByteArray)]) ?_ 1 _ rfl; (with_reducible repeat (first | refine blk_drewN ?_ _ | refine blk_drew ?_ | refine blk_alloc ?_ _)); refine blk_put (cs := #[.string (⟨#[]⟩ : ByteArray), .string (⟨#[]⟩ : ByteArray)]) ?_ 0 _ rfl; (with_reducible repeat (first | refine blk_drewN ?_ _ | refine blk_drew ?_ | refine blk_alloc ?_ _)); exact BK333.out) Try.underlying31 rfl (by kernel_rfl)) rfl ?_
    exact ⟨by first | rfl | (simp only [u8w, w64m]; rfl) | (simp [errW_none, errW_some] <;> rfl) | (simp [*, errW_none, errW_some] <;> rfl), IsS131.run HI0, IsS131.bz HI0, by repeat (first | (with_reducible first | exact HK.out | apply KeepBut.set_ | apply keep_drewN | apply keep_drew | apply keep_alloc | refine keep_far ?_ GW333.out _) | exact HK.out)⟩
   ·
    rw [if_neg c25] at H
    have c25b0 : (t346 == 0) = false := beq_eq_false_iff_ne.mpr c25
    have c25b1 : (t346 != 0) = true := bne_iff_ne.mpr c25
    (first | rw [c25b0] | (simp only [i64_w, i32_w]; rw [c25b0]) | skip)
    by_cases c28 : t346 = 1
    ·
     rw [if_pos c28] at H
     have c28b0 : (t346 == 1) = true := beq_iff_eq.mpr c28
     have c28b1 : (t346 != 1) = false := bne_eq_false_iff_eq.mpr c28
     clear c28
     simp only [Option.some.injEq, Prod.mk.injEq] at H
     obtain ⟨rfl, rfl, rfl⟩ := H
     have hnb29 := NB333_0.out
     have hnc29 := NB0_333.out
     obtain ⟨hcz30_0, hcz30_1⟩ := cl2 BK333
     obtain ⟨hfz30_0, hfz30_1⟩ := fz2 BK333
     go_wp2
     refine bodyPost_ret (results_cell_row rfl _ _ gb333 31 #[.string t342, .string (⟨#[]⟩ : ByteArray)] (0, 0) _ rfl (by (with_reducible repeat (first | refine blk_drewN ?_ _ | refine blk_drew ?_ | refine blk_alloc ?_ _)); refine blk_put (cs := #[.string t342, .string (⟨#[]⟩ : ByteArray)]) ?_ 1 _ rfl; (with_reducible repeat (first | refine blk_drewN ?_ _ | refine blk_drew ?_ | refine blk_alloc ?_ _)); refine blk_put (cs := #[.string (⟨#[]⟩ : ByteArray), .string (⟨#[]⟩ : ByteArray)]) ?_ 0 _ rfl; (with_reducible repeat (first | refine blk_drewN ?_ _ | refine blk_drew ?_ | refine blk_alloc ?_ _)); exact BK333.out) Try.underlying31 rfl (by kernel_rfl)) rfl ?_
     exact ⟨by first | rfl | (simp only [u8w, w64m]; rfl) | (simp [errW_none, errW_some] <;> rfl) | (simp [*, errW_none, errW_some] <;> rfl), IsS131.run HI0, IsS131.bz HI0, by repeat (first | (with_reducible first | exact HK.out | apply KeepBut.set_ | apply keep_drewN | apply keep_drew | apply keep_alloc | refine keep_far ?_ GW333.out _) | exact HK.out)⟩
    ·
     rw [if_neg c28] at H
     have c28b0 : (t346 == 1) = false := beq_eq_false_iff_ne.mpr c28
     have c28b1 : (t346 != 1) = true := bne_iff_ne.mpr c28
     by_cases c31 : t346 = 2
     ·
      rw [if_pos c31] at H
      have c31b0 : (t346 == 2) = true := beq_iff_eq.mpr c31
      have c31b1 : (t346 != 2) = false := bne_eq_false_iff_eq.mpr c31
      clear c31
      by_cases c32 : t344.toList = ([97] : List UInt8)
      ·
       rw [if_pos c32] at H
       have c32b0 : (t344.toList == ([97] : List UInt8)) = true := beq_iff_eq.mpr c32
       have c32b1 : (t344.toList != ([97] : List UInt8)) = false := bne_eq_false_iff_eq.mpr c32
       clear c32
       have H' := Aside0.mk H
       clear H
       go_wp2
       go_meet
       case rel => exact ⟨_, ((⟨#[]⟩ : ByteArray)), ((⟨#[]⟩ : ByteArray)), H', ⟨by first | omega | exact Nat.le_refl _⟩, ⟨by (with_reducible repeat (first | refine blk_drewN ?_ _ | refine blk_drew ?_ | refine blk_alloc ?_ _)); exact BK333.out⟩, ⟨IsS131.run HI0⟩, ⟨by repeat (first | (with_reducible first | exact HK.out | apply KeepBut.set_ | apply keep_drewN | apply keep_drew | apply keep_alloc | refine keep_far ?_ GW333.out _) | exact HK.out)⟩, ⟨IsS131.bz HI0⟩⟩
      ·
       rw [if_neg c32] at H
       have c32b0 : (t344.toList == ([97] : List UInt8)) = false := beq_eq_false_iff_ne.mpr c32
       have c32b1 : (t344.toList != ([97] : List UInt8)) = true := bne_iff_ne.mpr c32
       simp only [Option.some.injEq, Prod.mk.injEq] at H
       obtain ⟨rfl, rfl, rfl⟩ := H
       have hnb33 := NB333_0.out
       have hnc33 := NB0_333.out
       obtain ⟨hcz34_0, hcz34_1⟩ := cl2 BK333
       obtain ⟨hfz34_0, hfz34_1⟩ := fz2 BK333
       go_wp2
       refine bodyPost_ret (results_cell_row rfl _ _ gb333 31 #[.string (⟨#[]⟩ : ByteArray), .string t344] (0, 0) _ rfl (by (with_reducible repeat (first | refine blk_drewN ?_ _ | refine blk_drew ?_ | refine blk_alloc ?_ _)); refine blk_put (cs := #[.string (⟨#[]⟩ : ByteArray), .string (⟨#[]⟩ : ByteArray)]) ?_ 1 _ rfl; (with_reducible repeat (first | refine blk_drewN ?_ _ | refine blk_drew ?_ | refine blk_alloc ?_ _)); refine blk_put (cs := #[.string (⟨#[]⟩ : ByteArray), .string (⟨#[]⟩ : ByteArray)]) ?_ 0 _ rfl; (with_reducible repeat (first | refine blk_drewN ?_ _ | refine blk_drew ?_ | refine blk_alloc ?_ _)); exact BK333.out) Try.underlying31 rfl (by kernel_rfl)) rfl ?_
       exact ⟨by first | rfl | (simp only [u8w, w64m]; rfl) | (simp [errW_none, errW_some] <;> rfl) | (simp [*, errW_none, errW_some] <;> rfl), IsS131.run HI0, IsS131.bz HI0, by repeat (first | (with_reducible first | exact HK.out | apply KeepBut.set_ | apply keep_drewN | apply keep_drew | apply keep_alloc | refine keep_far ?_ GW333.out _) | exact HK.out)⟩
     ·
      rw [if_neg c31] at H
      have c31b0 : (t346 == 2) = false := beq_eq_false_iff_ne.mpr c31
      have c31b1 : (t346 != 2) = true := bne_iff_ne.mpr c31
      have H' := Aside0.mk H
      clear H
      go_wp2
      go_meet
      case rel => exact ⟨_, ((⟨#[]⟩ : ByteArray)), ((⟨#[]⟩ : ByteArray)), H', ⟨by first | omega | exact Nat.le_refl _⟩, ⟨by (with_reducible repeat (first | refine blk_drewN ?_ _ | refine blk_drew ?_ | refine blk_alloc ?_ _)); exact BK333.out⟩, ⟨IsS131.run HI0⟩, ⟨by repeat (first | (with_reducible first | exact HK.out | apply KeepBut.set_ | apply keep_drewN | apply keep_drew | apply keep_alloc | refine keep_far ?_ GW333.out _) | exact HK.out)⟩, ⟨IsS131.bz HI0⟩⟩
  case rest =>
   clear HC19
   try clear c1
   try clear c2
   try clear p2
   try clear c3
   try clear p3
   try clear q3
   try clear hx3
   try clear c4
   try clear c6
   try clear c6b0
   try clear c7
   try clear c7b0
   try clear c12
   try clear c14
   try clear c25
   try clear c25b0
   try clear c25b1
   try clear c26
   try clear c28
   try clear c28b0
   try clear c28b1
   try clear c29
   try clear c31
   try clear c31b0
   try clear c31b1
   try clear c32
   try clear c32b0
   try clear c32b1
   try clear c33
   try clear p34
   try clear q34
   try clear hx34
   try clear hcz15_0 hcz15_1
   try clear hcz27_0 hcz27_1
   try clear hcz30_0 hcz30_1
   try clear hcz34_0 hcz34_1
   try clear hfz15_0 hfz15_1
   try clear hfz27_0 hfz27_1
   try clear hfz30_0 hfz30_1
   try clear hfz34_0 hfz34_1
   try clear hx341_0
   try clear hx341_1
   try clear p341
   try clear q341
   obtain ⟨kq, x334000_18, x334001_18, HA, HJ18, BK333, HI0, HK, HB⟩ := hcut
   cases kq with
   | zero => exact absurd HA.out (by simp [spec_l20Span.j0])
   | succ kj18 =>
    have H := HA.out
    clear HA
    simp only [spec_l20Span.j0] at H
    by_cases c35 : (Op.bytesLess t342.toList t344.toList) = true
    ·
     rw [if_pos c35] at H
     have c35b0 : (Op.bytesLess t342.toList t344.toList) = true := c35
     clear c35
     simp only [Option.some.injEq, Prod.mk.injEq] at H
     obtain ⟨rfl, rfl, rfl⟩ := H
     have hnb36 := NB333_0.out
     have hnc36 := NB0_333.out
     obtain ⟨hcz37_0, hcz37_1⟩ := cl2 BK333
     obtain ⟨hfz37_0, hfz37_1⟩ := fz2 BK333
     go_wp2
     refine bodyPost_ret (results_cell_row rfl _ _ gb333 31 #[.string t342, .string t344] (0, 0) _ rfl (by (with_reducible repeat (first | refine blk_drewN ?_ _ | refine blk_drew ?_ | refine blk_alloc ?_ _)); refine blk_put (cs := #[.string t342, .string x334001_18]) ?_ 1 _ rfl; (with_reducible repeat (first | refine blk_drewN ?_ _ | refine blk_drew ?_ | refine blk_alloc ?_ _)); refine blk_put (cs := #[.string x334000_18, .string x334001_18]) ?_ 0 _ rfl; (with_reducible repeat (first | refine blk_drewN ?_ _ | refine blk_drew ?_ | refine blk_alloc ?_ _)); exact BK333.out) Try.underlying31 rfl (by kernel_rfl)) rfl ?_
     exact ⟨by first | rfl | (simp only [u8w, w64m]; rfl) | (simp [errW_none, errW_some] <;> rfl) | (simp [*, errW_none, errW_some] <;> rfl), IsS131.run HI0, IsS131.bz HI0, by repeat (first | (with_reducible first | exact HK.out | apply KeepBut.set_ | apply keep_drewN | apply keep_drew | apply keep_alloc | refine keep_far ?_ GW333.out _) | exact HK.out)⟩
    ·
     rw [if_neg c35] at H
     have c35b0 : (Op.bytesLess t342.toList t344.toList) = false := by simpa using c35
     clear c35
     by_cases c38 : (Op.bytesLess t344.toList t342.toList) = true
     ·
      rw [if_pos c38] at H
      have c38b0 : (Op.bytesLess t344.toList t342.toList) = true := c38
      clear c38
      simp only [Option.some.injEq, Prod.mk.injEq] at H
      obtain ⟨rfl, rfl, rfl⟩ := H
      have hnb39 := NB333_0.out
      have hnc39 := NB0_333.out
      obtain ⟨hcz40_0, hcz40_1⟩ := cl2 BK333
      obtain ⟨hfz40_0, hfz40_1⟩ := fz2 BK333
      go_wp2
      refine bodyPost_ret (results_cell_row rfl _ _ gb333 31 #[.string t344, .string t342] (0, 0) _ rfl (by (with_reducible repeat (first | refine blk_drewN ?_ _ | refine blk_drew ?_ | refine blk_alloc ?_ _)); refine blk_put (cs := #[.string t344, .string x334001_18]) ?_ 1 _ rfl; (with_reducible repeat (first | refine blk_drewN ?_ _ | refine blk_drew ?_ | refine blk_alloc ?_ _)); refine blk_put (cs := #[.string x334000_18, .string x334001_18]) ?_ 0 _ rfl; (with_reducible repeat (first | refine blk_drewN ?_ _ | refine blk_drew ?_ | refine blk_alloc ?_ _)); exact BK333.out) Try.underlying31 rfl (by kernel_rfl)) rfl ?_
      exact ⟨by first | rfl | (simp only [u8w, w64m]; rfl) | (simp [errW_none, errW_some] <;> rfl) | (simp [*, errW_none, errW_some] <;> rfl), IsS131.run HI0, IsS131.bz HI0, by repeat (first | (with_reducible first | exact HK.out | apply KeepBut.set_ | apply keep_drewN | apply keep_drew | apply keep_alloc | refine keep_far ?_ GW333.out _) | exact HK.out)⟩
     ·
      rw [if_neg c38] at H
      have c38b0 : (Op.bytesLess t344.toList t342.toList) = false := by simpa using c38
      clear c38
      simp only [Option.some.injEq, Prod.mk.injEq] at H
      obtain ⟨rfl, rfl, rfl⟩ := H
      have hnb41 := NB333_0.out
      have hnc41 := NB0_333.out
      obtain ⟨hcz42_0, hcz42_1⟩ := cl2 BK333
      obtain ⟨hfz42_0, hfz42_1⟩ := fz2 BK333
      go_wp2
      refine bodyPost_ret (results_cell_row rfl _ _ gb333 31 #[.string t342, .string (⟨#[]⟩ : ByteArray)] (0, 0) _ rfl (by (with_reducible repeat (first | refine blk_drewN ?_ _ | refine blk_drew ?_ | refine blk_alloc ?_ _)); refine blk_put (cs := #[.string t342, .string x334001_18]) ?_ 1 _ rfl; (with_reducible repeat (first | refine blk_drewN ?_ _ | refine blk_drew ?_ | refine blk_alloc ?_ _)); refine blk_put (cs := #[.string x334000_18, .string x334001_18]) ?_ 0 _ rfl; (with_reducible repeat (first | refine blk_drewN ?_ _ | refine blk_drew ?_ | refine blk_alloc ?_ _)); exact BK333.out) Try.underlying31 rfl (by kernel_rfl)) rfl ?_
      exact ⟨by first | rfl | (simp only [u8w, w64m]; rfl) | (simp [errW_none, errW_some] <;> rfl) | (simp [*, errW_none, errW_some] <;> rfl), IsS131.run HI0, IsS131.bz HI0, by repeat (first | (with_reducible first | exact HK.out | apply KeepBut.set_ | apply keep_drewN | apply keep_drew | apply keep_alloc | refine keep_far ?_ GW333.out _) | exact HK.out)⟩

/-! ### spec_l20Cache: function 130 -/
def spec_l20Cache.l0 : Nat → Int → List (S35) → Int → List Int → Int → Option ((List (S35)) × Int)
 | 0, _, _, _, _, _ => none
 | k + 1, x1, x5, x6, x1000, x1001 => if x6 > 0 then ((spec_l20Rd_pick.f k x1000 x1001 8).bind fun bt353 => ((spec_l20Span.f k x1000 bt353.2 0).bind fun bt355 => ((spec_CacheLearn.f k x5 bt353.1 bt355.1 bt355.2.1).bind fun t358 => (spec_l20Cache.l0 k x1 t358 (wrap64 (x6 - 1)) x1000 bt355.2.2)))) else ((spec_l20Rd_odd.f k x1000 x1001 x1).bind fun bt361 => (if bt361.1 = true then ((spec_l20Rd_pick.f k x1000 bt361.2 3).bind fun bt363 => (if bt363.1 = 0 then (if x5.length < 3518437208883 then (some ((x5 ++ [(⟨(-1), (⟨(⟨#[]⟩ : ByteArray), (⟨#[]⟩ : ByteArray)⟩ : S31)⟩ : S35)]), bt363.2)) else (none)) else (if bt363.1 = 1 then (if x5.length + x5.length < 3518437208883 then (some ((x5 ++ x5), bt363.2)) else (none)) else ((spec_l20Rd_pick.f k x1000 bt363.2 8).bind fun bt371 => ((spec_l20Span.f k x1000 bt371.2 2).bind fun bt373 => (if x5.length < 3518437208883 then (some ((x5 ++ [(⟨bt371.1, (⟨bt373.1, bt373.2.1⟩ : S31)⟩ : S35)]), bt373.2.2)) else (none))))))) else (some (x5, bt361.2))))
def spec_l20Cache.f (k : Nat) (s0_0 : List Int) (s0_1 : Int) (a1 : Int) : Option ((List (S35)) × Int) := (spec_l20Rd_pick.f k s0_0 s0_1 5).bind fun bt351 => (spec_l20Cache.l0 k a1 (([] : List (S35))) bt351.1 s0_0 bt351.2)
theorem spec_l20Cache.mono_l : ∀ k, (∀ y0 y1 y2 y3 y4, LeO (spec_l20Cache.l0 k y0 y1 y2 y3 y4) (spec_l20Cache.l0 (k + 1) y0 y1 y2 y3 y4))
 | 0 => fun _ _ _ _ _ r h => by simp [spec_l20Cache.l0] at h
 | k + 1 => by
  have ih0 := spec_l20Cache.mono_l k
  ·
   intro y0 y1 y2 y3 y4
   unfold spec_l20Cache.l0
   repeat' first
   | (with_reducible exact ih0 _ _ _ _ _)
   | (with_reducible exact spec_CacheLearn.mono _ _ _ _ _)
   | (with_reducible exact spec_l20Rd_odd.mono _ _ _ _)
   | (with_reducible exact spec_l20Rd_pick.mono _ _ _ _)
   | (with_reducible exact spec_l20Span.mono _ _ _ _)
   | (with_reducible exact LeO.refl _)
   | (with_reducible exact LeO.none _)
   | (with_reducible refine LeO.ite ?_ ?_)
   | (with_reducible refine LeO.bind ?_ (fun _ => ?_))
   | exact ih0 _ _ _ _ _
   | exact spec_CacheLearn.mono _ _ _ _ _
   | exact spec_l20Rd_odd.mono _ _ _ _
   | exact spec_l20Rd_pick.mono _ _ _ _
   | exact spec_l20Span.mono _ _ _ _
   | exact LeO.none _
   | refine LeO.ite ?_ ?_
   | refine LeO.bind ?_ (fun _ => ?_)
theorem spec_l20Cache.mono : ∀ a0 a1 a2 k, LeO (spec_l20Cache.f k a0 a1 a2) (spec_l20Cache.f (k + 1) a0 a1 a2) := by
 intro a0 a1 a2 k
 have ih0 := spec_l20Cache.mono_l k
 unfold spec_l20Cache.f
 repeat' first
   | (with_reducible exact ih0 _ _ _ _ _)
   | (with_reducible exact spec_CacheLearn.mono _ _ _ _ _)
   | (with_reducible exact spec_l20Rd_odd.mono _ _ _ _)
   | (with_reducible exact spec_l20Rd_pick.mono _ _ _ _)
   | (with_reducible exact spec_l20Span.mono _ _ _ _)
   | (with_reducible exact LeO.refl _)
   | (with_reducible exact LeO.none _)
   | (with_reducible refine LeO.ite ?_ ?_)
   | (with_reducible refine LeO.bind ?_ (fun _ => ?_))
   | exact ih0 _ _ _ _ _
   | exact spec_CacheLearn.mono _ _ _ _ _
   | exact spec_l20Rd_odd.mono _ _ _ _
   | exact spec_l20Rd_pick.mono _ _ _ _
   | exact spec_l20Span.mono _ _ _ _
   | exact LeO.none _
   | refine LeO.ite ?_ ?_
   | refine LeO.bind ?_ (fun _ => ?_)
set_option maxHeartbeats 8000000 in
set_option maxRecDepth 100000 in
theorem spec_l20Cache.calls (k : Nat) (g : Nat) (s0_0 : List Int) (s0_1 : Int) (a1 : Int) (r1 : List (S35)) (r2 : Int) (w0 w : World) (hI : IsS131 w0 w g s0_0 s0_1) (hB : Below w0.heap.size w0 w) (h : spec_l20Cache.f k s0_0 s0_1 a1 = some (r1, r2)) :
  Calls Try.prog 130 #[.pointer (some ⟨g, 0, none⟩), .int .i64 a1] w fun e w' => ∃ v0_ : Value, e = .returned (v0_) ∧ Kd.R k35 35 w' w.heap.size (fun _ => True) v0_ r1 ∧ IsS131 w0 w' g s0_0 r2 ∧ Below w0.heap.size w0 w' ∧ KeepBut w w' g none := by
 have hu35 := Try.underlying35
 have HI0 := Aside0.mk hI
 have HK := Aside0.mk (KeepBut.refl w g none)
 have HL := Aside0.mk hB.size
 clear hI
 have HW0 := Aside0.mk hB.size
 have HB := Aside0.mk hB
 clear hB
 have H : ((spec_l20Rd_pick.f k s0_0 s0_1 5).bind fun bt351 => (spec_l20Cache.l0 k a1 (([] : List (S35))) bt351.1 s0_0 bt351.2)) = some (r1, r2) := h
 clear h
 obtain ⟨y348, hy348⟩ : ∃ y_ : List (S35), y_ = (([] : List (S35))) := ⟨_, rfl⟩
 replace H : ((spec_l20Rd_pick.f k s0_0 s0_1 5).bind fun bt351 => (spec_l20Cache.l0 k a1 y348 bt351.1 s0_0 bt351.2)) = some (r1, r2) := by first | (rw [hy348]; with_reducible exact H) | (have H2_ := (Option.bind_some _ _).symm.trans H; rw [hy348]; with_reducible exact H2_) | (have H2_ := (Option.bind_some _ _).symm.trans H; with_reducible exact H2_) | with_reducible exact H | (rw [hy348]; exact H) | exact H
 have Ny348 := Aside0.mk hy348
 clear hy348
 replace H := Option.bind_eq_some_iff.mp H
 obtain ⟨⟨t351, t352⟩, A30, H⟩ := H
 try dsimp only at H
 have A3 := Aside0.mk A30
 clear A30
 have H' := Aside0.mk H
 clear H
 go_enter Try.func130, Try.ntmps130
 go_wp2_with (first | ((with_reducible refine gate_dst (N := 7) rfl ?_); refine Kd.R_lit k35 _ 35 ?hg (N := 7) ?hd (xs := ([] : List (S35))) (inner := []) (ok := fun _ => True) (okp := fun _ => True) ?hr ?hp (fun _ hk => hk) trivial (Below.refl _ _) (Nat.le_refl _) (by simp) ?_; (case hd => rfl); (case hg => rfl); (case hr => first | (go_simp; done) | (go_simp; rfl)); (case hp => exact (Reps.none _ _)); intro v349 w4 ho5 hb hg_ hnew_; clear hg_ hnew_; (first | rw [← Ny348.out] at ho5 | (simp only [Int.reduceToNat] at ho5; rw [← Ny348.out] at ho5)); have n0_ := Aside0.mk (Kd.R_lower ho5 (keep_size (w := w) (g := g) (row := none) (kk))); have n1_ := Aside0.mk (IsS131.below (IsS131.run HI0) hb); have n2_ := Aside0.mk (KeepBut.trans (kk) (KeepBut.of_below hb g none) (.inl rfl)); have n3_ := Aside0.mk (below_step (IsS131.bz HI0) hb); clear HI0 HK HB; have HO350 := n0_; have HI0 := n1_; have HK := n2_; have HB := n3_; clear n0_ n1_ n2_ n3_; clear hb ho5) | ((with_reducible refine gate_callee (f := 72) rfl ?_); refine goesL_ (some 9) rfl rfl Try.func72 (by kernel_rfl) rfl #[.pointer (some ⟨g, 0, none⟩), .int .i64 5] rfl ga ?_; (with_reducible refine (spec_l20Rd_pick.calls k g s0_0 s0_1 5 t351 t352 w0 _ ?side1 ?side2 A3.out).mono ?_); (case side1 => exact IsS131.run HI0); (case side2 => repeat (first | (with_reducible first | exact HB.out | apply below_alloc | apply pw_below_drewN | apply below_drew1 | refine below_set ?_ (IsS131.ge HI0.out)) | exact HB.out)); rintro e w6 ⟨rfl, hi, hb, hk⟩; refine ⟨_, rfl, ?_⟩; have n0_ := Aside0.mk (Kd.R_mono (Kd.R_keep (IsS131.apart (show IsS131 w0 _ g s0_0 s0_1 from IsS131.run HI0) (by (with_reducible repeat (first | apply Kd.R_alloc | apply Kd.R_drewN | apply Kd.R_drew)); exact HO350.out) (by decide)) hk (fun _ h => h.2)) (fun _ h => h.1)); have n1_ := Aside0.mk (KeepBut.trans (kk) hk (.inl rfl)); have n2_ := Aside0.mk (hb); have n3_ := Aside0.mk (hi); clear HO350 HK HB HI0; have HO350 := n0_; have HK := n1_; have HB := n2_; have HI0 := n3_; clear n0_ n1_ n2_ n3_; (try clear hb); (try clear hb2); (try clear hk); (try clear hi)))
 go_loopg [5, 6] k (fun kq v5 v6 w' => ∃ (x5_1 : List (S35)) (x6_1 : Int) (x1001_1 : Int), v6 = .int .i64 x6_1 ∧ Aside0 (spec_l20Cache.l0 kq a1 x5_1 x6_1 s0_0 x1001_1 = some (r1, r2)) ∧ Aside0 (kq ≤ k) ∧ Aside0 (Kd.R k35 35 w' w.heap.size (fun _ => True) v5 x5_1) ∧ Aside0 (IsS131 w0 w' g s0_0 x1001_1) ∧ Aside0 (KeepBut w w' g none) ∧ Aside0 (Below w0.heap.size w0 w'))
 case atStart => exact ⟨(y348), (t351), (t352), (by first | rfl | (simp; done) | exact congrArg Value.bool (ne_nil_b _) | exact congrArg Value.bool (eq_nil_b _) | (simp [*]; done)), H', ⟨Nat.le_refl _⟩, ⟨by (with_reducible repeat (first | apply Kd.R_alloc | apply Kd.R_drewN | apply Kd.R_drew)); exact HO350.out⟩, ⟨IsS131.run HI0⟩, ⟨kk⟩, ⟨IsS131.bz HI0⟩⟩
 case round =>
  clear H'
  try clear c1
  try clear p2
  obtain ⟨x5_1, x6_1, x1001_1, rfl, HA, HK1, HO_5, HI0, HK, HB⟩ := hrel
  cases gk with
  | zero => exact absurd HA.out (by simp [spec_l20Cache.l0])
  | succ k1 =>
   have H := HA.out
   clear HA
   simp only [spec_l20Cache.l0] at H
   by_cases c7 : x6_1 > 0
   ·
    rw [if_pos c7] at H
    have c7b0 : decide (0 < x6_1) = true := decide_eq_true c7
    clear c7
    replace H := Option.bind_eq_some_iff.mp H
    obtain ⟨⟨t353, t354⟩, A80, H⟩ := H
    try dsimp only at H
    have A8 := Aside0.mk A80
    clear A80
    replace H := Option.bind_eq_some_iff.mp H
    obtain ⟨⟨t355, t356, t357⟩, A90, H⟩ := H
    try dsimp only at H
    have A9 := Aside0.mk A90
    clear A90
    replace H := Option.bind_eq_some_iff.mp H
    obtain ⟨t358, A100, H⟩ := H
    try dsimp only at H
    have A10 := Aside0.mk A100
    clear A100
    have H' := Aside0.mk H
    clear H
    go_wp2_with (first | ((with_reducible refine gate_callee (f := 72) rfl ?_); refine goesL_ (some 16) rfl rfl Try.func72 (by kernel_rfl) rfl #[.pointer (some ⟨g, 0, none⟩), .int .i64 8] rfl ga ?_; (with_reducible refine (spec_l20Rd_pick.calls k1 g s0_0 x1001_1 8 t353 t354 w0 _ ?side1 ?side2 A8.out).mono ?_); (case side1 => exact IsS131.run HI0); (case side2 => repeat (first | (with_reducible first | exact HB.out | apply below_alloc | apply pw_below_drewN | apply below_drew1 | refine below_set ?_ (IsS131.ge HI0.out)) | exact HB.out)); rintro e w11 ⟨rfl, hi, hb, hk⟩; refine ⟨_, rfl, ?_⟩; have n0_ := Aside0.mk (Kd.R_mono (Kd.R_keep (IsS131.apart (show IsS131 w0 _ g s0_0 x1001_1 from IsS131.run HI0) (by (with_reducible repeat (first | apply Kd.R_alloc | apply Kd.R_drewN | apply Kd.R_drew)); exact HO_5.out) (by decide)) hk (fun _ h => h.2)) (fun _ h => h.1)); have n1_ := Aside0.mk (KeepBut.trans (kk) hk (.inl rfl)); have n2_ := Aside0.mk (hb); have n3_ := Aside0.mk (hi); clear HO_5 HK HB HI0; have HO_5 := n0_; have HK := n1_; have HB := n2_; have HI0 := n3_; clear n0_ n1_ n2_ n3_; (try clear hb); (try clear hb2); (try clear hk); (try clear hi)) | ((with_reducible refine gate_callee (f := 143) rfl ?_); refine goesL_ (some 18) rfl rfl Try.func143 (by kernel_rfl) rfl #[.pointer (some ⟨g, 0, none⟩), .int .i64 0] rfl ga ?_; (with_reducible refine (spec_l20Span.calls k1 g s0_0 t354 0 t355 t356 t357 w0 _ ?side1 ?side2 A9.out).mono ?_); (case side1 => exact IsS131.run HI0); (case side2 => repeat (first | (with_reducible first | exact HB.out | apply below_alloc | apply pw_below_drewN | apply below_drew1 | refine below_set ?_ (IsS131.ge HI0.out)) | exact HB.out)); rintro e w12 ⟨rfl, hi, hb, hk⟩; refine ⟨_, rfl, ?_⟩; have n0_ := Aside0.mk (Kd.R_mono (Kd.R_keep (IsS131.apart (show IsS131 w0 _ g s0_0 t354 from IsS131.run HI0) (by (with_reducible repeat (first | apply Kd.R_alloc | apply Kd.R_drewN | apply Kd.R_drew)); exact HO_5.out) (by decide)) hk (fun _ h => h.2)) (fun _ h => h.1)); have n1_ := Aside0.mk (KeepBut.trans (kk) hk (.inl rfl)); have n2_ := Aside0.mk (hb); have n3_ := Aside0.mk (hi); clear HO_5 HK HB HI0; have HO_5 := n0_; have HK := n1_; have HB := n2_; have HI0 := n3_; clear n0_ n1_ n2_ n3_; (try clear hb); (try clear hb2); (try clear hk); (try clear hi); obtain ⟨Ao13, co13, eo13⟩ := Kd.R_slice HO_5.out; subst eo13) | ((with_reducible refine gate_callee (f := 50) rfl ?_); refine goesL_ (some 20) rfl rfl Try.func50 (by kernel_rfl) rfl #[.slice Ao13 x5_1.length co13, .agg #[.int .i64 t353, .string t355, .string t356]] rfl ga ?_; (with_reducible refine (spec_CacheLearn.calls k1 _ _ x5_1 t353 t355 t356 t358 _ ?side1 ?side2 A10.out).mono ?_); (case side1 => repeat (first | exact (Kd.R_reads' HO_5.out).2.2 | (with_reducible refine Kd.C_alloc ?_ _) | (with_reducible refine Kd.C_drewN ?_ _) | (with_reducible refine Kd.C_drew ?_))); (case side2 => exact (Kd.R_reads' HO_5.out).2.1); rintro e w14 ⟨v359, rfl, ho0, hb⟩; refine ⟨_, rfl, ?_⟩; have n0_ := Aside0.mk (Kd.R_elder' (by (with_reducible repeat (first | apply Kd.R_alloc | apply Kd.R_drewN | apply Kd.R_drew)); exact HO_5.out) (Kd.R_base ho0) hb); have n1_ := Aside0.mk (Kd.R_lower (Kd.R_new' ho0 (Kd.R_lt (by (with_reducible repeat (first | apply Kd.R_alloc | apply Kd.R_drewN | apply Kd.R_drew)); exact HO_5.out))) (keep_size (w := w) (g := g) (row := none) (kk))); have n2_ := Aside0.mk (IsS131.below (IsS131.run HI0) hb); have n3_ := Aside0.mk (KeepBut.trans (kk) (KeepBut.of_below hb g none) (.inl rfl)); have n4_ := Aside0.mk (below_step (IsS131.bz HI0) hb); clear HO_5 HI0 HK HB; have HO_5 := n0_; have HO360 := n1_; have HI0 := n2_; have HK := n3_; have HB := n4_; clear n0_ n1_ n2_ n3_ n4_; (try clear hb); (try clear hb2); (try clear hk); (try clear hi); (try clear ho0)))
    go_roundg k1
    case measure => have := HK1.out; omega
    case rel => exact ⟨(t358), (wrap64 (x6_1 - 1)), (t357), (by first | rfl | (simp; done) | exact congrArg Value.bool (ne_nil_b _) | exact congrArg Value.bool (eq_nil_b _) | (simp [*]; done)), H', ⟨by have := HK1.out; omega⟩, ⟨by (with_reducible repeat (first | apply Kd.R_alloc | apply Kd.R_drewN | apply Kd.R_drew)); exact Kd.R_mono HO360.out (fun _ hk => trivial)⟩, ⟨IsS131.run HI0⟩, ⟨kk⟩, ⟨IsS131.bz HI0⟩⟩
   ·
    rw [if_neg c7] at H
    have c7b0 : decide (0 < x6_1) = false := decide_eq_false c7
    clear c7
    replace H := Option.bind_eq_some_iff.mp H
    obtain ⟨⟨t361, t362⟩, A150, H⟩ := H
    try dsimp only at H
    have A15 := Aside0.mk A150
    clear A150
    by_cases c16 : t361 = true
    ·
     subst c16
     rw [if_pos rfl] at H
     replace H := Option.bind_eq_some_iff.mp H
     obtain ⟨⟨t363, t364⟩, A170, H⟩ := H
     try dsimp only at H
     have A17 := Aside0.mk A170
     clear A170
     by_cases c18 : t363 = 0
     ·
      rw [if_pos c18] at H
      have c18b0 : (t363 == 0) = true := beq_iff_eq.mpr c18
      have c18b1 : (t363 != 0) = false := bne_eq_false_iff_eq.mpr c18
      clear c18
      by_cases c19 : x5_1.length < 3518437208883
      ·
       rw [if_pos c19] at H
       have LMc19 := Aside0.mk c19
       clear c19
       obtain ⟨y365, hy365⟩ : ∃ y_ : List (S35), y_ = (x5_1 ++ [(⟨(-1), (⟨(⟨#[]⟩ : ByteArray), (⟨#[]⟩ : ByteArray)⟩ : S31)⟩ : S35)]) := ⟨_, rfl⟩
       replace H : (some (y365, t364)) = some (r1, r2) := by first | (rw [hy365]; with_reducible exact H) | (have H2_ := (Option.bind_some _ _).symm.trans H; rw [hy365]; with_reducible exact H2_) | (have H2_ := (Option.bind_some _ _).symm.trans H; with_reducible exact H2_) | with_reducible exact H | (rw [hy365]; exact H) | exact H
       have Ny365 := Aside0.mk hy365
       clear hy365
       simp only [Option.some.injEq, Prod.mk.injEq] at H
       obtain ⟨rfl, rfl⟩ := H
       go_wp2_with (first | ((with_reducible refine gate_callee (f := 126) rfl ?_); refine goesL_ (some 23) rfl rfl Try.func126 (by kernel_rfl) rfl #[.pointer (some ⟨g, 0, none⟩), .int .i64 a1] rfl ga ?_; (with_reducible refine (spec_l20Rd_odd.calls k1 g s0_0 x1001_1 a1 true t362 w0 _ ?side1 ?side2 A15.out).mono ?_); (case side1 => exact IsS131.run HI0); (case side2 => repeat (first | (with_reducible first | exact HB.out | apply below_alloc | apply pw_below_drewN | apply below_drew1 | refine below_set ?_ (IsS131.ge HI0.out)) | exact HB.out)); rintro e w20 ⟨rfl, hi, hb, hk⟩; refine ⟨_, rfl, ?_⟩; have n0_ := Aside0.mk (Kd.R_mono (Kd.R_keep (IsS131.apart (show IsS131 w0 _ g s0_0 x1001_1 from IsS131.run HI0) (by (with_reducible repeat (first | apply Kd.R_alloc | apply Kd.R_drewN | apply Kd.R_drew)); exact HO_5.out) (by decide)) hk (fun _ h => h.2)) (fun _ h => h.1)); have n1_ := Aside0.mk (KeepBut.trans (kk) hk (.inl rfl)); have n2_ := Aside0.mk (hb); have n3_ := Aside0.mk (hi); clear HO_5 HK HB HI0; have HO_5 := n0_; have HK := n1_; have HB := n2_; have HI0 := n3_; clear n0_ n1_ n2_ n3_; (try clear hb); (try clear hb2); (try clear hk); (try clear hi)) | ((with_reducible refine gate_callee (f := 72) rfl ?_); refine goesL_ (some 25) rfl rfl Try.func72 (by kernel_rfl) rfl #[.pointer (some ⟨g, 0, none⟩), .int .i64 3] rfl ga ?_; (with_reducible refine (spec_l20Rd_pick.calls k1 g s0_0 t362 3 t363 t364 w0 _ ?side1 ?side2 A17.out).mono ?_); (case side1 => exact IsS131.run HI0); (case side2 => repeat (first | (with_reducible first | exact HB.out | apply below_alloc | apply pw_below_drewN | apply below_drew1 | refine below_set ?_ (IsS131.ge HI0.out)) | exact HB.out)); rintro e w21 ⟨rfl, hi, hb, hk⟩; refine ⟨_, rfl, ?_⟩; have n0_ := Aside0.mk (Kd.R_mono (Kd.R_keep (IsS131.apart (show IsS131 w0 _ g s0_0 t362 from IsS131.run HI0) (by (with_reducible repeat (first | apply Kd.R_alloc | apply Kd.R_drewN | apply Kd.R_drew)); exact HO_5.out) (by decide)) hk (fun _ h => h.2)) (fun _ h => h.1)); have n1_ := Aside0.mk (KeepBut.trans (kk) hk (.inl rfl)); have n2_ := Aside0.mk (hb); have n3_ := Aside0.mk (hi); clear HO_5 HK HB HI0; have HO_5 := n0_; have HK := n1_; have HB := n2_; have HI0 := n3_; clear n0_ n1_ n2_ n3_; (try clear hb); (try clear hb2); (try clear hk); (try clear hi)) | ((with_reducible refine gate_builtin (b := .append) (xs := #[.tmp 36, .tmp 38]) rfl ?_); at_builtin; refine Kd.R_append k35 w.heap.size rfl (.tmp 36) (.tmp 38) 23 35 (.agg #[(.int .i64 0), (.string ⟨#[]⟩), (.string ⟨#[]⟩)]) 40 rfl Try.underlying23 info35 rfl (by decide) (by omega) u5 x5_1 (⟨(-1), (⟨(⟨#[]⟩ : ByteArray), (⟨#[]⟩ : ByteArray)⟩ : S31)⟩ : S35) [.int .i64 (-1), .string (⟨#[]⟩ : ByteArray), .string (⟨#[]⟩ : ByteArray)] (fun _ => True) (fun _ => False) rfl rfl ?aP (fun _ hk => hk.elim) ?aF ?aO (Below.refl _ _) ?aS ?aL ?_; (case aP => exact k35_mkM _ _ _ (⟨(-1), (⟨(⟨#[]⟩ : ByteArray), (⟨#[]⟩ : ByteArray)⟩ : S31)⟩ : S35)); (case aF => exact (fun _ _ => trivial)); (case aO => exact (by (with_reducible repeat (first | apply Kd.R_alloc | apply Kd.R_drewN | apply Kd.R_drew)); exact HO_5.out)); (case aS => exact (keep_size (w := w) (g := g) (row := none) (kk))); (case aL => have := LMc19.out; omega); intro v366 w22 ho hb hg hat; rw [← Ny365.out] at ho; have n0_ := Aside0.mk (IsS131.grown (IsS131.run HI0) hg (IsS131.own_ne HI0.out HO_5.out (by decide))); have n1_ := Aside0.mk (below_weaken (IsS131.bz HI0) HL.out hb); have n2_ := Aside0.mk (KeepBut.trans (kk) (KeepBut.of_grown hg g) (Kd.R_base2 HO_5.out)); have n3_ := Aside0.mk (ho); clear HI0 HB HK HO_5; have HI0 := n0_; have HB := n1_; have HK := n2_; have HO367 := n3_; clear n0_ n1_ n2_ n3_; clear ho hb hg hat))
       go_ret
       exact ⟨_, by first | rfl | (simp only [u8w, w64m]; rfl) | (simp [errW_none, errW_some] <;> rfl) | (simp [*, errW_none, errW_some] <;> rfl), by (with_reducible repeat (first | apply Kd.R_alloc | apply Kd.R_drewN | apply Kd.R_drew)); exact HO367.out, IsS131.run HI0, IsS131.bz HI0, kk⟩
      ·
       rw [if_neg c19] at H
       exact absurd H (by simp)
     ·
      rw [if_neg c18] at H
      have c18b0 : (t363 == 0) = false := beq_eq_false_iff_ne.mpr c18
      have c18b1 : (t363 != 0) = true := bne_iff_ne.mpr c18
      by_cases c23 : t363 = 1
      ·
       rw [if_pos c23] at H
       have c23b0 : (t363 == 1) = true := beq_iff_eq.mpr c23
       have c23b1 : (t363 != 1) = false := bne_eq_false_iff_eq.mpr c23
       clear c23
       by_cases c24 : x5_1.length + x5_1.length < 3518437208883
       ·
        rw [if_pos c24] at H
        have LMc24 := Aside0.mk c24
        clear c24
        obtain ⟨y368, hy368⟩ : ∃ y_ : List (S35), y_ = (x5_1 ++ x5_1) := ⟨_, rfl⟩
        replace H : (some (y368, t364)) = some (r1, r2) := by first | (rw [hy368]; with_reducible exact H) | (have H2_ := (Option.bind_some _ _).symm.trans H; rw [hy368]; with_reducible exact H2_) | (have H2_ := (Option.bind_some _ _).symm.trans H; with_reducible exact H2_) | with_reducible exact H | (rw [hy368]; exact H) | exact H
        have Ny368 := Aside0.mk hy368
        clear hy368
        simp only [Option.some.injEq, Prod.mk.injEq] at H
        obtain ⟨rfl, rfl⟩ := H
        go_wp2_with (first | ((with_reducible refine gate_callee (f := 126) rfl ?_); refine goesL_ (some 23) rfl rfl Try.func126 (by kernel_rfl) rfl #[.pointer (some ⟨g, 0, none⟩), .int .i64 a1] rfl ga ?_; (with_reducible refine (spec_l20Rd_odd.calls k1 g s0_0 x1001_1 a1 true t362 w0 _ ?side1 ?side2 A15.out).mono ?_); (case side1 => exact IsS131.run HI0); (case side2 => repeat (first | (with_reducible first | exact HB.out | apply below_alloc | apply pw_below_drewN | apply below_drew1 | refine below_set ?_ (IsS131.ge HI0.out)) | exact HB.out)); rintro e w25 ⟨rfl, hi, hb, hk⟩; refine ⟨_, rfl, ?_⟩; have n0_ := Aside0.mk (Kd.R_mono (Kd.R_keep (IsS131.apart (show IsS131 w0 _ g s0_0 x1001_1 from IsS131.run HI0) (by (with_reducible repeat (first | apply Kd.R_alloc | apply Kd.R_drewN | apply Kd.R_drew)); exact HO_5.out) (by decide)) hk (fun _ h => h.2)) (fun _ h => h.1)); have n1_ := Aside0.mk (KeepBut.trans (kk) hk (.inl rfl)); have n2_ := Aside0.mk (hb); have n3_ := Aside0.mk (hi); clear HO_5 HK HB HI0; have HO_5 := n0_; have HK := n1_; have HB := n2_; have HI0 := n3_; clear n0_ n1_ n2_ n3_; (try clear hb); (try clear hb2); (try clear hk); (try clear hi)) | ((with_reducible refine gate_callee (f := 72) rfl ?_); refine goesL_ (some 25) rfl rfl Try.func72 (by kernel_rfl) rfl #[.pointer (some ⟨g, 0, none⟩), .int .i64 3] rfl ga ?_; (with_reducible refine (spec_l20Rd_pick.calls k1 g s0_0 t362 3 t363 t364 w0 _ ?side1 ?side2 A17.out).mono ?_); (case side1 => exact IsS131.run HI0); (case side2 => repeat (first | (with_reducible first | exact HB.out | apply below_alloc | apply pw_below_drewN | apply below_drew1 | refine below_set ?_ (IsS131.ge HI0.out)) | exact HB.out)); rintro e w26 ⟨rfl, hi, hb, hk⟩; refine ⟨_, rfl, ?_⟩; have n0_ := Aside0.mk (Kd.R_mono (Kd.R_keep (IsS131.apart (show IsS131 w0 _ g s0_0 t362 from IsS131.run HI0) (by (with_reducible repeat (first | apply Kd.R_alloc | apply Kd.R_drewN | apply Kd.R_drew)); exact HO_5.out) (by decide)) hk (fun _ h => h.2)) (fun _ h => h.1)); have n1_ := Aside0.mk (KeepBut.trans (kk) hk (.inl rfl)); have n2_ := Aside0.mk (hb); have n3_ := Aside0.mk (hi); clear HO_5 HK HB HI0; have HO_5 := n0_; have HK := n1_; have HB := n2_; have HI0 := n3_; clear n0_ n1_ n2_ n3_; (try clear hb); (try clear hb2); (try clear hk); (try clear hi); obtain ⟨Ao28, co28, eo28⟩ := Kd.R_slice HO_5.out; subst eo28) | ((with_reducible refine gate_builtin (b := .append) (xs := #[.tmp 42, .tmp 43]) rfl ?_); at_builtin; refine Kd.R_append_rows k35 w.heap.size rfl (.tmp 42) (.tmp 43) 23 35 (.agg #[(.int .i64 0), (.string ⟨#[]⟩), (.string ⟨#[]⟩)]) 40 rfl Try.underlying23 info35 rfl (by decide) (by omega) (.slice Ao28 x5_1.length co28) x5_1 x5_1 _ _ _ (fun _ => True) (fun _ => False) rfl rfl ?aO ?aR (fun _ _ h => h) (fun _ h => h.elim) ?aF (Below.refl _ _) ?aS ?aL ?_; (case aR => repeat (first | exact (Kd.R_reads' HO_5.out).2.2 | (with_reducible refine Kd.C_alloc ?_ _) | (with_reducible refine Kd.C_drewN ?_ _) | (with_reducible refine Kd.C_drew ?_))); (case aF => exact (fun _ _ => trivial)); (case aO => exact (by (with_reducible repeat (first | apply Kd.R_alloc | apply Kd.R_drewN | apply Kd.R_drew)); exact HO_5.out)); (case aS => exact (keep_size (w := w) (g := g) (row := none) (kk))); (case aL => have := LMc24.out; omega); intro v369 w27 ho hb hg hat; rw [← Ny368.out] at ho; have n0_ := Aside0.mk (IsS131.grown (IsS131.run HI0) hg (IsS131.own_ne HI0.out HO_5.out (by decide))); have n1_ := Aside0.mk (below_weaken (IsS131.bz HI0) HL.out hb); have n2_ := Aside0.mk (KeepBut.trans (kk) (KeepBut.of_grown hg g) (Kd.R_base2 HO_5.out)); have n3_ := Aside0.mk (ho); clear HI0 HB HK HO_5; have HI0 := n0_; have HB := n1_; have HK := n2_; have HO370 := n3_; clear n0_ n1_ n2_ n3_; clear ho hb hg hat))
        go_ret
        exact ⟨_, by first | rfl | (simp only [u8w, w64m]; rfl) | (simp [errW_none, errW_some] <;> rfl) | (simp [*, errW_none, errW_some] <;> rfl), by (with_reducible repeat (first | apply Kd.R_alloc | apply Kd.R_drewN | apply Kd.R_drew)); exact HO370.out, IsS131.run HI0, IsS131.bz HI0, kk⟩
       ·
        rw [if_neg c24] at H
        exact absurd H (by simp)
      ·
       rw [if_neg c23] at H
       have c23b0 : (t363 == 1) = false := beq_eq_false_iff_ne.mpr c23
       have c23b1 : (t363 != 1) = true := bne_iff_ne.mpr c23
       replace H := Option.bind_eq_some_iff.mp H
       obtain ⟨⟨t371, t372⟩, A290, H⟩ := H
       try dsimp only at H
       have A29 := Aside0.mk A290
       clear A290
       replace H := Option.bind_eq_some_iff.mp H
       obtain ⟨⟨t373, t374, t375⟩, A300, H⟩ := H
       try dsimp only at H
       have A30 := Aside0.mk A300
       clear A300
       by_cases c31 : x5_1.length < 3518437208883
       ·
        rw [if_pos c31] at H
        have LMc31 := Aside0.mk c31
        clear c31
        obtain ⟨y376, hy376⟩ : ∃ y_ : List (S35), y_ = (x5_1 ++ [(⟨t371, (⟨t373, t374⟩ : S31)⟩ : S35)]) := ⟨_, rfl⟩
        replace H : (some (y376, t375)) = some (r1, r2) := by first | (rw [hy376]; with_reducible exact H) | (have H2_ := (Option.bind_some _ _).symm.trans H; rw [hy376]; with_reducible exact H2_) | (have H2_ := (Option.bind_some _ _).symm.trans H; with_reducible exact H2_) | with_reducible exact H | (rw [hy376]; exact H) | exact H
        have Ny376 := Aside0.mk hy376
        clear hy376
        simp only [Option.some.injEq, Prod.mk.injEq] at H
        obtain ⟨rfl, rfl⟩ := H
        go_wp2_with (first | ((with_reducible refine gate_callee (f := 126) rfl ?_); refine goesL_ (some 23) rfl rfl Try.func126 (by kernel_rfl) rfl #[.pointer (some ⟨g, 0, none⟩), .int .i64 a1] rfl ga ?_; (with_reducible refine (spec_l20Rd_odd.calls k1 g s0_0 x1001_1 a1 true t362 w0 _ ?side1 ?side2 A15.out).mono ?_); (case side1 => exact IsS131.run HI0); (case side2 => repeat (first | (with_reducible first | exact HB.out | apply below_alloc | apply pw_below_drewN | apply below_drew1 | refine below_set ?_ (IsS131.ge HI0.out)) | exact HB.out)); rintro e w32 ⟨rfl, hi, hb, hk⟩; refine ⟨_, rfl, ?_⟩; have n0_ := Aside0.mk (Kd.R_mono (Kd.R_keep (IsS131.apart (show IsS131 w0 _ g s0_0 x1001_1 from IsS131.run HI0) (by (with_reducible repeat (first | apply Kd.R_alloc | apply Kd.R_drewN | apply Kd.R_drew)); exact HO_5.out) (by decide)) hk (fun _ h => h.2)) (fun _ h => h.1)); have n1_ := Aside0.mk (KeepBut.trans (kk) hk (.inl rfl)); have n2_ := Aside0.mk (hb); have n3_ := Aside0.mk (hi); clear HO_5 HK HB HI0; have HO_5 := n0_; have HK := n1_; have HB := n2_; have HI0 := n3_; clear n0_ n1_ n2_ n3_; (try clear hb); (try clear hb2); (try clear hk); (try clear hi)) | ((with_reducible refine gate_callee (f := 72) rfl ?_); refine goesL_ (some 25) rfl rfl Try.func72 (by kernel_rfl) rfl #[.pointer (some ⟨g, 0, none⟩), .int .i64 3] rfl ga ?_; (with_reducible refine (spec_l20Rd_pick.calls k1 g s0_0 t362 3 t363 t364 w0 _ ?side1 ?side2 A17.out).mono ?_); (case side1 => exact IsS131.run HI0); (case side2 => repeat (first | (with_reducible first | exact HB.out | apply below_alloc | apply pw_below_drewN | apply below_drew1 | refine below_set ?_ (IsS131.ge HI0.out)) | exact HB.out)); rintro e w33 ⟨rfl, hi, hb, hk⟩; refine ⟨_, rfl, ?_⟩; have n0_ := Aside0.mk (Kd.R_mono (Kd.R_keep (IsS131.apart (show IsS131 w0 _ g s0_0 t362 from IsS131.run HI0) (by (with_reducible repeat (first | apply Kd.R_alloc | apply Kd.R_drewN | apply Kd.R_drew)); exact HO_5.out) (by decide)) hk (fun _ h => h.2)) (fun _ h => h.1)); have n1_ := Aside0.mk (KeepBut.trans (kk) hk (.inl rfl)); have n2_ := Aside0.mk (hb); have n3_ := Aside0.mk (hi); clear HO_5 HK HB HI0; have HO_5 := n0_; have HK := n1_; have HB := n2_; have HI0 := n3_; clear n0_ n1_ n2_ n3_; (try clear hb); (try clear hb2); (try clear hk); (try clear hi)) | ((with_reducible refine gate_callee (f := 72) rfl ?_); refine goesL_ (some 28) rfl rfl Try.func72 (by kernel_rfl) rfl #[.pointer (some ⟨g, 0, none⟩), .int .i64 8] rfl ga ?_; (with_reducible refine (spec_l20Rd_pick.calls k1 g s0_0 t364 8 t371 t372 w0 _ ?side1 ?side2 A29.out).mono ?_); (case side1 => exact IsS131.run HI0); (case side2 => repeat (first | (with_reducible first | exact HB.out | apply below_alloc | apply pw_below_drewN | apply below_drew1 | refine below_set ?_ (IsS131.ge HI0.out)) | exact HB.out)); rintro e w34 ⟨rfl, hi, hb, hk⟩; refine ⟨_, rfl, ?_⟩; have n0_ := Aside0.mk (Kd.R_mono (Kd.R_keep (IsS131.apart (show IsS131 w0 _ g s0_0 t364 from IsS131.run HI0) (by (with_reducible repeat (first | apply Kd.R_alloc | apply Kd.R_drewN | apply Kd.R_drew)); exact HO_5.out) (by decide)) hk (fun _ h => h.2)) (fun _ h => h.1)); have n1_ := Aside0.mk (KeepBut.trans (kk) hk (.inl rfl)); have n2_ := Aside0.mk (hb); have n3_ := Aside0.mk (hi); clear HO_5 HK HB HI0; have HO_5 := n0_; have HK := n1_; have HB := n2_; have HI0 := n3_; clear n0_ n1_ n2_ n3_; (try clear hb); (try clear hb2); (try clear hk); (try clear hi)) | ((with_reducible refine gate_callee (f := 143) rfl ?_); refine goesL_ (some 30) rfl rfl Try.func143 (by kernel_rfl) rfl #[.pointer (some ⟨g, 0, none⟩), .int .i64 2] rfl ga ?_; (with_reducible refine (spec_l20Span.calls k1 g s0_0 t372 2 t373 t374 t375 w0 _ ?side1 ?side2 A30.out).mono ?_); (case side1 => exact IsS131.run HI0); (case side2 => repeat (first | (with_reducible first | exact HB.out | apply below_alloc | apply pw_below_drewN | apply below_drew1 | refine below_set ?_ (IsS131.ge HI0.out)) | exact HB.out)); rintro e w35 ⟨rfl, hi, hb, hk⟩; refine ⟨_, rfl, ?_⟩; have n0_ := Aside0.mk (Kd.R_mono (Kd.R_keep (IsS131.apart (show IsS131 w0 _ g s0_0 t372 from IsS131.run HI0) (by (with_reducible repeat (first | apply Kd.R_alloc | apply Kd.R_drewN | apply Kd.R_drew)); exact HO_5.out) (by decide)) hk (fun _ h => h.2)) (fun _ h => h.1)); have n1_ := Aside0.mk (KeepBut.trans (kk) hk (.inl rfl)); have n2_ := Aside0.mk (hb); have n3_ := Aside0.mk (hi); clear HO_5 HK HB HI0; have HO_5 := n0_; have HK := n1_; have HB := n2_; have HI0 := n3_; clear n0_ n1_ n2_ n3_; (try clear hb); (try clear hb2); (try clear hk); (try clear hi)) | ((with_reducible refine gate_builtin (b := .append) (xs := #[.tmp 26, .tmp 32]) rfl ?_); at_builtin; refine Kd.R_append k35 w.heap.size rfl (.tmp 26) (.tmp 32) 23 35 (.agg #[(.int .i64 0), (.string ⟨#[]⟩), (.string ⟨#[]⟩)]) 40 rfl Try.underlying23 info35 rfl (by decide) (by omega) u5 x5_1 (⟨t371, (⟨t373, t374⟩ : S31)⟩ : S35) [.int .i64 t371, .string t373, .string t374] (fun _ => True) (fun _ => False) rfl rfl ?aP (fun _ hk => hk.elim) ?aF ?aO (Below.refl _ _) ?aS ?aL ?_; (case aP => exact k35_mkM _ _ _ (⟨t371, (⟨t373, t374⟩ : S31)⟩ : S35)); (case aF => exact (fun _ _ => trivial)); (case aO => exact (by (with_reducible repeat (first | apply Kd.R_alloc | apply Kd.R_drewN | apply Kd.R_drew)); exact HO_5.out)); (case aS => exact (keep_size (w := w) (g := g) (row := none) (kk))); (case aL => have := LMc31.out; omega); intro v377 w36 ho hb hg hat; rw [← Ny376.out] at ho; have n0_ := Aside0.mk (IsS131.grown (IsS131.run HI0) hg (IsS131.own_ne HI0.out HO_5.out (by decide))); have n1_ := Aside0.mk (below_weaken (IsS131.bz HI0) HL.out hb); have n2_ := Aside0.mk (KeepBut.trans (kk) (KeepBut.of_grown hg g) (Kd.R_base2 HO_5.out)); have n3_ := Aside0.mk (ho); clear HI0 HB HK HO_5; have HI0 := n0_; have HB := n1_; have HK := n2_; have HO378 := n3_; clear n0_ n1_ n2_ n3_; clear ho hb hg hat))
        go_ret
        exact ⟨_, by first | rfl | (simp only [u8w, w64m]; rfl) | (simp [errW_none, errW_some] <;> rfl) | (simp [*, errW_none, errW_some] <;> rfl), by (with_reducible repeat (first | apply Kd.R_alloc | apply Kd.R_drewN | apply Kd.R_drew)); exact HO378.out, IsS131.run HI0, IsS131.bz HI0, kk⟩
       ·
        rw [if_neg c31] at H
        exact absurd H (by simp)
    ·
     replace c16 := Bool.eq_false_iff.mpr c16
     subst c16
     rw [if_neg (show ¬ (false = true) by decide)] at H
     simp only [Option.some.injEq, Prod.mk.injEq] at H
     obtain ⟨rfl, rfl⟩ := H
     go_wp2_with (first | ((with_reducible refine gate_callee (f := 126) rfl ?_); refine goesL_ (some 23) rfl rfl Try.func126 (by kernel_rfl) rfl #[.pointer (some ⟨g, 0, none⟩), .int .i64 a1] rfl ga ?_; (with_reducible refine (spec_l20Rd_odd.calls k1 g s0_0 x1001_1 a1 false t362 w0 _ ?side1 ?side2 A15.out).mono ?_); (case side1 => exact IsS131.run HI0); (case side2 => repeat (first | (with_reducible first | exact HB.out | apply below_alloc | apply pw_below_drewN | apply below_drew1 | refine below_set ?_ (IsS131.ge HI0.out)) | exact HB.out)); rintro e w37 ⟨rfl, hi, hb, hk⟩; refine ⟨_, rfl, ?_⟩; have n0_ := Aside0.mk (Kd.R_mono (Kd.R_keep (IsS131.apart (show IsS131 w0 _ g s0_0 x1001_1 from IsS131.run HI0) (by (with_reducible repeat (first | apply Kd.R_alloc | apply Kd.R_drewN | apply Kd.R_drew)); exact HO_5.out) (by decide)) hk (fun _ h => h.2)) (fun _ h => h.1)); have n1_ := Aside0.mk (KeepBut.trans (kk) hk (.inl rfl)); have n2_ := Aside0.mk (hb); have n3_ := Aside0.mk (hi); clear HO_5 HK HB HI0; have HO_5 := n0_; have HK := n1_; have HB := n2_; have HI0 := n3_; clear n0_ n1_ n2_ n3_; (try clear hb); (try clear hb2); (try clear hk); (try clear hi)))
     go_ret
     exact ⟨_, by first | rfl | (simp only [u8w, w64m]; rfl) | (simp [errW_none, errW_some] <;> rfl) | (simp [*, errW_none, errW_some] <;> rfl), by (with_reducible repeat (first | apply Kd.R_alloc | apply Kd.R_drewN | apply Kd.R_drew)); exact HO_5.out, IsS131.run HI0, IsS131.bz HI0, kk⟩

end Go.Proofs.Ytkjkokljgbpbbaa.PFnGiveUp
