/- Go functions as plain Lean functions, and for each a proof that its call comes to what the function says; under the conditions that each theorem names. Written by a program of this session. -/
import Derived.Test.YtkjkokljgbpbbaaPFnRequestOfx0
import Derived.Test.YtkjkokljgbpbbaaPFnRequestOfx3
import Derived.Test.YtkjkokljgbpbbaaPFnRequestOfx4
import Derived.Test.YtkjkokljgbpbbaaPFnRequestOfx8
namespace Go.Proofs.Ytkjkokljgbpbbaa.PFnRequestOf
open Go.RowKit Go.Proofs.YtkjkokljgbpbbaaW.PrintWords Go.Proofs.YtkjkokljgbpbbaaW.PrintLast Go.Proofs.YtkjkokljgbpbbaaW.PrintMore
attribute [local go_sem high] str_gtr str_leq str_geq
attribute [local go_sem] max2_int min2_int max_two min_two max_three min_three max_four min_four   -- for this text's walks alone
set_option linter.unusedVariables false
set_option linter.unusedSimpArgs false

/-! ### spec_l20Span: function 143 -/
def spec_l20Span.j0 : Nat → ByteArray → ByteArray → List Int → Int → Option (ByteArray × ByteArray × Int)
 | 0, _, _, _, _ => none
 | k + 1, x5, x6, x1000, x1001 => if (Op.bytesLess x5.toList x6.toList) = true then (some (x5, x6, x1001)) else (if (Op.bytesLess x6.toList x5.toList) = true then (some (x6, x5, x1001)) else (some (x5, (⟨#[]⟩ : ByteArray), x1001)))
def spec_l20Span.f (k : Nat) (s0_0 : List Int) (s0_1 : Int) (a1 : Int) : Option (ByteArray × ByteArray × Int) := (spec_l20Rd_odd.f k s0_0 s0_1 a1).bind fun bt241 => (if bt241.1 = true then ((some (([(⟨(⟨#[98]⟩ : ByteArray), (⟨#[98]⟩ : ByteArray)⟩ : S31), (⟨(⟨#[99]⟩ : ByteArray), (⟨#[98]⟩ : ByteArray)⟩ : S31), (⟨(⟨#[]⟩ : ByteArray), (⟨#[97]⟩ : ByteArray)⟩ : S31), (⟨(⟨#[65]⟩ : ByteArray), (⟨#[]⟩ : ByteArray)⟩ : S31), (⟨(⟨#[]⟩ : ByteArray), (⟨#[97, 98, 99, 100, 101]⟩ : ByteArray)⟩ : S31)] : List (S31)) : List (S31))).bind fun y243 => ((spec_l20Rd_pick.f k s0_0 bt241.2 5).bind fun bt246 => (if 0 ≤ bt246.1 then (if bt246.1 < (y243.length : Int) then (some ((rd_T31 y243 bt246.1).f0, (rd_T31 y243 bt246.1).f1, bt246.2)) else (none)) else (none)))) else ((spec_l20Key.f k s0_0 bt241.2 0).bind fun bt249 => ((spec_l20Key.f k s0_0 bt249.2 0).bind fun bt251 => ((spec_l20Rd_pick.f k s0_0 bt251.2 6).bind fun bt253 => (if bt253.1 = 0 then (some ((⟨#[]⟩ : ByteArray), (⟨#[]⟩ : ByteArray), bt253.2)) else (if bt253.1 = 1 then (some (bt249.1, (⟨#[]⟩ : ByteArray), bt253.2)) else (if bt253.1 = 2 then (if bt251.1.toList = ([97] : List UInt8) then (spec_l20Span.j0 k bt249.1 bt251.1 s0_0 bt253.2) else (some ((⟨#[]⟩ : ByteArray), bt251.1, bt253.2))) else (spec_l20Span.j0 k bt249.1 bt251.1 s0_0 bt253.2))))))))
theorem spec_l20Span.mono_l : ∀ k, (∀ y0 y1 y2 y3, LeO (spec_l20Span.j0 k y0 y1 y2 y3) (spec_l20Span.j0 (k + 1) y0 y1 y2 y3))
 | 0 => fun _ _ _ _ r h => by simp [spec_l20Span.j0] at h
 | k + 1 => by
  have ih0 := spec_l20Span.mono_l k
  ·
   intro y0 y1 y2 y3
   unfold spec_l20Span.j0
   repeat' first
   | (with_reducible exact ih0 _ _ _ _)
   | (with_reducible exact spec_l20Key.mono _ _ _ _)
   | (with_reducible exact spec_l20Rd_odd.mono _ _ _ _)
   | (with_reducible exact spec_l20Rd_pick.mono _ _ _ _)
   | (with_reducible exact LeO.refl _)
   | (with_reducible exact LeO.none _)
   | (with_reducible refine LeO.ite ?_ ?_)
   | (with_reducible refine LeO.bind ?_ (fun _ => ?_))
   | exact ih0 _ _ _ _
   | exact spec_l20Key.mono _ _ _ _
   | exact spec_l20Rd_odd.mono _ _ _ _
   | exact spec_l20Rd_pick.mono _ _ _ _
   | exact LeO.none _
   | refine LeO.ite ?_ ?_
   | refine LeO.bind ?_ (fun _ => ?_)
theorem spec_l20Span.mono : ∀ a0 a1 a2 k, LeO (spec_l20Span.f k a0 a1 a2) (spec_l20Span.f (k + 1) a0 a1 a2) := by
 intro a0 a1 a2 k
 have ih0 := spec_l20Span.mono_l k
 unfold spec_l20Span.f
 repeat' first
   | (with_reducible exact ih0 _ _ _ _)
   | (with_reducible exact spec_l20Key.mono _ _ _ _)
   | (with_reducible exact spec_l20Rd_odd.mono _ _ _ _)
   | (with_reducible exact spec_l20Rd_pick.mono _ _ _ _)
   | (with_reducible exact LeO.refl _)
   | (with_reducible exact LeO.none _)
   | (with_reducible refine LeO.ite ?_ ?_)
   | (with_reducible refine LeO.bind ?_ (fun _ => ?_))
   | exact ih0 _ _ _ _
   | exact spec_l20Key.mono _ _ _ _
   | exact spec_l20Rd_odd.mono _ _ _ _
   | exact spec_l20Rd_pick.mono _ _ _ _
   | exact LeO.none _
   | refine LeO.ite ?_ ?_
   | refine LeO.bind ?_ (fun _ => ?_)
set_option maxHeartbeats 8000000 in
set_option maxRecDepth 100000 in
theorem spec_l20Span.calls (k : Nat) (g : Nat) (s0_0 : List Int) (s0_1 : Int) (a1 : Int) (r1 : ByteArray) (r2 : ByteArray) (r3 : Int) (w0 w : World) (hI : IsS131 w0 w g s0_0 s0_1) (hB : Below w0.heap.size w0 w) (h : spec_l20Span.f k s0_0 s0_1 a1 = some (r1, r2, r3)) :
  Calls Try.prog 143 #[.pointer (some ⟨g, 0, none⟩), .int .i64 a1] w fun e w' => e = .returned (.agg #[.string r1, .string r2]) ∧ IsS131 w0 w' g s0_0 r3 ∧ Below w0.heap.size w0 w' ∧ KeepBut w w' g none := by
 have hu31 := Try.underlying31
 have HI0 := Aside0.mk hI
 have HK := Aside0.mk (KeepBut.refl w g none)
 have HL := Aside0.mk hB.size
 clear hI
 have HW0 := Aside0.mk hB.size
 have HB := Aside0.mk hB
 clear hB
 have H : ((spec_l20Rd_odd.f k s0_0 s0_1 a1).bind fun bt241 => (if bt241.1 = true then ((some (([(⟨(⟨#[98]⟩ : ByteArray), (⟨#[98]⟩ : ByteArray)⟩ : S31), (⟨(⟨#[99]⟩ : ByteArray), (⟨#[98]⟩ : ByteArray)⟩ : S31), (⟨(⟨#[]⟩ : ByteArray), (⟨#[97]⟩ : ByteArray)⟩ : S31), (⟨(⟨#[65]⟩ : ByteArray), (⟨#[]⟩ : ByteArray)⟩ : S31), (⟨(⟨#[]⟩ : ByteArray), (⟨#[97, 98, 99, 100, 101]⟩ : ByteArray)⟩ : S31)] : List (S31)) : List (S31))).bind fun y243 => ((spec_l20Rd_pick.f k s0_0 bt241.2 5).bind fun bt246 => (if 0 ≤ bt246.1 then (if bt246.1 < (y243.length : Int) then (some ((rd_T31 y243 bt246.1).f0, (rd_T31 y243 bt246.1).f1, bt246.2)) else (none)) else (none)))) else ((spec_l20Key.f k s0_0 bt241.2 0).bind fun bt249 => ((spec_l20Key.f k s0_0 bt249.2 0).bind fun bt251 => ((spec_l20Rd_pick.f k s0_0 bt251.2 6).bind fun bt253 => (if bt253.1 = 0 then (some ((⟨#[]⟩ : ByteArray), (⟨#[]⟩ : ByteArray), bt253.2)) else (if bt253.1 = 1 then (some (bt249.1, (⟨#[]⟩ : ByteArray), bt253.2)) else (if bt253.1 = 2 then (if bt251.1.toList = ([97] : List UInt8) then (spec_l20Span.j0 k bt249.1 bt251.1 s0_0 bt253.2) else (some ((⟨#[]⟩ : ByteArray), bt251.1, bt253.2))) else (spec_l20Span.j0 k bt249.1 bt251.1 s0_0 bt253.2))))))))) = some (r1, r2, r3) := h
 clear h
 replace H := Option.bind_eq_some_iff.mp H
 obtain ⟨⟨t241, t242⟩, A30, H⟩ := H
 try dsimp only at H
 have A3 := Aside0.mk A30
 clear A30
 by_cases c4 : t241 = true
 ·
  subst c4
  rw [if_pos rfl] at H
  obtain ⟨y243, hy243⟩ : ∃ y_ : List (S31), y_ = (([(⟨(⟨#[98]⟩ : ByteArray), (⟨#[98]⟩ : ByteArray)⟩ : S31), (⟨(⟨#[99]⟩ : ByteArray), (⟨#[98]⟩ : ByteArray)⟩ : S31), (⟨(⟨#[]⟩ : ByteArray), (⟨#[97]⟩ : ByteArray)⟩ : S31), (⟨(⟨#[65]⟩ : ByteArray), (⟨#[]⟩ : ByteArray)⟩ : S31), (⟨(⟨#[]⟩ : ByteArray), (⟨#[97, 98, 99, 100, 101]⟩ : ByteArray)⟩ : S31)] : List (S31))) := ⟨_, rfl⟩
  replace H : ((spec_l20Rd_pick.f k s0_0 t242 5).bind fun bt246 => (if 0 ≤ bt246.1 then (if bt246.1 < (y243.length : Int) then (some ((rd_T31 y243 bt246.1).f0, (rd_T31 y243 bt246.1).f1, bt246.2)) else (none)) else (none))) = some (r1, r2, r3) := by first | (rw [hy243]; with_reducible exact H) | (have H2_ := (Option.bind_some _ _).symm.trans H; rw [hy243]; with_reducible exact H2_) | (have H2_ := (Option.bind_some _ _).symm.trans H; with_reducible exact H2_) | with_reducible exact H | (rw [hy243]; exact H) | exact H
  have Ny243 := Aside0.mk hy243
  clear hy243
  replace H := Option.bind_eq_some_iff.mp H
  obtain ⟨⟨t246, t247⟩, A50, H⟩ := H
  try dsimp only at H
  have A5 := Aside0.mk A50
  clear A50
  by_cases c6 : 0 ≤ t246
  ·
   rw [if_pos c6] at H
   have c6b0 : decide (0 ≤ t246) = true := decide_eq_true c6
   clear c6
   by_cases c7 : t246 < (y243.length : Int)
   ·
    rw [if_pos c7] at H
    have c7b0 : decide (t246 < (y243.length : Int)) = true := decide_eq_true c7
    clear c7
    simp only [Option.some.injEq, Prod.mk.injEq] at H
    obtain ⟨rfl, rfl, rfl⟩ := H
    go_enter Try.func143, Try.ntmps143
    go_wp2_with (first | ((with_reducible refine gate_dst (N := 4) rfl ?_); refine box_event ?hg (N := 4) ?hd (cs := #[.string (⟨#[]⟩ : ByteArray), .string (⟨#[]⟩ : ByteArray)]) (t := 31) ?hr ?_; (case hd => rfl); (case hg => rfl); (case hr => first | (go_simp; done) | (go_simp; rfl)); intro gb240 hg w8 hbox hb; have n0_ := Aside0.mk (IsS131.below (by repeat (first | (with_reducible first | exact HI0.out | apply IsS131.alloc | apply IsS131.drewN | apply IsS131.drew | apply IsS131.set_1) | exact HI0.out)) hb); have n1_ := Aside0.mk (KeepBut.trans (by repeat (first | (with_reducible first | exact HK.out | apply KeepBut.set_ | apply keep_drewN | apply keep_drew | apply keep_alloc) | exact HK.out)) (KeepBut.of_below hb g none) (.inl rfl)); have n2_ := Aside0.mk (below_step (by repeat (first | (with_reducible first | exact HB.out | apply below_alloc | apply pw_below_drewN | apply below_drew1 | refine below_set ?_ (IsS131.ge HI0.out)) | exact HB.out)) hb); have n3_ := Aside0.mk (hbox); have n4_ := Aside0.mk ((by rw [hg]; exact (keep_size (w := w) (g := g) (row := none) (by repeat (first | (with_reducible first | exact HK.out | apply KeepBut.set_ | apply keep_drewN | apply keep_drew | apply keep_alloc) | exact HK.out))) : w.heap.size ≤ gb240)); have n5_ := Aside0.mk ((Nat.le_trans HW0.out (by rw [hg]; exact (keep_size (w := w) (g := g) (row := none) (by repeat (first | (with_reducible first | exact HK.out | apply KeepBut.set_ | apply keep_drewN | apply keep_drew | apply keep_alloc) | exact HK.out))) : w.heap.size ≤ gb240) : w0.heap.size ≤ gb240)); have n6_ := Aside0.mk ((by rw [hg]; exact Nat.ne_of_lt (IsS131.lt (show IsS131 w0 _ g s0_0 s0_1 from by repeat (first | (with_reducible first | exact HI0.out | apply IsS131.alloc | apply IsS131.drewN | apply IsS131.drew | apply IsS131.set_1) | exact HI0.out))) : g ≠ gb240)); have n7_ := Aside0.mk ((by rw [hg]; exact Nat.ne_of_gt (IsS131.lt (show IsS131 w0 _ g s0_0 s0_1 from by repeat (first | (with_reducible first | exact HI0.out | apply IsS131.alloc | apply IsS131.drewN | apply IsS131.drew | apply IsS131.set_1) | exact HI0.out))) : gb240 ≠ g)); clear HI0; clear HK; clear HB; have HI0 := n0_; have HK := n1_; have HB := n2_; have BK240 := n3_; have GW240 := n4_; have GE240 := n5_; have NB0_240 := n6_; have NB240_0 := n7_; clear n0_ n1_ n2_ n3_ n4_ n5_ n6_ n7_; clear hb hbox hg) | ((with_reducible refine gate_callee (f := 126) rfl ?_); refine goesL_ (some 9) rfl rfl Try.func126 (by kernel_rfl) rfl #[.pointer (some ⟨g, 0, none⟩), .int .i64 a1] rfl (by (try simp only [List.map_toArray, List.map_cons, List.map_nil]); first | done | rfl | (simp only [List.length_drop, List.length_take]; rfl)) ?_; (with_reducible refine (spec_l20Rd_odd.calls k g s0_0 s0_1 a1 true t242 w0 _ ?side1 ?side2 A3.out).mono ?_); (case side1 => repeat (first | (with_reducible first | exact HI0.out | apply IsS131.alloc | apply IsS131.drewN | apply IsS131.drew | apply IsS131.set_1 | refine IsS131.far ?_ NB0_240.out _) | exact HI0.out)); (case side2 => repeat (first | (with_reducible first | exact HB.out | apply below_alloc | apply pw_below_drewN | apply below_drew1 | refine below_set ?_ (IsS131.ge HI0.out) | refine below_set ?_ GE240.out) | exact HB.out)); rintro e w9 ⟨rfl, hi, hb, hk⟩; refine ⟨_, rfl, ?_⟩; have n0_ := Aside0.mk (KeepBut.blk hk (g' := gb240) (o := .cells #[.string (⟨#[]⟩ : ByteArray), .string (⟨#[]⟩ : ByteArray)] 31 (0, 0)) (bq BK240) NB240_0.out (by simp)); have n1_ := Aside0.mk (KeepBut.trans (by repeat (first | (with_reducible first | exact HK.out | apply KeepBut.set_ | apply keep_drewN | apply keep_drew | apply keep_alloc | refine keep_far ?_ GW240.out _) | exact HK.out)) hk (.inl rfl)); have n2_ := Aside0.mk (hb); have n3_ := Aside0.mk (hi); clear BK240; clear HK; clear HB; clear HI0; have BK240 := n0_; have HK := n1_; have HB := n2_; have HI0 := n3_; clear n0_ n1_ n2_ n3_; (try clear hb); (try clear hb2); (try clear hk); (try clear hi)) | ((with_reducible refine gate_dst (N := 15) rfl ?_); refine Kd.R_lit k31 _ 31 ?hg (N := 15) ?hd (xs := ([(⟨(⟨#[98]⟩ : ByteArray), (⟨#[98]⟩ : ByteArray)⟩ : S31), (⟨(⟨#[99]⟩ : ByteArray), (⟨#[98]⟩ : ByteArray)⟩ : S31), (⟨(⟨#[]⟩ : ByteArray), (⟨#[97]⟩ : ByteArray)⟩ : S31), (⟨(⟨#[65]⟩ : ByteArray), (⟨#[]⟩ : ByteArray)⟩ : S31), (⟨(⟨#[]⟩ : ByteArray), (⟨#[97, 98, 99, 100, 101]⟩ : ByteArray)⟩ : S31)] : List (S31))) (inner := [.string (⟨#[98]⟩ : ByteArray), .string (⟨#[98]⟩ : ByteArray), .string (⟨#[99]⟩ : ByteArray), .string (⟨#[98]⟩ : ByteArray), .string (⟨#[]⟩ : ByteArray), .string (⟨#[97]⟩ : ByteArray), .string (⟨#[65]⟩ : ByteArray), .string (⟨#[]⟩ : ByteArray), .string (⟨#[]⟩ : ByteArray), .string (⟨#[97, 98, 99, 100, 101]⟩ : ByteArray)]) (ok := fun _ => True) (okp := fun _ => True) ?hr ?hp (fun _ hk => hk) trivial (Below.refl _ _) (Nat.le_refl _) (by simp) ?_; (case hd => rfl); (case hg => rfl); (case hr => first | (go_simp; done) | (go_simp; rfl)); (case hp => exact (Reps.c2 (show Kd.M k31 _ _ _ (⟨(⟨#[98]⟩ : ByteArray), (⟨#[98]⟩ : ByteArray)⟩ : S31) [.string (⟨#[98]⟩ : ByteArray), .string (⟨#[98]⟩ : ByteArray)] from (k31_mkM _ _ _ (⟨(⟨#[98]⟩ : ByteArray), (⟨#[98]⟩ : ByteArray)⟩ : S31) )) (Reps.c2 (show Kd.M k31 _ _ _ (⟨(⟨#[99]⟩ : ByteArray), (⟨#[98]⟩ : ByteArray)⟩ : S31) [.string (⟨#[99]⟩ : ByteArray), .string (⟨#[98]⟩ : ByteArray)] from (k31_mkM _ _ _ (⟨(⟨#[99]⟩ : ByteArray), (⟨#[98]⟩ : ByteArray)⟩ : S31) )) (Reps.c2 (show Kd.M k31 _ _ _ (⟨(⟨#[]⟩ : ByteArray), (⟨#[97]⟩ : ByteArray)⟩ : S31) [.string (⟨#[]⟩ : ByteArray), .string (⟨#[97]⟩ : ByteArray)] from (k31_mkM _ _ _ (⟨(⟨#[]⟩ : ByteArray), (⟨#[97]⟩ : ByteArray)⟩ : S31) )) (Reps.c2 (show Kd.M k31 _ _ _ (⟨(⟨#[65]⟩ : ByteArray), (⟨#[]⟩ : ByteArray)⟩ : S31) [.string (⟨#[65]⟩ : ByteArray), .string (⟨#[]⟩ : ByteArray)] from (k31_mkM _ _ _ (⟨(⟨#[65]⟩ : ByteArray), (⟨#[]⟩ : ByteArray)⟩ : S31) )) (Reps.c2 (show Kd.M k31 _ _ _ (⟨(⟨#[]⟩ : ByteArray), (⟨#[97, 98, 99, 100, 101]⟩ : ByteArray)⟩ : S31) [.string (⟨#[]⟩ : ByteArray), .string (⟨#[97, 98, 99, 100, 101]⟩ : ByteArray)] from (k31_mkM _ _ _ (⟨(⟨#[]⟩ : ByteArray), (⟨#[97, 98, 99, 100, 101]⟩ : ByteArray)⟩ : S31) )) (Reps.none _ _))))))); intro v244 w10 ho11 hb hg_ hnew_; clear hg_ hnew_; (first | rw [← Ny243.out] at ho11 | (simp only [Int.reduceToNat] at ho11; rw [← Ny243.out] at ho11)); have n0_ := Aside0.mk (Kd.R_lower (Kd.R_newB ho11 (g := gb240) (o := .cells #[.string (⟨#[]⟩ : ByteArray), .string (⟨#[]⟩ : ByteArray)] 31 (0, 0)) (bq BK240)) (keep_size (w := w) (g := g) (row := none) (by repeat (first | (with_reducible first | exact HK.out | apply KeepBut.set_ | apply keep_drewN | apply keep_drew | apply keep_alloc | refine keep_far ?_ GW240.out _) | exact HK.out)))); have n1_ := Aside0.mk (IsS131.below (by repeat (first | (with_reducible first | exact HI0.out | apply IsS131.alloc | apply IsS131.drewN | apply IsS131.drew | apply IsS131.set_1 | refine IsS131.far ?_ NB0_240.out _) | exact HI0.out)) hb); have n2_ := bkb BK240 hb; have n3_ := Aside0.mk (KeepBut.trans (by repeat (first | (with_reducible first | exact HK.out | apply KeepBut.set_ | apply keep_drewN | apply keep_drew | apply keep_alloc | refine keep_far ?_ GW240.out _) | exact HK.out)) (KeepBut.of_below hb g none) (.inl rfl)); have n4_ := Aside0.mk (below_step (by repeat (first | (with_reducible first | exact HB.out | apply below_alloc | apply pw_below_drewN | apply below_drew1 | refine below_set ?_ (IsS131.ge HI0.out) | refine below_set ?_ GE240.out) | exact HB.out)) hb); clear HI0; clear BK240; clear HK; clear HB; have HO245 := n0_; have HI0 := n1_; have BK240 := n2_; have HK := n3_; have HB := n4_; clear n0_ n1_ n2_ n3_ n4_; clear hb ho11) | ((with_reducible refine gate_callee (f := 72) rfl ?_); refine goesL_ (some 17) rfl rfl Try.func72 (by kernel_rfl) rfl #[.pointer (some ⟨g, 0, none⟩), .int .i64 5] rfl (by (try simp only [List.map_toArray, List.map_cons, List.map_nil]); first | done | rfl | (simp only [List.length_drop, List.length_take]; rfl)) ?_; (with_reducible refine (spec_l20Rd_pick.calls k g s0_0 t242 5 t246 t247 w0 _ ?side1 ?side2 A5.out).mono ?_); (case side1 => repeat (first | (with_reducible first | exact HI0.out | apply IsS131.alloc | apply IsS131.drewN | apply IsS131.drew | apply IsS131.set_1 | refine IsS131.far ?_ NB0_240.out _) | exact HI0.out)); (case side2 => repeat (first | (with_reducible first | exact HB.out | apply below_alloc | apply pw_below_drewN | apply below_drew1 | refine below_set ?_ (IsS131.ge HI0.out) | refine below_set ?_ GE240.out) | exact HB.out)); rintro e w12 ⟨rfl, hi, hb, hk⟩; refine ⟨_, rfl, ?_⟩; have n0_ := Aside0.mk (KeepBut.blk hk (g' := gb240) (o := .cells #[.string (⟨#[]⟩ : ByteArray), .string (⟨#[]⟩ : ByteArray)] 31 (0, 0)) (bq BK240) NB240_0.out (by simp)); have n1_ := Aside0.mk (Kd.R_mono (Kd.R_keep (IsS131.apart (show IsS131 w0 _ g s0_0 t242 from by repeat (first | (with_reducible first | exact HI0.out | apply IsS131.alloc | apply IsS131.drewN | apply IsS131.drew | apply IsS131.set_1 | refine IsS131.far ?_ NB0_240.out _) | exact HI0.out)) (by (with_reducible repeat (first | apply Kd.R_alloc | apply Kd.R_drewN | apply Kd.R_drew)); exact HO245.out) (by decide)) hk (fun _ h => h.2)) (fun _ h => h.1)); have n2_ := Aside0.mk (KeepBut.trans (by repeat (first | (with_reducible first | exact HK.out | apply KeepBut.set_ | apply keep_drewN | apply keep_drew | apply keep_alloc | refine keep_far ?_ GW240.out _) | exact HK.out)) hk (.inl rfl)); have n3_ := Aside0.mk (hb); have n4_ := Aside0.mk (hi); clear BK240; clear HO245; clear HK; clear HB; clear HI0; have BK240 := n0_; have HO245 := n1_; have HK := n2_; have HB := n3_; have HI0 := n4_; clear n0_ n1_ n2_ n3_ n4_; (try clear hb); (try clear hb2); (try clear hk); (try clear hi); obtain ⟨Ao13, co13, eo13⟩ := Kd.R_slice HO245.out; subst eo13; have p248 : 0 ≤ (t246 : Int) := of_decide_eq_true (by first | (with_reducible assumption) | assumption); have q248 : t246 < (y243.length : Int) := of_decide_eq_true (by first | (with_reducible assumption) | assumption); obtain ⟨ad248, e248, hx248_0, hx248_1⟩ := at_T31 (Kd.R_reads' HO245.out).2.2 t246 p248 q248; cases e248; replace p248 := eq_true p248; replace q248 := eq_true q248; have hnb14 := NB240_0.out; have hnc14 := NB0_240.out; have hcz15_0 : w12.cell? ⟨gb240, 0, none⟩ = some (.string (⟨#[]⟩ : ByteArray)) := (blk_cell BK240.out 0).trans rfl; have hcz15_1 : w12.cell? ⟨gb240, 1, none⟩ = some (.string (⟨#[]⟩ : ByteArray)) := (blk_cell BK240.out 1).trans rfl; have hfz15_0 := blk_frozen BK240.out 0; have hfz15_1 := blk_frozen BK240.out 1))
    refine bodyPost_ret (results_cell_row rfl _ _ gb240 31 #[.string ((rd_T31 y243 t246).f0), .string ((rd_T31 y243 t246).f1)] (0, 0) _ rfl (by (with_reducible repeat (first | refine blk_drewN ?_ _ | refine blk_drew ?_ | refine blk_alloc ?_ _)); refine blk_put (cs := #[.string ((rd_T31 y243 t246).f0), .string (⟨#[]⟩ : ByteArray)]) ?_ 1 _ rfl; (with_reducible repeat (first | refine blk_drewN ?_ _ | refine blk_drew ?_ | refine blk_alloc ?_ _)); refine blk_put (cs := #[.string (⟨#[]⟩ : ByteArray), .string (⟨#[]⟩ : ByteArray)]) ?_ 0 _ rfl; (with_reducible repeat (first | refine blk_drewN ?_ _ | refine blk_drew ?_ | refine blk_alloc ?_ _)); exact BK240.out) Try.underlying31 rfl (by kernel_rfl)) rfl ?_
    exact ⟨by first | rfl | (simp only [u8w, w64m]; rfl) | (simp [errW_none, errW_some] <;> rfl) | (simp [*, errW_none, errW_some] <;> rfl), by repeat (first | (with_reducible first | exact HI0.out | apply IsS131.alloc | apply IsS131.drewN | apply IsS131.drew | apply IsS131.set_1 | refine IsS131.far ?_ NB0_240.out _) | exact HI0.out), by repeat (first | (with_reducible first | exact HB.out | apply below_alloc | apply pw_below_drewN | apply below_drew1 | refine below_set ?_ (IsS131.ge HI0.out) | refine below_set ?_ GE240.out) | exact HB.out), by repeat (first | (with_reducible first | exact HK.out | apply KeepBut.set_ | apply keep_drewN | apply keep_drew | apply keep_alloc | refine keep_far ?_ GW240.out _) | exact HK.out)⟩
   ·
    rw [if_neg c7] at H
    exact absurd H (by simp)
  ·
   rw [if_neg c6] at H
   exact absurd H (by simp)
 ·
  replace c4 := Bool.eq_false_iff.mpr c4
  subst c4
  rw [if_neg (show ¬ (false = true) by decide)] at H
  replace H := Option.bind_eq_some_iff.mp H
  obtain ⟨⟨t249, t250⟩, A160, H⟩ := H
  try dsimp only at H
  have A16 := Aside0.mk A160
  clear A160
  replace H := Option.bind_eq_some_iff.mp H
  obtain ⟨⟨t251, t252⟩, A170, H⟩ := H
  try dsimp only at H
  have A17 := Aside0.mk A170
  clear A170
  replace H := Option.bind_eq_some_iff.mp H
  obtain ⟨⟨t253, t254⟩, A180, H⟩ := H
  try dsimp only at H
  have A18 := Aside0.mk A180
  clear A180
  have HC19 := Aside0.mk H
  clear H
  go_enter Try.func143, Try.ntmps143
  go_upto_block 0 with (first | ((with_reducible refine gate_dst (N := 4) rfl ?_); refine box_event ?hg (N := 4) ?hd (cs := #[.string (⟨#[]⟩ : ByteArray), .string (⟨#[]⟩ : ByteArray)]) (t := 31) ?hr ?_; (case hd => rfl); (case hg => rfl); (case hr => first | (go_simp; done) | (go_simp; rfl)); intro gb240 hg w20 hbox hb; have n0_ := Aside0.mk (IsS131.below (by repeat (first | (with_reducible first | exact HI0.out | apply IsS131.alloc | apply IsS131.drewN | apply IsS131.drew | apply IsS131.set_1) | exact HI0.out)) hb); have n1_ := Aside0.mk (KeepBut.trans (by repeat (first | (with_reducible first | exact HK.out | apply KeepBut.set_ | apply keep_drewN | apply keep_drew | apply keep_alloc) | exact HK.out)) (KeepBut.of_below hb g none) (.inl rfl)); have n2_ := Aside0.mk (below_step (by repeat (first | (with_reducible first | exact HB.out | apply below_alloc | apply pw_below_drewN | apply below_drew1 | refine below_set ?_ (IsS131.ge HI0.out)) | exact HB.out)) hb); have n3_ := Aside0.mk (hbox); have n4_ := Aside0.mk ((by rw [hg]; exact (keep_size (w := w) (g := g) (row := none) (by repeat (first | (with_reducible first | exact HK.out | apply KeepBut.set_ | apply keep_drewN | apply keep_drew | apply keep_alloc) | exact HK.out))) : w.heap.size ≤ gb240)); have n5_ := Aside0.mk ((Nat.le_trans HW0.out (by rw [hg]; exact (keep_size (w := w) (g := g) (row := none) (by repeat (first | (with_reducible first | exact HK.out | apply KeepBut.set_ | apply keep_drewN | apply keep_drew | apply keep_alloc) | exact HK.out))) : w.heap.size ≤ gb240) : w0.heap.size ≤ gb240)); have n6_ := Aside0.mk ((by rw [hg]; exact Nat.ne_of_lt (IsS131.lt (show IsS131 w0 _ g s0_0 s0_1 from by repeat (first | (with_reducible first | exact HI0.out | apply IsS131.alloc | apply IsS131.drewN | apply IsS131.drew | apply IsS131.set_1) | exact HI0.out))) : g ≠ gb240)); have n7_ := Aside0.mk ((by rw [hg]; exact Nat.ne_of_gt (IsS131.lt (show IsS131 w0 _ g s0_0 s0_1 from by repeat (first | (with_reducible first | exact HI0.out | apply IsS131.alloc | apply IsS131.drewN | apply IsS131.drew | apply IsS131.set_1) | exact HI0.out))) : gb240 ≠ g)); clear HI0; clear HK; clear HB; have HI0 := n0_; have HK := n1_; have HB := n2_; have BK240 := n3_; have GW240 := n4_; have GE240 := n5_; have NB0_240 := n6_; have NB240_0 := n7_; clear n0_ n1_ n2_ n3_ n4_ n5_ n6_ n7_; clear hb hbox hg) | ((with_reducible refine gate_callee (f := 126) rfl ?_); refine goesL_ (some 9) rfl rfl Try.func126 (by kernel_rfl) rfl #[.pointer (some ⟨g, 0, none⟩), .int .i64 a1] rfl (by (try simp only [List.map_toArray, List.map_cons, List.map_nil]); first | done | rfl | (simp only [List.length_drop, List.length_take]; rfl)) ?_; (with_reducible refine (spec_l20Rd_odd.calls k g s0_0 s0_1 a1 false t242 w0 _ ?side1 ?side2 A3.out).mono ?_); (case side1 => repeat (first | (with_reducible first | exact HI0.out | apply IsS131.alloc | apply IsS131.drewN | apply IsS131.drew | apply IsS131.set_1 | refine IsS131.far ?_ NB0_240.out _) | exact HI0.out)); (case side2 => repeat (first | (with_reducible first | exact HB.out | apply below_alloc | apply pw_below_drewN | apply below_drew1 | refine below_set ?_ (IsS131.ge HI0.out) | refine below_set ?_ GE240.out) | exact HB.out)); rintro e w21 ⟨rfl, hi, hb, hk⟩; refine ⟨_, rfl, ?_⟩; have n0_ := Aside0.mk (KeepBut.blk hk (g' := gb240) (o := .cells #[.string (⟨#[]⟩ : ByteArray), .string (⟨#[]⟩ : ByteArray)] 31 (0, 0)) (bq BK240) NB240_0.out (by simp)); have n1_ := Aside0.mk (KeepBut.trans (by repeat (first | (with_reducible first | exact HK.out | apply KeepBut.set_ | apply keep_drewN | apply keep_drew | apply keep_alloc | refine keep_far ?_ GW240.out _) | exact HK.out)) hk (.inl rfl)); have n2_ := Aside0.mk (hb); have n3_ := Aside0.mk (hi); clear BK240; clear HK; clear HB; clear HI0; have BK240 := n0_; have HK := n1_; have HB := n2_; have HI0 := n3_; clear n0_ n1_ n2_ n3_; (try clear hb); (try clear hb2); (try clear hk); (try clear hi)) | ((with_reducible refine gate_callee (f := 71) rfl ?_); refine goesL_ (some 21) rfl rfl Try.func71 (by kernel_rfl) rfl #[.pointer (some ⟨g, 0, none⟩), .int .i64 0] rfl (by (try simp only [List.map_toArray, List.map_cons, List.map_nil]); first | done | rfl | (simp only [List.length_drop, List.length_take]; rfl)) ?_; (with_reducible refine (spec_l20Key.calls k g s0_0 t242 0 t249 t250 w0 _ ?side1 ?side2 A16.out).mono ?_); (case side1 => repeat (first | (with_reducible first | exact HI0.out | apply IsS131.alloc | apply IsS131.drewN | apply IsS131.drew | apply IsS131.set_1 | refine IsS131.far ?_ NB0_240.out _) | exact HI0.out)); (case side2 => repeat (first | (with_reducible first | exact HB.out | apply below_alloc | apply pw_below_drewN | apply below_drew1 | refine below_set ?_ (IsS131.ge HI0.out) | refine below_set ?_ GE240.out) | exact HB.out)); rintro e w22 ⟨rfl, hi, hb, hk⟩; refine ⟨_, rfl, ?_⟩; have n0_ := Aside0.mk (KeepBut.blk hk (g' := gb240) (o := .cells #[.string (⟨#[]⟩ : ByteArray), .string (⟨#[]⟩ : ByteArray)] 31 (0, 0)) (bq BK240) NB240_0.out (by simp)); have n1_ := Aside0.mk (KeepBut.trans (by repeat (first | (with_reducible first | exact HK.out | apply KeepBut.set_ | apply keep_drewN | apply keep_drew | apply keep_alloc | refine keep_far ?_ GW240.out _) | exact HK.out)) hk (.inl rfl)); have n2_ := Aside0.mk (hb); have n3_ := Aside0.mk (hi); clear BK240; clear HK; clear HB; clear HI0; have BK240 := n0_; have HK := n1_; have HB := n2_; have HI0 := n3_; clear n0_ n1_ n2_ n3_; (try clear hb); (try clear hb2); (try clear hk); (try clear hi)) | ((with_reducible refine gate_callee (f := 71) rfl ?_); refine goesL_ (some 23) rfl rfl Try.func71 (by kernel_rfl) rfl #[.pointer (some ⟨g, 0, none⟩), .int .i64 0] rfl (by (try simp only [List.map_toArray, List.map_cons, List.map_nil]); first | done | rfl | (simp only [List.length_drop, List.length_take]; rfl)) ?_; (with_reducible refine (spec_l20Key.calls k g s0_0 t250 0 t251 t252 w0 _ ?side1 ?side2 A17.out).mono ?_); (case side1 => repeat (first | (with_reducible first | exact HI0.out | apply IsS131.alloc | apply IsS131.drewN | apply IsS131.drew | apply IsS131.set_1 | refine IsS131.far ?_ NB0_240.out _) | exact HI0.out)); (case side2 => repeat (first | (with_reducible first | exact HB.out | apply below_alloc | apply pw_below_drewN | apply below_drew1 | refine below_set ?_ (IsS131.ge HI0.out) | refine below_set ?_ GE240.out) | exact HB.out)); rintro e w23 ⟨rfl, hi, hb, hk⟩; refine ⟨_, rfl, ?_⟩; have n0_ := Aside0.mk (KeepBut.blk hk (g' := gb240) (o := .cells #[.string (⟨#[]⟩ : ByteArray), .string (⟨#[]⟩ : ByteArray)] 31 (0, 0)) (bq BK240) NB240_0.out (by simp)); have n1_ := Aside0.mk (KeepBut.trans (by repeat (first | (with_reducible first | exact HK.out | apply KeepBut.set_ | apply keep_drewN | apply keep_drew | apply keep_alloc | refine keep_far ?_ GW240.out _) | exact HK.out)) hk (.inl rfl)); have n2_ := Aside0.mk (hb); have n3_ := Aside0.mk (hi); clear BK240; clear HK; clear HB; clear HI0; have BK240 := n0_; have HK := n1_; have HB := n2_; have HI0 := n3_; clear n0_ n1_ n2_ n3_; (try clear hb); (try clear hb2); (try clear hk); (try clear hi)) | ((with_reducible refine gate_callee (f := 72) rfl ?_); refine goesL_ (some 25) rfl rfl Try.func72 (by kernel_rfl) rfl #[.pointer (some ⟨g, 0, none⟩), .int .i64 6] rfl (by (try simp only [List.map_toArray, List.map_cons, List.map_nil]); first | done | rfl | (simp only [List.length_drop, List.length_take]; rfl)) ?_; (with_reducible refine (spec_l20Rd_pick.calls k g s0_0 t252 6 t253 t254 w0 _ ?side1 ?side2 A18.out).mono ?_); (case side1 => repeat (first | (with_reducible first | exact HI0.out | apply IsS131.alloc | apply IsS131.drewN | apply IsS131.drew | apply IsS131.set_1 | refine IsS131.far ?_ NB0_240.out _) | exact HI0.out)); (case side2 => repeat (first | (with_reducible first | exact HB.out | apply below_alloc | apply pw_below_drewN | apply below_drew1 | refine below_set ?_ (IsS131.ge HI0.out) | refine below_set ?_ GE240.out) | exact HB.out)); rintro e w24 ⟨rfl, hi, hb, hk⟩; refine ⟨_, rfl, ?_⟩; have n0_ := Aside0.mk (KeepBut.blk hk (g' := gb240) (o := .cells #[.string (⟨#[]⟩ : ByteArray), .string (⟨#[]⟩ : ByteArray)] 31 (0, 0)) (bq BK240) NB240_0.out (by simp)); have n1_ := Aside0.mk (KeepBut.trans (by repeat (first | (with_reducible first | exact HK.out | apply KeepBut.set_ | apply keep_drewN | apply keep_drew | apply keep_alloc | refine keep_far ?_ GW240.out _) | exact HK.out)) hk (.inl rfl)); have n2_ := Aside0.mk (hb); have n3_ := Aside0.mk (hi); clear BK240; clear HK; clear HB; clear HI0; have BK240 := n0_; have HK := n1_; have HB := n2_; have HI0 := n3_; clear n0_ n1_ n2_ n3_; (try clear hb); (try clear hb2); (try clear hk); (try clear hi)))
  (try simp only [Act.put, List.setIfInBounds_toArray, List.set_cons_zero, List.set_cons_succ])
  go_cut [] (fun wc => ∃ (kq : Nat) (x241000_18 : ByteArray) (x241001_18 : ByteArray), Aside0 (spec_l20Span.j0 kq t249 t251 s0_0 t254 = some (r1, r2, r3)) ∧ Aside0 (kq ≤ k) ∧ Aside0 (wc.heap[gb240]? = some (.cells #[.string x241000_18, .string x241001_18] 31 (0, 0))) ∧ Aside0 (IsS131 w0 wc g s0_0 t254) ∧ Aside0 (KeepBut w wc g none) ∧ Aside0 (Below w0.heap.size w0 wc))
  case first =>
   have H := HC19.out
   clear HC19
   by_cases c25 : t253 = 0
   ·
    rw [if_pos c25] at H
    have c25b0 : (t253 == 0) = true := beq_iff_eq.mpr c25
    have c25b1 : (t253 != 0) = false := bne_eq_false_iff_eq.mpr c25
    clear c25
    (first | rw [c25b0] | (simp only [i64_w, i32_w]; rw [c25b0]) | skip)
    simp only [Option.some.injEq, Prod.mk.injEq] at H
    obtain ⟨rfl, rfl, rfl⟩ := H
    have hnb26 := NB240_0.out
    have hnc26 := NB0_240.out
    have hcz27_0 : w24.cell? ⟨gb240, 0, none⟩ = some (.string (⟨#[]⟩ : ByteArray)) := (blk_cell BK240.out 0).trans rfl
    have hcz27_1 : w24.cell? ⟨gb240, 1, none⟩ = some (.string (⟨#[]⟩ : ByteArray)) := (blk_cell BK240.out 1).trans rfl
    have hfz27_0 := blk_frozen BK240.out 0
    have hfz27_1 := blk_frozen BK240.out 1
    go_wp2
    refine bodyPost_ret (results_cell_row rfl _ _ gb240 31 #[.string (⟨#[]⟩ : ByteArray), .string (⟨#[]⟩ : ByteArray)] (0, 0) _ rfl (by (with_reducible repeat (first | refine blk_drewN ?_ _ | refine blk_drew ?_ | refine blk_alloc ?_ _)); refine blk_put (cs := #[.string (⟨#[]⟩ : ByteArray), .string (⟨#[]⟩ : ByteArray)]) ?_ 1 _ rfl; (with_reducible repeat (first | refine blk_drewN ?_ _ | refine blk_drew ?_ | refine blk_alloc ?_ _)); refine blk_put (cs := #[.string (⟨#[]⟩ : ByteArray), .string (⟨#[]⟩ : ByteArray)]) ?_ 0 _ rfl; (with_reducible repeat (first | refine blk_drewN ?_ _ | refine blk_drew ?_ | refine blk_alloc ?_ _)); exact BK240.out) Try.underlying31 rfl (by kernel_rfl)) rfl ?_
    exact ⟨by first | rfl | (simp only [u8w, w64m]; rfl) | (simp [errW_none, errW_some] <;> rfl) | (simp [*, errW_none, errW_some] <;> rfl), by repeat (first | (with_reducible first | exact HI0.out | apply IsS131.alloc | apply IsS131.drewN | apply IsS131.drew | apply IsS131.set_1 | refine IsS131.far ?_ NB0_240.out _) | exact HI0.out), by repeat (first | (with_reducible first | exact HB.out | apply below_alloc | apply pw_below_drewN | apply below_drew1 | refine below_set ?_ (IsS131.ge HI0.out) | refine below_set ?_ GE240.out) | exact HB.out), by repeat (first | (with_reducible first | exact HK.out | apply KeepBut.set_ | apply keep_drewN | apply keep_drew | apply keep_alloc | refine keep_far ?_ GW240.out _) | exact HK.out)⟩
   ·
    rw [if_neg c25] at H
    have c25b0 : (t253 == 0) = false := beq_eq_false_iff_ne.mpr c25
    have c25b1 : (t253 != 0) = true := bne_iff_ne.mpr c25
    (first | rw [c25b0] | (simp only [i64_w, i32_w]; rw [c25b0]) | skip)
    by_cases c28 : t253 = 1
    ·
     rw [if_pos c28] at H
     have c28b0 : (t253 == 1) = true := beq_iff_eq.mpr c28
     have c28b1 : (t253 != 1) = false := bne_eq_false_iff_eq.mpr c28
     clear c28
     simp only [Option.some.injEq, Prod.mk.injEq] at H
     obtain ⟨rfl, rfl, rfl⟩ := H
     have hnb29 := NB240_0.out
     have hnc29 := NB0_240.out
     have hcz30_0 : w24.cell? ⟨gb240, 0, none⟩ = some (.string (⟨#[]⟩ : ByteArray)) := (blk_cell BK240.out 0).trans rfl
     have hcz30_1 : w24.cell? ⟨gb240, 1, none⟩ = some (.string (⟨#[]⟩ : ByteArray)) := (blk_cell BK240.out 1).trans rfl
     have hfz30_0 := blk_frozen BK240.out 0
     have hfz30_1 := blk_frozen BK240.out 1
     go_wp2
     refine bodyPost_ret (results_cell_row rfl _ _ gb240 31 #[.string t249, .string (⟨#[]⟩ : ByteArray)] (0, 0) _ rfl (by (with_reducible repeat (first | refine blk_drewN ?_ _ | refine blk_drew ?_ | refine blk_alloc ?_ _)); refine blk_put (cs := #[.string t249, .string (⟨#[]⟩ : ByteArray)]) ?_ 1 _ rfl; (with_reducible repeat (first | refine blk_drewN ?_ _ | refine blk_drew ?_ | refine blk_alloc ?_ _)); refine blk_put (cs := #[.string (⟨#[]⟩ : ByteArray), .string (⟨#[]⟩ : ByteArray)]) ?_ 0 _ rfl; (with_reducible repeat (first | refine blk_drewN ?_ _ | refine blk_drew ?_ | refine blk_alloc ?_ _)); exact BK240.out) Try.underlying31 rfl (by kernel_rfl)) rfl ?_
     exact ⟨by first | rfl | (simp only [u8w, w64m]; rfl) | (simp [errW_none, errW_some] <;> rfl) | (simp [*, errW_none, errW_some] <;> rfl), by repeat (first | (with_reducible first | exact HI0.out | apply IsS131.alloc | apply IsS131.drewN | apply IsS131.drew | apply IsS131.set_1 | refine IsS131.far ?_ NB0_240.out _) | exact HI0.out), by repeat (first | (with_reducible first | exact HB.out | apply below_alloc | apply pw_below_drewN | apply below_drew1 | refine below_set ?_ (IsS131.ge HI0.out) | refine below_set ?_ GE240.out) | exact HB.out), by repeat (first | (with_reducible first | exact HK.out | apply KeepBut.set_ | apply keep_drewN | apply keep_drew | apply keep_alloc | refine keep_far ?_ GW240.out _) | exact HK.out)⟩
    ·
     rw [if_neg c28] at H
     have c28b0 : (t253 == 1) = false := beq_eq_false_iff_ne.mpr c28
     have c28b1 : (t253 != 1) = true := bne_iff_ne.mpr c28
     by_cases c31 : t253 = 2
     ·
      rw [if_pos c31] at H
      have c31b0 : (t253 == 2) = true := beq_iff_eq.mpr c31
      have c31b1 : (t253 != 2) = false := bne_eq_false_iff_eq.mpr c31
      clear c31
      by_cases c32 : t251.toList = ([97] : List UInt8)
      ·
       rw [if_pos c32] at H
       have c32b0 : (t251.toList == ([97] : List UInt8)) = true := beq_iff_eq.mpr c32
       have c32b1 : (t251.toList != ([97] : List UInt8)) = false := bne_eq_false_iff_eq.mpr c32
       clear c32
       have H' := Aside0.mk H
       clear H
       go_wp2
       go_meet
       case rel => exact ⟨_, ((⟨#[]⟩ : ByteArray)), ((⟨#[]⟩ : ByteArray)), H', ⟨by first | omega | exact Nat.le_refl _⟩, ⟨by (with_reducible repeat (first | refine blk_drewN ?_ _ | refine blk_drew ?_ | refine blk_alloc ?_ _)); exact BK240.out⟩, ⟨by repeat (first | (with_reducible first | exact HI0.out | apply IsS131.alloc | apply IsS131.drewN | apply IsS131.drew | apply IsS131.set_1 | refine IsS131.far ?_ NB0_240.out _) | exact HI0.out)⟩, ⟨by repeat (first | (with_reducible first | exact HK.out | apply KeepBut.set_ | apply keep_drewN | apply keep_drew | apply keep_alloc | refine keep_far ?_ GW240.out _) | exact HK.out)⟩, ⟨by repeat (first | (with_reducible first | exact HB.out | apply below_alloc | apply pw_below_drewN | apply below_drew1 | refine below_set ?_ (IsS131.ge HI0.out) | refine below_set ?_ GE240.out) | exact HB.out)⟩⟩
      ·
       rw [if_neg c32] at H
       have c32b0 : (t251.toList == ([97] : List UInt8)) = false := beq_eq_false_iff_ne.mpr c32
       have c32b1 : (t251.toList != ([97] : List UInt8)) = true := bne_iff_ne.mpr c32
       simp only [Option.some.injEq, Prod.mk.injEq] at H
       obtain ⟨rfl, rfl, rfl⟩ := H
       have hnb33 := NB240_0.out
       have hnc33 := NB0_240.out
       have hcz34_0 : w24.cell? ⟨gb240, 0, none⟩ = some (.string (⟨#[]⟩ : ByteArray)) := (blk_cell BK240.out 0).trans rfl
       have hcz34_1 : w24.cell? ⟨gb240, 1, none⟩ = some (.string (⟨#[]⟩ : ByteArray)) := (blk_cell BK240.out 1).trans rfl
       have hfz34_0 := blk_frozen BK240.out 0
       have hfz34_1 := blk_frozen BK240.out 1
       go_wp2
       refine bodyPost_ret (results_cell_row rfl _ _ gb240 31 #[.string (⟨#[]⟩ : ByteArray), .string t251] (0, 0) _ rfl (by (with_reducible repeat (first | refine blk_drewN ?_ _ | refine blk_drew ?_ | refine blk_alloc ?_ _)); refine blk_put (cs := #[.string (⟨#[]⟩ : ByteArray), .string (⟨#[]⟩ : ByteArray)]) ?_ 1 _ rfl; (with_reducible repeat (first | refine blk_drewN ?_ _ | refine blk_drew ?_ | refine blk_alloc ?_ _)); refine blk_put (cs := #[.string (⟨#[]⟩ : ByteArray), .string (⟨#[]⟩ : ByteArray)]) ?_ 0 _ rfl; (with_reducible repeat (first | refine blk_drewN ?_ _ | refine blk_drew ?_ | refine blk_alloc ?_ _)); exact BK240.out) Try.underlying31 rfl (by kernel_rfl)) rfl ?_
       exact ⟨by first | rfl | (simp only [u8w, w64m]; rfl) | (simp [errW_none, errW_some] <;> rfl) | (simp [*, errW_none, errW_some] <;> rfl), by repeat (first | (with_reducible first | exact HI0.out | apply IsS131.alloc | apply IsS131.drewN | apply IsS131.drew | apply IsS131.set_1 | refine IsS131.far ?_ NB0_240.out _) | exact HI0.out), by repeat (first | (with_reducible first | exact HB.out | apply below_alloc | apply pw_below_drewN | apply below_drew1 | refine below_set ?_ (IsS131.ge HI0.out) | refine below_set ?_ GE240.out) | exact HB.out), by repeat (first | (with_reducible first | exact HK.out | apply KeepBut.set_ | apply keep_drewN | apply keep_drew | apply keep_alloc | refine keep_far ?_ GW240.out _) | exact HK.out)⟩
     ·
      rw [if_neg c31] at H
      have c31b0 : (t253 == 2) = false := beq_eq_false_iff_ne.mpr c31
      have c31b1 : (t253 != 2) = true := bne_iff_ne.mpr c31
      have H' := Aside0.mk H
      clear H
      go_wp2
      go_meet
      case rel => exact ⟨_, ((⟨#[]⟩ : ByteArray)), ((⟨#[]⟩ : ByteArray)), H', ⟨by first | omega | exact Nat.le_refl _⟩, ⟨by (with_reducible repeat (first | refine blk_drewN ?_ _ | refine blk_drew ?_ | refine blk_alloc ?_ _)); exact BK240.out⟩, ⟨by repeat (first | (with_reducible first | exact HI0.out | apply IsS131.alloc | apply IsS131.drewN | apply IsS131.drew | apply IsS131.set_1 | refine IsS131.far ?_ NB0_240.out _) | exact HI0.out)⟩, ⟨by repeat (first | (with_reducible first | exact HK.out | apply KeepBut.set_ | apply keep_drewN | apply keep_drew | apply keep_alloc | refine keep_far ?_ GW240.out _) | exact HK.out)⟩, ⟨by repeat (first | (with_reducible first | exact HB.out | apply below_alloc | apply pw_below_drewN | apply below_drew1 | refine below_set ?_ (IsS131.ge HI0.out) | refine below_set ?_ GE240.out) | exact HB.out)⟩⟩
  case rest =>
   clear HC19
   try clear c1
   try clear c2
   try clear p2
   try clear q2
   try clear hx2
   try clear c3
   try clear c4
   try clear c6
   try clear c6b0
   try clear c7
   try clear c7b0
   try clear c12
   try clear c14
   try clear p24
   try clear q24
   try clear hx24
   try clear c25
   try clear c25b0
   try clear c25b1
   try clear c26
   try clear c28
   try clear c28b0
   try clear c28b1
   try clear c29
   try clear c31
   try clear c31b0
   try clear c31b1
   try clear c32
   try clear c32b0
   try clear c32b1
   try clear c33
   try clear hcz15_0
   try clear hcz15_1
   try clear hcz27_0
   try clear hcz27_1
   try clear hcz30_0
   try clear hcz30_1
   try clear hcz34_0
   try clear hcz34_1
   try clear hfz15_0
   try clear hfz15_1
   try clear hfz27_0
   try clear hfz27_1
   try clear hfz30_0
   try clear hfz30_1
   try clear hfz34_0
   try clear hfz34_1
   try clear hx248_0
   try clear hx248_1
   try clear p248
   try clear q248
   obtain ⟨kq, x241000_18, x241001_18, HA, HJ18, BK240, HI0, HK, HB⟩ := hcut
   cases kq with
   | zero => exact absurd HA.out (by simp [spec_l20Span.j0])
   | succ kj18 =>
    have H := HA.out
    clear HA
    simp only [spec_l20Span.j0] at H
    by_cases c35 : (Op.bytesLess t249.toList t251.toList) = true
    ·
     rw [if_pos c35] at H
     have c35b0 : (Op.bytesLess t249.toList t251.toList) = true := c35
     clear c35
     simp only [Option.some.injEq, Prod.mk.injEq] at H
     obtain ⟨rfl, rfl, rfl⟩ := H
     have hnb36 := NB240_0.out
     have hnc36 := NB0_240.out
     have hcz37_0 : wc.cell? ⟨gb240, 0, none⟩ = some (.string x241000_18) := (blk_cell BK240.out 0).trans rfl
     have hcz37_1 : wc.cell? ⟨gb240, 1, none⟩ = some (.string x241001_18) := (blk_cell BK240.out 1).trans rfl
     have hfz37_0 := blk_frozen BK240.out 0
     have hfz37_1 := blk_frozen BK240.out 1
     go_wp2
     refine bodyPost_ret (results_cell_row rfl _ _ gb240 31 #[.string t249, .string t251] (0, 0) _ rfl (by (with_reducible repeat (first | refine blk_drewN ?_ _ | refine blk_drew ?_ | refine blk_alloc ?_ _)); refine blk_put (cs := #[.string t249, .string x241001_18]) ?_ 1 _ rfl; (with_reducible repeat (first | refine blk_drewN ?_ _ | refine blk_drew ?_ | refine blk_alloc ?_ _)); refine blk_put (cs := #[.string x241000_18, .string x241001_18]) ?_ 0 _ rfl; (with_reducible repeat (first | refine blk_drewN ?_ _ | refine blk_drew ?_ | refine blk_alloc ?_ _)); exact BK240.out) Try.underlying31 rfl (by kernel_rfl)) rfl ?_
     exact ⟨by first | rfl | (simp only [u8w, w64m]; rfl) | (simp [errW_none, errW_some] <;> rfl) | (simp [*, errW_none, errW_some] <;> rfl), by repeat (first | (with_reducible first | exact HI0.out | apply IsS131.alloc | apply IsS131.drewN | apply IsS131.drew | apply IsS131.set_1 | refine IsS131.far ?_ NB0_240.out _) | exact HI0.out), by repeat (first | (with_reducible first | exact HB.out | apply below_alloc | apply pw_below_drewN | apply below_drew1 | refine below_set ?_ (IsS131.ge HI0.out) | refine below_set ?_ GE240.out) | exact HB.out), by repeat (first | (with_reducible first | exact HK.out | apply KeepBut.set_ | apply keep_drewN | apply keep_drew | apply keep_alloc | refine keep_far ?_ GW240.out _) | exact HK.out)⟩
    ·
     rw [if_neg c35] at H
     have c35b0 : (Op.bytesLess t249.toList t251.toList) = false := by simpa using c35
     clear c35
     by_cases c38 : (Op.bytesLess t251.toList t249.toList) = true
     ·
      rw [if_pos c38] at H
      have c38b0 : (Op.bytesLess t251.toList t249.toList) = true := c38
      clear c38
      simp only [Option.some.injEq, Prod.mk.injEq] at H
      obtain ⟨rfl, rfl, rfl⟩ := H
      have hnb39 := NB240_0.out
      have hnc39 := NB0_240.out
      have hcz40_0 : wc.cell? ⟨gb240, 0, none⟩ = some (.string x241000_18) := (blk_cell BK240.out 0).trans rfl
      have hcz40_1 : wc.cell? ⟨gb240, 1, none⟩ = some (.string x241001_18) := (blk_cell BK240.out 1).trans rfl
      have hfz40_0 := blk_frozen BK240.out 0
      have hfz40_1 := blk_frozen BK240.out 1
      go_wp2
      refine bodyPost_ret (results_cell_row rfl _ _ gb240 31 #[.string t251, .string t249] (0, 0) _ rfl (by (with_reducible repeat (first | refine blk_drewN ?_ _ | refine blk_drew ?_ | refine blk_alloc ?_ _)); refine blk_put (cs := #[.string t251, .string x241001_18]) ?_ 1 _ rfl; (with_reducible repeat (first | refine blk_drewN ?_ _ | refine blk_drew ?_ | refine blk_alloc ?_ _)); refine blk_put (cs := #[.string x241000_18, .string x241001_18]) ?_ 0 _ rfl; (with_reducible repeat (first | refine blk_drewN ?_ _ | refine blk_drew ?_ | refine blk_alloc ?_ _)); exact BK240.out) Try.underlying31 rfl (by kernel_rfl)) rfl ?_
      exact ⟨by first | rfl | (simp only [u8w, w64m]; rfl) | (simp [errW_none, errW_some] <;> rfl) | (simp [*, errW_none, errW_some] <;> rfl), by repeat (first | (with_reducible first | exact HI0.out | apply IsS131.alloc | apply IsS131.drewN | apply IsS131.drew | apply IsS131.set_1 | refine IsS131.far ?_ NB0_240.out _) | exact HI0.out), by repeat (first | (with_reducible first | exact HB.out | apply below_alloc | apply pw_below_drewN | apply below_drew1 | refine below_set ?_ (IsS131.ge HI0.out) | refine below_set ?_ GE240.out) | exact HB.out), by repeat (first | (with_reducible first | exact HK.out | apply KeepBut.set_ | apply keep_drewN | apply keep_drew | apply keep_alloc | refine keep_far ?_ GW240.out _) | exact HK.out)⟩
     ·
      rw [if_neg c38] at H
      have c38b0 : (Op.bytesLess t251.toList t249.toList) = false := by simpa using c38
      clear c38
      simp only [Option.some.injEq, Prod.mk.injEq] at H
      obtain ⟨rfl, rfl, rfl⟩ := H
      have hnb41 := NB240_0.out
      have hnc41 := NB0_240.out
      have hcz42_0 : wc.cell? ⟨gb240, 0, none⟩ = some (.string x241000_18) := (blk_cell BK240.out 0).trans rfl
      have hcz42_1 : wc.cell? ⟨gb240, 1, none⟩ = some (.string x241001_18) := (blk_cell BK240.out 1).trans rfl
      have hfz42_0 := blk_frozen BK240.out 0
      have hfz42_1 := blk_frozen BK240.out 1
      go_wp2
      refine bodyPost_ret (results_cell_row rfl _ _ gb240 31 #[.string t249, .string (⟨#[]⟩ : ByteArray)] (0, 0) _ rfl (by (with_reducible repeat (first | refine blk_drewN ?_ _ | refine blk_drew ?_ | refine blk_alloc ?_ _)); refine blk_put (cs := #[.string t249, .string x241001_18]) ?_ 1 _ rfl; (with_reducible repeat (first | refine blk_drewN ?_ _ | refine blk_drew ?_ | refine blk_alloc ?_ _)); refine blk_put (cs := #[.string x241000_18, .string x241001_18]) ?_ 0 _ rfl; (with_reducible repeat (first | refine blk_drewN ?_ _ | refine blk_drew ?_ | refine blk_alloc ?_ _)); exact BK240.out) Try.underlying31 rfl (by kernel_rfl)) rfl ?_
      exact ⟨by first | rfl | (simp only [u8w, w64m]; rfl) | (simp [errW_none, errW_some] <;> rfl) | (simp [*, errW_none, errW_some] <;> rfl), by repeat (first | (with_reducible first | exact HI0.out | apply IsS131.alloc | apply IsS131.drewN | apply IsS131.drew | apply IsS131.set_1 | refine IsS131.far ?_ NB0_240.out _) | exact HI0.out), by repeat (first | (with_reducible first | exact HB.out | apply below_alloc | apply pw_below_drewN | apply below_drew1 | refine below_set ?_ (IsS131.ge HI0.out) | refine below_set ?_ GE240.out) | exact HB.out), by repeat (first | (with_reducible first | exact HK.out | apply KeepBut.set_ | apply keep_drewN | apply keep_drew | apply keep_alloc | refine keep_far ?_ GW240.out _) | exact HK.out)⟩

/-! ### spec_l20Cache: function 130 -/
def spec_l20Cache.l0 : Nat → Int → List (S35) → Int → List Int → Int → Option ((List (S35)) × Int)
 | 0, _, _, _, _, _ => none
 | k + 1, x1, x5, x6, x1000, x1001 => if x6 > 0 then ((spec_l20Rd_pick.f k x1000 x1001 8).bind fun bt260 => ((spec_l20Span.f k x1000 bt260.2 0).bind fun bt262 => ((spec_CacheLearn.f k x5 bt260.1 bt262.1 bt262.2.1).bind fun t265 => (spec_l20Cache.l0 k x1 t265 (wrap64 (x6 - 1)) x1000 bt262.2.2)))) else ((spec_l20Rd_odd.f k x1000 x1001 x1).bind fun bt268 => (if bt268.1 = true then ((spec_l20Rd_pick.f k x1000 bt268.2 3).bind fun bt270 => (if bt270.1 = 0 then (if x5.length < 3518437208883 then (some ((x5 ++ [(⟨(-1), (⟨(⟨#[]⟩ : ByteArray), (⟨#[]⟩ : ByteArray)⟩ : S31)⟩ : S35)]), bt270.2)) else (none)) else (if bt270.1 = 1 then (if x5.length + x5.length < 3518437208883 then (some ((x5 ++ x5), bt270.2)) else (none)) else ((spec_l20Rd_pick.f k x1000 bt270.2 8).bind fun bt278 => ((spec_l20Span.f k x1000 bt278.2 2).bind fun bt280 => (if x5.length < 3518437208883 then (some ((x5 ++ [(⟨bt278.1, (⟨bt280.1, bt280.2.1⟩ : S31)⟩ : S35)]), bt280.2.2)) else (none))))))) else (some (x5, bt268.2))))
def spec_l20Cache.f (k : Nat) (s0_0 : List Int) (s0_1 : Int) (a1 : Int) : Option ((List (S35)) × Int) := (spec_l20Rd_pick.f k s0_0 s0_1 5).bind fun bt258 => (spec_l20Cache.l0 k a1 (([] : List (S35))) bt258.1 s0_0 bt258.2)
theorem spec_l20Cache.mono_l : ∀ k, (∀ y0 y1 y2 y3 y4, LeO (spec_l20Cache.l0 k y0 y1 y2 y3 y4) (spec_l20Cache.l0 (k + 1) y0 y1 y2 y3 y4))
 | 0 => fun _ _ _ _ _ r h => by simp [spec_l20Cache.l0] at h
 | k + 1 => by
  have ih0 := spec_l20Cache.mono_l k
  ·
   intro y0 y1 y2 y3 y4
   unfold spec_l20Cache.l0
   repeat' first
   | (with_reducible exact ih0 _ _ _ _ _)
   | (with_reducible exact spec_CacheLearn.mono _ _ _ _ _)
   | (with_reducible exact spec_l20Rd_odd.mono _ _ _ _)
   | (with_reducible exact spec_l20Rd_pick.mono _ _ _ _)
   | (with_reducible exact spec_l20Span.mono _ _ _ _)
   | (with_reducible exact LeO.refl _)
   | (with_reducible exact LeO.none _)
   | (with_reducible refine LeO.ite ?_ ?_)
   | (with_reducible refine LeO.bind ?_ (fun _ => ?_))
   | exact ih0 _ _ _ _ _
   | exact spec_CacheLearn.mono _ _ _ _ _
   | exact spec_l20Rd_odd.mono _ _ _ _
   | exact spec_l20Rd_pick.mono _ _ _ _
   | exact spec_l20Span.mono _ _ _ _
   | exact LeO.none _
   | refine LeO.ite ?_ ?_
   | refine LeO.bind ?_ (fun _ => ?_)
theorem spec_l20Cache.mono : ∀ a0 a1 a2 k, LeO (spec_l20Cache.f k a0 a1 a2) (spec_l20Cache.f (k + 1) a0 a1 a2) := by
 intro a0 a1 a2 k
 have ih0 := spec_l20Cache.mono_l k
 unfold spec_l20Cache.f
 repeat' first
   | (with_reducible exact ih0 _ _ _ _ _)
   | (with_reducible exact spec_CacheLearn.mono _ _ _ _ _)
   | (with_reducible exact spec_l20Rd_odd.mono _ _ _ _)
   | (with_reducible exact spec_l20Rd_pick.mono _ _ _ _)
   | (with_reducible exact spec_l20Span.mono _ _ _ _)
   | (with_reducible exact LeO.refl _)
   | (with_reducible exact LeO.none _)
   | (with_reducible refine LeO.ite ?_ ?_)
   | (with_reducible refine LeO.bind ?_ (fun _ => ?_))
   | exact ih0 _ _ _ _ _
   | exact spec_CacheLearn.mono _ _ _ _ _
   | exact spec_l20Rd_odd.mono _ _ _ _
   | exact spec_l20Rd_pick.mono _ _ _ _
   | exact spec_l20Span.mono _ _ _ _
   | exact LeO.none _
   | refine LeO.ite ?_ ?_
   | refine LeO.bind ?_ (fun _ => ?_)
set_option maxHeartbeats 8000000 in
set_option maxRecDepth 100000 in
theorem spec_l20Cache.calls (k : Nat) (g : Nat) (s0_0 : List Int) (s0_1 : Int) (a1 : Int) (r1 : List (S35)) (r2 : Int) (w0 w : World) (hI : IsS131 w0 w g s0_0 s0_1) (hB : Below w0.heap.size w0 w) (h : spec_l20Cache.f k s0_0 s0_1 a1 = some (r1, r2)) :
  Calls Try.prog 130 #[.pointer (some ⟨g, 0, none⟩), .int .i64 a1] w fun e w' => ∃ v0_ : Value, e = .returned (v0_) ∧ Kd.R k35 35 w' w.heap.size (fun _ => True) v0_ r1 ∧ IsS131 w0 w' g s0_0 r2 ∧ Below w0.heap.size w0 w' ∧ KeepBut w w' g none := by
 have hu35 := Try.underlying35
 have HI0 := Aside0.mk hI
 have HK := Aside0.mk (KeepBut.refl w g none)
 have HL := Aside0.mk hB.size
 clear hI
 have HW0 := Aside0.mk hB.size
 have HB := Aside0.mk hB
 clear hB
 have H : ((spec_l20Rd_pick.f k s0_0 s0_1 5).bind fun bt258 => (spec_l20Cache.l0 k a1 (([] : List (S35))) bt258.1 s0_0 bt258.2)) = some (r1, r2) := h
 clear h
 obtain ⟨y255, hy255⟩ : ∃ y_ : List (S35), y_ = (([] : List (S35))) := ⟨_, rfl⟩
 replace H : ((spec_l20Rd_pick.f k s0_0 s0_1 5).bind fun bt258 => (spec_l20Cache.l0 k a1 y255 bt258.1 s0_0 bt258.2)) = some (r1, r2) := by first | (rw [hy255]; with_reducible exact H) | (have H2_ := (Option.bind_some _ _).symm.trans H; rw [hy255]; with_reducible exact H2_) | (have H2_ := (Option.bind_some _ _).symm.trans H; with_reducible exact H2_) | with_reducible exact H | (rw [hy255]; exact H) | exact H
 have Ny255 := Aside0.mk hy255
 clear hy255
 replace H := Option.bind_eq_some_iff.mp H
 obtain ⟨⟨t258, t259⟩, A30, H⟩ := H
 try dsimp only at H
 have A3 := Aside0.mk A30
 clear A30
 have H' := Aside0.mk H
 clear H
 go_enter Try.func130, Try.ntmps130
 go_wp2_with (first | ((with_reducible refine gate_dst (N := 7) rfl ?_); refine Kd.R_lit k35 _ 35 ?hg (N := 7) ?hd (xs := ([] : List (S35))) (inner := []) (ok := fun _ => True) (okp := fun _ => True) ?hr ?hp (fun _ hk => hk) trivial (Below.refl _ _) (Nat.le_refl _) (by simp) ?_; (case hd => rfl); (case hg => rfl); (case hr => first | (go_simp; done) | (go_simp; rfl)); (case hp => exact (Reps.none _ _)); intro v256 w4 ho5 hb hg_ hnew_; clear hg_ hnew_; (first | rw [← Ny255.out] at ho5 | (simp only [Int.reduceToNat] at ho5; rw [← Ny255.out] at ho5)); have n0_ := Aside0.mk (Kd.R_lower ho5 (keep_size (w := w) (g := g) (row := none) (by repeat (first | (with_reducible first | exact HK.out | apply KeepBut.set_ | apply keep_drewN | apply keep_drew | apply keep_alloc) | exact HK.out)))); have n1_ := Aside0.mk (IsS131.below (by repeat (first | (with_reducible first | exact HI0.out | apply IsS131.alloc | apply IsS131.drewN | apply IsS131.drew | apply IsS131.set_1) | exact HI0.out)) hb); have n2_ := Aside0.mk (KeepBut.trans (by repeat (first | (with_reducible first | exact HK.out | apply KeepBut.set_ | apply keep_drewN | apply keep_drew | apply keep_alloc) | exact HK.out)) (KeepBut.of_below hb g none) (.inl rfl)); have n3_ := Aside0.mk (below_step (by repeat (first | (with_reducible first | exact HB.out | apply below_alloc | apply pw_below_drewN | apply below_drew1 | refine below_set ?_ (IsS131.ge HI0.out)) | exact HB.out)) hb); clear HI0; clear HK; clear HB; have HO257 := n0_; have HI0 := n1_; have HK := n2_; have HB := n3_; clear n0_ n1_ n2_ n3_; clear hb ho5) | ((with_reducible refine gate_callee (f := 72) rfl ?_); refine goesL_ (some 9) rfl rfl Try.func72 (by kernel_rfl) rfl #[.pointer (some ⟨g, 0, none⟩), .int .i64 5] rfl (by (try simp only [List.map_toArray, List.map_cons, List.map_nil]); first | done | rfl | (simp only [List.length_drop, List.length_take]; rfl)) ?_; (with_reducible refine (spec_l20Rd_pick.calls k g s0_0 s0_1 5 t258 t259 w0 _ ?side1 ?side2 A3.out).mono ?_); (case side1 => repeat (first | (with_reducible first | exact HI0.out | apply IsS131.alloc | apply IsS131.drewN | apply IsS131.drew | apply IsS131.set_1) | exact HI0.out)); (case side2 => repeat (first | (with_reducible first | exact HB.out | apply below_alloc | apply pw_below_drewN | apply below_drew1 | refine below_set ?_ (IsS131.ge HI0.out)) | exact HB.out)); rintro e w6 ⟨rfl, hi, hb, hk⟩; refine ⟨_, rfl, ?_⟩; have n0_ := Aside0.mk (Kd.R_mono (Kd.R_keep (IsS131.apart (show IsS131 w0 _ g s0_0 s0_1 from by repeat (first | (with_reducible first | exact HI0.out | apply IsS131.alloc | apply IsS131.drewN | apply IsS131.drew | apply IsS131.set_1) | exact HI0.out)) (by (with_reducible repeat (first | apply Kd.R_alloc | apply Kd.R_drewN | apply Kd.R_drew)); exact HO257.out) (by decide)) hk (fun _ h => h.2)) (fun _ h => h.1)); have n1_ := Aside0.mk (KeepBut.trans (by repeat (first | (with_reducible first | exact HK.out | apply KeepBut.set_ | apply keep_drewN | apply keep_drew | apply keep_alloc) | exact HK.out)) hk (.inl rfl)); have n2_ := Aside0.mk (hb); have n3_ := Aside0.mk (hi); clear HO257; clear HK; clear HB; clear HI0; have HO257 := n0_; have HK := n1_; have HB := n2_; have HI0 := n3_; clear n0_ n1_ n2_ n3_; (try clear hb); (try clear hb2); (try clear hk); (try clear hi)))
 go_loopg [5, 6] k (fun kq v5 v6 w' => ∃ (x5_1 : List (S35)) (x6_1 : Int) (x1001_1 : Int), v6 = .int .i64 x6_1 ∧ Aside0 (spec_l20Cache.l0 kq a1 x5_1 x6_1 s0_0 x1001_1 = some (r1, r2)) ∧ Aside0 (kq ≤ k) ∧ Aside0 (Kd.R k35 35 w' w.heap.size (fun _ => True) v5 x5_1) ∧ Aside0 (IsS131 w0 w' g s0_0 x1001_1) ∧ Aside0 (KeepBut w w' g none) ∧ Aside0 (Below w0.heap.size w0 w'))
 case atStart => exact ⟨(y255), (t258), (t259), (by first | rfl | (simp; done) | exact congrArg Value.bool (ne_nil_b _) | exact congrArg Value.bool (eq_nil_b _) | (simp [*]; done)), H', ⟨Nat.le_refl _⟩, ⟨by (with_reducible repeat (first | apply Kd.R_alloc | apply Kd.R_drewN | apply Kd.R_drew)); exact HO257.out⟩, ⟨by repeat (first | (with_reducible first | exact HI0.out | apply IsS131.alloc | apply IsS131.drewN | apply IsS131.drew | apply IsS131.set_1) | exact HI0.out)⟩, ⟨by repeat (first | (with_reducible first | exact HK.out | apply KeepBut.set_ | apply keep_drewN | apply keep_drew | apply keep_alloc) | exact HK.out)⟩, ⟨by repeat (first | (with_reducible first | exact HB.out | apply below_alloc | apply pw_below_drewN | apply below_drew1 | refine below_set ?_ (IsS131.ge HI0.out)) | exact HB.out)⟩⟩
 case round =>
  clear H'
  try clear c1
  try clear p2
  obtain ⟨x5_1, x6_1, x1001_1, rfl, HA, HK1, HO_5, HI0, HK, HB⟩ := hrel
  cases gk with
  | zero => exact absurd HA.out (by simp [spec_l20Cache.l0])
  | succ k1 =>
   have H := HA.out
   clear HA
   simp only [spec_l20Cache.l0] at H
   by_cases c7 : x6_1 > 0
   ·
    rw [if_pos c7] at H
    have c7b0 : decide (0 < x6_1) = true := decide_eq_true c7
    clear c7
    replace H := Option.bind_eq_some_iff.mp H
    obtain ⟨⟨t260, t261⟩, A80, H⟩ := H
    try dsimp only at H
    have A8 := Aside0.mk A80
    clear A80
    replace H := Option.bind_eq_some_iff.mp H
    obtain ⟨⟨t262, t263, t264⟩, A90, H⟩ := H
    try dsimp only at H
    have A9 := Aside0.mk A90
    clear A90
    replace H := Option.bind_eq_some_iff.mp H
    obtain ⟨t265, A100, H⟩ := H
    try dsimp only at H
    have A10 := Aside0.mk A100
    clear A100
    have H' := Aside0.mk H
    clear H
    go_wp2_with (first | ((with_reducible refine gate_callee (f := 72) rfl ?_); refine goesL_ (some 16) rfl rfl Try.func72 (by kernel_rfl) rfl #[.pointer (some ⟨g, 0, none⟩), .int .i64 8] rfl (by (try simp only [List.map_toArray, List.map_cons, List.map_nil]); first | done | rfl | (simp only [List.length_drop, List.length_take]; rfl)) ?_; (with_reducible refine (spec_l20Rd_pick.calls k1 g s0_0 x1001_1 8 t260 t261 w0 _ ?side1 ?side2 A8.out).mono ?_); (case side1 => repeat (first | (with_reducible first | exact HI0.out | apply IsS131.alloc | apply IsS131.drewN | apply IsS131.drew | apply IsS131.set_1) | exact HI0.out)); (case side2 => repeat (first | (with_reducible first | exact HB.out | apply below_alloc | apply pw_below_drewN | apply below_drew1 | refine below_set ?_ (IsS131.ge HI0.out)) | exact HB.out)); rintro e w11 ⟨rfl, hi, hb, hk⟩; refine ⟨_, rfl, ?_⟩; have n0_ := Aside0.mk (Kd.R_mono (Kd.R_keep (IsS131.apart (show IsS131 w0 _ g s0_0 x1001_1 from by repeat (first | (with_reducible first | exact HI0.out | apply IsS131.alloc | apply IsS131.drewN | apply IsS131.drew | apply IsS131.set_1) | exact HI0.out)) (by (with_reducible repeat (first | apply Kd.R_alloc | apply Kd.R_drewN | apply Kd.R_drew)); exact HO_5.out) (by decide)) hk (fun _ h => h.2)) (fun _ h => h.1)); have n1_ := Aside0.mk (KeepBut.trans (by repeat (first | (with_reducible first | exact HK.out | apply KeepBut.set_ | apply keep_drewN | apply keep_drew | apply keep_alloc) | exact HK.out)) hk (.inl rfl)); have n2_ := Aside0.mk (hb); have n3_ := Aside0.mk (hi); clear HO_5; clear HK; clear HB; clear HI0; have HO_5 := n0_; have HK := n1_; have HB := n2_; have HI0 := n3_; clear n0_ n1_ n2_ n3_; (try clear hb); (try clear hb2); (try clear hk); (try clear hi)) | ((with_reducible refine gate_callee (f := 143) rfl ?_); refine goesL_ (some 18) rfl rfl Try.func143 (by kernel_rfl) rfl #[.pointer (some ⟨g, 0, none⟩), .int .i64 0] rfl (by (try simp only [List.map_toArray, List.map_cons, List.map_nil]); first | done | rfl | (simp only [List.length_drop, List.length_take]; rfl)) ?_; (with_reducible refine (spec_l20Span.calls k1 g s0_0 t261 0 t262 t263 t264 w0 _ ?side1 ?side2 A9.out).mono ?_); (case side1 => repeat (first | (with_reducible first | exact HI0.out | apply IsS131.alloc | apply IsS131.drewN | apply IsS131.drew | apply IsS131.set_1) | exact HI0.out)); (case side2 => repeat (first | (with_reducible first | exact HB.out | apply below_alloc | apply pw_below_drewN | apply below_drew1 | refine below_set ?_ (IsS131.ge HI0.out)) | exact HB.out)); rintro e w12 ⟨rfl, hi, hb, hk⟩; refine ⟨_, rfl, ?_⟩; have n0_ := Aside0.mk (Kd.R_mono (Kd.R_keep (IsS131.apart (show IsS131 w0 _ g s0_0 t261 from by repeat (first | (with_reducible first | exact HI0.out | apply IsS131.alloc | apply IsS131.drewN | apply IsS131.drew | apply IsS131.set_1) | exact HI0.out)) (by (with_reducible repeat (first | apply Kd.R_alloc | apply Kd.R_drewN | apply Kd.R_drew)); exact HO_5.out) (by decide)) hk (fun _ h => h.2)) (fun _ h => h.1)); have n1_ := Aside0.mk (KeepBut.trans (by repeat (first | (with_reducible first | exact HK.out | apply KeepBut.set_ | apply keep_drewN | apply keep_drew | apply keep_alloc) | exact HK.out)) hk (.inl rfl)); have n2_ := Aside0.mk (hb); have n3_ := Aside0.mk (hi); clear HO_5; clear HK; clear HB; clear HI0; have HO_5 := n0_; have HK := n1_; have HB := n2_; have HI0 := n3_; clear n0_ n1_ n2_ n3_; (try clear hb); (try clear hb2); (try clear hk); (try clear hi); obtain ⟨Ao13, co13, eo13⟩ := Kd.R_slice HO_5.out; subst eo13) | ((with_reducible refine gate_callee (f := 50) rfl ?_); refine goesL_ (some 20) rfl rfl Try.func50 (by kernel_rfl) rfl #[.slice Ao13 x5_1.length co13, .agg #[.int .i64 t260, .string t262, .string t263]] rfl (by (try simp only [List.map_toArray, List.map_cons, List.map_nil]); first | done | rfl | (simp only [List.length_drop, List.length_take]; rfl)) ?_; (with_reducible refine (spec_CacheLearn.calls k1 _ _ x5_1 t260 t262 t263 t265 _ ?side1 ?side2 A10.out).mono ?_); (case side1 => repeat (first | exact (Kd.R_reads' HO_5.out).2.2 | (with_reducible refine Kd.C_alloc ?_ _) | (with_reducible refine Kd.C_drewN ?_ _) | (with_reducible refine Kd.C_drew ?_))); (case side2 => exact (Kd.R_reads' HO_5.out).2.1); rintro e w14 ⟨v266, rfl, ho0, hb⟩; refine ⟨_, rfl, ?_⟩; have n0_ := Aside0.mk (Kd.R_elder' (by (with_reducible repeat (first | apply Kd.R_alloc | apply Kd.R_drewN | apply Kd.R_drew)); exact HO_5.out) (Kd.R_base ho0) hb); have n1_ := Aside0.mk (Kd.R_lower (Kd.R_new' ho0 (Kd.R_lt (by (with_reducible repeat (first | apply Kd.R_alloc | apply Kd.R_drewN | apply Kd.R_drew)); exact HO_5.out))) (keep_size (w := w) (g := g) (row := none) (by repeat (first | (with_reducible first | exact HK.out | apply KeepBut.set_ | apply keep_drewN | apply keep_drew | apply keep_alloc) | exact HK.out)))); have n2_ := Aside0.mk (IsS131.below (by repeat (first | (with_reducible first | exact HI0.out | apply IsS131.alloc | apply IsS131.drewN | apply IsS131.drew | apply IsS131.set_1) | exact HI0.out)) hb); have n3_ := Aside0.mk (KeepBut.trans (by repeat (first | (with_reducible first | exact HK.out | apply KeepBut.set_ | apply keep_drewN | apply keep_drew | apply keep_alloc) | exact HK.out)) (KeepBut.of_below hb g none) (.inl rfl)); have n4_ := Aside0.mk (below_step (by repeat (first | (with_reducible first | exact HB.out | apply below_alloc | apply pw_below_drewN | apply below_drew1 | refine below_set ?_ (IsS131.ge HI0.out)) | exact HB.out)) hb); clear HO_5; clear HI0; clear HK; clear HB; have HO_5 := n0_; have HO267 := n1_; have HI0 := n2_; have HK := n3_; have HB := n4_; clear n0_ n1_ n2_ n3_ n4_; (try clear hb); (try clear hb2); (try clear hk); (try clear hi); (try clear ho0)))
    go_roundg k1
    case measure => have := HK1.out; omega
    case rel => exact ⟨(t265), (wrap64 (x6_1 - 1)), (t264), (by first | rfl | (simp; done) | exact congrArg Value.bool (ne_nil_b _) | exact congrArg Value.bool (eq_nil_b _) | (simp [*]; done)), H', ⟨by have := HK1.out; omega⟩, ⟨by (with_reducible repeat (first | apply Kd.R_alloc | apply Kd.R_drewN | apply Kd.R_drew)); exact Kd.R_mono HO267.out (fun _ hk => trivial)⟩, ⟨by repeat (first | (with_reducible first | exact HI0.out | apply IsS131.alloc | apply IsS131.drewN | apply IsS131.drew | apply IsS131.set_1) | exact HI0.out)⟩, ⟨by repeat (first | (with_reducible first | exact HK.out | apply KeepBut.set_ | apply keep_drewN | apply keep_drew | apply keep_alloc) | exact HK.out)⟩, ⟨by repeat (first | (with_reducible first | exact HB.out | apply below_alloc | apply pw_below_drewN | apply below_drew1 | refine below_set ?_ (IsS131.ge HI0.out)) | exact HB.out)⟩⟩
   ·
    rw [if_neg c7] at H
    have c7b0 : decide (0 < x6_1) = false := decide_eq_false c7
    clear c7
    replace H := Option.bind_eq_some_iff.mp H
    obtain ⟨⟨t268, t269⟩, A150, H⟩ := H
    try dsimp only at H
    have A15 := Aside0.mk A150
    clear A150
    by_cases c16 : t268 = true
    ·
     subst c16
     rw [if_pos rfl] at H
     replace H := Option.bind_eq_some_iff.mp H
     obtain ⟨⟨t270, t271⟩, A170, H⟩ := H
     try dsimp only at H
     have A17 := Aside0.mk A170
     clear A170
     by_cases c18 : t270 = 0
     ·
      rw [if_pos c18] at H
      have c18b0 : (t270 == 0) = true := beq_iff_eq.mpr c18
      have c18b1 : (t270 != 0) = false := bne_eq_false_iff_eq.mpr c18
      clear c18
      by_cases c19 : x5_1.length < 3518437208883
      ·
       rw [if_pos c19] at H
       have LMc19 := Aside0.mk c19
       clear c19
       obtain ⟨y272, hy272⟩ : ∃ y_ : List (S35), y_ = (x5_1 ++ [(⟨(-1), (⟨(⟨#[]⟩ : ByteArray), (⟨#[]⟩ : ByteArray)⟩ : S31)⟩ : S35)]) := ⟨_, rfl⟩
       replace H : (some (y272, t271)) = some (r1, r2) := by first | (rw [hy272]; with_reducible exact H) | (have H2_ := (Option.bind_some _ _).symm.trans H; rw [hy272]; with_reducible exact H2_) | (have H2_ := (Option.bind_some _ _).symm.trans H; with_reducible exact H2_) | with_reducible exact H | (rw [hy272]; exact H) | exact H
       have Ny272 := Aside0.mk hy272
       clear hy272
       simp only [Option.some.injEq, Prod.mk.injEq] at H
       obtain ⟨rfl, rfl⟩ := H
       go_wp2_with (first | ((with_reducible refine gate_callee (f := 126) rfl ?_); refine goesL_ (some 23) rfl rfl Try.func126 (by kernel_rfl) rfl #[.pointer (some ⟨g, 0, none⟩), .int .i64 a1] rfl (by (try simp only [List.map_toArray, List.map_cons, List.map_nil]); first | done | rfl | (simp only [List.length_drop, List.length_take]; rfl)) ?_; (with_reducible refine (spec_l20Rd_odd.calls k1 g s0_0 x1001_1 a1 true t269 w0 _ ?side1 ?side2 A15.out).mono ?_); (case side1 => repeat (first | (with_reducible first | exact HI0.out | apply IsS131.alloc | apply IsS131.drewN | apply IsS131.drew | apply IsS131.set_1) | exact HI0.out)); (case side2 => repeat (first | (with_reducible first | exact HB.out | apply below_alloc | apply pw_below_drewN | apply below_drew1 | refine below_set ?_ (IsS131.ge HI0.out)) | exact HB.out)); rintro e w20 ⟨rfl, hi, hb, hk⟩; refine ⟨_, rfl, ?_⟩; have n0_ := Aside0.mk (Kd.R_mono (Kd.R_keep (IsS131.apart (show IsS131 w0 _ g s0_0 x1001_1 from by repeat (first | (with_reducible first | exact HI0.out | apply IsS131.alloc | apply IsS131.drewN | apply IsS131.drew | apply IsS131.set_1) | exact HI0.out)) (by (with_reducible repeat (first | apply Kd.R_alloc | apply Kd.R_drewN | apply Kd.R_drew)); exact HO_5.out) (by decide)) hk (fun _ h => h.2)) (fun _ h => h.1)); have n1_ := Aside0.mk (KeepBut.trans (by repeat (first | (with_reducible first | exact HK.out | apply KeepBut.set_ | apply keep_drewN | apply keep_drew | apply keep_alloc) | exact HK.out)) hk (.inl rfl)); have n2_ := Aside0.mk (hb); have n3_ := Aside0.mk (hi); clear HO_5; clear HK; clear HB; clear HI0; have HO_5 := n0_; have HK := n1_; have HB := n2_; have HI0 := n3_; clear n0_ n1_ n2_ n3_; (try clear hb); (try clear hb2); (try clear hk); (try clear hi)) | ((with_reducible refine gate_callee (f := 72) rfl ?_); refine goesL_ (some 25) rfl rfl Try.func72 (by kernel_rfl) rfl #[.pointer (some ⟨g, 0, none⟩), .int .i64 3] rfl (by (try simp only [List.map_toArray, List.map_cons, List.map_nil]); first | done | rfl | (simp only [List.length_drop, List.length_take]; rfl)) ?_; (with_reducible refine (spec_l20Rd_pick.calls k1 g s0_0 t269 3 t270 t271 w0 _ ?side1 ?side2 A17.out).mono ?_); (case side1 => repeat (first | (with_reducible first | exact HI0.out | apply IsS131.alloc | apply IsS131.drewN | apply IsS131.drew | apply IsS131.set_1) | exact HI0.out)); (case side2 => repeat (first | (with_reducible first | exact HB.out | apply below_alloc | apply pw_below_drewN | apply below_drew1 | refine below_set ?_ (IsS131.ge HI0.out)) | exact HB.out)); rintro e w21 ⟨rfl, hi, hb, hk⟩; refine ⟨_, rfl, ?_⟩; have n0_ := Aside0.mk (Kd.R_mono (Kd.R_keep (IsS131.apart (show IsS131 w0 _ g s0_0 t269 from by repeat (first | (with_reducible first | exact HI0.out | apply IsS131.alloc | apply IsS131.drewN | apply IsS131.drew | apply IsS131.set_1) | exact HI0.out)) (by (with_reducible repeat (first | apply Kd.R_alloc | apply Kd.R_drewN | apply Kd.R_drew)); exact HO_5.out) (by decide)) hk (fun _ h => h.2)) (fun _ h => h.1)); have n1_ := Aside0.mk (KeepBut.trans (by repeat (first | (with_reducible first | exact HK.out | apply KeepBut.set_ | apply keep_drewN | apply keep_drew | apply keep_alloc) | exact HK.out)) hk (.inl rfl)); have n2_ := Aside0.mk (hb); have n3_ := Aside0.mk (hi); clear HO_5; clear HK; clear HB; clear HI0; have HO_5 := n0_; have HK := n1_; have HB := n2_; have HI0 := n3_; clear n0_ n1_ n2_ n3_; (try clear hb); (try clear hb2); (try clear hk); (try clear hi)) | ((with_reducible refine gate_builtin (b := .append) (xs := #[.tmp 36, .tmp 38]) rfl ?_); at_builtin; refine Kd.R_append k35 w.heap.size rfl (.tmp 36) (.tmp 38) 23 35 (.agg #[(.int .i64 0), (.string ⟨#[]⟩), (.string ⟨#[]⟩)]) 40 rfl Try.underlying23 info35 rfl (by decide) (by omega) u5 x5_1 (⟨(-1), (⟨(⟨#[]⟩ : ByteArray), (⟨#[]⟩ : ByteArray)⟩ : S31)⟩ : S35) [.int .i64 (-1), .string (⟨#[]⟩ : ByteArray), .string (⟨#[]⟩ : ByteArray)] (fun _ => True) (fun _ => False) rfl rfl ?aP (fun _ hk => hk.elim) ?aF ?aO (Below.refl _ _) ?aS ?aL ?_; (case aP => exact k35_mkM _ _ _ (⟨(-1), (⟨(⟨#[]⟩ : ByteArray), (⟨#[]⟩ : ByteArray)⟩ : S31)⟩ : S35)); (case aF => exact (fun _ _ => trivial)); (case aO => exact (by (with_reducible repeat (first | apply Kd.R_alloc | apply Kd.R_drewN | apply Kd.R_drew)); exact HO_5.out)); (case aS => exact (keep_size (w := w) (g := g) (row := none) (by repeat (first | (with_reducible first | exact HK.out | apply KeepBut.set_ | apply keep_drewN | apply keep_drew | apply keep_alloc) | exact HK.out)))); (case aL => have := LMc19.out; omega); intro v273 w22 ho hb hg hat; rw [← Ny272.out] at ho; have n0_ := Aside0.mk (IsS131.grown (by repeat (first | (with_reducible first | exact HI0.out | apply IsS131.alloc | apply IsS131.drewN | apply IsS131.drew | apply IsS131.set_1) | exact HI0.out)) hg (IsS131.own_ne HI0.out HO_5.out (by decide))); have n1_ := Aside0.mk (below_weaken (by repeat (first | (with_reducible first | exact HB.out | apply below_alloc | apply pw_below_drewN | apply below_drew1 | refine below_set ?_ (IsS131.ge HI0.out)) | exact HB.out)) HL.out hb); have n2_ := Aside0.mk (KeepBut.trans (by repeat (first | (with_reducible first | exact HK.out | apply KeepBut.set_ | apply keep_drewN | apply keep_drew | apply keep_alloc) | exact HK.out)) (KeepBut.of_grown hg g) (Kd.R_base2 HO_5.out)); have n3_ := Aside0.mk (ho); clear HI0; clear HB; clear HK; clear HO_5; have HI0 := n0_; have HB := n1_; have HK := n2_; have HO274 := n3_; clear n0_ n1_ n2_ n3_; clear ho hb hg hat))
       go_ret
       exact ⟨_, by first | rfl | (simp only [u8w, w64m]; rfl) | (simp [errW_none, errW_some] <;> rfl) | (simp [*, errW_none, errW_some] <;> rfl), by (with_reducible repeat (first | apply Kd.R_alloc | apply Kd.R_drewN | apply Kd.R_drew)); exact HO274.out, by repeat (first | (with_reducible first | exact HI0.out | apply IsS131.alloc | apply IsS131.drewN | apply IsS131.drew | apply IsS131.set_1) | exact HI0.out), by repeat (first | (with_reducible first | exact HB.out | apply below_alloc | apply pw_below_drewN | apply below_drew1 | refine below_set ?_ (IsS131.ge HI0.out)) | exact HB.out), by repeat (first | (with_reducible first | exact HK.out | apply KeepBut.set_ | apply keep_drewN | apply keep_drew | apply keep_alloc) | exact HK.out)⟩
      ·
       rw [if_neg c19] at H
       exact absurd H (by simp)
     ·
      rw [if_neg c18] at H
      have c18b0 : (t270 == 0) = false := beq_eq_false_iff_ne.mpr c18
      have c18b1 : (t270 != 0) = true := bne_iff_ne.mpr c18
      by_cases c23 : t270 = 1
      ·
       rw [if_pos c23] at H
       have c23b0 : (t270 == 1) = true := beq_iff_eq.mpr c23
       have c23b1 : (t270 != 1) = false := bne_eq_false_iff_eq.mpr c23
       clear c23
       by_cases c24 : x5_1.length + x5_1.length < 3518437208883
       ·
        rw [if_pos c24] at H
        have LMc24 := Aside0.mk c24
        clear c24
        obtain ⟨y275, hy275⟩ : ∃ y_ : List (S35), y_ = (x5_1 ++ x5_1) := ⟨_, rfl⟩
        replace H : (some (y275, t271)) = some (r1, r2) := by first | (rw [hy275]; with_reducible exact H) | (have H2_ := (Option.bind_some _ _).symm.trans H; rw [hy275]; with_reducible exact H2_) | (have H2_ := (Option.bind_some _ _).symm.trans H; with_reducible exact H2_) | with_reducible exact H | (rw [hy275]; exact H) | exact H
        have Ny275 := Aside0.mk hy275
        clear hy275
        simp only [Option.some.injEq, Prod.mk.injEq] at H
        obtain ⟨rfl, rfl⟩ := H
        go_wp2_with (first | ((with_reducible refine gate_callee (f := 126) rfl ?_); refine goesL_ (some 23) rfl rfl Try.func126 (by kernel_rfl) rfl #[.pointer (some ⟨g, 0, none⟩), .int .i64 a1] rfl (by (try simp only [List.map_toArray, List.map_cons, List.map_nil]); first | done | rfl | (simp only [List.length_drop, List.length_take]; rfl)) ?_; (with_reducible refine (spec_l20Rd_odd.calls k1 g s0_0 x1001_1 a1 true t269 w0 _ ?side1 ?side2 A15.out).mono ?_); (case side1 => repeat (first | (with_reducible first | exact HI0.out | apply IsS131.alloc | apply IsS131.drewN | apply IsS131.drew | apply IsS131.set_1) | exact HI0.out)); (case side2 => repeat (first | (with_reducible first | exact HB.out | apply below_alloc | apply pw_below_drewN | apply below_drew1 | refine below_set ?_ (IsS131.ge HI0.out)) | exact HB.out)); rintro e w25 ⟨rfl, hi, hb, hk⟩; refine ⟨_, rfl, ?_⟩; have n0_ := Aside0.mk (Kd.R_mono (Kd.R_keep (IsS131.apart (show IsS131 w0 _ g s0_0 x1001_1 from by repeat (first | (with_reducible first | exact HI0.out | apply IsS131.alloc | apply IsS131.drewN | apply IsS131.drew | apply IsS131.set_1) | exact HI0.out)) (by (with_reducible repeat (first | apply Kd.R_alloc | apply Kd.R_drewN | apply Kd.R_drew)); exact HO_5.out) (by decide)) hk (fun _ h => h.2)) (fun _ h => h.1)); have n1_ := Aside0.mk (KeepBut.trans (by repeat (first | (with_reducible first | exact HK.out | apply KeepBut.set_ | apply keep_drewN | apply keep_drew | apply keep_alloc) | exact HK.out)) hk (.inl rfl)); have n2_ := Aside0.mk (hb); have n3_ := Aside0.mk (hi); clear HO_5; clear HK; clear HB; clear HI0; have HO_5 := n0_; have HK := n1_; have HB := n2_; have HI0 := n3_; clear n0_ n1_ n2_ n3_; (try clear hb); (try clear hb2); (try clear hk); (try clear hi)) | ((with_reducible refine gate_callee (f := 72) rfl ?_); refine goesL_ (some 25) rfl rfl Try.func72 (by kernel_rfl) rfl #[.pointer (some ⟨g, 0, none⟩), .int .i64 3] rfl (by (try simp only [List.map_toArray, List.map_cons, List.map_nil]); first | done | rfl | (simp only [List.length_drop, List.length_take]; rfl)) ?_; (with_reducible refine (spec_l20Rd_pick.calls k1 g s0_0 t269 3 t270 t271 w0 _ ?side1 ?side2 A17.out).mono ?_); (case side1 => repeat (first | (with_reducible first | exact HI0.out | apply IsS131.alloc | apply IsS131.drewN | apply IsS131.drew | apply IsS131.set_1) | exact HI0.out)); (case side2 => repeat (first | (with_reducible first | exact HB.out | apply below_alloc | apply pw_below_drewN | apply below_drew1 | refine below_set ?_ (IsS131.ge HI0.out)) | exact HB.out)); rintro e w26 ⟨rfl, hi, hb, hk⟩; refine ⟨_, rfl, ?_⟩; have n0_ := Aside0.mk (Kd.R_mono (Kd.R_keep (IsS131.apart (show IsS131 w0 _ g s0_0 t269 from by repeat (first | (with_reducible first | exact HI0.out | apply IsS131.alloc | apply IsS131.drewN | apply IsS131.drew | apply IsS131.set_1) | exact HI0.out)) (by (with_reducible repeat (first | apply Kd.R_alloc | apply Kd.R_drewN | apply Kd.R_drew)); exact HO_5.out) (by decide)) hk (fun _ h => h.2)) (fun _ h => h.1)); have n1_ := Aside0.mk (KeepBut.trans (by repeat (first | (with_reducible first | exact HK.out | apply KeepBut.set_ | apply keep_drewN | apply keep_drew | apply keep_alloc) | exact HK.out)) hk (.inl rfl)); have n2_ := Aside0.mk (hb); have n3_ := Aside0.mk (hi); clear HO_5; clear HK; clear HB; clear HI0; have HO_5 := n0_; have HK := n1_; have HB := n2_; have HI0 := n3_; clear n0_ n1_ n2_ n3_; (try clear hb); (try clear hb2); (try clear hk); (try clear hi); obtain ⟨Ao28, co28, eo28⟩ := Kd.R_slice HO_5.out; subst eo28) | ((with_reducible refine gate_builtin (b := .append) (xs := #[.tmp 42, .tmp 43]) rfl ?_); at_builtin; refine Kd.R_append_rows k35 w.heap.size rfl (.tmp 42) (.tmp 43) 23 35 (.agg #[(.int .i64 0), (.string ⟨#[]⟩), (.string ⟨#[]⟩)]) 40 rfl Try.underlying23 info35 rfl (by decide) (by omega) (.slice Ao28 x5_1.length co28) x5_1 x5_1 _ _ _ (fun _ => True) (fun _ => False) rfl rfl ?aO ?aR (fun _ _ h => h) (fun _ h => h.elim) ?aF (Below.refl _ _) ?aS ?aL ?_; (case aR => repeat (first | exact (Kd.R_reads' HO_5.out).2.2 | (with_reducible refine Kd.C_alloc ?_ _) | (with_reducible refine Kd.C_drewN ?_ _) | (with_reducible refine Kd.C_drew ?_))); (case aF => exact (fun _ _ => trivial)); (case aO => exact (by (with_reducible repeat (first | apply Kd.R_alloc | apply Kd.R_drewN | apply Kd.R_drew)); exact HO_5.out)); (case aS => exact (keep_size (w := w) (g := g) (row := none) (by repeat (first | (with_reducible first | exact HK.out | apply KeepBut.set_ | apply keep_drewN | apply keep_drew | apply keep_alloc) | exact HK.out)))); (case aL => have := LMc24.out; omega); intro v276 w27 ho hb hg hat; rw [← Ny275.out] at ho; have n0_ := Aside0.mk (IsS131.grown (by repeat (first | (with_reducible first | exact HI0.out | apply IsS131.alloc | apply IsS131.drewN | apply IsS131.drew | apply IsS131.set_1) | exact HI0.out)) hg (IsS131.own_ne HI0.out HO_5.out (by decide))); have n1_ := Aside0.mk (below_weaken (by repeat (first | (with_reducible first | exact HB.out | apply below_alloc | apply pw_below_drewN | apply below_drew1 | refine below_set ?_ (IsS131.ge HI0.out)) | exact HB.out)) HL.out hb); have n2_ := Aside0.mk (KeepBut.trans (by repeat (first | (with_reducible first | exact HK.out | apply KeepBut.set_ | apply keep_drewN | apply keep_drew | apply keep_alloc) | exact HK.out)) (KeepBut.of_grown hg g) (Kd.R_base2 HO_5.out)); have n3_ := Aside0.mk (ho); clear HI0; clear HB; clear HK; clear HO_5; have HI0 := n0_; have HB := n1_; have HK := n2_; have HO277 := n3_; clear n0_ n1_ n2_ n3_; clear ho hb hg hat))
        go_ret
        exact ⟨_, by first | rfl | (simp only [u8w, w64m]; rfl) | (simp [errW_none, errW_some] <;> rfl) | (simp [*, errW_none, errW_some] <;> rfl), by (with_reducible repeat (first | apply Kd.R_alloc | apply Kd.R_drewN | apply Kd.R_drew)); exact HO277.out, by repeat (first | (with_reducible first | exact HI0.out | apply IsS131.alloc | apply IsS131.drewN | apply IsS131.drew | apply IsS131.set_1) | exact HI0.out), by repeat (first | (with_reducible first | exact HB.out | apply below_alloc | apply pw_below_drewN | apply below_drew1 | refine below_set ?_ (IsS131.ge HI0.out)) | exact HB.out), by repeat (first | (with_reducible first | exact HK.out | apply KeepBut.set_ | apply keep_drewN | apply keep_drew | apply keep_alloc) | exact HK.out)⟩
       ·
        rw [if_neg c24] at H
        exact absurd H (by simp)
      ·
       rw [if_neg c23] at H
       have c23b0 : (t270 == 1) = false := beq_eq_false_iff_ne.mpr c23
       have c23b1 : (t270 != 1) = true := bne_iff_ne.mpr c23
       replace H := Option.bind_eq_some_iff.mp H
       obtain ⟨⟨t278, t279⟩, A290, H⟩ := H
       try dsimp only at H
       have A29 := Aside0.mk A290
       clear A290
       replace H := Option.bind_eq_some_iff.mp H
       obtain ⟨⟨t280, t281, t282⟩, A300, H⟩ := H
       try dsimp only at H
       have A30 := Aside0.mk A300
       clear A300
       by_cases c31 : x5_1.length < 3518437208883
       ·
        rw [if_pos c31] at H
        have LMc31 := Aside0.mk c31
        clear c31
        obtain ⟨y283, hy283⟩ : ∃ y_ : List (S35), y_ = (x5_1 ++ [(⟨t278, (⟨t280, t281⟩ : S31)⟩ : S35)]) := ⟨_, rfl⟩
        replace H : (some (y283, t282)) = some (r1, r2) := by first | (rw [hy283]; with_reducible exact H) | (have H2_ := (Option.bind_some _ _).symm.trans H; rw [hy283]; with_reducible exact H2_) | (have H2_ := (Option.bind_some _ _).symm.trans H; with_reducible exact H2_) | with_reducible exact H | (rw [hy283]; exact H) | exact H
        have Ny283 := Aside0.mk hy283
        clear hy283
        simp only [Option.some.injEq, Prod.mk.injEq] at H
        obtain ⟨rfl, rfl⟩ := H
        go_wp2_with (first | ((with_reducible refine gate_callee (f := 126) rfl ?_); refine goesL_ (some 23) rfl rfl Try.func126 (by kernel_rfl) rfl #[.pointer (some ⟨g, 0, none⟩), .int .i64 a1] rfl (by (try simp only [List.map_toArray, List.map_cons, List.map_nil]); first | done | rfl | (simp only [List.length_drop, List.length_take]; rfl)) ?_; (with_reducible refine (spec_l20Rd_odd.calls k1 g s0_0 x1001_1 a1 true t269 w0 _ ?side1 ?side2 A15.out).mono ?_); (case side1 => repeat (first | (with_reducible first | exact HI0.out | apply IsS131.alloc | apply IsS131.drewN | apply IsS131.drew | apply IsS131.set_1) | exact HI0.out)); (case side2 => repeat (first | (with_reducible first | exact HB.out | apply below_alloc | apply pw_below_drewN | apply below_drew1 | refine below_set ?_ (IsS131.ge HI0.out)) | exact HB.out)); rintro e w32 ⟨rfl, hi, hb, hk⟩; refine ⟨_, rfl, ?_⟩; have n0_ := Aside0.mk (Kd.R_mono (Kd.R_keep (IsS131.apart (show IsS131 w0 _ g s0_0 x1001_1 from by repeat (first | (with_reducible first | exact HI0.out | apply IsS131.alloc | apply IsS131.drewN | apply IsS131.drew | apply IsS131.set_1) | exact HI0.out)) (by (with_reducible repeat (first | apply Kd.R_alloc | apply Kd.R_drewN | apply Kd.R_drew)); exact HO_5.out) (by decide)) hk (fun _ h => h.2)) (fun _ h => h.1)); have n1_ := Aside0.mk (KeepBut.trans (by repeat (first | (with_reducible first | exact HK.out | apply KeepBut.set_ | apply keep_drewN | apply keep_drew | apply keep_alloc) | exact HK.out)) hk (.inl rfl)); have n2_ := Aside0.mk (hb); have n3_ := Aside0.mk (hi); clear HO_5; clear HK; clear HB; clear HI0; have HO_5 := n0_; have HK := n1_; have HB := n2_; have HI0 := n3_; clear n0_ n1_ n2_ n3_; (try clear hb); (try clear hb2); (try clear hk); (try clear hi)) | ((with_reducible refine gate_callee (f := 72) rfl ?_); refine goesL_ (some 25) rfl rfl Try.func72 (by kernel_rfl) rfl #[.pointer (some ⟨g, 0, none⟩), .int .i64 3] rfl (by (try simp only [List.map_toArray, List.map_cons, List.map_nil]); first | done | rfl | (simp only [List.length_drop, List.length_take]; rfl)) ?_; (with_reducible refine (spec_l20Rd_pick.calls k1 g s0_0 t269 3 t270 t271 w0 _ ?side1 ?side2 A17.out).mono ?_); (case side1 => repeat (first | (with_reducible first | exact HI0.out | apply IsS131.alloc | apply IsS131.drewN | apply IsS131.drew | apply IsS131.set_1) | exact HI0.out)); (case side2 => repeat (first | (with_reducible first | exact HB.out | apply below_alloc | apply pw_below_drewN | apply below_drew1 | refine below_set ?_ (IsS131.ge HI0.out)) | exact HB.out)); rintro e w33 ⟨rfl, hi, hb, hk⟩; refine ⟨_, rfl, ?_⟩; have n0_ := Aside0.mk (Kd.R_mono (Kd.R_keep (IsS131.apart (show IsS131 w0 _ g s0_0 t269 from by repeat (first | (with_reducible first | exact HI0.out | apply IsS131.alloc | apply IsS131.drewN | apply IsS131.drew | apply IsS131.set_1) | exact HI0.out)) (by (with_reducible repeat (first | apply Kd.R_alloc | apply Kd.R_drewN | apply Kd.R_drew)); exact HO_5.out) (by decide)) hk (fun _ h => h.2)) (fun _ h => h.1)); have n1_ := Aside0.mk (KeepBut.trans (by repeat (first | (with_reducible first | exact HK.out | apply KeepBut.set_ | apply keep_drewN | apply keep_drew | apply keep_alloc) | exact HK.out)) hk (.inl rfl)); have n2_ := Aside0.mk (hb); have n3_ := Aside0.mk (hi); clear HO_5; clear HK; clear HB; clear HI0; have HO_5 := n0_; have HK := n1_; have HB := n2_; have HI0 := n3_; clear n0_ n1_ n2_ n3_; (try clear hb); (try clear hb2); (try clear hk); (try clear hi)) | ((with_reducible refine gate_callee (f := 72) rfl ?_); refine goesL_ (some 28) rfl rfl Try.func72 (by kernel_rfl) rfl #[.pointer (some ⟨g, 0, none⟩), .int .i64 8] rfl (by (try simp only [List.map_toArray, List.map_cons, List.map_nil]); first | done | rfl | (simp only [List.length_drop, List.length_take]; rfl)) ?_; (with_reducible refine (spec_l20Rd_pick.calls k1 g s0_0 t271 8 t278 t279 w0 _ ?side1 ?side2 A29.out).mono ?_); (case side1 => repeat (first | (with_reducible first | exact HI0.out | apply IsS131.alloc | apply IsS131.drewN | apply IsS131.drew | apply IsS131.set_1) | exact HI0.out)); (case side2 => repeat (first | (with_reducible first | exact HB.out | apply below_alloc | apply pw_below_drewN | apply below_drew1 | refine below_set ?_ (IsS131.ge HI0.out)) | exact HB.out)); rintro e w34 ⟨rfl, hi, hb, hk⟩; refine ⟨_, rfl, ?_⟩; have n0_ := Aside0.mk (Kd.R_mono (Kd.R_keep (IsS131.apart (show IsS131 w0 _ g s0_0 t271 from by repeat (first | (with_reducible first | exact HI0.out | apply IsS131.alloc | apply IsS131.drewN | apply IsS131.drew | apply IsS131.set_1) | exact HI0.out)) (by (with_reducible repeat (first | apply Kd.R_alloc | apply Kd.R_drewN | apply Kd.R_drew)); exact HO_5.out) (by decide)) hk (fun _ h => h.2)) (fun _ h => h.1)); have n1_ := Aside0.mk (KeepBut.trans (by repeat (first | (with_reducible first | exact HK.out | apply KeepBut.set_ | apply keep_drewN | apply keep_drew | apply keep_alloc) | exact HK.out)) hk (.inl rfl)); have n2_ := Aside0.mk (hb); have n3_ := Aside0.mk (hi); clear HO_5; clear HK; clear HB; clear HI0; have HO_5 := n0_; have HK := n1_; have HB := n2_; have HI0 := n3_; clear n0_ n1_ n2_ n3_; (try clear hb); (try clear hb2); (try clear hk); (try clear hi)) | ((with_reducible refine gate_callee (f := 143) rfl ?_); refine goesL_ (some 30) rfl rfl Try.func143 (by kernel_rfl) rfl #[.pointer (some ⟨g, 0, none⟩), .int .i64 2] rfl (by (try simp only [List.map_toArray, List.map_cons, List.map_nil]); first | done | rfl | (simp only [List.length_drop, List.length_take]; rfl)) ?_; (with_reducible refine (spec_l20Span.calls k1 g s0_0 t279 2 t280 t281 t282 w0 _ ?side1 ?side2 A30.out).mono ?_); (case side1 => repeat (first | (with_reducible first | exact HI0.out | apply IsS131.alloc | apply IsS131.drewN | apply IsS131.drew | apply IsS131.set_1) | exact HI0.out)); (case side2 => repeat (first | (with_reducible first | exact HB.out | apply below_alloc | apply pw_below_drewN | apply below_drew1 | refine below_set ?_ (IsS131.ge HI0.out)) | exact HB.out)); rintro e w35 ⟨rfl, hi, hb, hk⟩; refine ⟨_, rfl, ?_⟩; have n0_ := Aside0.mk (Kd.R_mono (Kd.R_keep (IsS131.apart (show IsS131 w0 _ g s0_0 t279 from by repeat (first | (with_reducible first | exact HI0.out | apply IsS131.alloc | apply IsS131.drewN | apply IsS131.drew | apply IsS131.set_1) | exact HI0.out)) (by (with_reducible repeat (first | apply Kd.R_alloc | apply Kd.R_drewN | apply Kd.R_drew)); exact HO_5.out) (by decide)) hk (fun _ h => h.2)) (fun _ h => h.1)); have n1_ := Aside0.mk (KeepBut.trans (by repeat (first | (with_reducible first | exact HK.out | apply KeepBut.set_ | apply keep_drewN | apply keep_drew | apply keep_alloc) | exact HK.out)) hk (.inl rfl)); have n2_ := Aside0.mk (hb); have n3_ := Aside0.mk (hi); clear HO_5; clear HK; clear HB; clear HI0; have HO_5 := n0_; have HK := n1_; have HB := n2_; have HI0 := n3_; clear n0_ n1_ n2_ n3_; (try clear hb); (try clear hb2); (try clear hk); (try clear hi)) | ((with_reducible refine gate_builtin (b := .append) (xs := #[.tmp 26, .tmp 32]) rfl ?_); at_builtin; refine Kd.R_append k35 w.heap.size rfl (.tmp 26) (.tmp 32) 23 35 (.agg #[(.int .i64 0), (.string ⟨#[]⟩), (.string ⟨#[]⟩)]) 40 rfl Try.underlying23 info35 rfl (by decide) (by omega) u5 x5_1 (⟨t278, (⟨t280, t281⟩ : S31)⟩ : S35) [.int .i64 t278, .string t280, .string t281] (fun _ => True) (fun _ => False) rfl rfl ?aP (fun _ hk => hk.elim) ?aF ?aO (Below.refl _ _) ?aS ?aL ?_; (case aP => exact k35_mkM _ _ _ (⟨t278, (⟨t280, t281⟩ : S31)⟩ : S35)); (case aF => exact (fun _ _ => trivial)); (case aO => exact (by (with_reducible repeat (first | apply Kd.R_alloc | apply Kd.R_drewN | apply Kd.R_drew)); exact HO_5.out)); (case aS => exact (keep_size (w := w) (g := g) (row := none) (by repeat (first | (with_reducible first | exact HK.out | apply KeepBut.set_ | apply keep_drewN | apply keep_drew | apply keep_alloc) | exact HK.out)))); (case aL => have := LMc31.out; omega); intro v284 w36 ho hb hg hat; rw [← Ny283.out] at ho; have n0_ := Aside0.mk (IsS131.grown (by repeat (first | (with_reducible first | exact HI0.out | apply IsS131.alloc | apply IsS131.drewN | apply IsS131.drew | apply IsS131.set_1) | exact HI0.out)) hg (IsS131.own_ne HI0.out HO_5.out (by decide))); have n1_ := Aside0.mk (below_weaken (by repeat (first | (with_reducible first | exact HB.out | apply below_alloc | apply pw_below_drewN | apply below_drew1 | refine below_set ?_ (IsS131.ge HI0.out)) | exact HB.out)) HL.out hb); have n2_ := Aside0.mk (KeepBut.trans (by repeat (first | (with_reducible first | exact HK.out | apply KeepBut.set_ | apply keep_drewN | apply keep_drew | apply keep_alloc) | exact HK.out)) (KeepBut.of_grown hg g) (Kd.R_base2 HO_5.out)); have n3_ := Aside0.mk (ho); clear HI0; clear HB; clear HK; clear HO_5; have HI0 := n0_; have HB := n1_; have HK := n2_; have HO285 := n3_; clear n0_ n1_ n2_ n3_; clear ho hb hg hat))
        go_ret
        exact ⟨_, by first | rfl | (simp only [u8w, w64m]; rfl) | (simp [errW_none, errW_some] <;> rfl) | (simp [*, errW_none, errW_some] <;> rfl), by (with_reducible repeat (first | apply Kd.R_alloc | apply Kd.R_drewN | apply Kd.R_drew)); exact HO285.out, by repeat (first | (with_reducible first | exact HI0.out | apply IsS131.alloc | apply IsS131.drewN | apply IsS131.drew | apply IsS131.set_1) | exact HI0.out), by repeat (first | (with_reducible first | exact HB.out | apply below_alloc | apply pw_below_drewN | apply below_drew1 | refine below_set ?_ (IsS131.ge HI0.out)) | exact HB.out), by repeat (first | (with_reducible first | exact HK.out | apply KeepBut.set_ | apply keep_drewN | apply keep_drew | apply keep_alloc) | exact HK.out)⟩
       ·
        rw [if_neg c31] at H
        exact absurd H (by simp)
    ·
     replace c16 := Bool.eq_false_iff.mpr c16
     subst c16
     rw [if_neg (show ¬ (false = true) by decide)] at H
     simp only [Option.some.injEq, Prod.mk.injEq] at H
     obtain ⟨rfl, rfl⟩ := H
     go_wp2_with (first | ((with_reducible refine gate_callee (f := 126) rfl ?_); refine goesL_ (some 23) rfl rfl Try.func126 (by kernel_rfl) rfl #[.pointer (some ⟨g, 0, none⟩), .int .i64 a1] rfl (by (try simp only [List.map_toArray, List.map_cons, List.map_nil]); first | done | rfl | (simp only [List.length_drop, List.length_take]; rfl)) ?_; (with_reducible refine (spec_l20Rd_odd.calls k1 g s0_0 x1001_1 a1 false t269 w0 _ ?side1 ?side2 A15.out).mono ?_); (case side1 => repeat (first | (with_reducible first | exact HI0.out | apply IsS131.alloc | apply IsS131.drewN | apply IsS131.drew | apply IsS131.set_1) | exact HI0.out)); (case side2 => repeat (first | (with_reducible first | exact HB.out | apply below_alloc | apply pw_below_drewN | apply below_drew1 | refine below_set ?_ (IsS131.ge HI0.out)) | exact HB.out)); rintro e w37 ⟨rfl, hi, hb, hk⟩; refine ⟨_, rfl, ?_⟩; have n0_ := Aside0.mk (Kd.R_mono (Kd.R_keep (IsS131.apart (show IsS131 w0 _ g s0_0 x1001_1 from by repeat (first | (with_reducible first | exact HI0.out | apply IsS131.alloc | apply IsS131.drewN | apply IsS131.drew | apply IsS131.set_1) | exact HI0.out)) (by (with_reducible repeat (first | apply Kd.R_alloc | apply Kd.R_drewN | apply Kd.R_drew)); exact HO_5.out) (by decide)) hk (fun _ h => h.2)) (fun _ h => h.1)); have n1_ := Aside0.mk (KeepBut.trans (by repeat (first | (with_reducible first | exact HK.out | apply KeepBut.set_ | apply keep_drewN | apply keep_drew | apply keep_alloc) | exact HK.out)) hk (.inl rfl)); have n2_ := Aside0.mk (hb); have n3_ := Aside0.mk (hi); clear HO_5; clear HK; clear HB; clear HI0; have HO_5 := n0_; have HK := n1_; have HB := n2_; have HI0 := n3_; clear n0_ n1_ n2_ n3_; (try clear hb); (try clear hb2); (try clear hk); (try clear hi)))
     go_ret
     exact ⟨_, by first | rfl | (simp only [u8w, w64m]; rfl) | (simp [errW_none, errW_some] <;> rfl) | (simp [*, errW_none, errW_some] <;> rfl), by (with_reducible repeat (first | apply Kd.R_alloc | apply Kd.R_drewN | apply Kd.R_drew)); exact HO_5.out, by repeat (first | (with_reducible first | exact HI0.out | apply IsS131.alloc | apply IsS131.drewN | apply IsS131.drew | apply IsS131.set_1) | exact HI0.out), by repeat (first | (with_reducible first | exact HB.out | apply below_alloc | apply pw_below_drewN | apply below_drew1 | refine below_set ?_ (IsS131.ge HI0.out)) | exact HB.out), by repeat (first | (with_reducible first | exact HK.out | apply KeepBut.set_ | apply keep_drewN | apply keep_drew | apply keep_alloc) | exact HK.out)⟩

end Go.Proofs.Ytkjkokljgbpbbaa.PFnRequestOf
