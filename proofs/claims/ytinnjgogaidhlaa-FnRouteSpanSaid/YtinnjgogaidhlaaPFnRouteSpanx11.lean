/- Go functions as plain Lean functions, and for each a proof that its call comes to what the function says; under the conditions that each theorem names. Written by a program of this session. -/
import Derived.Test.YtinnjgogaidhlaaPFnRouteSpanx0
import Derived.Test.YtinnjgogaidhlaaPFnRouteSpanx1
import Derived.Test.YtinnjgogaidhlaaPFnRouteSpanx4
import Derived.Test.YtinnjgogaidhlaaPFnRouteSpanx8
import Derived.Test.YtinnjgogaidhlaaPFnRouteSpanx9
import Derived.Test.YtinnjgogaidhlaaPFnRouteSpanx10
namespace Go.Proofs.Ytinnjgogaidhlaa.PFnRouteSpan
open Go.RowKit Go.Proofs.YtinnjgogaidhlaaW.PrintWords Go.Proofs.YtinnjgogaidhlaaW.PrintLast Go.Proofs.YtinnjgogaidhlaaW.PrintMore
attribute [local go_sem high] str_gtr str_leq str_geq
attribute [local go_sem] max2_int min2_int max_two min_two max_three min_three max_four min_four   -- for this text's walks alone
set_option linter.unusedVariables false
set_option linter.unusedSimpArgs false

attribute [local go_sem high] eqA25
/-! ### spec_l20Shard: function 76 -/
def spec_l20Shard.j0 : Nat → List (S43) → Bool → List Int → Int → Option (Int × Int)
 | 0, _, _, _, _ => none
 | k + 1, x1, x12, x1000, x1001 => if x12 = true then ((spec_l20Rd_pick.f k x1000 x1001 (x1.length : Int)).bind fun bt315 => (if 0 ≤ bt315.1 then (if bt315.1 < (x1.length : Int) then (some ((rd_T43 x1 bt315.1).f0, bt315.2)) else (none)) else (none))) else ((spec_l20Rd_pick.f k x1000 x1001 10).bind fun bt318 => (some (wrap64 (bt318.1 - 1), bt318.2)))
def spec_l20Shard.f (k : Nat) (s0_0 : List Int) (s0_1 : Int) (l1 : List (S43)) : Option (Int × Int) := if (l1.length : Int) > 0 then ((spec_l20Rd_pick.f k s0_0 s0_1 4).bind fun bt313 => (spec_l20Shard.j0 k l1 (decide (bt313.1 > 0)) s0_0 bt313.2)) else (spec_l20Shard.j0 k l1 false s0_0 s0_1)
theorem spec_l20Shard.mono_l : ∀ k, (∀ y0 y1 y2 y3, LeO (spec_l20Shard.j0 k y0 y1 y2 y3) (spec_l20Shard.j0 (k + 1) y0 y1 y2 y3))
 | 0 => fun _ _ _ _ r h => by simp [spec_l20Shard.j0] at h
 | k + 1 => by
  have ih0 := spec_l20Shard.mono_l k
  ·
   intro y0 y1 y2 y3
   unfold spec_l20Shard.j0
   repeat' first
   | (with_reducible exact ih0 _ _ _ _)
   | (with_reducible exact spec_l20Rd_pick.mono _ _ _ _)
   | (with_reducible exact LeO.refl _)
   | (with_reducible exact LeO.none _)
   | (with_reducible refine LeO.ite ?_ ?_)
   | (with_reducible refine LeO.bind ?_ (fun _ => ?_))
   | exact ih0 _ _ _ _
   | exact spec_l20Rd_pick.mono _ _ _ _
   | exact LeO.none _
   | refine LeO.ite ?_ ?_
   | refine LeO.bind ?_ (fun _ => ?_)
theorem spec_l20Shard.mono : ∀ a0 a1 a2 k, LeO (spec_l20Shard.f k a0 a1 a2) (spec_l20Shard.f (k + 1) a0 a1 a2) := by
 intro a0 a1 a2 k
 have ih0 := spec_l20Shard.mono_l k
 unfold spec_l20Shard.f
 repeat' first
   | (with_reducible exact ih0 _ _ _ _)
   | (with_reducible exact spec_l20Rd_pick.mono _ _ _ _)
   | (with_reducible exact LeO.refl _)
   | (with_reducible exact LeO.none _)
   | (with_reducible refine LeO.ite ?_ ?_)
   | (with_reducible refine LeO.bind ?_ (fun _ => ?_))
   | exact ih0 _ _ _ _
   | exact spec_l20Rd_pick.mono _ _ _ _
   | exact LeO.none _
   | refine LeO.ite ?_ ?_
   | refine LeO.bind ?_ (fun _ => ?_)
set_option maxHeartbeats 8000000 in
set_option maxRecDepth 100000 in
theorem spec_l20Shard.calls (k : Nat) (g : Nat) (s0_0 : List Int) (s0_1 : Int) (A1 : Option Addr) (c1 : Nat) (l1 : List (S43)) (r1 : Int) (r2 : Int) (w0 w : World) (hI : IsS108 w0 w g s0_0 s0_1) (hB : Below w0.heap.size w0 w) (hr1 : ∀ W_, KeepBut w W_ g none → Kd.C k43 W_ A1 l1.length l1) (hc1 : l1.length ≤ c1) (h : spec_l20Shard.f k s0_0 s0_1 l1 = some (r1, r2)) :
  Calls Try.prog 76 #[.pointer (some ⟨g, 0, none⟩), .slice A1 l1.length c1] w fun e w' => e = .returned (.int .i64 r1) ∧ IsS108 w0 w' g s0_0 r2 ∧ Below w0.heap.size w0 w' ∧ KeepBut w w' g none := by
 have HR1 := Aside0.mk hr1
 have HC1 := Aside0.mk hc1
 clear hr1 hc1
 have HI0 := Aside0.mk hI
 have HK := Aside0.mk (KeepBut.refl w g none)
 have HL := Aside0.mk hB.size
 clear hI
 have HW0 := Aside0.mk hB.size
 have HB := Aside0.mk hB
 clear hB
 have H : (if (l1.length : Int) > 0 then ((spec_l20Rd_pick.f k s0_0 s0_1 4).bind fun bt313 => (spec_l20Shard.j0 k l1 (decide (bt313.1 > 0)) s0_0 bt313.2)) else (spec_l20Shard.j0 k l1 false s0_0 s0_1)) = some (r1, r2) := h
 clear h
 have HC3 := Aside0.mk H
 clear H
 go_enter Try.func76, Try.ntmps76
 go_upto_region 1 with (fail)
 go_cut [12] (fun v12 wc => ∃ (kq : Nat) (x12_2 : Bool) (x1001_2 : Int), v12 = .bool x12_2 ∧ Aside0 (spec_l20Shard.j0 kq l1 x12_2 s0_0 x1001_2 = some (r1, r2)) ∧ Aside0 (kq ≤ k) ∧ Aside0 (IsS108 w0 wc g s0_0 x1001_2) ∧ Aside0 (KeepBut w wc g none) ∧ Aside0 (Below w0.heap.size w0 wc))
 case first =>
  have H := HC3.out
  clear HC3
  by_cases c4 : (l1.length : Int) > 0
  ·
   rw [if_pos c4] at H
   have c4b0 : decide (0 < (l1.length : Int)) = true := decide_eq_true c4
   have c4b1 : decide (0 < l1.length) = true := decide_eq_true (by omega)
   clear c4
   (first | rw [c4b0] | (simp only [i64_w, i32_w]; rw [c4b0]) | skip)
   replace H := Option.bind_eq_some_iff.mp H
   obtain ⟨⟨t313, t314⟩, A50, H⟩ := H
   try dsimp only at H
   have A5 := Aside0.mk A50
   clear A50
   have H' := Aside0.mk H
   clear H
   go_wp2_with (first | (go_at_call 91; (with_reducible refine (spec_l20Rd_pick.calls k g s0_0 s0_1 4 t313 t314 w0 _ ?side1 ?side2 A5.out).mono ?_); (case side1 => repeat (first | (with_reducible first | exact HI0.out | apply IsS108.alloc | apply IsS108.drewN | apply IsS108.drew | apply IsS108.set_1) | exact HI0.out)); (case side2 => repeat (first | (with_reducible first | exact HB.out | apply below_alloc | apply pw_below_drewN | apply below_drew1 | refine below_set ?_ (IsS108.ge HI0.out)) | exact HB.out)); rintro e w6 ⟨rfl, hi, hb, hk⟩; have n0_ := Aside0.mk (KeepBut.trans (by repeat (first | (with_reducible first | exact HK.out | apply KeepBut.set_ | apply keep_drewN | apply keep_drew | apply keep_alloc) | exact HK.out)) hk (.inl rfl)); have n1_ := Aside0.mk (hb); have n2_ := Aside0.mk (hi); clear HK; clear HB; clear HI0; have HK := n0_; have HB := n1_; have HI0 := n2_; clear n0_ n1_ n2_; (try clear hb); (try clear hb2); (try clear hk); (try clear hi)))
   go_meet
   case rel => exact ⟨_, (decide (t313 > 0)), (t314), (by first | rfl | (simp; done) | exact congrArg Value.bool (ne_nil_b _) | exact congrArg Value.bool (eq_nil_b _) | (simp [*]; done)), H', ⟨by first | omega | exact Nat.le_refl _⟩, ⟨by repeat (first | (with_reducible first | exact HI0.out | apply IsS108.alloc | apply IsS108.drewN | apply IsS108.drew | apply IsS108.set_1) | exact HI0.out)⟩, ⟨by repeat (first | (with_reducible first | exact HK.out | apply KeepBut.set_ | apply keep_drewN | apply keep_drew | apply keep_alloc) | exact HK.out)⟩, ⟨by repeat (first | (with_reducible first | exact HB.out | apply below_alloc | apply pw_below_drewN | apply below_drew1 | refine below_set ?_ (IsS108.ge HI0.out)) | exact HB.out)⟩⟩
  ·
   rw [if_neg c4] at H
   have c4b0 : decide (0 < (l1.length : Int)) = false := decide_eq_false c4
   have c4b1 : decide (0 < l1.length) = false := decide_eq_false (by omega)
   clear c4
   (first | rw [c4b0] | (simp only [i64_w, i32_w]; rw [c4b0]) | skip)
   have H' := Aside0.mk H
   clear H
   go_wp2
   go_meet
   case rel => exact ⟨_, (false), (s0_1), (by first | rfl | (simp; done) | exact congrArg Value.bool (ne_nil_b _) | exact congrArg Value.bool (eq_nil_b _) | (simp [*]; done)), H', ⟨by first | omega | exact Nat.le_refl _⟩, ⟨by repeat (first | (with_reducible first | exact HI0.out | apply IsS108.alloc | apply IsS108.drewN | apply IsS108.drew | apply IsS108.set_1) | exact HI0.out)⟩, ⟨by repeat (first | (with_reducible first | exact HK.out | apply KeepBut.set_ | apply keep_drewN | apply keep_drew | apply keep_alloc) | exact HK.out)⟩, ⟨by repeat (first | (with_reducible first | exact HB.out | apply below_alloc | apply pw_below_drewN | apply below_drew1 | refine below_set ?_ (IsS108.ge HI0.out)) | exact HB.out)⟩⟩
 case rest =>
  clear HC3
  try clear c1
  try clear p2
  try clear c4
  try clear c4b0
  try clear c4b1
  obtain ⟨kq, x12_2, x1001_2, rfl, HA, HJ2, HI0, HK, HB⟩ := hcut
  cases kq with
  | zero => exact absurd HA.out (by simp [spec_l20Shard.j0])
  | succ kj2 =>
   have H := HA.out
   clear HA
   simp only [spec_l20Shard.j0] at H
   by_cases c7 : x12_2 = true
   ·
    subst c7
    rw [if_pos rfl] at H
    replace H := Option.bind_eq_some_iff.mp H
    obtain ⟨⟨t315, t316⟩, A80, H⟩ := H
    try dsimp only at H
    have A8 := Aside0.mk A80
    clear A80
    by_cases c9 : 0 ≤ t315
    ·
     rw [if_pos c9] at H
     have c9b0 : decide (0 ≤ t315) = true := decide_eq_true c9
     clear c9
     by_cases c10 : t315 < (l1.length : Int)
     ·
      rw [if_pos c10] at H
      have c10b0 : decide (t315 < (l1.length : Int)) = true := decide_eq_true c10
      clear c10
      simp only [Option.some.injEq, Prod.mk.injEq] at H
      obtain ⟨rfl, rfl⟩ := H
      go_wp2_with (first | ((with_reducible refine gate_callee (f := 91) rfl ?_); refine goesL_ (some 17) rfl rfl Try.func91 (by kernel_rfl) rfl #[.pointer (some ⟨g, 0, none⟩), .int .i64 (l1.length : Int)] rfl (by (try simp only [List.map_toArray, List.map_cons, List.map_nil]); first | done | rfl | (simp only [List.length_drop, List.length_take]; rfl)) ?_; (with_reducible refine (spec_l20Rd_pick.calls kj2 g s0_0 x1001_2 (l1.length : Int) t315 t316 w0 _ ?side1 ?side2 A8.out).mono ?_); (case side1 => repeat (first | (with_reducible first | exact HI0.out | apply IsS108.alloc | apply IsS108.drewN | apply IsS108.drew | apply IsS108.set_1) | exact HI0.out)); (case side2 => repeat (first | (with_reducible first | exact HB.out | apply below_alloc | apply pw_below_drewN | apply below_drew1 | refine below_set ?_ (IsS108.ge HI0.out)) | exact HB.out)); rintro e w11 ⟨rfl, hi, hb, hk⟩; refine ⟨_, rfl, ?_⟩; have n0_ := Aside0.mk (KeepBut.trans (by repeat (first | (with_reducible first | exact HK.out | apply KeepBut.set_ | apply keep_drewN | apply keep_drew | apply keep_alloc) | exact HK.out)) hk (.inl rfl)); have n1_ := Aside0.mk (hb); have n2_ := Aside0.mk (hi); clear HK; clear HB; clear HI0; have HK := n0_; have HB := n1_; have HI0 := n2_; clear n0_ n1_ n2_; (try clear hb); (try clear hb2); (try clear hk); (try clear hi); have p317 : 0 ≤ (t315 : Int) := of_decide_eq_true (by first | (with_reducible assumption) | assumption); have q317 : t315 < (l1.length : Int) := of_decide_eq_true (by first | (with_reducible assumption) | assumption); obtain ⟨ad317, e317, hx317_0, hx317_1, hx317_2⟩ := at_T43 (Kd.C_foot_now HR1.out HK.out) t315 p317 q317; cases e317; replace p317 := eq_true p317; replace q317 := eq_true q317))
      go_ret
      exact ⟨by first | rfl | (simp only [u8w, w64m]; rfl) | (simp [errW_none, errW_some] <;> rfl) | (simp [*, errW_none, errW_some] <;> rfl), by repeat (first | (with_reducible first | exact HI0.out | apply IsS108.alloc | apply IsS108.drewN | apply IsS108.drew | apply IsS108.set_1) | exact HI0.out), by repeat (first | (with_reducible first | exact HB.out | apply below_alloc | apply pw_below_drewN | apply below_drew1 | refine below_set ?_ (IsS108.ge HI0.out)) | exact HB.out), by repeat (first | (with_reducible first | exact HK.out | apply KeepBut.set_ | apply keep_drewN | apply keep_drew | apply keep_alloc) | exact HK.out)⟩
     ·
      rw [if_neg c10] at H
      exact absurd H (by simp)
    ·
     rw [if_neg c9] at H
     exact absurd H (by simp)
   ·
    replace c7 := Bool.eq_false_iff.mpr c7
    subst c7
    rw [if_neg (show ¬ (false = true) by decide)] at H
    replace H := Option.bind_eq_some_iff.mp H
    obtain ⟨⟨t318, t319⟩, A120, H⟩ := H
    try dsimp only at H
    have A12 := Aside0.mk A120
    clear A120
    simp only [Option.some.injEq, Prod.mk.injEq] at H
    obtain ⟨rfl, rfl⟩ := H
    go_wp2_with (first | ((with_reducible refine gate_callee (f := 91) rfl ?_); refine goesL_ (some 22) rfl rfl Try.func91 (by kernel_rfl) rfl #[.pointer (some ⟨g, 0, none⟩), .int .i64 10] rfl (by (try simp only [List.map_toArray, List.map_cons, List.map_nil]); first | done | rfl | (simp only [List.length_drop, List.length_take]; rfl)) ?_; (with_reducible refine (spec_l20Rd_pick.calls kj2 g s0_0 x1001_2 10 t318 t319 w0 _ ?side1 ?side2 A12.out).mono ?_); (case side1 => repeat (first | (with_reducible first | exact HI0.out | apply IsS108.alloc | apply IsS108.drewN | apply IsS108.drew | apply IsS108.set_1) | exact HI0.out)); (case side2 => repeat (first | (with_reducible first | exact HB.out | apply below_alloc | apply pw_below_drewN | apply below_drew1 | refine below_set ?_ (IsS108.ge HI0.out)) | exact HB.out)); rintro e w13 ⟨rfl, hi, hb, hk⟩; refine ⟨_, rfl, ?_⟩; have n0_ := Aside0.mk (KeepBut.trans (by repeat (first | (with_reducible first | exact HK.out | apply KeepBut.set_ | apply keep_drewN | apply keep_drew | apply keep_alloc) | exact HK.out)) hk (.inl rfl)); have n1_ := Aside0.mk (hb); have n2_ := Aside0.mk (hi); clear HK; clear HB; clear HI0; have HK := n0_; have HB := n1_; have HI0 := n2_; clear n0_ n1_ n2_; (try clear hb); (try clear hb2); (try clear hk); (try clear hi)))
    go_ret
    exact ⟨by first | rfl | (simp only [u8w, w64m]; rfl) | (simp [errW_none, errW_some] <;> rfl) | (simp [*, errW_none, errW_some] <;> rfl), by repeat (first | (with_reducible first | exact HI0.out | apply IsS108.alloc | apply IsS108.drewN | apply IsS108.drew | apply IsS108.set_1) | exact HI0.out), by repeat (first | (with_reducible first | exact HB.out | apply below_alloc | apply pw_below_drewN | apply below_drew1 | refine below_set ?_ (IsS108.ge HI0.out)) | exact HB.out), by repeat (first | (with_reducible first | exact HK.out | apply KeepBut.set_ | apply keep_drewN | apply keep_drew | apply keep_alloc) | exact HK.out)⟩

/-! ### spec_DrawRouteSpan: function 35 -/
def spec_DrawRouteSpan.f (k : Nat) (l0 : List Int) : Option ((List (S43)) × Int) := (spec_l20Open.f l0).bind fun bt320 => ((spec_l20Routes.f k bt320.1 bt320.2 9).bind fun bt323 => ((spec_l20Shard.f k bt320.1 bt323.2 bt323.1).bind fun bt327 => (some (bt323.1, bt327.1))))
theorem spec_DrawRouteSpan.mono : ∀ a0 k, LeO (spec_DrawRouteSpan.f k a0) (spec_DrawRouteSpan.f (k + 1) a0) := by
 intro a0 k
 unfold spec_DrawRouteSpan.f
 repeat' first
   | (with_reducible exact spec_l20Routes.mono _ _ _ _)
   | (with_reducible exact spec_l20Shard.mono _ _ _ _)
   | (with_reducible exact LeO.refl _)
   | (with_reducible exact LeO.none _)
   | (with_reducible refine LeO.ite ?_ ?_)
   | (with_reducible refine LeO.bind ?_ (fun _ => ?_))
   | exact spec_l20Routes.mono _ _ _ _
   | exact spec_l20Shard.mono _ _ _ _
   | exact LeO.none _
   | refine LeO.ite ?_ ?_
   | refine LeO.bind ?_ (fun _ => ?_)
set_option maxHeartbeats 8000000 in
set_option maxRecDepth 100000 in
theorem spec_DrawRouteSpan.calls (k : Nat) (A0 : Option Addr) (c0 : Nat) (l0 : List Int) (r1 : List (S43)) (r2 : Int) (w : World) (hr0 : Kd.C (Kd.int .u8) w A0 l0.length l0) (hc0 : l0.length ≤ c0) (h : spec_DrawRouteSpan.f k l0 = some (r1, r2)) :
  Calls Try.prog 35 #[.slice A0 l0.length c0] w fun e w' => ∃ v0_ : Value, e = .returned (.tuple #[v0_, .int .i64 r2]) ∧ Kd.Q k43 43 w' w.heap.size (fun _ => True) v0_ r1 ∧ Below w.heap.size w w' := by
 have HR0 := Aside0.mk hr0
 have HC0 := Aside0.mk hc0
 clear hr0 hc0
 have HB := Aside0.mk (Below.refl w.heap.size w)
 have H : ((spec_l20Open.f l0).bind fun bt320 => ((spec_l20Routes.f k bt320.1 bt320.2 9).bind fun bt323 => ((spec_l20Shard.f k bt320.1 bt323.2 bt323.1).bind fun bt327 => (some (bt323.1, bt327.1))))) = some (r1, r2) := h
 clear h
 replace H := Option.bind_eq_some_iff.mp H
 obtain ⟨⟨t320, t321⟩, A20, H⟩ := H
 try dsimp only at H
 have A2 := Aside0.mk A20
 clear A20
 replace H := Option.bind_eq_some_iff.mp H
 obtain ⟨⟨t323, t326⟩, A30, H⟩ := H
 try dsimp only at H
 have A3 := Aside0.mk A30
 clear A30
 replace H := Option.bind_eq_some_iff.mp H
 obtain ⟨⟨t327, t328⟩, A40, H⟩ := H
 try dsimp only at H
 have A4 := Aside0.mk A40
 clear A40
 simp only [Option.some.injEq, Prod.mk.injEq] at H
 obtain ⟨rfl, rfl⟩ := H
 go_enter Try.func35, Try.ntmps35
 go_wp2_with (first | ((with_reducible refine gate_callee (f := 64) rfl ?_); refine goesL_ (some 7) rfl rfl Try.func64 (by kernel_rfl) rfl #[.slice A0 l0.length c0] rfl (by (try simp only [List.map_toArray, List.map_cons, List.map_nil]); first | done | rfl | (simp only [List.length_drop, List.length_take]; rfl)) ?_; (with_reducible refine (spec_l20Open.calls _ _ l0 t320 t321 w _ ?side1 ?side2 ?side3 A2.out).mono ?_); (case side1 => repeat (first | (with_reducible first | exact HB.out | apply below_alloc | apply pw_below_drewN | apply below_drew1) | exact HB.out)); (case side2 => exact HR0.out); (case side3 => exact HC0.out); rintro e w5 ⟨g322, rfl, hi, hb, hb2⟩; refine ⟨_, rfl, ?_⟩; have n0_ := Aside0.mk (hb); have n1_ := Aside0.mk (hi); clear HB; have HB := n0_; have HI322 := n1_; clear n0_ n1_; (try clear hb); (try clear hb2); (try clear hk); (try clear hi)) | ((with_reducible refine gate_callee (f := 72) rfl ?_); refine goesL_ (some 9) rfl rfl Try.func72 (by kernel_rfl) rfl #[.pointer (some ⟨g322, 0, none⟩), .int .i64 9] rfl (by (try simp only [List.map_toArray, List.map_cons, List.map_nil]); first | done | rfl | (simp only [List.length_drop, List.length_take]; rfl)) ?_; (with_reducible refine (spec_l20Routes.calls k g322 t320 t321 9 t323 t326 w _ ?side1 ?side2 A3.out).mono ?_); (case side1 => repeat (first | (with_reducible first | exact HI322.out | apply IsS108.alloc | apply IsS108.drewN | apply IsS108.drew | apply IsS108.set_1) | exact HI322.out)); (case side2 => repeat (first | (with_reducible first | exact HB.out | apply below_alloc | apply pw_below_drewN | apply below_drew1 | refine below_set ?_ (IsS108.ge HI322.out)) | exact HB.out)); rintro e w6 ⟨v324, rfl, ho0, hi, hb, hk⟩; refine ⟨_, rfl, ?_⟩; have n0_ := Aside0.mk (Kd.Q_lower ho0 (below_size (by repeat (first | (with_reducible first | exact HB.out | apply below_alloc | apply pw_below_drewN | apply below_drew1 | refine below_set ?_ (IsS108.ge HI322.out)) | exact HB.out)))); have n1_ := Aside0.mk (hb); have n2_ := Aside0.mk (hi); clear HB; clear HI322; have HO325 := n0_; have HB := n1_; have HI322 := n2_; clear n0_ n1_ n2_; (try clear hb); (try clear hb2); (try clear hk); (try clear hi); (try clear ho0); obtain ⟨Ao7, co7, eo7, _⟩ := Kd.Q_slice HO325.out; subst eo7) | ((with_reducible refine gate_callee (f := 76) rfl ?_); refine goesL_ (some 13) rfl rfl Try.func76 (by kernel_rfl) rfl #[.pointer (some ⟨g322, 0, none⟩), .slice Ao7 t323.length co7] rfl (by (try simp only [List.map_toArray, List.map_cons, List.map_nil]); first | done | rfl | (simp only [List.length_drop, List.length_take]; rfl)) ?_; (with_reducible refine (spec_l20Shard.calls k g322 t320 t326 _ _ t323 t327 t328 w _ ?side1 ?side2 ?side3 ?side4 A4.out).mono ?_); (case side1 => repeat (first | (with_reducible first | exact HI322.out | apply IsS108.alloc | apply IsS108.drewN | apply IsS108.drew | apply IsS108.set_1) | exact HI322.out)); (case side2 => repeat (first | (with_reducible first | exact HB.out | apply below_alloc | apply pw_below_drewN | apply below_drew1 | refine below_set ?_ (IsS108.ge HI322.out)) | exact HB.out)); (case side3 => exact Kd.C_foot_ownQ (IsS108.apartQ (show IsS108 w _ g322 t320 t326 from by repeat (first | (with_reducible first | exact HI322.out | apply IsS108.alloc | apply IsS108.drewN | apply IsS108.drew | apply IsS108.set_1) | exact HI322.out)) (by (with_reducible repeat (first | apply Kd.Q_alloc | apply Kd.Q_drewN | apply Kd.Q_drew)); exact HO325.out) (by decide)) (fun _ h_ => h_.2)); (case side4 => exact (Kd.Q_reads' HO325.out).2.1); rintro e w8 ⟨rfl, hi, hb, hk⟩; refine ⟨_, rfl, ?_⟩; have n0_ := Aside0.mk (Kd.Q_mono (Kd.Q_keep (IsS108.apartQ (show IsS108 w _ g322 t320 t326 from by repeat (first | (with_reducible first | exact HI322.out | apply IsS108.alloc | apply IsS108.drewN | apply IsS108.drew | apply IsS108.set_1) | exact HI322.out)) (by (with_reducible repeat (first | apply Kd.Q_alloc | apply Kd.Q_drewN | apply Kd.Q_drew)); exact HO325.out) (by decide)) hk (fun _ h => h.2)) (fun _ h => h.1)); have n1_ := Aside0.mk (hb); have n2_ := Aside0.mk (hi); clear HO325; clear HB; clear HI322; have HO325 := n0_; have HB := n1_; have HI322 := n2_; clear n0_ n1_ n2_; (try clear hb); (try clear hb2); (try clear hk); (try clear hi)))
 go_ret2
 exact ⟨_, by first | rfl | (simp only [u8w, w64m]; rfl) | (simp [errW_none, errW_some] <;> rfl) | (simp [*, errW_none, errW_some] <;> rfl), by (with_reducible repeat (first | apply Kd.Q_alloc | apply Kd.Q_drewN | apply Kd.Q_drew)); exact HO325.out, by repeat (first | (with_reducible first | exact HB.out | apply below_alloc | apply pw_below_drewN | apply below_drew1 | refine below_set ?_ (IsS108.ge HI322.out)) | exact HB.out)⟩

/-! ### laws_FnRouteSpan: function 8 -/
mutual
def laws_FnRouteSpan.j0 : Nat → List (S43) → Int → Bool → Bool → ByteArray → ByteArray → Option (Bool)
 | 0, _, _, _, _, _, _ => none
 | k + 1, x3, x4, x6, x38, x337000, x337001 => if x38 = true then (some false) else (laws_FnRouteSpan.l0 k x3 x4 x6 false 0 x337000 x337001)
def laws_FnRouteSpan.l0 : Nat → List (S43) → Int → Bool → Bool → Int → ByteArray → ByteArray → Option (Bool)
 | 0, _, _, _, _, _, _, _ => none
 | k + 1, x3, x4, x6, x9, x10, x337000, x337001 => if x10 < (x3.length : Int) then ((impl_RoutesValid.f k x3).bind fun t341 => (laws_FnRouteSpan.j2 k x3 x4 x6 x9 x10 t341 x337000 x337001)) else (laws_FnRouteSpan.j2 k x3 x4 x6 x9 x10 false x337000 x337001)
def laws_FnRouteSpan.j2 : Nat → List (S43) → Int → Bool → Bool → Int → Bool → ByteArray → ByteArray → Option (Bool)
 | 0, _, _, _, _, _, _, _, _ => none
 | k + 1, x3, x4, x6, x9, x10, x46, x337000, x337001 => if x46 = true then (if 0 ≤ x10 then (if x10 < (x3.length : Int) then (if ((rd_T43 x3 x10).f0) = x4 then (laws_FnRouteSpan.l0 k x3 x4 x6 ((((rd_T43 x3 x10).f1.f0).toList) == x337000.toList && ((((rd_T43 x3 x10).f1.f1).toList) == x337001.toList)) (wrap64 (x10 + 1)) x337000 x337001) else (laws_FnRouteSpan.l0 k x3 x4 x6 x9 (wrap64 (x10 + 1)) x337000 x337001)) else (none)) else (none)) else (if (x9 == x6) = true then (if x6 = true then ((laws_alive.f k).bind fun t344 => (some t344)) else (if (x337000.toList == ([] : List UInt8) && (x337001.toList == ([] : List UInt8))) = true then ((laws_alive.f k).bind fun t345 => (some t345)) else (some false))) else (some false))
end
def laws_FnRouteSpan.f (k : Nat) (l0 : List Int) : Option (Bool) := if (l0.length : Int) > 1048576 then (some true) else ((spec_DrawRouteSpan.f k l0).bind fun bt329 => ((impl_RouteSpan.f k bt329.1 bt329.2).bind fun bt333 => ((spec_RouteSpan.f k bt329.1 bt329.2).bind fun bt337 => (if (!(bt333.1.toList == bt337.1.toList) || (!(bt333.2.1.toList == bt337.2.1.toList))) = true then (laws_FnRouteSpan.j0 k bt329.1 bt329.2 bt333.2.2 true bt333.1 bt333.2.1) else (laws_FnRouteSpan.j0 k bt329.1 bt329.2 bt333.2.2 (bt333.2.2 != bt337.2.2) bt333.1 bt333.2.1)))))
theorem laws_FnRouteSpan.mono_l : ∀ k, (∀ y0 y1 y2 y3 y4 y5, LeO (laws_FnRouteSpan.j0 k y0 y1 y2 y3 y4 y5) (laws_FnRouteSpan.j0 (k + 1) y0 y1 y2 y3 y4 y5)) ∧ (∀ y0 y1 y2 y3 y4 y5 y6, LeO (laws_FnRouteSpan.l0 k y0 y1 y2 y3 y4 y5 y6) (laws_FnRouteSpan.l0 (k + 1) y0 y1 y2 y3 y4 y5 y6)) ∧ (∀ y0 y1 y2 y3 y4 y5 y6 y7, LeO (laws_FnRouteSpan.j2 k y0 y1 y2 y3 y4 y5 y6 y7) (laws_FnRouteSpan.j2 (k + 1) y0 y1 y2 y3 y4 y5 y6 y7))
 | 0 => ⟨fun _ _ _ _ _ _ r h => by simp [laws_FnRouteSpan.j0] at h, fun _ _ _ _ _ _ _ r h => by simp [laws_FnRouteSpan.l0] at h, fun _ _ _ _ _ _ _ _ r h => by simp [laws_FnRouteSpan.j2] at h⟩
 | k + 1 => by
  obtain ⟨ih0, ih1, ih2⟩ := laws_FnRouteSpan.mono_l k
  refine ⟨?_, ?_, ?_⟩
  ·
   intro y0 y1 y2 y3 y4 y5
   unfold laws_FnRouteSpan.j0
   repeat' first
   | (with_reducible exact ih0 _ _ _ _ _ _)
   | (with_reducible exact ih1 _ _ _ _ _ _ _)
   | (with_reducible exact ih2 _ _ _ _ _ _ _ _)
   | (with_reducible exact impl_RouteSpan.mono _ _ _)
   | (with_reducible exact impl_RoutesValid.mono _ _)
   | (with_reducible exact laws_alive.mono _)
   | (with_reducible exact spec_DrawRouteSpan.mono _ _)
   | (with_reducible exact spec_RouteSpan.mono _ _ _)
   | (with_reducible exact LeO.refl _)
   | (with_reducible exact LeO.none _)
   | (with_reducible refine LeO.ite ?_ ?_)
   | (with_reducible refine LeO.bind ?_ (fun _ => ?_))
   | exact ih0 _ _ _ _ _ _
   | exact ih1 _ _ _ _ _ _ _
   | exact ih2 _ _ _ _ _ _ _ _
   | exact impl_RouteSpan.mono _ _ _
   | exact impl_RoutesValid.mono _ _
   | exact laws_alive.mono _
   | exact spec_DrawRouteSpan.mono _ _
   | exact spec_RouteSpan.mono _ _ _
   | exact LeO.none _
   | refine LeO.ite ?_ ?_
   | refine LeO.bind ?_ (fun _ => ?_)
  ·
   intro y0 y1 y2 y3 y4 y5 y6
   unfold laws_FnRouteSpan.l0
   repeat' first
   | (with_reducible exact ih0 _ _ _ _ _ _)
   | (with_reducible exact ih1 _ _ _ _ _ _ _)
   | (with_reducible exact ih2 _ _ _ _ _ _ _ _)
   | (with_reducible exact impl_RouteSpan.mono _ _ _)
   | (with_reducible exact impl_RoutesValid.mono _ _)
   | (with_reducible exact laws_alive.mono _)
   | (with_reducible exact spec_DrawRouteSpan.mono _ _)
   | (with_reducible exact spec_RouteSpan.mono _ _ _)
   | (with_reducible exact LeO.refl _)
   | (with_reducible exact LeO.none _)
   | (with_reducible refine LeO.ite ?_ ?_)
   | (with_reducible refine LeO.bind ?_ (fun _ => ?_))
   | exact ih0 _ _ _ _ _ _
   | exact ih1 _ _ _ _ _ _ _
   | exact ih2 _ _ _ _ _ _ _ _
   | exact impl_RouteSpan.mono _ _ _
   | exact impl_RoutesValid.mono _ _
   | exact laws_alive.mono _
   | exact spec_DrawRouteSpan.mono _ _
   | exact spec_RouteSpan.mono _ _ _
   | exact LeO.none _
   | refine LeO.ite ?_ ?_
   | refine LeO.bind ?_ (fun _ => ?_)
  ·
   intro y0 y1 y2 y3 y4 y5 y6 y7
   unfold laws_FnRouteSpan.j2
   repeat' first
   | (with_reducible exact ih0 _ _ _ _ _ _)
   | (with_reducible exact ih1 _ _ _ _ _ _ _)
   | (with_reducible exact ih2 _ _ _ _ _ _ _ _)
   | (with_reducible exact impl_RouteSpan.mono _ _ _)
   | (with_reducible exact impl_RoutesValid.mono _ _)
   | (with_reducible exact laws_alive.mono _)
   | (with_reducible exact spec_DrawRouteSpan.mono _ _)
   | (with_reducible exact spec_RouteSpan.mono _ _ _)
   | (with_reducible exact LeO.refl _)
   | (with_reducible exact LeO.none _)
   | (with_reducible refine LeO.ite ?_ ?_)
   | (with_reducible refine LeO.bind ?_ (fun _ => ?_))
   | exact ih0 _ _ _ _ _ _
   | exact ih1 _ _ _ _ _ _ _
   | exact ih2 _ _ _ _ _ _ _ _
   | exact impl_RouteSpan.mono _ _ _
   | exact impl_RoutesValid.mono _ _
   | exact laws_alive.mono _
   | exact spec_DrawRouteSpan.mono _ _
   | exact spec_RouteSpan.mono _ _ _
   | exact LeO.none _
   | refine LeO.ite ?_ ?_
   | refine LeO.bind ?_ (fun _ => ?_)
theorem laws_FnRouteSpan.mono : ∀ a0 k, LeO (laws_FnRouteSpan.f k a0) (laws_FnRouteSpan.f (k + 1) a0) := by
 intro a0 k
 obtain ⟨ih0, ih1, ih2⟩ := laws_FnRouteSpan.mono_l k
 unfold laws_FnRouteSpan.f
 repeat' first
   | (with_reducible exact ih0 _ _ _ _ _ _)
   | (with_reducible exact ih1 _ _ _ _ _ _ _)
   | (with_reducible exact ih2 _ _ _ _ _ _ _ _)
   | (with_reducible exact impl_RouteSpan.mono _ _ _)
   | (with_reducible exact impl_RoutesValid.mono _ _)
   | (with_reducible exact laws_alive.mono _)
   | (with_reducible exact spec_DrawRouteSpan.mono _ _)
   | (with_reducible exact spec_RouteSpan.mono _ _ _)
   | (with_reducible exact LeO.refl _)
   | (with_reducible exact LeO.none _)
   | (with_reducible refine LeO.ite ?_ ?_)
   | (with_reducible refine LeO.bind ?_ (fun _ => ?_))
   | exact ih0 _ _ _ _ _ _
   | exact ih1 _ _ _ _ _ _ _
   | exact ih2 _ _ _ _ _ _ _ _
   | exact impl_RouteSpan.mono _ _ _
   | exact impl_RoutesValid.mono _ _
   | exact laws_alive.mono _
   | exact spec_DrawRouteSpan.mono _ _
   | exact spec_RouteSpan.mono _ _ _
   | exact LeO.none _
   | refine LeO.ite ?_ ?_
   | refine LeO.bind ?_ (fun _ => ?_)
set_option maxHeartbeats 8000000 in
set_option maxRecDepth 100000 in
theorem laws_FnRouteSpan.calls (k : Nat) (A0 : Option Addr) (c0 : Nat) (l0 : List Int) (r : Bool) (w : World) (hr0 : Kd.C (Kd.int .u8) w A0 l0.length l0) (hc0 : l0.length ≤ c0) (h : laws_FnRouteSpan.f k l0 = some r) :
  Calls Try.prog 8 #[.slice A0 l0.length c0] w fun e w' => e = .returned (.bool r) ∧ Below w.heap.size w w' := by
 have hu25 := Try.underlying25
 have HR0 := Aside0.mk hr0
 have HC0 := Aside0.mk hc0
 clear hr0 hc0
 have HB := Aside0.mk (Below.refl w.heap.size w)
 have H : (if (l0.length : Int) > 1048576 then (some true) else ((spec_DrawRouteSpan.f k l0).bind fun bt329 => ((impl_RouteSpan.f k bt329.1 bt329.2).bind fun bt333 => ((spec_RouteSpan.f k bt329.1 bt329.2).bind fun bt337 => (if (!(bt333.1.toList == bt337.1.toList) || (!(bt333.2.1.toList == bt337.2.1.toList))) = true then (laws_FnRouteSpan.j0 k bt329.1 bt329.2 bt333.2.2 true bt333.1 bt333.2.1) else (laws_FnRouteSpan.j0 k bt329.1 bt329.2 bt333.2.2 (bt333.2.2 != bt337.2.2) bt333.1 bt333.2.1)))))) = some r := h
 clear h
 by_cases c2 : (l0.length : Int) > 1048576
 ·
  rw [if_pos c2] at H
  have c2b0 : decide (1048576 < (l0.length : Int)) = true := decide_eq_true c2
  have c2b1 : decide (1048576 < l0.length) = true := decide_eq_true (by omega)
  clear c2
  obtain rfl := Option.some.inj H
  go_enter Try.func8, Try.ntmps8
  go_wp2
  repeat (go_quiet (fail); try go_wp2)
  go_ret
  exact ⟨by first | rfl | (simp only [u8w, w64m]; rfl) | (simp [errW_none, errW_some] <;> rfl) | (simp [*, errW_none, errW_some] <;> rfl), bz⟩
 ·
  rw [if_neg c2] at H
  have c2b0 : decide (1048576 < (l0.length : Int)) = false := decide_eq_false c2
  have c2b1 : decide (1048576 < l0.length) = false := decide_eq_false (by omega)
  clear c2
  replace H := Option.bind_eq_some_iff.mp H
  obtain ⟨⟨t329, t330⟩, A30, H⟩ := H
  try dsimp only at H
  have A3 := Aside0.mk A30
  clear A30
  replace H := Option.bind_eq_some_iff.mp H
  obtain ⟨⟨t333, t334, t335⟩, A40, H⟩ := H
  try dsimp only at H
  have A4 := Aside0.mk A40
  clear A40
  replace H := Option.bind_eq_some_iff.mp H
  obtain ⟨⟨t337, t338, t339⟩, A50, H⟩ := H
  try dsimp only at H
  have A5 := Aside0.mk A50
  clear A50
  have HC6 := Aside0.mk H
  clear H
  go_enter Try.func8, Try.ntmps8
  go_upto_region 6 with (first | (go_at_call 35; (with_reducible refine (spec_DrawRouteSpan.calls k _ _ l0 t329 t330 _ ?side1 ?side2 A3.out).mono ?_); (case side1 => repeat (first | exact HR0.out | (with_reducible refine Kd.C_alloc ?_ _) | (with_reducible refine Kd.C_drewN ?_ _) | (with_reducible refine Kd.C_drew ?_))); (case side2 => exact HC0.out); rintro e w7 ⟨v331, rfl, ho0, hb⟩; have n0_ := Aside0.mk (Kd.Q_lower ho0 (below_size (bz))); have n1_ := Aside0.mk (below_step (bz) hb); clear HB; have HO332 := n0_; have HB := n1_; clear n0_ n1_; (try clear hb); (try clear hb2); (try clear hk); (try clear hi); (try clear ho0); obtain ⟨Ao8, co8, eo8, _⟩ := Kd.Q_slice HO332.out; subst eo8) | (go_at_call 17; (with_reducible refine (impl_RouteSpan.calls k _ _ t329 t330 t333 t334 t335 _ ?side1 ?side2 A4.out).mono ?_); (case side1 => repeat (first | exact (Kd.Q_reads' HO332.out).2.2 | (with_reducible refine Kd.C_alloc ?_ _) | (with_reducible refine Kd.C_drewN ?_ _) | (with_reducible refine Kd.C_drew ?_))); (case side2 => exact (Kd.Q_reads' HO332.out).2.1); rintro e w9 ⟨rfl, hb⟩; have n0_ := Aside0.mk (Kd.Q_below (by (with_reducible repeat (first | apply Kd.Q_alloc | apply Kd.Q_drewN | apply Kd.Q_drew)); exact HO332.out) hb); have n1_ := Aside0.mk (below_step (bz) hb); clear HO332; clear HB; have HO332 := n0_; have HB := n1_; clear n0_ n1_; (try clear hb); (try clear hb2); (try clear hk); (try clear hi)) | ((with_reducible refine gate_dst (N := 5) rfl ?_); refine box_event ?hg (N := 5) ?hd (cs := #[.string (⟨#[]⟩ : ByteArray), .string (⟨#[]⟩ : ByteArray)]) (t := 25) ?hr ?_; (case hd => rfl); (case hg => rfl); (case hr => first | (go_simp; done) | (go_simp; rfl)); intro gb336 hg w10 hbox hb; have n0_ := Aside0.mk (Kd.Q_below (by (with_reducible repeat (first | apply Kd.Q_alloc | apply Kd.Q_drewN | apply Kd.Q_drew)); exact HO332.out) hb); have n1_ := Aside0.mk (below_step (bz) hb); have n2_ := Aside0.mk (hbox); have n3_ : Aside0 (w.heap.size ≤ gb336) := bsg hg; have n4_ : Aside0 (w.heap.size ≤ gb336) := bsg hg; clear HO332; clear HB; have HO332 := n0_; have HB := n1_; have BK336 := n2_; have GW336 := n3_; have GE336 := n4_; clear n0_ n1_ n2_ n3_ n4_; clear hb hbox hg; have hcz11_0 : w10.cell? ⟨gb336, 0, none⟩ = some (.string (⟨#[]⟩ : ByteArray)) := (blk_cell BK336.out 0).trans rfl; have hcz11_1 : w10.cell? ⟨gb336, 1, none⟩ = some (.string (⟨#[]⟩ : ByteArray)) := (blk_cell BK336.out 1).trans rfl; have hfz11_0 := blk_frozen BK336.out 0; have hfz11_1 := blk_frozen BK336.out 1) | (go_at_call 15; (with_reducible refine (spec_RouteSpan.calls k _ _ t329 t330 t337 t338 t339 _ ?side1 ?side2 A5.out).mono ?_); (case side1 => refine (Kd.Q_reads' (e := 43) (base := w.heap.size) (ok := fun k_ => True) (n := t329.length) (c := co8) ?_).2.2; exact (by (with_reducible repeat (first | apply Kd.Q_alloc | apply Kd.Q_drewN | apply Kd.Q_drew)); exact (Kd.Q_mono (Kd.Q_far (p := ⟨gb336, 1, none⟩) (Kd.Q_far (p := ⟨gb336, 0, none⟩) (Kd.Q_types HO332.out BK336.out (by decide)) (fun _ hk => hk.2) (.string t333)) (fun _ hk => hk.2) (.string t334)) (fun _ h_ => h_.1)))); (case side2 => exact (Kd.Q_reads' HO332.out).2.1); rintro e w12 ⟨rfl, hb⟩; have n0_ := Aside0.mk (Kd.Q_below (by (with_reducible repeat (first | apply Kd.Q_alloc | apply Kd.Q_drewN | apply Kd.Q_drew)); exact (Kd.Q_mono (Kd.Q_far (p := ⟨gb336, 1, none⟩) (Kd.Q_far (p := ⟨gb336, 0, none⟩) (Kd.Q_types HO332.out BK336.out (by decide)) (fun _ hk => hk.2) (.string t333)) (fun _ hk => hk.2) (.string t334)) (fun _ h_ => h_.1))) hb); have n1_ := Aside0.mk (blk_below (g := gb336) (o := .cells #[.string t333, .string t334] 25 (0, 0)) (by (with_reducible repeat (first | refine blk_drewN ?_ _ | refine blk_drew ?_ | refine blk_alloc ?_ _)); refine blk_put (cs := #[.string t333, .string (⟨#[]⟩ : ByteArray)]) ?_ 1 _ rfl; (with_reducible repeat (first | refine blk_drewN ?_ _ | refine blk_drew ?_ | refine blk_alloc ?_ _)); refine blk_put (cs := #[.string (⟨#[]⟩ : ByteArray), .string (⟨#[]⟩ : ByteArray)]) ?_ 0 _ rfl; (with_reducible repeat (first | refine blk_drewN ?_ _ | refine blk_drew ?_ | refine blk_alloc ?_ _)); exact BK336.out) hb); have n2_ := Aside0.mk (below_step (bz) hb); clear HO332; clear BK336; clear HB; have HO332 := n0_; have BK336 := n1_; have HB := n2_; clear n0_ n1_ n2_; (try clear hb); (try clear hb2); (try clear hk); (try clear hi)) | ((with_reducible refine gate_dst (N := 7) rfl ?_); refine box_event ?hg (N := 7) ?hd (cs := #[.string (⟨#[]⟩ : ByteArray), .string (⟨#[]⟩ : ByteArray)]) (t := 25) ?hr ?_; (case hd => rfl); (case hg => rfl); (case hr => first | (go_simp; done) | (go_simp; rfl)); intro gb340 hg w13 hbox hb; have n0_ := Aside0.mk (Kd.Q_below (by (with_reducible repeat (first | apply Kd.Q_alloc | apply Kd.Q_drewN | apply Kd.Q_drew)); exact HO332.out) hb); have n1_ := bkb BK336 hb; have n2_ := Aside0.mk (below_step (bz) hb); have n3_ := Aside0.mk (hbox); have n4_ : Aside0 (w.heap.size ≤ gb340) := bsg hg; have n5_ : Aside0 (w.heap.size ≤ gb340) := bsg hg; have n6_ := nlt hg BK336; have n7_ := ngt hg BK336; clear HO332; clear BK336; clear HB; have HO332 := n0_; have BK336 := n1_; have HB := n2_; have BK340 := n3_; have GW340 := n4_; have GE340 := n5_; have NB336_340 := n6_; have NB340_336 := n7_; clear n0_ n1_ n2_ n3_ n4_ n5_ n6_ n7_; clear hb hbox hg; have hnb14 := NB340_336.out; have hnc14 := NB336_340.out; have hcz15_0 : w13.cell? ⟨gb340, 0, none⟩ = some (.string (⟨#[]⟩ : ByteArray)) := (blk_cell BK340.out 0).trans rfl; have hcz15_1 : w13.cell? ⟨gb340, 1, none⟩ = some (.string (⟨#[]⟩ : ByteArray)) := (blk_cell BK340.out 1).trans rfl; have hfz15_0 := blk_frozen BK340.out 0; have hfz15_1 := blk_frozen BK340.out 1))
  repeat (go_quiet (first | (go_at_call 35; (with_reducible refine (spec_DrawRouteSpan.calls k _ _ l0 t329 t330 _ ?side1 ?side2 A3.out).mono ?_); (case side1 => repeat (first | exact HR0.out | (with_reducible refine Kd.C_alloc ?_ _) | (with_reducible refine Kd.C_drewN ?_ _) | (with_reducible refine Kd.C_drew ?_))); (case side2 => exact HC0.out); rintro e w7 ⟨v331, rfl, ho0, hb⟩; have n0_ := Aside0.mk (Kd.Q_lower ho0 (below_size (bz))); have n1_ := Aside0.mk (below_step (bz) hb); clear HB; have HO332 := n0_; have HB := n1_; clear n0_ n1_; (try clear hb); (try clear hb2); (try clear hk); (try clear hi); (try clear ho0); obtain ⟨Ao8, co8, eo8, _⟩ := Kd.Q_slice HO332.out; subst eo8) | (go_at_call 17; (with_reducible refine (impl_RouteSpan.calls k _ _ t329 t330 t333 t334 t335 _ ?side1 ?side2 A4.out).mono ?_); (case side1 => repeat (first | exact (Kd.Q_reads' HO332.out).2.2 | (with_reducible refine Kd.C_alloc ?_ _) | (with_reducible refine Kd.C_drewN ?_ _) | (with_reducible refine Kd.C_drew ?_))); (case side2 => exact (Kd.Q_reads' HO332.out).2.1); rintro e w9 ⟨rfl, hb⟩; have n0_ := Aside0.mk (Kd.Q_below (by (with_reducible repeat (first | apply Kd.Q_alloc | apply Kd.Q_drewN | apply Kd.Q_drew)); exact HO332.out) hb); have n1_ := Aside0.mk (below_step (bz) hb); clear HO332; clear HB; have HO332 := n0_; have HB := n1_; clear n0_ n1_; (try clear hb); (try clear hb2); (try clear hk); (try clear hi)) | ((with_reducible refine gate_dst (N := 5) rfl ?_); refine box_event ?hg (N := 5) ?hd (cs := #[.string (⟨#[]⟩ : ByteArray), .string (⟨#[]⟩ : ByteArray)]) (t := 25) ?hr ?_; (case hd => rfl); (case hg => rfl); (case hr => first | (go_simp; done) | (go_simp; rfl)); intro gb336 hg w10 hbox hb; have n0_ := Aside0.mk (Kd.Q_below (by (with_reducible repeat (first | apply Kd.Q_alloc | apply Kd.Q_drewN | apply Kd.Q_drew)); exact HO332.out) hb); have n1_ := Aside0.mk (below_step (bz) hb); have n2_ := Aside0.mk (hbox); have n3_ : Aside0 (w.heap.size ≤ gb336) := bsg hg; have n4_ : Aside0 (w.heap.size ≤ gb336) := bsg hg; clear HO332; clear HB; have HO332 := n0_; have HB := n1_; have BK336 := n2_; have GW336 := n3_; have GE336 := n4_; clear n0_ n1_ n2_ n3_ n4_; clear hb hbox hg; have hcz11_0 : w10.cell? ⟨gb336, 0, none⟩ = some (.string (⟨#[]⟩ : ByteArray)) := (blk_cell BK336.out 0).trans rfl; have hcz11_1 : w10.cell? ⟨gb336, 1, none⟩ = some (.string (⟨#[]⟩ : ByteArray)) := (blk_cell BK336.out 1).trans rfl; have hfz11_0 := blk_frozen BK336.out 0; have hfz11_1 := blk_frozen BK336.out 1) | (go_at_call 15; (with_reducible refine (spec_RouteSpan.calls k _ _ t329 t330 t337 t338 t339 _ ?side1 ?side2 A5.out).mono ?_); (case side1 => refine (Kd.Q_reads' (e := 43) (base := w.heap.size) (ok := fun k_ => True) (n := t329.length) (c := co8) ?_).2.2; exact (by (with_reducible repeat (first | apply Kd.Q_alloc | apply Kd.Q_drewN | apply Kd.Q_drew)); exact (Kd.Q_mono (Kd.Q_far (p := ⟨gb336, 1, none⟩) (Kd.Q_far (p := ⟨gb336, 0, none⟩) (Kd.Q_types HO332.out BK336.out (by decide)) (fun _ hk => hk.2) (.string t333)) (fun _ hk => hk.2) (.string t334)) (fun _ h_ => h_.1)))); (case side2 => exact (Kd.Q_reads' HO332.out).2.1); rintro e w12 ⟨rfl, hb⟩; have n0_ := Aside0.mk (Kd.Q_below (by (with_reducible repeat (first | apply Kd.Q_alloc | apply Kd.Q_drewN | apply Kd.Q_drew)); exact (Kd.Q_mono (Kd.Q_far (p := ⟨gb336, 1, none⟩) (Kd.Q_far (p := ⟨gb336, 0, none⟩) (Kd.Q_types HO332.out BK336.out (by decide)) (fun _ hk => hk.2) (.string t333)) (fun _ hk => hk.2) (.string t334)) (fun _ h_ => h_.1))) hb); have n1_ := Aside0.mk (blk_below (g := gb336) (o := .cells #[.string t333, .string t334] 25 (0, 0)) (by (with_reducible repeat (first | refine blk_drewN ?_ _ | refine blk_drew ?_ | refine blk_alloc ?_ _)); refine blk_put (cs := #[.string t333, .string (⟨#[]⟩ : ByteArray)]) ?_ 1 _ rfl; (with_reducible repeat (first | refine blk_drewN ?_ _ | refine blk_drew ?_ | refine blk_alloc ?_ _)); refine blk_put (cs := #[.string (⟨#[]⟩ : ByteArray), .string (⟨#[]⟩ : ByteArray)]) ?_ 0 _ rfl; (with_reducible repeat (first | refine blk_drewN ?_ _ | refine blk_drew ?_ | refine blk_alloc ?_ _)); exact BK336.out) hb); have n2_ := Aside0.mk (below_step (bz) hb); clear HO332; clear BK336; clear HB; have HO332 := n0_; have BK336 := n1_; have HB := n2_; clear n0_ n1_ n2_; (try clear hb); (try clear hb2); (try clear hk); (try clear hi)) | ((with_reducible refine gate_dst (N := 7) rfl ?_); refine box_event ?hg (N := 7) ?hd (cs := #[.string (⟨#[]⟩ : ByteArray), .string (⟨#[]⟩ : ByteArray)]) (t := 25) ?hr ?_; (case hd => rfl); (case hg => rfl); (case hr => first | (go_simp; done) | (go_simp; rfl)); intro gb340 hg w13 hbox hb; have n0_ := Aside0.mk (Kd.Q_below (by (with_reducible repeat (first | apply Kd.Q_alloc | apply Kd.Q_drewN | apply Kd.Q_drew)); exact HO332.out) hb); have n1_ := bkb BK336 hb; have n2_ := Aside0.mk (below_step (bz) hb); have n3_ := Aside0.mk (hbox); have n4_ : Aside0 (w.heap.size ≤ gb340) := bsg hg; have n5_ : Aside0 (w.heap.size ≤ gb340) := bsg hg; have n6_ := nlt hg BK336; have n7_ := ngt hg BK336; clear HO332; clear BK336; clear HB; have HO332 := n0_; have BK336 := n1_; have HB := n2_; have BK340 := n3_; have GW340 := n4_; have GE340 := n5_; have NB336_340 := n6_; have NB340_336 := n7_; clear n0_ n1_ n2_ n3_ n4_ n5_ n6_ n7_; clear hb hbox hg; have hnb14 := NB340_336.out; have hnc14 := NB336_340.out; have hcz15_0 : w13.cell? ⟨gb340, 0, none⟩ = some (.string (⟨#[]⟩ : ByteArray)) := (blk_cell BK340.out 0).trans rfl; have hcz15_1 : w13.cell? ⟨gb340, 1, none⟩ = some (.string (⟨#[]⟩ : ByteArray)) := (blk_cell BK340.out 1).trans rfl; have hfz15_0 := blk_frozen BK340.out 0; have hfz15_1 := blk_frozen BK340.out 1)); go_upto_region 6 with (first | (go_at_call 35; (with_reducible refine (spec_DrawRouteSpan.calls k _ _ l0 t329 t330 _ ?side1 ?side2 A3.out).mono ?_); (case side1 => repeat (first | exact HR0.out | (with_reducible refine Kd.C_alloc ?_ _) | (with_reducible refine Kd.C_drewN ?_ _) | (with_reducible refine Kd.C_drew ?_))); (case side2 => exact HC0.out); rintro e w7 ⟨v331, rfl, ho0, hb⟩; have n0_ := Aside0.mk (Kd.Q_lower ho0 (below_size (bz))); have n1_ := Aside0.mk (below_step (bz) hb); clear HB; have HO332 := n0_; have HB := n1_; clear n0_ n1_; (try clear hb); (try clear hb2); (try clear hk); (try clear hi); (try clear ho0); obtain ⟨Ao8, co8, eo8, _⟩ := Kd.Q_slice HO332.out; subst eo8) | (go_at_call 17; (with_reducible refine (impl_RouteSpan.calls k _ _ t329 t330 t333 t334 t335 _ ?side1 ?side2 A4.out).mono ?_); (case side1 => repeat (first | exact (Kd.Q_reads' HO332.out).2.2 | (with_reducible refine Kd.C_alloc ?_ _) | (with_reducible refine Kd.C_drewN ?_ _) | (with_reducible refine Kd.C_drew ?_))); (case side2 => exact (Kd.Q_reads' HO332.out).2.1); rintro e w9 ⟨rfl, hb⟩; have n0_ := Aside0.mk (Kd.Q_below (by (with_reducible repeat (first | apply Kd.Q_alloc | apply Kd.Q_drewN | apply Kd.Q_drew)); exact HO332.out) hb); have n1_ := Aside0.mk (below_step (bz) hb); clear HO332; clear HB; have HO332 := n0_; have HB := n1_; clear n0_ n1_; (try clear hb); (try clear hb2); (try clear hk); (try clear hi)) | ((with_reducible refine gate_dst (N := 5) rfl ?_); refine box_event ?hg (N := 5) ?hd (cs := #[.string (⟨#[]⟩ : ByteArray), .string (⟨#[]⟩ : ByteArray)]) (t := 25) ?hr ?_; (case hd => rfl); (case hg => rfl); (case hr => first | (go_simp; done) | (go_simp; rfl)); intro gb336 hg w10 hbox hb; have n0_ := Aside0.mk (Kd.Q_below (by (with_reducible repeat (first | apply Kd.Q_alloc | apply Kd.Q_drewN | apply Kd.Q_drew)); exact HO332.out) hb); have n1_ := Aside0.mk (below_step (bz) hb); have n2_ := Aside0.mk (hbox); have n3_ : Aside0 (w.heap.size ≤ gb336) := bsg hg; have n4_ : Aside0 (w.heap.size ≤ gb336) := bsg hg; clear HO332; clear HB; have HO332 := n0_; have HB := n1_; have BK336 := n2_; have GW336 := n3_; have GE336 := n4_; clear n0_ n1_ n2_ n3_ n4_; clear hb hbox hg; have hcz11_0 : w10.cell? ⟨gb336, 0, none⟩ = some (.string (⟨#[]⟩ : ByteArray)) := (blk_cell BK336.out 0).trans rfl; have hcz11_1 : w10.cell? ⟨gb336, 1, none⟩ = some (.string (⟨#[]⟩ : ByteArray)) := (blk_cell BK336.out 1).trans rfl; have hfz11_0 := blk_frozen BK336.out 0; have hfz11_1 := blk_frozen BK336.out 1) | (go_at_call 15; (with_reducible refine (spec_RouteSpan.calls k _ _ t329 t330 t337 t338 t339 _ ?side1 ?side2 A5.out).mono ?_); (case side1 => refine (Kd.Q_reads' (e := 43) (base := w.heap.size) (ok := fun k_ => True) (n := t329.length) (c := co8) ?_).2.2; exact (by (with_reducible repeat (first | apply Kd.Q_alloc | apply Kd.Q_drewN | apply Kd.Q_drew)); exact (Kd.Q_mono (Kd.Q_far (p := ⟨gb336, 1, none⟩) (Kd.Q_far (p := ⟨gb336, 0, none⟩) (Kd.Q_types HO332.out BK336.out (by decide)) (fun _ hk => hk.2) (.string t333)) (fun _ hk => hk.2) (.string t334)) (fun _ h_ => h_.1)))); (case side2 => exact (Kd.Q_reads' HO332.out).2.1); rintro e w12 ⟨rfl, hb⟩; have n0_ := Aside0.mk (Kd.Q_below (by (with_reducible repeat (first | apply Kd.Q_alloc | apply Kd.Q_drewN | apply Kd.Q_drew)); exact (Kd.Q_mono (Kd.Q_far (p := ⟨gb336, 1, none⟩) (Kd.Q_far (p := ⟨gb336, 0, none⟩) (Kd.Q_types HO332.out BK336.out (by decide)) (fun _ hk => hk.2) (.string t333)) (fun _ hk => hk.2) (.string t334)) (fun _ h_ => h_.1))) hb); have n1_ := Aside0.mk (blk_below (g := gb336) (o := .cells #[.string t333, .string t334] 25 (0, 0)) (by (with_reducible repeat (first | refine blk_drewN ?_ _ | refine blk_drew ?_ | refine blk_alloc ?_ _)); refine blk_put (cs := #[.string t333, .string (⟨#[]⟩ : ByteArray)]) ?_ 1 _ rfl; (with_reducible repeat (first | refine blk_drewN ?_ _ | refine blk_drew ?_ | refine blk_alloc ?_ _)); refine blk_put (cs := #[.string (⟨#[]⟩ : ByteArray), .string (⟨#[]⟩ : ByteArray)]) ?_ 0 _ rfl; (with_reducible repeat (first | refine blk_drewN ?_ _ | refine blk_drew ?_ | refine blk_alloc ?_ _)); exact BK336.out) hb); have n2_ := Aside0.mk (below_step (bz) hb); clear HO332; clear BK336; clear HB; have HO332 := n0_; have BK336 := n1_; have HB := n2_; clear n0_ n1_ n2_; (try clear hb); (try clear hb2); (try clear hk); (try clear hi)) | ((with_reducible refine gate_dst (N := 7) rfl ?_); refine box_event ?hg (N := 7) ?hd (cs := #[.string (⟨#[]⟩ : ByteArray), .string (⟨#[]⟩ : ByteArray)]) (t := 25) ?hr ?_; (case hd => rfl); (case hg => rfl); (case hr => first | (go_simp; done) | (go_simp; rfl)); intro gb340 hg w13 hbox hb; have n0_ := Aside0.mk (Kd.Q_below (by (with_reducible repeat (first | apply Kd.Q_alloc | apply Kd.Q_drewN | apply Kd.Q_drew)); exact HO332.out) hb); have n1_ := bkb BK336 hb; have n2_ := Aside0.mk (below_step (bz) hb); have n3_ := Aside0.mk (hbox); have n4_ : Aside0 (w.heap.size ≤ gb340) := bsg hg; have n5_ : Aside0 (w.heap.size ≤ gb340) := bsg hg; have n6_ := nlt hg BK336; have n7_ := ngt hg BK336; clear HO332; clear BK336; clear HB; have HO332 := n0_; have BK336 := n1_; have HB := n2_; have BK340 := n3_; have GW340 := n4_; have GE340 := n5_; have NB336_340 := n6_; have NB340_336 := n7_; clear n0_ n1_ n2_ n3_ n4_ n5_ n6_ n7_; clear hb hbox hg; have hnb14 := NB340_336.out; have hnc14 := NB336_340.out; have hcz15_0 : w13.cell? ⟨gb340, 0, none⟩ = some (.string (⟨#[]⟩ : ByteArray)) := (blk_cell BK340.out 0).trans rfl; have hcz15_1 : w13.cell? ⟨gb340, 1, none⟩ = some (.string (⟨#[]⟩ : ByteArray)) := (blk_cell BK340.out 1).trans rfl; have hfz15_0 := blk_frozen BK340.out 0; have hfz15_1 := blk_frozen BK340.out 1)))
  (try simp only [Act.put, List.setIfInBounds_toArray, List.set_cons_zero, List.set_cons_succ])
  go_cut [38] (fun v38 wc => ∃ (kq : Nat) (x38_5 : Bool), v38 = .bool x38_5 ∧ Aside0 (laws_FnRouteSpan.j0 kq t329 t330 t335 x38_5 t333 t334 = some r) ∧ Aside0 (kq ≤ k) ∧ Aside0 (Kd.Q k43 43 wc w.heap.size (fun _ => True) (.slice Ao8 t329.length co8) t329) ∧ Aside0 (wc.heap[gb336]? = some (.cells #[.string t333, .string t334] 25 (0, 0))) ∧ Aside0 (wc.heap[gb340]? = some (.cells #[.string t337, .string t338] 25 (0, 0))) ∧ Aside0 (Below w.heap.size w wc))
  case first =>
   have H := HC6.out
   clear HC6
   by_cases c16 : (!(t333.toList == t337.toList) || (!(t334.toList == t338.toList))) = true
   ·
    rw [if_pos c16] at H
    have c16b0 : (!(t333.toList == t337.toList) || (!(t334.toList == t338.toList))) = true := c16
    clear c16
    (first | rw [c16b0] | (simp only [i64_w, i32_w]; rw [c16b0]) | skip)
    have H' := Aside0.mk H
    clear H
    have hnb17 := NB336_340.out
    have hnc17 := NB340_336.out
    have hcz18_0 : w13.cell? ⟨gb336, 0, none⟩ = some (.string t333) := (blk_cell BK336.out 0).trans rfl
    have hcz18_1 : w13.cell? ⟨gb336, 1, none⟩ = some (.string t334) := (blk_cell BK336.out 1).trans rfl
    have hfz18_0 := blk_frozen BK336.out 0
    have hfz18_1 := blk_frozen BK336.out 1
    have hcz19_0 : w13.cell? ⟨gb340, 0, none⟩ = some (.string (⟨#[]⟩ : ByteArray)) := (blk_cell BK340.out 0).trans rfl
    have hcz19_1 : w13.cell? ⟨gb340, 1, none⟩ = some (.string (⟨#[]⟩ : ByteArray)) := (blk_cell BK340.out 1).trans rfl
    have hfz19_0 := blk_frozen BK340.out 0
    have hfz19_1 := blk_frozen BK340.out 1
    go_wp2
    repeat (go_quiet (fail); try go_wp2)
    go_meet
    case rel => exact ⟨_, (true), (by first | rfl | (simp; done) | exact congrArg Value.bool (ne_nil_b _) | exact congrArg Value.bool (eq_nil_b _) | (simp [*]; done)), H', ⟨by first | omega | exact Nat.le_refl _⟩, ⟨by (with_reducible repeat (first | apply Kd.Q_alloc | apply Kd.Q_drewN | apply Kd.Q_drew)); exact Kd.Q_mono (Kd.Q_far (p := ⟨gb340, 1, none⟩) (Kd.Q_far (p := ⟨gb340, 0, none⟩) (Kd.Q_types HO332.out BK340.out (by decide)) (fun _ hk => hk.2) (.string t337)) (fun _ hk => hk.2) (.string t338)) (fun _ hk => trivial)⟩, ⟨by (with_reducible repeat (first | refine blk_drewN ?_ _ | refine blk_drew ?_ | refine blk_alloc ?_ _)); refine blk_far ?_ NB336_340.out _; (with_reducible repeat (first | refine blk_drewN ?_ _ | refine blk_drew ?_ | refine blk_alloc ?_ _)); refine blk_far ?_ NB336_340.out _; (with_reducible repeat (first | refine blk_drewN ?_ _ | refine blk_drew ?_ | refine blk_alloc ?_ _)); exact BK336.out⟩, ⟨by (with_reducible repeat (first | refine blk_drewN ?_ _ | refine blk_drew ?_ | refine blk_alloc ?_ _)); refine blk_put (cs := #[.string t337, .string (⟨#[]⟩ : ByteArray)]) ?_ 1 _ rfl; (with_reducible repeat (first | refine blk_drewN ?_ _ | refine blk_drew ?_ | refine blk_alloc ?_ _)); refine blk_put (cs := #[.string (⟨#[]⟩ : ByteArray), .string (⟨#[]⟩ : ByteArray)]) ?_ 0 _ rfl; (with_reducible repeat (first | refine blk_drewN ?_ _ | refine blk_drew ?_ | refine blk_alloc ?_ _)); exact BK340.out⟩, ⟨bz⟩⟩
   ·
    rw [if_neg c16] at H
    have c16b0 : (!(t333.toList == t337.toList) || (!(t334.toList == t338.toList))) = false := by simpa using c16
    clear c16
    (first | rw [c16b0] | (simp only [i64_w, i32_w]; rw [c16b0]) | skip)
    have H' := Aside0.mk H
    clear H
    have hnb20 := NB336_340.out
    have hnc20 := NB340_336.out
    have hcz21_0 : w13.cell? ⟨gb336, 0, none⟩ = some (.string t333) := (blk_cell BK336.out 0).trans rfl
    have hcz21_1 : w13.cell? ⟨gb336, 1, none⟩ = some (.string t334) := (blk_cell BK336.out 1).trans rfl
    have hfz21_0 := blk_frozen BK336.out 0
    have hfz21_1 := blk_frozen BK336.out 1
    have hcz22_0 : w13.cell? ⟨gb340, 0, none⟩ = some (.string (⟨#[]⟩ : ByteArray)) := (blk_cell BK340.out 0).trans rfl
    have hcz22_1 : w13.cell? ⟨gb340, 1, none⟩ = some (.string (⟨#[]⟩ : ByteArray)) := (blk_cell BK340.out 1).trans rfl
    have hfz22_0 := blk_frozen BK340.out 0
    have hfz22_1 := blk_frozen BK340.out 1
    go_wp2
    repeat (go_quiet (fail); try go_wp2)
    go_meet
    case rel => exact ⟨_, ((t335 != t339)), (by first | rfl | (simp; done) | exact congrArg Value.bool (ne_nil_b _) | exact congrArg Value.bool (eq_nil_b _) | (simp [*]; done)), H', ⟨by first | omega | exact Nat.le_refl _⟩, ⟨by (with_reducible repeat (first | apply Kd.Q_alloc | apply Kd.Q_drewN | apply Kd.Q_drew)); exact Kd.Q_mono (Kd.Q_far (p := ⟨gb340, 1, none⟩) (Kd.Q_far (p := ⟨gb340, 0, none⟩) (Kd.Q_types HO332.out BK340.out (by decide)) (fun _ hk => hk.2) (.string t337)) (fun _ hk => hk.2) (.string t338)) (fun _ hk => trivial)⟩, ⟨by (with_reducible repeat (first | refine blk_drewN ?_ _ | refine blk_drew ?_ | refine blk_alloc ?_ _)); refine blk_far ?_ NB336_340.out _; (with_reducible repeat (first | refine blk_drewN ?_ _ | refine blk_drew ?_ | refine blk_alloc ?_ _)); refine blk_far ?_ NB336_340.out _; (with_reducible repeat (first | refine blk_drewN ?_ _ | refine blk_drew ?_ | refine blk_alloc ?_ _)); exact BK336.out⟩, ⟨by (with_reducible repeat (first | refine blk_drewN ?_ _ | refine blk_drew ?_ | refine blk_alloc ?_ _)); refine blk_put (cs := #[.string t337, .string (⟨#[]⟩ : ByteArray)]) ?_ 1 _ rfl; (with_reducible repeat (first | refine blk_drewN ?_ _ | refine blk_drew ?_ | refine blk_alloc ?_ _)); refine blk_put (cs := #[.string (⟨#[]⟩ : ByteArray), .string (⟨#[]⟩ : ByteArray)]) ?_ 0 _ rfl; (with_reducible repeat (first | refine blk_drewN ?_ _ | refine blk_drew ?_ | refine blk_alloc ?_ _)); exact BK340.out⟩, ⟨bz⟩⟩
  case rest =>
   clear HC6
   try clear c1
   try clear c2
   try clear c2b0
   try clear c2b1
   try clear p2
   try clear c8
   try clear c14
   try clear c16
   try clear c16b0
   try clear c17
   try clear c20
   try clear hcz11_0
   try clear hcz11_1
   try clear hcz15_0
   try clear hcz15_1
   try clear hcz18_0
   try clear hcz18_1
   try clear hcz19_0
   try clear hcz19_1
   try clear hcz21_0
   try clear hcz21_1
   try clear hcz22_0
   try clear hcz22_1
   try clear hfz11_0
   try clear hfz11_1
   try clear hfz15_0
   try clear hfz15_1
   try clear hfz18_0
   try clear hfz18_1
   try clear hfz19_0
   try clear hfz19_1
   try clear hfz21_0
   try clear hfz21_1
   try clear hfz22_0
   try clear hfz22_1
   obtain ⟨kq, x38_5, rfl, HA, HJ5, HO_3, BK336, BK340, HB⟩ := hcut
   cases kq with
   | zero => exact absurd HA.out (by simp [laws_FnRouteSpan.j0])
   | succ kj5 =>
    have H := HA.out
    clear HA
    simp only [laws_FnRouteSpan.j0] at H
    by_cases c23 : x38_5 = true
    ·
     subst c23
     rw [if_pos rfl] at H
     obtain rfl := Option.some.inj H
     go_wp2
     repeat (go_quiet (fail); try go_wp2)
     go_ret
     exact ⟨by first | rfl | (simp only [u8w, w64m]; rfl) | (simp [errW_none, errW_some] <;> rfl) | (simp [*, errW_none, errW_some] <;> rfl), bz⟩
    ·
     replace c23 := Bool.eq_false_iff.mpr c23
     subst c23
     rw [if_neg (show ¬ (false = true) by decide)] at H
     have H' := Aside0.mk H
     clear H
     go_wp2
     repeat (go_quiet (fail); try go_wp2)
     go_loopg [9, 10] kj5 (fun kq v9 v10 w' => ∃ (x9_2 : Bool) (x10_2 : Int), v9 = .bool x9_2 ∧ v10 = .int .i64 x10_2 ∧ Aside0 (laws_FnRouteSpan.l0 kq t329 t330 t335 x9_2 x10_2 t333 t334 = some r) ∧ Aside0 (kq ≤ kj5) ∧ Aside0 (Kd.Q k43 43 w' w.heap.size (fun _ => True) (.slice Ao8 t329.length co8) t329) ∧ Aside0 (w'.heap[gb336]? = some (.cells #[.string t333, .string t334] 25 (0, 0))) ∧ Aside0 (w'.heap[gb340]? = some (.cells #[.string t337, .string t338] 25 (0, 0))) ∧ Aside0 (Below w.heap.size w w'))
     case atStart => exact ⟨(false), (0), (by first | rfl | (simp; done) | exact congrArg Value.bool (ne_nil_b _) | exact congrArg Value.bool (eq_nil_b _) | (simp [*]; done)), (by first | rfl | (simp; done) | exact congrArg Value.bool (ne_nil_b _) | exact congrArg Value.bool (eq_nil_b _) | (simp [*]; done)), H', ⟨Nat.le_refl _⟩, ⟨by (with_reducible repeat (first | apply Kd.Q_alloc | apply Kd.Q_drewN | apply Kd.Q_drew)); exact HO_3.out⟩, ⟨by (with_reducible repeat (first | refine blk_drewN ?_ _ | refine blk_drew ?_ | refine blk_alloc ?_ _)); exact BK336.out⟩, ⟨by (with_reducible repeat (first | refine blk_drewN ?_ _ | refine blk_drew ?_ | refine blk_alloc ?_ _)); exact BK340.out⟩, ⟨bz⟩⟩
     case round =>
      clear H'
      try clear c1
      try clear c2
      try clear c2b0
      try clear c2b1
      try clear p2
      try clear c8
      try clear c14
      try clear c16
      try clear c16b0
      try clear c17
      try clear c20
      try clear c23
      try clear hcz11_0
      try clear hcz11_1
      try clear hcz15_0
      try clear hcz15_1
      try clear hcz18_0
      try clear hcz18_1
      try clear hcz19_0
      try clear hcz19_1
      try clear hcz21_0
      try clear hcz21_1
      try clear hcz22_0
      try clear hcz22_1
      try clear hfz11_0
      try clear hfz11_1
      try clear hfz15_0
      try clear hfz15_1
      try clear hfz18_0
      try clear hfz18_1
      try clear hfz19_0
      try clear hfz19_1
      try clear hfz21_0
      try clear hfz21_1
      try clear hfz22_0
      try clear hfz22_1
      try clear p2
      obtain ⟨x9_2, x10_2, rfl, rfl, HA, HK2, HO_3, BK336, BK340, HB⟩ := hrel
      cases gk with
      | zero => exact absurd HA.out (by simp [laws_FnRouteSpan.l0])
      | succ k2 =>
       have H := HA.out
       clear HA
       simp only [laws_FnRouteSpan.l0] at H
       have HC24 := Aside0.mk H
       clear H
       go_upto_region 10 with (fail)
       repeat (go_quiet (fail); go_upto_region 10 with (fail))
       go_cut [46] (fun v46 wc => ∃ (kq : Nat) (x46_23 : Bool), v46 = .bool x46_23 ∧ Aside0 (laws_FnRouteSpan.j2 kq t329 t330 t335 x9_2 x10_2 x46_23 t333 t334 = some r) ∧ Aside0 (kq ≤ k2) ∧ Aside0 (Kd.Q k43 43 wc w.heap.size (fun _ => True) (.slice Ao8 t329.length co8) t329) ∧ Aside0 (wc.heap[gb336]? = some (.cells #[.string t333, .string t334] 25 (0, 0))) ∧ Aside0 (wc.heap[gb340]? = some (.cells #[.string t337, .string t338] 25 (0, 0))) ∧ Aside0 (Below w.heap.size w wc))
       case first =>
        have H := HC24.out
        clear HC24
        by_cases c25 : x10_2 < (t329.length : Int)
        ·
         rw [if_pos c25] at H
         have c25b0 : decide (x10_2 < (t329.length : Int)) = true := decide_eq_true c25
         clear c25
         (first | rw [c25b0] | (simp only [i64_w, i32_w]; rw [c25b0]) | skip)
         replace H := Option.bind_eq_some_iff.mp H
         obtain ⟨t341, A260, H⟩ := H
         try dsimp only at H
         have A26 := Aside0.mk A260
         clear A260
         have H' := Aside0.mk H
         clear H
         go_wp2_with (first | (go_at_call 33; (with_reducible refine (impl_RoutesValid.calls k2 _ _ t329 t341 _ ?side1 ?side2 A26.out).mono ?_); (case side1 => repeat (first | exact (Kd.Q_reads' HO_3.out).2.2 | (with_reducible refine Kd.C_alloc ?_ _) | (with_reducible refine Kd.C_drewN ?_ _) | (with_reducible refine Kd.C_drew ?_))); (case side2 => exact (Kd.Q_reads' HO_3.out).2.1); rintro e w27 ⟨rfl, hb⟩; have n0_ := Aside0.mk (Kd.Q_below (by (with_reducible repeat (first | apply Kd.Q_alloc | apply Kd.Q_drewN | apply Kd.Q_drew)); exact HO_3.out) hb); have n1_ := bkb BK336 hb; have n2_ := bkb BK340 hb; have n3_ := Aside0.mk (below_step (bz) hb); clear HO_3; clear BK336; clear BK340; clear HB; have HO_3 := n0_; have BK336 := n1_; have BK340 := n2_; have HB := n3_; clear n0_ n1_ n2_ n3_; (try clear hb); (try clear hb2); (try clear hk); (try clear hi)))
         repeat (go_quiet (first | (go_at_call 33; (with_reducible refine (impl_RoutesValid.calls k2 _ _ t329 t341 _ ?side1 ?side2 A26.out).mono ?_); (case side1 => repeat (first | exact (Kd.Q_reads' HO_3.out).2.2 | (with_reducible refine Kd.C_alloc ?_ _) | (with_reducible refine Kd.C_drewN ?_ _) | (with_reducible refine Kd.C_drew ?_))); (case side2 => exact (Kd.Q_reads' HO_3.out).2.1); rintro e w27 ⟨rfl, hb⟩; have n0_ := Aside0.mk (Kd.Q_below (by (with_reducible repeat (first | apply Kd.Q_alloc | apply Kd.Q_drewN | apply Kd.Q_drew)); exact HO_3.out) hb); have n1_ := bkb BK336 hb; have n2_ := bkb BK340 hb; have n3_ := Aside0.mk (below_step (bz) hb); clear HO_3; clear BK336; clear BK340; clear HB; have HO_3 := n0_; have BK336 := n1_; have BK340 := n2_; have HB := n3_; clear n0_ n1_ n2_ n3_; (try clear hb); (try clear hb2); (try clear hk); (try clear hi))); try go_wp2_with (first | (go_at_call 33; (with_reducible refine (impl_RoutesValid.calls k2 _ _ t329 t341 _ ?side1 ?side2 A26.out).mono ?_); (case side1 => repeat (first | exact (Kd.Q_reads' HO_3.out).2.2 | (with_reducible refine Kd.C_alloc ?_ _) | (with_reducible refine Kd.C_drewN ?_ _) | (with_reducible refine Kd.C_drew ?_))); (case side2 => exact (Kd.Q_reads' HO_3.out).2.1); rintro e w27 ⟨rfl, hb⟩; have n0_ := Aside0.mk (Kd.Q_below (by (with_reducible repeat (first | apply Kd.Q_alloc | apply Kd.Q_drewN | apply Kd.Q_drew)); exact HO_3.out) hb); have n1_ := bkb BK336 hb; have n2_ := bkb BK340 hb; have n3_ := Aside0.mk (below_step (bz) hb); clear HO_3; clear BK336; clear BK340; clear HB; have HO_3 := n0_; have BK336 := n1_; have BK340 := n2_; have HB := n3_; clear n0_ n1_ n2_ n3_; (try clear hb); (try clear hb2); (try clear hk); (try clear hi))))
         go_meet
         case rel => exact ⟨_, (t341), (by first | rfl | (simp; done) | exact congrArg Value.bool (ne_nil_b _) | exact congrArg Value.bool (eq_nil_b _) | (simp [*]; done)), H', ⟨by have := HJ5.out; have := HK2.out; first | omega | exact Nat.le_refl _⟩, ⟨by (with_reducible repeat (first | apply Kd.Q_alloc | apply Kd.Q_drewN | apply Kd.Q_drew)); exact HO_3.out⟩, ⟨by (with_reducible repeat (first | refine blk_drewN ?_ _ | refine blk_drew ?_ | refine blk_alloc ?_ _)); exact BK336.out⟩, ⟨by (with_reducible repeat (first | refine blk_drewN ?_ _ | refine blk_drew ?_ | refine blk_alloc ?_ _)); exact BK340.out⟩, ⟨bz⟩⟩
        ·
         rw [if_neg c25] at H
         have c25b0 : decide (x10_2 < (t329.length : Int)) = false := decide_eq_false c25
         clear c25
         (first | rw [c25b0] | (simp only [i64_w, i32_w]; rw [c25b0]) | skip)
         have H' := Aside0.mk H
         clear H
         go_wp2
         repeat (go_quiet (fail); try go_wp2)
         go_meet
         case rel => exact ⟨_, (false), (by first | rfl | (simp; done) | exact congrArg Value.bool (ne_nil_b _) | exact congrArg Value.bool (eq_nil_b _) | (simp [*]; done)), H', ⟨by have := HJ5.out; have := HK2.out; first | omega | exact Nat.le_refl _⟩, ⟨by (with_reducible repeat (first | apply Kd.Q_alloc | apply Kd.Q_drewN | apply Kd.Q_drew)); exact HO_3.out⟩, ⟨by (with_reducible repeat (first | refine blk_drewN ?_ _ | refine blk_drew ?_ | refine blk_alloc ?_ _)); exact BK336.out⟩, ⟨by (with_reducible repeat (first | refine blk_drewN ?_ _ | refine blk_drew ?_ | refine blk_alloc ?_ _)); exact BK340.out⟩, ⟨bz⟩⟩
       case rest =>
        clear HC24
        try clear c1
        try clear c2
        try clear c2b0
        try clear c2b1
        try clear p2
        try clear c8
        try clear c14
        try clear c16
        try clear c16b0
        try clear c17
        try clear c20
        try clear c23
        try clear c25
        try clear c25b0
        try clear hcz11_0
        try clear hcz11_1
        try clear hcz15_0
        try clear hcz15_1
        try clear hcz18_0
        try clear hcz18_1
        try clear hcz19_0
        try clear hcz19_1
        try clear hcz21_0
        try clear hcz21_1
        try clear hcz22_0
        try clear hcz22_1
        try clear hfz11_0
        try clear hfz11_1
        try clear hfz15_0
        try clear hfz15_1
        try clear hfz18_0
        try clear hfz18_1
        try clear hfz19_0
        try clear hfz19_1
        try clear hfz21_0
        try clear hfz21_1
        try clear hfz22_0
        try clear hfz22_1
        try clear p2
        obtain ⟨kq, x46_23, rfl, HA, HJ23, HO_3, BK336, BK340, HB⟩ := hcut
        cases kq with
        | zero => exact absurd HA.out (by simp [laws_FnRouteSpan.j2])
        | succ kj23 =>
         have H := HA.out
         clear HA
         simp only [laws_FnRouteSpan.j2] at H
         by_cases c28 : x46_23 = true
         ·
          subst c28
          rw [if_pos rfl] at H
          by_cases c29 : 0 ≤ x10_2
          ·
           rw [if_pos c29] at H
           have c29b0 : decide (0 ≤ x10_2) = true := decide_eq_true c29
           clear c29
           by_cases c30 : x10_2 < (t329.length : Int)
           ·
            rw [if_pos c30] at H
            have c30b0 : decide (x10_2 < (t329.length : Int)) = true := decide_eq_true c30
            clear c30
            by_cases c31 : ((rd_T43 t329 x10_2).f0) = t330
            ·
             rw [if_pos c31] at H
             have c31b0 : (((rd_T43 t329 x10_2).f0) == t330) = true := beq_iff_eq.mpr c31
             have c31b1 : (((rd_T43 t329 x10_2).f0) != t330) = false := bne_eq_false_iff_eq.mpr c31
             clear c31
             have H' := Aside0.mk H
             clear H
             have p342 : 0 ≤ (x10_2 : Int) := of_decide_eq_true (by first | (with_reducible assumption) | assumption)
             have q342 : x10_2 < (t329.length : Int) := of_decide_eq_true (by first | (with_reducible assumption) | assumption)
             obtain ⟨ad342, e342, hx342_0, hx342_1, hx342_2⟩ := at_T43 (Kd.Q_reads' HO_3.out).2.2 x10_2 p342 q342
             cases e342
             replace p342 := eq_true p342
             replace q342 := eq_true q342
             have p343 : 0 ≤ (x10_2 : Int) := of_decide_eq_true (by first | (with_reducible assumption) | assumption)
             have q343 : x10_2 < (t329.length : Int) := of_decide_eq_true (by first | (with_reducible assumption) | assumption)
             obtain ⟨ad343, e343, hx343_0, hx343_1, hx343_2⟩ := at_T43 (Kd.Q_reads' HO_3.out).2.2 x10_2 p343 q343
             obtain rfl : ad342 = ad343 := (by injection e343)
             replace p343 := eq_true p343
             replace q343 := eq_true q343
             have hnb32 := NB336_340.out
             have hnc32 := NB340_336.out
             have hcz33_0 : wc.cell? ⟨gb336, 0, none⟩ = some (.string t333) := (blk_cell BK336.out 0).trans rfl
             have hcz33_1 : wc.cell? ⟨gb336, 1, none⟩ = some (.string t334) := (blk_cell BK336.out 1).trans rfl
             have hfz33_0 := blk_frozen BK336.out 0
             have hfz33_1 := blk_frozen BK336.out 1
             go_wp2
             repeat (go_quiet (fail); try go_wp2)
             go_roundg kj23
             case measure => have := HJ5.out; have := HK2.out; have := HJ23.out; omega
             case rel => exact ⟨(((((rd_T43 t329 x10_2).f1.f0).toList) == t333.toList && ((((rd_T43 t329 x10_2).f1.f1).toList) == t334.toList))), (wrap64 (x10_2 + 1)), (by first | rfl | (simp; done) | exact congrArg Value.bool (ne_nil_b _) | exact congrArg Value.bool (eq_nil_b _) | (simp [*]; done)), (by first | rfl | (simp; done) | exact congrArg Value.bool (ne_nil_b _) | exact congrArg Value.bool (eq_nil_b _) | (simp [*]; done)), H', ⟨by have := HJ5.out; have := HK2.out; have := HJ23.out; omega⟩, ⟨by (with_reducible repeat (first | apply Kd.Q_alloc | apply Kd.Q_drewN | apply Kd.Q_drew)); exact HO_3.out⟩, ⟨by (with_reducible repeat (first | refine blk_drewN ?_ _ | refine blk_drew ?_ | refine blk_alloc ?_ _)); exact BK336.out⟩, ⟨by (with_reducible repeat (first | refine blk_drewN ?_ _ | refine blk_drew ?_ | refine blk_alloc ?_ _)); exact BK340.out⟩, ⟨bz⟩⟩
            ·
             rw [if_neg c31] at H
             have c31b0 : (((rd_T43 t329 x10_2).f0) == t330) = false := beq_eq_false_iff_ne.mpr c31
             have c31b1 : (((rd_T43 t329 x10_2).f0) != t330) = true := bne_iff_ne.mpr c31
             have H' := Aside0.mk H
             clear H
             have p342 : 0 ≤ (x10_2 : Int) := of_decide_eq_true (by first | (with_reducible assumption) | assumption)
             have q342 : x10_2 < (t329.length : Int) := of_decide_eq_true (by first | (with_reducible assumption) | assumption)
             obtain ⟨ad342, e342, hx342_0, hx342_1, hx342_2⟩ := at_T43 (Kd.Q_reads' HO_3.out).2.2 x10_2 p342 q342
             cases e342
             replace p342 := eq_true p342
             replace q342 := eq_true q342
             go_wp2
             repeat (go_quiet (fail); try go_wp2)
             go_roundg kj23
             case measure => have := HJ5.out; have := HK2.out; have := HJ23.out; omega
             case rel => exact ⟨(x9_2), (wrap64 (x10_2 + 1)), (by first | rfl | (simp; done) | exact congrArg Value.bool (ne_nil_b _) | exact congrArg Value.bool (eq_nil_b _) | (simp [*]; done)), (by first | rfl | (simp; done) | exact congrArg Value.bool (ne_nil_b _) | exact congrArg Value.bool (eq_nil_b _) | (simp [*]; done)), H', ⟨by have := HJ5.out; have := HK2.out; have := HJ23.out; omega⟩, ⟨by (with_reducible repeat (first | apply Kd.Q_alloc | apply Kd.Q_drewN | apply Kd.Q_drew)); exact HO_3.out⟩, ⟨by (with_reducible repeat (first | refine blk_drewN ?_ _ | refine blk_drew ?_ | refine blk_alloc ?_ _)); exact BK336.out⟩, ⟨by (with_reducible repeat (first | refine blk_drewN ?_ _ | refine blk_drew ?_ | refine blk_alloc ?_ _)); exact BK340.out⟩, ⟨bz⟩⟩
           ·
            rw [if_neg c30] at H
            exact absurd H (by simp)
          ·
           rw [if_neg c29] at H
           exact absurd H (by simp)
         ·
          replace c28 := Bool.eq_false_iff.mpr c28
          subst c28
          rw [if_neg (show ¬ (false = true) by decide)] at H
          by_cases c34 : (x9_2 == t335) = true
          ·
           rw [if_pos c34] at H
           have c34b0 : (x9_2 == t335) = true := c34
           (try (have c34b1 : decide (x9_2 = t335) = true := by simpa using c34))
           (try (have c34b2 : (x9_2 == t335) = true := by simpa using c34))
           clear c34
           by_cases c35 : t335 = true
           ·
            subst c35
            rw [if_pos rfl] at H
            replace H := Option.bind_eq_some_iff.mp H
            obtain ⟨t344, A360, H⟩ := H
            try dsimp only at H
            have A36 := Aside0.mk A360
            clear A360
            obtain rfl := Option.some.inj H
            go_wp2_with (first | (go_at_call 31; (with_reducible refine (laws_alive.calls kj23  t344 _ A36.out).mono ?_); rintro e w37 ⟨rfl, hb⟩; have n0_ := Aside0.mk (Kd.Q_below (by (with_reducible repeat (first | apply Kd.Q_alloc | apply Kd.Q_drewN | apply Kd.Q_drew)); exact HO_3.out) hb); have n1_ := bkb BK336 hb; have n2_ := bkb BK340 hb; have n3_ := Aside0.mk (below_step (bz) hb); clear HO_3; clear BK336; clear BK340; clear HB; have HO_3 := n0_; have BK336 := n1_; have BK340 := n2_; have HB := n3_; clear n0_ n1_ n2_ n3_; (try clear hb); (try clear hb2); (try clear hk); (try clear hi)))
            repeat (go_quiet (first | (go_at_call 31; (with_reducible refine (laws_alive.calls kj23  t344 _ A36.out).mono ?_); rintro e w37 ⟨rfl, hb⟩; have n0_ := Aside0.mk (Kd.Q_below (by (with_reducible repeat (first | apply Kd.Q_alloc | apply Kd.Q_drewN | apply Kd.Q_drew)); exact HO_3.out) hb); have n1_ := bkb BK336 hb; have n2_ := bkb BK340 hb; have n3_ := Aside0.mk (below_step (bz) hb); clear HO_3; clear BK336; clear BK340; clear HB; have HO_3 := n0_; have BK336 := n1_; have BK340 := n2_; have HB := n3_; clear n0_ n1_ n2_ n3_; (try clear hb); (try clear hb2); (try clear hk); (try clear hi))); try go_wp2_with (first | (go_at_call 31; (with_reducible refine (laws_alive.calls kj23  t344 _ A36.out).mono ?_); rintro e w37 ⟨rfl, hb⟩; have n0_ := Aside0.mk (Kd.Q_below (by (with_reducible repeat (first | apply Kd.Q_alloc | apply Kd.Q_drewN | apply Kd.Q_drew)); exact HO_3.out) hb); have n1_ := bkb BK336 hb; have n2_ := bkb BK340 hb; have n3_ := Aside0.mk (below_step (bz) hb); clear HO_3; clear BK336; clear BK340; clear HB; have HO_3 := n0_; have BK336 := n1_; have BK340 := n2_; have HB := n3_; clear n0_ n1_ n2_ n3_; (try clear hb); (try clear hb2); (try clear hk); (try clear hi))))
            go_ret
            exact ⟨by first | rfl | (simp only [u8w, w64m]; rfl) | (simp [errW_none, errW_some] <;> rfl) | (simp [*, errW_none, errW_some] <;> rfl), bz⟩
           ·
            replace c35 := Bool.eq_false_iff.mpr c35
            subst c35
            rw [if_neg (show ¬ (false = true) by decide)] at H
            by_cases c38 : (t333.toList == ([] : List UInt8) && (t334.toList == ([] : List UInt8))) = true
            ·
             rw [if_pos c38] at H
             have c38b0 : (t333.toList == ([] : List UInt8) && (t334.toList == ([] : List UInt8))) = true := c38
             (try (have c38b1 : decide (t333.toList = ([] : List UInt8) && (t334.toList == ([] : List UInt8))) = true := by simpa using c38))
             (try (have c38b2 : (t333.toList == ([] : List UInt8) && (t334.toList == ([] : List UInt8))) = true := by simpa using c38))
             (try (have c38b9 := c38b0; simp only [← eq_nil_b] at c38b9))
             clear c38
             replace H := Option.bind_eq_some_iff.mp H
             obtain ⟨t345, A390, H⟩ := H
             try dsimp only at H
             have A39 := Aside0.mk A390
             clear A390
             obtain rfl := Option.some.inj H
             have hnb40 := NB336_340.out
             have hnc40 := NB340_336.out
             have hcz41_0 : wc.cell? ⟨gb336, 0, none⟩ = some (.string t333) := (blk_cell BK336.out 0).trans rfl
             have hcz41_1 : wc.cell? ⟨gb336, 1, none⟩ = some (.string t334) := (blk_cell BK336.out 1).trans rfl
             have hfz41_0 := blk_frozen BK336.out 0
             have hfz41_1 := blk_frozen BK336.out 1
             go_wp2_with (first | (go_at_call 31; (with_reducible refine (laws_alive.calls kj23  t345 _ A39.out).mono ?_); rintro e w42 ⟨rfl, hb⟩; have n0_ := Aside0.mk (Kd.Q_below (by (with_reducible repeat (first | apply Kd.Q_alloc | apply Kd.Q_drewN | apply Kd.Q_drew)); exact HO_3.out) hb); have n1_ := bkb BK336 hb; have n2_ := bkb BK340 hb; have n3_ := Aside0.mk (below_step (bz) hb); clear HO_3; clear BK336; clear BK340; clear HB; have HO_3 := n0_; have BK336 := n1_; have BK340 := n2_; have HB := n3_; clear n0_ n1_ n2_ n3_; (try clear hb); (try clear hb2); (try clear hk); (try clear hi)))
             repeat (go_quiet (first | (go_at_call 31; (with_reducible refine (laws_alive.calls kj23  t345 _ A39.out).mono ?_); rintro e w42 ⟨rfl, hb⟩; have n0_ := Aside0.mk (Kd.Q_below (by (with_reducible repeat (first | apply Kd.Q_alloc | apply Kd.Q_drewN | apply Kd.Q_drew)); exact HO_3.out) hb); have n1_ := bkb BK336 hb; have n2_ := bkb BK340 hb; have n3_ := Aside0.mk (below_step (bz) hb); clear HO_3; clear BK336; clear BK340; clear HB; have HO_3 := n0_; have BK336 := n1_; have BK340 := n2_; have HB := n3_; clear n0_ n1_ n2_ n3_; (try clear hb); (try clear hb2); (try clear hk); (try clear hi))); try go_wp2_with (first | (go_at_call 31; (with_reducible refine (laws_alive.calls kj23  t345 _ A39.out).mono ?_); rintro e w42 ⟨rfl, hb⟩; have n0_ := Aside0.mk (Kd.Q_below (by (with_reducible repeat (first | apply Kd.Q_alloc | apply Kd.Q_drewN | apply Kd.Q_drew)); exact HO_3.out) hb); have n1_ := bkb BK336 hb; have n2_ := bkb BK340 hb; have n3_ := Aside0.mk (below_step (bz) hb); clear HO_3; clear BK336; clear BK340; clear HB; have HO_3 := n0_; have BK336 := n1_; have BK340 := n2_; have HB := n3_; clear n0_ n1_ n2_ n3_; (try clear hb); (try clear hb2); (try clear hk); (try clear hi))))
             go_ret
             exact ⟨by first | rfl | (simp only [u8w, w64m]; rfl) | (simp [errW_none, errW_some] <;> rfl) | (simp [*, errW_none, errW_some] <;> rfl), bz⟩
            ·
             rw [if_neg c38] at H
             have c38b0 : (t333.toList == ([] : List UInt8) && (t334.toList == ([] : List UInt8))) = false := by simpa using c38
             (try (have c38b1 : decide (t333.toList = ([] : List UInt8) && (t334.toList == ([] : List UInt8))) = false := by simpa using c38))
             (try (have c38b2 : (t333.toList == ([] : List UInt8) && (t334.toList == ([] : List UInt8))) = false := by simpa using c38))
             (try (have c38b3 : ¬ (t333.toList = ([] : List UInt8) && (t334.toList == ([] : List UInt8))) := by simpa using c38))
             (try (have c38b9 := c38b0; simp only [← eq_nil_b] at c38b9))
             clear c38
             obtain rfl := Option.some.inj H
             have hnb43 := NB336_340.out
             have hnc43 := NB340_336.out
             have hcz44_0 : wc.cell? ⟨gb336, 0, none⟩ = some (.string t333) := (blk_cell BK336.out 0).trans rfl
             have hcz44_1 : wc.cell? ⟨gb336, 1, none⟩ = some (.string t334) := (blk_cell BK336.out 1).trans rfl
             have hfz44_0 := blk_frozen BK336.out 0
             have hfz44_1 := blk_frozen BK336.out 1
             go_wp2
             repeat (go_quiet (fail); try go_wp2)
             go_ret
             exact ⟨by first | rfl | (simp only [u8w, w64m]; rfl) | (simp [errW_none, errW_some] <;> rfl) | (simp [*, errW_none, errW_some] <;> rfl), bz⟩
          ·
           rw [if_neg c34] at H
           have c34b0 : (x9_2 == t335) = false := by simpa using c34
           (try (have c34b1 : decide (x9_2 = t335) = false := by simpa using c34))
           (try (have c34b2 : (x9_2 == t335) = false := by simpa using c34))
           (try (have c34b3 : ¬ (x9_2 = t335) := by simpa using c34))
           clear c34
           obtain rfl := Option.some.inj H
           go_wp2
           repeat (go_quiet (fail); try go_wp2)
           go_ret
           exact ⟨by first | rfl | (simp only [u8w, w64m]; rfl) | (simp [errW_none, errW_some] <;> rfl) | (simp [*, errW_none, errW_some] <;> rfl), bz⟩

/-- THE ONE PURE STATEMENT of laws_FnRouteSpan: yours. -/
def laws_FnRouteSpan.Pure : Prop := ∀ (l0 : List Int), l0.length ≤ maxLen → l0.length * 1 ≤ 140737488351232 → (∀ x ∈ l0, (Lit.int .u8 x).wf = true) → ∃ k, laws_FnRouteSpan.f k l0 = some true
theorem laws_FnRouteSpan.walk (P : laws_FnRouteSpan.Pure) (a0 : Option Addr) (len0 cap0 : Nat) (z0 : List Int) (w : World) (w0 : (a0 = none ∧ len0 = 0 ∧ cap0 = 0 ∧ z0 = []) ∨ ∃ x, a0 = some x ∧ len0 ≤ cap0 ∧ cap0 ≤ maxLen ∧ z0.length = cap0 ∧ (∀ i, i < z0.length → w.cell? (x.add i) = some (.int .u8 (z0.getD i 0))) ∧ ∀ n ∈ z0, (Lit.int .u8 n).wf = true) (y0 : len0 * 1 ≤ 140737488351232) :
  Calls Try.prog 8 #[.slice a0 len0 cap0] w fun e w' => e = .returned (.bool true) ∧ Below w.heap.size w w' := by
 obtain ⟨l0, rfl, hr0, hm0, hw0, hc0⟩ := ReadsInt.ofRowC w0
 obtain ⟨k, h⟩ := P l0 hm0 y0 hw0
 refine (laws_FnRouteSpan.calls k _ _ l0 true w (Kd.C_of_reads (d := (0 : Int)) (h1 := fun _ => rfl) hr0) hc0 h).mono ?_
 rintro e w' ⟨rfl, hd⟩
 exact ⟨rfl, hd⟩

end Go.Proofs.Ytinnjgogaidhlaa.PFnRouteSpan
