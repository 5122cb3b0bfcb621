/- Go functions as plain Lean functions, and for each a proof that its call comes to what the function says; under the conditions that each theorem names. Written by a program of this session. -/
import Derived.Test.YtinnjgogaidhlaaPFnExactMergeRoutesx0
import Derived.Test.YtinnjgogaidhlaaPFnExactMergeRoutesx8
import Derived.Test.YtinnjgogaidhlaaPFnExactMergeRoutesx9
import Derived.Test.YtinnjgogaidhlaaPFnExactMergeRoutesx11
namespace Go.Proofs.Ytinnjgogaidhlaa.PFnExactMergeRoutes
open Go.RowKit Go.Proofs.YtinnjgogaidhlaaW.PrintWords Go.Proofs.YtinnjgogaidhlaaW.PrintLast Go.Proofs.YtinnjgogaidhlaaW.PrintMore
attribute [local go_sem high] str_gtr str_leq str_geq
attribute [local go_sem] max2_int min2_int max_two min_two max_three min_three max_four min_four   -- for this text's walks alone
set_option linter.unusedVariables false
set_option linter.unusedSimpArgs false

/-! ### impl_RoutesValid: function 33 -/
def impl_RoutesValid.f (k : Nat) (l0 : List (S43)) : Option (Bool) := if (l0.length : Int) ≤ 6 then ((impl_spansOf.f k l0).bind fun t254 => ((impl_PartitionValid.f k t254).bind fun t257 => (if t257 = true then ((impl_numbersDiffer.f k l0).bind fun t258 => (some t258)) else (some false)))) else (some false)
theorem impl_RoutesValid.mono : ∀ a0 k, LeO (impl_RoutesValid.f k a0) (impl_RoutesValid.f (k + 1) a0) := by
 intro a0 k
 unfold impl_RoutesValid.f
 repeat' first
   | (with_reducible exact impl_PartitionValid.mono _ _)
   | (with_reducible exact impl_numbersDiffer.mono _ _)
   | (with_reducible exact impl_spansOf.mono _ _)
   | (with_reducible exact LeO.refl _)
   | (with_reducible exact LeO.none _)
   | (with_reducible refine LeO.ite ?_ ?_)
   | (with_reducible refine LeO.bind ?_ (fun _ => ?_))
   | exact impl_PartitionValid.mono _ _
   | exact impl_numbersDiffer.mono _ _
   | exact impl_spansOf.mono _ _
   | exact LeO.none _
   | refine LeO.ite ?_ ?_
   | refine LeO.bind ?_ (fun _ => ?_)
set_option maxHeartbeats 8000000 in
set_option maxRecDepth 100000 in
theorem impl_RoutesValid.calls (k : Nat) (A0 : Option Addr) (c0 : Nat) (l0 : List (S43)) (r : Bool) (w : World) (hr0 : Kd.C k43 w A0 l0.length l0) (hc0 : l0.length ≤ c0) (h : impl_RoutesValid.f k l0 = some r) :
  Calls Try.prog 33 #[.slice A0 l0.length c0] w fun e w' => e = .returned (.bool r) ∧ Below w.heap.size w w' := by
 have HR0 := Aside0.mk hr0
 have HC0 := Aside0.mk hc0
 clear hr0 hc0
 have HB := Aside0.mk (Below.refl w.heap.size w)
 have H : (if (l0.length : Int) ≤ 6 then ((impl_spansOf.f k l0).bind fun t254 => ((impl_PartitionValid.f k t254).bind fun t257 => (if t257 = true then ((impl_numbersDiffer.f k l0).bind fun t258 => (some t258)) else (some false)))) else (some false)) = some r := h
 clear h
 by_cases c2 : (l0.length : Int) ≤ 6
 ·
  rw [if_pos c2] at H
  have c2b0 : decide ((l0.length : Int) ≤ 6) = true := decide_eq_true c2
  have c2b1 : decide (l0.length ≤ 6) = true := decide_eq_true (by omega)
  clear c2
  replace H := Option.bind_eq_some_iff.mp H
  obtain ⟨t254, A30, H⟩ := H
  try dsimp only at H
  have A3 := Aside0.mk A30
  clear A30
  replace H := Option.bind_eq_some_iff.mp H
  obtain ⟨t257, A40, H⟩ := H
  try dsimp only at H
  have A4 := Aside0.mk A40
  clear A40
  by_cases c5 : t257 = true
  ·
   subst c5
   rw [if_pos rfl] at H
   replace H := Option.bind_eq_some_iff.mp H
   obtain ⟨t258, A60, H⟩ := H
   try dsimp only at H
   have A6 := Aside0.mk A60
   clear A60
   obtain rfl := Option.some.inj H
   go_enter Try.func33, Try.ntmps33
   go_wp2_with (first | (go_at_call 63; (with_reducible refine (impl_spansOf.calls k _ _ l0 t254 _ ?side1 ?side2 A3.out).mono ?_); (case side1 => repeat (first | exact HR0.out | (with_reducible refine Kd.C_alloc ?_ _) | (with_reducible refine Kd.C_drewN ?_ _) | (with_reducible refine Kd.C_drew ?_))); (case side2 => exact HC0.out); rintro e w7 ⟨v255, rfl, ho0, hb⟩; have n0_ := Aside0.mk (Kd.R_lower ho0 (below_size (bz))); have n1_ := Aside0.mk (below_step (bz) hb); clear HB; have HO256 := n0_; have HB := n1_; clear n0_ n1_; (try clear hb); (try clear hb2); (try clear hk); (try clear hi); (try clear ho0); obtain ⟨Ao8, co8, eo8⟩ := Kd.R_slice HO256.out; subst eo8) | (go_at_call 73; (with_reducible refine (impl_PartitionValid.calls k _ _ t254 true _ ?side1 ?side2 A4.out).mono ?_); (case side1 => repeat (first | exact (Kd.R_reads' HO256.out).2.2 | (with_reducible refine Kd.C_alloc ?_ _) | (with_reducible refine Kd.C_drewN ?_ _) | (with_reducible refine Kd.C_drew ?_))); (case side2 => exact (Kd.R_reads' HO256.out).2.1); rintro e w9 ⟨rfl, hb⟩; have n0_ := Aside0.mk (Kd.R_below (by (with_reducible repeat (first | apply Kd.R_alloc | apply Kd.R_drewN | apply Kd.R_drew)); exact HO256.out) hb); have n1_ := Aside0.mk (below_step (bz) hb); clear HO256; clear HB; have HO256 := n0_; have HB := n1_; clear n0_ n1_; (try clear hb); (try clear hb2); (try clear hk); (try clear hi)) | (go_at_call 69; (with_reducible refine (impl_numbersDiffer.calls k _ _ l0 t258 _ ?side1 ?side2 A6.out).mono ?_); (case side1 => repeat (first | exact (Kd.C_below HR0.out HB.out) | (with_reducible refine Kd.C_alloc ?_ _) | (with_reducible refine Kd.C_drewN ?_ _) | (with_reducible refine Kd.C_drew ?_))); (case side2 => exact HC0.out); rintro e w10 ⟨rfl, hb⟩; have n0_ := Aside0.mk (Kd.R_below (by (with_reducible repeat (first | apply Kd.R_alloc | apply Kd.R_drewN | apply Kd.R_drew)); exact HO256.out) hb); have n1_ := Aside0.mk (below_step (bz) hb); clear HO256; clear HB; have HO256 := n0_; have HB := n1_; clear n0_ n1_; (try clear hb); (try clear hb2); (try clear hk); (try clear hi)))
   go_ret
   exact ⟨by first | rfl | (simp only [u8w, w64m]; rfl) | (simp [errW_none, errW_some] <;> rfl) | (simp [*, errW_none, errW_some] <;> rfl), bz⟩
  ·
   replace c5 := Bool.eq_false_iff.mpr c5
   subst c5
   rw [if_neg (show ¬ (false = true) by decide)] at H
   obtain rfl := Option.some.inj H
   go_enter Try.func33, Try.ntmps33
   go_wp2_with (first | (go_at_call 63; (with_reducible refine (impl_spansOf.calls k _ _ l0 t254 _ ?side1 ?side2 A3.out).mono ?_); (case side1 => repeat (first | exact HR0.out | (with_reducible refine Kd.C_alloc ?_ _) | (with_reducible refine Kd.C_drewN ?_ _) | (with_reducible refine Kd.C_drew ?_))); (case side2 => exact HC0.out); rintro e w11 ⟨v255, rfl, ho0, hb⟩; have n0_ := Aside0.mk (Kd.R_lower ho0 (below_size (bz))); have n1_ := Aside0.mk (below_step (bz) hb); clear HB; have HO256 := n0_; have HB := n1_; clear n0_ n1_; (try clear hb); (try clear hb2); (try clear hk); (try clear hi); (try clear ho0); obtain ⟨Ao12, co12, eo12⟩ := Kd.R_slice HO256.out; subst eo12) | (go_at_call 73; (with_reducible refine (impl_PartitionValid.calls k _ _ t254 false _ ?side1 ?side2 A4.out).mono ?_); (case side1 => repeat (first | exact (Kd.R_reads' HO256.out).2.2 | (with_reducible refine Kd.C_alloc ?_ _) | (with_reducible refine Kd.C_drewN ?_ _) | (with_reducible refine Kd.C_drew ?_))); (case side2 => exact (Kd.R_reads' HO256.out).2.1); rintro e w13 ⟨rfl, hb⟩; have n0_ := Aside0.mk (Kd.R_below (by (with_reducible repeat (first | apply Kd.R_alloc | apply Kd.R_drewN | apply Kd.R_drew)); exact HO256.out) hb); have n1_ := Aside0.mk (below_step (bz) hb); clear HO256; clear HB; have HO256 := n0_; have HB := n1_; clear n0_ n1_; (try clear hb); (try clear hb2); (try clear hk); (try clear hi)))
   go_ret
   exact ⟨by first | rfl | (simp only [u8w, w64m]; rfl) | (simp [errW_none, errW_some] <;> rfl) | (simp [*, errW_none, errW_some] <;> rfl), bz⟩
 ·
  rw [if_neg c2] at H
  have c2b0 : decide ((l0.length : Int) ≤ 6) = false := decide_eq_false c2
  have c2b1 : decide (l0.length ≤ 6) = false := decide_eq_false (by omega)
  clear c2
  obtain rfl := Option.some.inj H
  go_enter Try.func33, Try.ntmps33
  go_wp2
  go_ret
  exact ⟨by first | rfl | (simp only [u8w, w64m]; rfl) | (simp [errW_none, errW_some] <;> rfl) | (simp [*, errW_none, errW_some] <;> rfl), bz⟩

/-! ### impl_Route_57: function 57 -/
def impl_Route_57.f (l0 : List (S43)) : Option ((List (S43))) := if ([] : List (S43)).length + l0.length < 3518437208883 then (some (([] : List (S43)) ++ l0)) else (none)
set_option maxHeartbeats 8000000 in
set_option maxRecDepth 100000 in
theorem impl_Route_57.calls (A0 : Option Addr) (c0 : Nat) (l0 : List (S43)) (r : List (S43)) (w : World) (hr0 : Kd.C k43 w A0 l0.length l0) (hc0 : l0.length ≤ c0) (h : impl_Route_57.f l0 = some r) :
  Calls Try.prog 57 #[.slice A0 l0.length c0] w fun e w' => ∃ v0_ : Value, e = .returned (v0_) ∧ Kd.R k43 43 w' w.heap.size (fun _ => True) v0_ r ∧ Below w.heap.size w w' := by
 have HR0 := Aside0.mk hr0
 have HC0 := Aside0.mk hc0
 clear hr0 hc0
 have HB := Aside0.mk (Below.refl w.heap.size w)
 have H : (if ([] : List (S43)).length + l0.length < 3518437208883 then (some (([] : List (S43)) ++ l0)) else (none)) = some r := h
 clear h
 by_cases c2 : ([] : List (S43)).length + l0.length < 3518437208883
 ·
  rw [if_pos c2] at H
  have LMc2 := Aside0.mk c2
  clear c2
  obtain ⟨y259, hy259⟩ : ∃ y_ : List (S43), y_ = (([] : List (S43)) ++ l0) := ⟨_, rfl⟩
  replace H : (some y259) = some r := by first | (rw [hy259]; with_reducible exact H) | (have H2_ := (Option.bind_some _ _).symm.trans H; rw [hy259]; with_reducible exact H2_) | (have H2_ := (Option.bind_some _ _).symm.trans H; with_reducible exact H2_) | with_reducible exact H | (rw [hy259]; exact H) | exact H
  have Ny259 := Aside0.mk hy259
  clear hy259
  obtain rfl := Option.some.inj H
  go_enter Try.func57, Try.ntmps57
  go_wp2_with (first | ((with_reducible refine gate_builtin (b := .append) (xs := #[.const (.slice none 0 0), .tmp 3]) rfl ?_); at_builtin; refine Kd.R_append_rows k43 (w0 := w) w.heap.size rfl (.const (.slice none 0 0)) (.tmp 3) 28 43 (.agg #[(.int .i64 0), (.string ⟨#[]⟩), (.string ⟨#[]⟩)]) 40 rfl Try.underlying28 info43 rfl (by decide) (by omega) (.slice none 0 0) ([] : List (S43)) l0 _ _ _ (fun _ => True) (fun _ => False) rfl rfl ?aO ?aR (fun _ _ h => h) (fun _ h => h.elim) ?aF ?aB ?aS ?aL ?_; (case aR => repeat (first | exact HR0.out | (with_reducible refine Kd.C_alloc ?_ _) | (with_reducible refine Kd.C_drewN ?_ _) | (with_reducible refine Kd.C_drew ?_))); (case aB => exact (bz)); (case aF => exact (fun _ _ => trivial)); (case aO => exact ((Kd.R_nil _ _ _ _ (fun _ => True)))); (case aS => exact (below_size (bz))); (case aL => have := LMc2.out; omega); intro v260 w3 ho hb hg hat; rw [← Ny259.out] at ho; have n0_ := Aside0.mk (hb); have n1_ := Aside0.mk (ho); clear HB; have HB := n0_; have HO261 := n1_; clear n0_ n1_; clear ho hb hg hat))
  go_ret
  exact ⟨_, by first | rfl | (simp only [u8w, w64m]; rfl) | (simp [errW_none, errW_some] <;> rfl) | (simp [*, errW_none, errW_some] <;> rfl), by (with_reducible repeat (first | apply Kd.R_alloc | apply Kd.R_drewN | apply Kd.R_drew)); exact HO261.out, bz⟩
 ·
  rw [if_neg c2] at H
  exact absurd H (by simp)

/-! ### impl_Route_58: function 58 -/
def impl_Route_58.f (l0 : List (S43)) (a1 : Int) (a2 : Int) (l3 : List (S43)) : Option ((List (S43))) := if 0 ≤ (wrap64 ((wrap64 ((l0.length : Int) - a2)) + (l3.length : Int))) then (if (wrap64 ((wrap64 ((l0.length : Int) - a2)) + (l3.length : Int)) : Int).toNat ≤ 7036874417766 then ((some (([] : List (S43)) : List (S43))).bind fun y262 => (if 0 ≤ a1 then (if a1 ≤ (l0.length : Int) then ((some (l0.take (a1 : Int).toNat : List (S43))).bind fun y265 => (if y262.length + y265.length < 3518437208883 then ((some (y262 ++ y265 : List (S43))).bind fun y269 => (if y269.length + l3.length < 3518437208883 then ((some (y269 ++ l3 : List (S43))).bind fun y272 => (if 0 ≤ (wrap64 (a1 + a2)) then (if (wrap64 (a1 + a2)) ≤ (l0.length : Int) then ((some (l0.drop ((wrap64 (a1 + a2)) : Int).toNat : List (S43))).bind fun y275 => (if y272.length + y275.length < 3518437208883 then (some (y272 ++ y275)) else (none))) else (none)) else (none))) else (none))) else (none))) else (none)) else (none))) else (none)) else (none)
set_option maxHeartbeats 8000000 in
set_option maxRecDepth 100000 in
theorem impl_Route_58.calls (A0 : Option Addr) (c0 : Nat) (l0 : List (S43)) (a1 : Int) (a2 : Int) (A3 : Option Addr) (c3 : Nat) (l3 : List (S43)) (r : List (S43)) (w : World) (hr0 : Kd.C k43 w A0 l0.length l0) (hc0 : l0.length ≤ c0) (hr3 : Kd.C k43 w A3 l3.length l3) (hc3 : l3.length ≤ c3) (h : impl_Route_58.f l0 a1 a2 l3 = some r) :
  Calls Try.prog 58 #[.slice A0 l0.length c0, .int .i64 a1, .int .i64 a2, .slice A3 l3.length c3] w fun e w' => ∃ v0_ : Value, e = .returned (v0_) ∧ Kd.R k43 43 w' w.heap.size (fun _ => True) v0_ r ∧ Below w.heap.size w w' := by
 have HR0 := Aside0.mk hr0
 have HC0 := Aside0.mk hc0
 clear hr0 hc0
 have HR3 := Aside0.mk hr3
 have HC3 := Aside0.mk hc3
 clear hr3 hc3
 have HB := Aside0.mk (Below.refl w.heap.size w)
 have H : (if 0 ≤ (wrap64 ((wrap64 ((l0.length : Int) - a2)) + (l3.length : Int))) then (if (wrap64 ((wrap64 ((l0.length : Int) - a2)) + (l3.length : Int)) : Int).toNat ≤ 7036874417766 then ((some (([] : List (S43)) : List (S43))).bind fun y262 => (if 0 ≤ a1 then (if a1 ≤ (l0.length : Int) then ((some (l0.take (a1 : Int).toNat : List (S43))).bind fun y265 => (if y262.length + y265.length < 3518437208883 then ((some (y262 ++ y265 : List (S43))).bind fun y269 => (if y269.length + l3.length < 3518437208883 then ((some (y269 ++ l3 : List (S43))).bind fun y272 => (if 0 ≤ (wrap64 (a1 + a2)) then (if (wrap64 (a1 + a2)) ≤ (l0.length : Int) then ((some (l0.drop ((wrap64 (a1 + a2)) : Int).toNat : List (S43))).bind fun y275 => (if y272.length + y275.length < 3518437208883 then (some (y272 ++ y275)) else (none))) else (none)) else (none))) else (none))) else (none))) else (none)) else (none))) else (none)) else (none)) = some r := h
 clear h
 obtain ⟨ji5, hji5⟩ : ∃ j_ : Int, (wrap64 ((wrap64 ((l0.length : Int) - a2)) + (l3.length : Int))) = j_ := ⟨_, rfl⟩
 replace H : (if 0 ≤ (ji5) then (if (ji5 : Int).toNat ≤ 7036874417766 then ((some (([] : List (S43)) : List (S43))).bind fun y262 => (if 0 ≤ a1 then (if a1 ≤ (l0.length : Int) then ((some (l0.take (a1 : Int).toNat : List (S43))).bind fun y265 => (if y262.length + y265.length < 3518437208883 then ((some (y262 ++ y265 : List (S43))).bind fun y269 => (if y269.length + l3.length < 3518437208883 then ((some (y269 ++ l3 : List (S43))).bind fun y272 => (if 0 ≤ (wrap64 (a1 + a2)) then (if (wrap64 (a1 + a2)) ≤ (l0.length : Int) then ((some (l0.drop ((wrap64 (a1 + a2)) : Int).toNat : List (S43))).bind fun y275 => (if y272.length + y275.length < 3518437208883 then (some (y272 ++ y275)) else (none))) else (none)) else (none))) else (none))) else (none))) else (none)) else (none))) else (none)) else (none)) = some r := by first | (rw [hji5] at H; exact H) | (simp only [hji5] at H ⊢; exact H)
 have hji5w : (IntKind.i64.wrap ((wrap64 ((l0.length : Int) - a2)) + (l3.length : Int))) = ji5 := (i64_w _).trans hji5
 by_cases c6 : 0 ≤ (ji5)
 ·
  rw [if_pos c6] at H
  have c6b0 := eq_true c6
  have c6b1 : decide (0 ≤ (ji5)) = true := decide_eq_true c6
  clear c6
  by_cases c7 : (ji5 : Int).toNat ≤ 7036874417766
  ·
   rw [if_pos c7] at H
   have c7b0 := eq_true c7
   have c7b1 : decide ((ji5 : Int).toNat ≤ 7036874417766) = true := decide_eq_true c7
   clear c7
   obtain ⟨y262, hy262⟩ : ∃ y_ : List (S43), y_ = (([] : List (S43))) := ⟨_, rfl⟩
   replace H : (if 0 ≤ a1 then (if a1 ≤ (l0.length : Int) then ((some (l0.take (a1 : Int).toNat : List (S43))).bind fun y265 => (if y262.length + y265.length < 3518437208883 then ((some (y262 ++ y265 : List (S43))).bind fun y269 => (if y269.length + l3.length < 3518437208883 then ((some (y269 ++ l3 : List (S43))).bind fun y272 => (if 0 ≤ (wrap64 (a1 + a2)) then (if (wrap64 (a1 + a2)) ≤ (l0.length : Int) then ((some (l0.drop ((wrap64 (a1 + a2)) : Int).toNat : List (S43))).bind fun y275 => (if y272.length + y275.length < 3518437208883 then (some (y272 ++ y275)) else (none))) else (none)) else (none))) else (none))) else (none))) else (none)) else (none)) = some r := by first | (rw [hy262]; with_reducible exact H) | (have H2_ := (Option.bind_some _ _).symm.trans H; rw [hy262]; with_reducible exact H2_) | (have H2_ := (Option.bind_some _ _).symm.trans H; with_reducible exact H2_) | with_reducible exact H | (rw [hy262]; exact H) | exact H
   have Ny262 := Aside0.mk hy262
   clear hy262
   by_cases c8 : 0 ≤ a1
   ·
    rw [if_pos c8] at H
    have c8b0 := eq_true c8
    have c8b1 : decide (0 ≤ a1) = true := decide_eq_true c8
    clear c8
    by_cases c9 : a1 ≤ (l0.length : Int)
    ·
     rw [if_pos c9] at H
     have c9b0 := eq_true c9
     have c9b1 : decide (a1 ≤ (l0.length : Int)) = true := decide_eq_true c9
     clear c9
     obtain ⟨y265, hy265⟩ : ∃ y_ : List (S43), y_ = (l0.take (a1 : Int).toNat) := ⟨_, rfl⟩
     replace H : (if y262.length + y265.length < 3518437208883 then ((some (y262 ++ y265 : List (S43))).bind fun y269 => (if y269.length + l3.length < 3518437208883 then ((some (y269 ++ l3 : List (S43))).bind fun y272 => (if 0 ≤ (wrap64 (a1 + a2)) then (if (wrap64 (a1 + a2)) ≤ (l0.length : Int) then ((some (l0.drop ((wrap64 (a1 + a2)) : Int).toNat : List (S43))).bind fun y275 => (if y272.length + y275.length < 3518437208883 then (some (y272 ++ y275)) else (none))) else (none)) else (none))) else (none))) else (none)) = some r := by first | (rw [hy265]; with_reducible exact H) | (have H2_ := (Option.bind_some _ _).symm.trans H; rw [hy265]; with_reducible exact H2_) | (have H2_ := (Option.bind_some _ _).symm.trans H; with_reducible exact H2_) | with_reducible exact H | (rw [hy265]; exact H) | exact H
     have Ny265 := Aside0.mk hy265
     clear hy265
     by_cases c10 : y262.length + y265.length < 3518437208883
     ·
      rw [if_pos c10] at H
      have LMc10 := Aside0.mk c10
      clear c10
      obtain ⟨y269, hy269⟩ : ∃ y_ : List (S43), y_ = (y262 ++ y265) := ⟨_, rfl⟩
      replace H : (if y269.length + l3.length < 3518437208883 then ((some (y269 ++ l3 : List (S43))).bind fun y272 => (if 0 ≤ (wrap64 (a1 + a2)) then (if (wrap64 (a1 + a2)) ≤ (l0.length : Int) then ((some (l0.drop ((wrap64 (a1 + a2)) : Int).toNat : List (S43))).bind fun y275 => (if y272.length + y275.length < 3518437208883 then (some (y272 ++ y275)) else (none))) else (none)) else (none))) else (none)) = some r := by first | (rw [hy269]; with_reducible exact H) | (have H2_ := (Option.bind_some _ _).symm.trans H; rw [hy269]; with_reducible exact H2_) | (have H2_ := (Option.bind_some _ _).symm.trans H; with_reducible exact H2_) | with_reducible exact H | (rw [hy269]; exact H) | exact H
      have Ny269 := Aside0.mk hy269
      clear hy269
      by_cases c11 : y269.length + l3.length < 3518437208883
      ·
       rw [if_pos c11] at H
       have LMc11 := Aside0.mk c11
       clear c11
       obtain ⟨y272, hy272⟩ : ∃ y_ : List (S43), y_ = (y269 ++ l3) := ⟨_, rfl⟩
       replace H : (if 0 ≤ (wrap64 (a1 + a2)) then (if (wrap64 (a1 + a2)) ≤ (l0.length : Int) then ((some (l0.drop ((wrap64 (a1 + a2)) : Int).toNat : List (S43))).bind fun y275 => (if y272.length + y275.length < 3518437208883 then (some (y272 ++ y275)) else (none))) else (none)) else (none)) = some r := by first | (rw [hy272]; with_reducible exact H) | (have H2_ := (Option.bind_some _ _).symm.trans H; rw [hy272]; with_reducible exact H2_) | (have H2_ := (Option.bind_some _ _).symm.trans H; with_reducible exact H2_) | with_reducible exact H | (rw [hy272]; exact H) | exact H
       have Ny272 := Aside0.mk hy272
       clear hy272
       obtain ⟨ji12, hji12⟩ : ∃ j_ : Int, (wrap64 (a1 + a2)) = j_ := ⟨_, rfl⟩
       replace H : (if 0 ≤ (ji12) then (if (ji12) ≤ (l0.length : Int) then ((some (l0.drop ((ji12) : Int).toNat : List (S43))).bind fun y275 => (if y272.length + y275.length < 3518437208883 then (some (y272 ++ y275)) else (none))) else (none)) else (none)) = some r := by first | (rw [hji12] at H; exact H) | (simp only [hji12] at H ⊢; exact H)
       have hji12w : (IntKind.i64.wrap (a1 + a2)) = ji12 := (i64_w _).trans hji12
       by_cases c13 : 0 ≤ (ji12)
       ·
        rw [if_pos c13] at H
        have c13b0 := eq_true c13
        have c13b1 : decide (0 ≤ (ji12)) = true := decide_eq_true c13
        clear c13
        by_cases c14 : (ji12) ≤ (l0.length : Int)
        ·
         rw [if_pos c14] at H
         have c14b0 := eq_true c14
         have c14b1 : decide ((ji12) ≤ (l0.length : Int)) = true := decide_eq_true c14
         clear c14
         obtain ⟨y275, hy275⟩ : ∃ y_ : List (S43), y_ = (l0.drop ((ji12) : Int).toNat) := ⟨_, rfl⟩
         replace H : (if y272.length + y275.length < 3518437208883 then (some (y272 ++ y275)) else (none)) = some r := by first | (rw [hy275]; with_reducible exact H) | (have H2_ := (Option.bind_some _ _).symm.trans H; rw [hy275]; with_reducible exact H2_) | (have H2_ := (Option.bind_some _ _).symm.trans H; with_reducible exact H2_) | with_reducible exact H | (rw [hy275]; exact H) | exact H
         have Ny275 := Aside0.mk hy275
         clear hy275
         by_cases c15 : y272.length + y275.length < 3518437208883
         ·
          rw [if_pos c15] at H
          have LMc15 := Aside0.mk c15
          clear c15
          obtain ⟨y279, hy279⟩ : ∃ y_ : List (S43), y_ = (y272 ++ y275) := ⟨_, rfl⟩
          replace H : (some y279) = some r := by first | (rw [hy279]; with_reducible exact H) | (have H2_ := (Option.bind_some _ _).symm.trans H; rw [hy279]; with_reducible exact H2_) | (have H2_ := (Option.bind_some _ _).symm.trans H; with_reducible exact H2_) | with_reducible exact H | (rw [hy279]; exact H) | exact H
          have Ny279 := Aside0.mk hy279
          clear hy279
          obtain rfl := Option.some.inj H
          go_enter Try.func58, Try.ntmps58
          go_wp2_with (first | ((with_reducible refine gate_dst (N := 17) rfl ?_); refine Kd.R_make_cap k43 _ 43 rfl 28 _ _ rfl ji5 rfl (by first | rfl | exact congrArg (Value.int .i64) (Eq.symm (by assumption))) Try.underlying28 (.agg #[(.int .i64 0), (.string ⟨#[]⟩), (.string ⟨#[]⟩)]) 40 info43 (by decide) (by omega) (ok := fun _ => True) trivial (of_decide_eq_true (by first | (with_reducible assumption) | assumption)) (Nat.le_trans (Nat.mul_le_mul_right _ (of_decide_eq_true (by first | (with_reducible assumption) | assumption) : ji5.toNat ≤ 7036874417766)) (by omega)) (Nat.le_trans (of_decide_eq_true (by first | (with_reducible assumption) | assumption) : ji5.toNat ≤ 7036874417766) (by decide)) (Below.refl _ _) (Nat.le_refl _) ?_; intro v263 w16 ho17 hb hg_ hnew_; clear hg_ hnew_; (first | rw [← Ny262.out] at ho17 | (simp only [Int.reduceToNat] at ho17; rw [← Ny262.out] at ho17)); have n0_ := Aside0.mk (Kd.R_lower ho17 (below_size (bz))); have n1_ := Aside0.mk (below_step (bz) hb); clear HB; have HO264 := n0_; have HB := n1_; clear n0_ n1_; clear hb ho17; have q18 : (a1 : Int) ≤ ((l0.length : Int) : Int) := of_decide_eq_true (by first | (with_reducible assumption) | assumption); obtain ⟨i018, hi018, _, hsz18, _⟩ := info_parts info43; have hroom18 : l0.length ≤ c0 := HC0.out; have hC18 : Kd.C k43 _ A0 l0.length l0 := HR0.out; have hcut18 := cut_to (P := Try.prog) 28 43 .i64 Try.underlying28 hi018 A0 l0.length c0 a1 (of_decide_eq_true (by first | (with_reducible assumption) | assumption)) q18 hroom18; have hr18 := Kd.C_take (m := (a1 : Int).toNat) hC18 (by omega); have hy18 : y265.length = (a1 : Int).toNat := (by rw [Ny265.out, List.length_take]; omega); rw [← Ny265.out] at hr18; rw [← hy18] at hcut18; have HR268 := Aside0.mk hr18; have HC268 := Aside0.mk (show y265.length ≤ c0 from by omega); clear hr18 hC18 hroom18 hi018 hsz18; have KY18 := Aside0.mk hy18; clear hy18; replace q18 := eq_true q18) | ((with_reducible refine gate_builtin (b := .append) (xs := #[.tmp 18, .tmp 21]) rfl ?_); at_builtin; refine Kd.R_append_rows k43 (w0 := w) w.heap.size rfl (.tmp 18) (.tmp 21) 28 43 (.agg #[(.int .i64 0), (.string ⟨#[]⟩), (.string ⟨#[]⟩)]) 40 rfl Try.underlying28 info43 rfl (by decide) (by omega) v263 y262 y265 _ _ _ (fun _ => True) (fun _ => False) rfl rfl ?aO ?aR (fun _ _ h => h) (fun _ h => h.elim) ?aF ?aB ?aS ?aL ?_; (case aR => repeat (first | exact (Kd.C_below HR268.out HB.out) | (with_reducible refine Kd.C_alloc ?_ _) | (with_reducible refine Kd.C_drewN ?_ _) | (with_reducible refine Kd.C_drew ?_))); (case aB => exact (bz)); (case aF => exact (fun _ _ => trivial)); (case aO => exact (by (with_reducible repeat (first | apply Kd.R_alloc | apply Kd.R_drewN | apply Kd.R_drew)); exact HO264.out)); (case aS => exact (below_size (bz))); (case aL => have := LMc10.out; omega); intro v270 w19 ho hb hg hat; rw [← Ny269.out] at ho; have n0_ := Aside0.mk (hb); have n1_ := Aside0.mk (ho); clear HB; clear HO264; have HB := n0_; have HO271 := n1_; clear n0_ n1_; clear ho hb hg hat) | ((with_reducible refine gate_builtin (b := .append) (xs := #[.tmp 23, .tmp 24]) rfl ?_); at_builtin; refine Kd.R_append_rows k43 (w0 := w) w.heap.size rfl (.tmp 23) (.tmp 24) 28 43 (.agg #[(.int .i64 0), (.string ⟨#[]⟩), (.string ⟨#[]⟩)]) 40 rfl Try.underlying28 info43 rfl (by decide) (by omega) v270 y269 l3 _ _ _ (fun _ => True) (fun _ => False) rfl rfl ?aO ?aR (fun _ _ h => h) (fun _ h => h.elim) ?aF ?aB ?aS ?aL ?_; (case aR => repeat (first | exact (Kd.C_below HR3.out HB.out) | (with_reducible refine Kd.C_alloc ?_ _) | (with_reducible refine Kd.C_drewN ?_ _) | (with_reducible refine Kd.C_drew ?_))); (case aB => exact (bz)); (case aF => exact (fun _ _ => trivial)); (case aO => exact (by (with_reducible repeat (first | apply Kd.R_alloc | apply Kd.R_drewN | apply Kd.R_drew)); exact HO271.out)); (case aS => exact (below_size (bz))); (case aL => have := LMc11.out; omega); intro v273 w20 ho hb hg hat; rw [← Ny272.out] at ho; have n0_ := Aside0.mk (hb); have n1_ := Aside0.mk (ho); clear HB; clear HO271; have HB := n0_; have HO274 := n1_; clear n0_ n1_; clear ho hb hg hat; have q21 : ((ji12) : Int) ≤ ((l0.length : Int) : Int) := of_decide_eq_true (by first | (with_reducible assumption) | assumption); obtain ⟨i021, hi021, _, hsz21, _⟩ := info_parts info43; have hroom21 : l0.length ≤ c0 := HC0.out; have hC21 : Kd.C k43 _ A0 l0.length l0 := HR0.out; have q021 : (0 : Int) ≤ ((ji12) : Int) := of_decide_eq_true (by first | (with_reducible assumption) | assumption); have hcut21 := cut_from (P := Try.prog) 28 43 .i64 Try.underlying28 hi021 3 hsz21 A0 l0.length c0 (ji12) q021 q21; have hr21 := Kd.C_drop (m := ((ji12) : Int).toNat) (c := c0) hC21 (by omega) hroom21; obtain ⟨A21, hA21⟩ : ∃ A1, A1 = (if c0 = ((ji12) : Int).toNat then A0 else (A0 : Option Addr).map (·.add (((ji12) : Int).toNat * 3))) := ⟨_, rfl⟩; obtain ⟨c21, hc21⟩ : ∃ c1, c1 = c0 - ((ji12) : Int).toNat := ⟨_, rfl⟩; have hy21 : y275.length = l0.length - ((ji12) : Int).toNat := (by rw [Ny275.out, List.length_drop] <;> omega); rw [show (l0).drop ((ji12) : Int).toNat = y275 from Ny275.out.symm] at hr21; replace hr21 : Kd.C k43 _ A21 y275.length y275 := (by rw [hA21]; exact hr21); rw [← hy21, ← hA21, ← hc21] at hcut21; have HR278 := Aside0.mk hr21; have HC278 := Aside0.mk (show y275.length ≤ c21 from by rw [hy21, hc21]; exact Nat.sub_le_sub_right hroom21 _); clear hr21 hC21 hroom21 hi021 hsz21 hc21; have KY21 := Aside0.mk hy21; have KA21 := Aside0.mk hA21; clear hy21 hA21; replace q21 := eq_true q21) | ((with_reducible refine gate_builtin (b := .append) (xs := #[.tmp 26, .tmp 31]) rfl ?_); at_builtin; refine Kd.R_append_rows k43 (w0 := w) w.heap.size rfl (.tmp 26) (.tmp 31) 28 43 (.agg #[(.int .i64 0), (.string ⟨#[]⟩), (.string ⟨#[]⟩)]) 40 rfl Try.underlying28 info43 rfl (by decide) (by omega) v273 y272 y275 _ _ _ (fun _ => True) (fun _ => False) rfl rfl ?aO ?aR (fun _ _ h => h) (fun _ h => h.elim) ?aF ?aB ?aS ?aL ?_; (case aR => repeat (first | exact (Kd.C_below HR278.out HB.out) | (with_reducible refine Kd.C_alloc ?_ _) | (with_reducible refine Kd.C_drewN ?_ _) | (with_reducible refine Kd.C_drew ?_))); (case aB => exact (bz)); (case aF => exact (fun _ _ => trivial)); (case aO => exact (by (with_reducible repeat (first | apply Kd.R_alloc | apply Kd.R_drewN | apply Kd.R_drew)); exact HO274.out)); (case aS => exact (below_size (bz))); (case aL => have := LMc15.out; omega); intro v280 w22 ho hb hg hat; rw [← Ny279.out] at ho; have n0_ := Aside0.mk (hb); have n1_ := Aside0.mk (ho); clear HB; clear HO274; have HB := n0_; have HO281 := n1_; clear n0_ n1_; clear ho hb hg hat))
          go_ret
          exact ⟨_, by first | rfl | (simp only [u8w, w64m]; rfl) | (simp [errW_none, errW_some] <;> rfl) | (simp only [← hji5, ← hji12]; first | rfl | (simp [errW_none, errW_some] <;> rfl)) | (simp [*, errW_none, errW_some] <;> rfl), by (with_reducible repeat (first | apply Kd.R_alloc | apply Kd.R_drewN | apply Kd.R_drew)); exact HO281.out, bz⟩
         ·
          rw [if_neg c15] at H
          exact absurd H (by simp)
        ·
         rw [if_neg c14] at H
         exact absurd H (by simp)
       ·
        rw [if_neg c13] at H
        exact absurd H (by simp)
      ·
       rw [if_neg c11] at H
       exact absurd H (by simp)
     ·
      rw [if_neg c10] at H
      exact absurd H (by simp)
    ·
     rw [if_neg c9] at H
     exact absurd H (by simp)
   ·
    rw [if_neg c8] at H
    exact absurd H (by simp)
  ·
   rw [if_neg c7] at H
   exact absurd H (by simp)
 ·
  rw [if_neg c6] at H
  exact absurd H (by simp)

end Go.Proofs.Ytinnjgogaidhlaa.PFnExactMergeRoutes
