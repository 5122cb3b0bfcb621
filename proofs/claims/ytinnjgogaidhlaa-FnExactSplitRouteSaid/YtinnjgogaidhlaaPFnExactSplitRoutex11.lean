/- Go functions as plain Lean functions, and for each a proof that its call comes to what the function says; under the conditions that each theorem names. Written by a program of this session. -/
import Derived.Test.YtinnjgogaidhlaaPFnExactSplitRoutex0
import Derived.Test.YtinnjgogaidhlaaPFnExactSplitRoutex7
import Derived.Test.YtinnjgogaidhlaaPFnExactSplitRoutex8
import Derived.Test.YtinnjgogaidhlaaPFnExactSplitRoutex9
import Derived.Test.YtinnjgogaidhlaaPFnExactSplitRoutex10
namespace Go.Proofs.Ytinnjgogaidhlaa.PFnExactSplitRoute
open Go.RowKit Go.Proofs.YtinnjgogaidhlaaW.PrintWords Go.Proofs.YtinnjgogaidhlaaW.PrintLast Go.Proofs.YtinnjgogaidhlaaW.PrintMore
attribute [local go_sem high] str_gtr str_leq str_geq
attribute [local go_sem] max2_int min2_int max_two min_two max_three min_three max_four min_four   -- for this text's walks alone
set_option linter.unusedVariables false
set_option linter.unusedSimpArgs false

/-! ### impl_RoutesValid: function 33 -/
def impl_RoutesValid.f (k : Nat) (l0 : List (S43)) : Option (Bool) := if (l0.length : Int) ≤ 6 then ((impl_spansOf.f k l0).bind fun t274 => ((impl_PartitionValid.f k t274).bind fun t277 => (if t277 = true then ((impl_numbersDiffer.f k l0).bind fun t278 => (some t278)) else (some false)))) else (some false)
theorem impl_RoutesValid.mono : ∀ a0 k, LeO (impl_RoutesValid.f k a0) (impl_RoutesValid.f (k + 1) a0) := by
 intro a0 k
 unfold impl_RoutesValid.f
 repeat' first
   | (with_reducible exact impl_PartitionValid.mono _ _)
   | (with_reducible exact impl_numbersDiffer.mono _ _)
   | (with_reducible exact impl_spansOf.mono _ _)
   | (with_reducible exact LeO.refl _)
   | (with_reducible exact LeO.none _)
   | (with_reducible refine LeO.ite ?_ ?_)
   | (with_reducible refine LeO.bind ?_ (fun _ => ?_))
   | exact impl_PartitionValid.mono _ _
   | exact impl_numbersDiffer.mono _ _
   | exact impl_spansOf.mono _ _
   | exact LeO.none _
   | refine LeO.ite ?_ ?_
   | refine LeO.bind ?_ (fun _ => ?_)
set_option maxHeartbeats 8000000 in
set_option maxRecDepth 100000 in
theorem impl_RoutesValid.calls (k : Nat) (A0 : Option Addr) (c0 : Nat) (l0 : List (S43)) (r : Bool) (w : World) (hr0 : Kd.C k43 w A0 l0.length l0) (hc0 : l0.length ≤ c0) (h : impl_RoutesValid.f k l0 = some r) :
  Calls Try.prog 33 #[.slice A0 l0.length c0] w fun e w' => e = .returned (.bool r) ∧ Below w.heap.size w w' := by
 have HR0 := Aside0.mk hr0
 have HC0 := Aside0.mk hc0
 clear hr0 hc0
 have HB := Aside0.mk (Below.refl w.heap.size w)
 have H : (if (l0.length : Int) ≤ 6 then ((impl_spansOf.f k l0).bind fun t274 => ((impl_PartitionValid.f k t274).bind fun t277 => (if t277 = true then ((impl_numbersDiffer.f k l0).bind fun t278 => (some t278)) else (some false)))) else (some false)) = some r := h
 clear h
 by_cases c2 : (l0.length : Int) ≤ 6
 ·
  rw [if_pos c2] at H
  have c2b0 : decide ((l0.length : Int) ≤ 6) = true := decide_eq_true c2
  have c2b1 : decide (l0.length ≤ 6) = true := decide_eq_true (by omega)
  clear c2
  replace H := Option.bind_eq_some_iff.mp H
  obtain ⟨t274, A30, H⟩ := H
  try dsimp only at H
  have A3 := Aside0.mk A30
  clear A30
  replace H := Option.bind_eq_some_iff.mp H
  obtain ⟨t277, A40, H⟩ := H
  try dsimp only at H
  have A4 := Aside0.mk A40
  clear A40
  by_cases c5 : t277 = true
  ·
   subst c5
   rw [if_pos rfl] at H
   replace H := Option.bind_eq_some_iff.mp H
   obtain ⟨t278, A60, H⟩ := H
   try dsimp only at H
   have A6 := Aside0.mk A60
   clear A60
   obtain rfl := Option.some.inj H
   go_enter Try.func33, Try.ntmps33
   go_wp2_with (first | (go_at_call 63; (with_reducible refine (impl_spansOf.calls k _ _ l0 t274 _ ?side1 ?side2 A3.out).mono ?_); (case side1 => repeat (first | exact HR0.out | (with_reducible refine Kd.C_alloc ?_ _) | (with_reducible refine Kd.C_drewN ?_ _) | (with_reducible refine Kd.C_drew ?_))); (case side2 => exact HC0.out); rintro e w7 ⟨v275, rfl, ho0, hb⟩; have n0_ := Aside0.mk (Kd.R_lower ho0 (below_size (bz))); have n1_ := Aside0.mk (below_step (bz) hb); clear HB; have HO276 := n0_; have HB := n1_; clear n0_ n1_; (try clear hb); (try clear hb2); (try clear hk); (try clear hi); (try clear ho0); obtain ⟨Ao8, co8, eo8⟩ := Kd.R_slice HO276.out; subst eo8) | (go_at_call 73; (with_reducible refine (impl_PartitionValid.calls k _ _ t274 true _ ?side1 ?side2 A4.out).mono ?_); (case side1 => repeat (first | exact (Kd.R_reads' HO276.out).2.2 | (with_reducible refine Kd.C_alloc ?_ _) | (with_reducible refine Kd.C_drewN ?_ _) | (with_reducible refine Kd.C_drew ?_))); (case side2 => exact (Kd.R_reads' HO276.out).2.1); rintro e w9 ⟨rfl, hb⟩; have n0_ := Aside0.mk (Kd.R_below (by (with_reducible repeat (first | apply Kd.R_alloc | apply Kd.R_drewN | apply Kd.R_drew)); exact HO276.out) hb); have n1_ := Aside0.mk (below_step (bz) hb); clear HO276; clear HB; have HO276 := n0_; have HB := n1_; clear n0_ n1_; (try clear hb); (try clear hb2); (try clear hk); (try clear hi)) | (go_at_call 69; (with_reducible refine (impl_numbersDiffer.calls k _ _ l0 t278 _ ?side1 ?side2 A6.out).mono ?_); (case side1 => repeat (first | exact (Kd.C_below HR0.out HB.out) | (with_reducible refine Kd.C_alloc ?_ _) | (with_reducible refine Kd.C_drewN ?_ _) | (with_reducible refine Kd.C_drew ?_))); (case side2 => exact HC0.out); rintro e w10 ⟨rfl, hb⟩; have n0_ := Aside0.mk (Kd.R_below (by (with_reducible repeat (first | apply Kd.R_alloc | apply Kd.R_drewN | apply Kd.R_drew)); exact HO276.out) hb); have n1_ := Aside0.mk (below_step (bz) hb); clear HO276; clear HB; have HO276 := n0_; have HB := n1_; clear n0_ n1_; (try clear hb); (try clear hb2); (try clear hk); (try clear hi)))
   go_ret
   exact ⟨by first | rfl | (simp only [u8w, w64m]; rfl) | (simp [errW_none, errW_some] <;> rfl) | (simp [*, errW_none, errW_some] <;> rfl), bz⟩
  ·
   replace c5 := Bool.eq_false_iff.mpr c5
   subst c5
   rw [if_neg (show ¬ (false = true) by decide)] at H
   obtain rfl := Option.some.inj H
   go_enter Try.func33, Try.ntmps33
   go_wp2_with (first | (go_at_call 63; (with_reducible refine (impl_spansOf.calls k _ _ l0 t274 _ ?side1 ?side2 A3.out).mono ?_); (case side1 => repeat (first | exact HR0.out | (with_reducible refine Kd.C_alloc ?_ _) | (with_reducible refine Kd.C_drewN ?_ _) | (with_reducible refine Kd.C_drew ?_))); (case side2 => exact HC0.out); rintro e w11 ⟨v275, rfl, ho0, hb⟩; have n0_ := Aside0.mk (Kd.R_lower ho0 (below_size (bz))); have n1_ := Aside0.mk (below_step (bz) hb); clear HB; have HO276 := n0_; have HB := n1_; clear n0_ n1_; (try clear hb); (try clear hb2); (try clear hk); (try clear hi); (try clear ho0); obtain ⟨Ao12, co12, eo12⟩ := Kd.R_slice HO276.out; subst eo12) | (go_at_call 73; (with_reducible refine (impl_PartitionValid.calls k _ _ t274 false _ ?side1 ?side2 A4.out).mono ?_); (case side1 => repeat (first | exact (Kd.R_reads' HO276.out).2.2 | (with_reducible refine Kd.C_alloc ?_ _) | (with_reducible refine Kd.C_drewN ?_ _) | (with_reducible refine Kd.C_drew ?_))); (case side2 => exact (Kd.R_reads' HO276.out).2.1); rintro e w13 ⟨rfl, hb⟩; have n0_ := Aside0.mk (Kd.R_below (by (with_reducible repeat (first | apply Kd.R_alloc | apply Kd.R_drewN | apply Kd.R_drew)); exact HO276.out) hb); have n1_ := Aside0.mk (below_step (bz) hb); clear HO276; clear HB; have HO276 := n0_; have HB := n1_; clear n0_ n1_; (try clear hb); (try clear hb2); (try clear hk); (try clear hi)))
   go_ret
   exact ⟨by first | rfl | (simp only [u8w, w64m]; rfl) | (simp [errW_none, errW_some] <;> rfl) | (simp [*, errW_none, errW_some] <;> rfl), bz⟩
 ·
  rw [if_neg c2] at H
  have c2b0 : decide ((l0.length : Int) ≤ 6) = false := decide_eq_false c2
  have c2b1 : decide (l0.length ≤ 6) = false := decide_eq_false (by omega)
  clear c2
  obtain rfl := Option.some.inj H
  go_enter Try.func33, Try.ntmps33
  go_wp2
  go_ret
  exact ⟨by first | rfl | (simp only [u8w, w64m]; rfl) | (simp [errW_none, errW_some] <;> rfl) | (simp [*, errW_none, errW_some] <;> rfl), bz⟩

/-! ### impl_Route_57: function 57 -/
def impl_Route_57.f (l0 : List (S43)) : Option ((List (S43))) := if ([] : List (S43)).length + l0.length < 3518437208883 then (some (([] : List (S43)) ++ l0)) else (none)
set_option maxHeartbeats 8000000 in
set_option maxRecDepth 100000 in
theorem impl_Route_57.calls (A0 : Option Addr) (c0 : Nat) (l0 : List (S43)) (r : List (S43)) (w : World) (hr0 : Kd.C k43 w A0 l0.length l0) (hc0 : l0.length ≤ c0) (h : impl_Route_57.f l0 = some r) :
  Calls Try.prog 57 #[.slice A0 l0.length c0] w fun e w' => ∃ v0_ : Value, e = .returned (v0_) ∧ Kd.R k43 43 w' w.heap.size (fun _ => True) v0_ r ∧ Below w.heap.size w w' := by
 have HR0 := Aside0.mk hr0
 have HC0 := Aside0.mk hc0
 clear hr0 hc0
 have HB := Aside0.mk (Below.refl w.heap.size w)
 have H : (if ([] : List (S43)).length + l0.length < 3518437208883 then (some (([] : List (S43)) ++ l0)) else (none)) = some r := h
 clear h
 by_cases c2 : ([] : List (S43)).length + l0.length < 3518437208883
 ·
  rw [if_pos c2] at H
  have LMc2 := Aside0.mk c2
  clear c2
  obtain ⟨y279, hy279⟩ : ∃ y_ : List (S43), y_ = (([] : List (S43)) ++ l0) := ⟨_, rfl⟩
  replace H : (some y279) = some r := by first | (rw [hy279]; with_reducible exact H) | (have H2_ := (Option.bind_some _ _).symm.trans H; rw [hy279]; with_reducible exact H2_) | (have H2_ := (Option.bind_some _ _).symm.trans H; with_reducible exact H2_) | with_reducible exact H | (rw [hy279]; exact H) | exact H
  have Ny279 := Aside0.mk hy279
  clear hy279
  obtain rfl := Option.some.inj H
  go_enter Try.func57, Try.ntmps57
  go_wp2_with (first | ((with_reducible refine gate_builtin (b := .append) (xs := #[.const (.slice none 0 0), .tmp 3]) rfl ?_); at_builtin; refine Kd.R_append_rows k43 (w0 := w) w.heap.size rfl (.const (.slice none 0 0)) (.tmp 3) 28 43 (.agg #[(.int .i64 0), (.string ⟨#[]⟩), (.string ⟨#[]⟩)]) 40 rfl Try.underlying28 info43 rfl (by decide) (by omega) (.slice none 0 0) ([] : List (S43)) l0 _ _ _ (fun _ => True) (fun _ => False) rfl rfl ?aO ?aR (fun _ _ h => h) (fun _ h => h.elim) ?aF ?aB ?aS ?aL ?_; (case aR => repeat (first | exact HR0.out | (with_reducible refine Kd.C_alloc ?_ _) | (with_reducible refine Kd.C_drewN ?_ _) | (with_reducible refine Kd.C_drew ?_))); (case aB => exact (bz)); (case aF => exact (fun _ _ => trivial)); (case aO => exact ((Kd.R_nil _ _ _ _ (fun _ => True)))); (case aS => exact (below_size (bz))); (case aL => have := LMc2.out; omega); intro v280 w3 ho hb hg hat; rw [← Ny279.out] at ho; have n0_ := Aside0.mk (hb); have n1_ := Aside0.mk (ho); clear HB; have HB := n0_; have HO281 := n1_; clear n0_ n1_; clear ho hb hg hat))
  go_ret
  exact ⟨_, by first | rfl | (simp only [u8w, w64m]; rfl) | (simp [errW_none, errW_some] <;> rfl) | (simp [*, errW_none, errW_some] <;> rfl), by (with_reducible repeat (first | apply Kd.R_alloc | apply Kd.R_drewN | apply Kd.R_drew)); exact HO281.out, bz⟩
 ·
  rw [if_neg c2] at H
  exact absurd H (by simp)

/-! ### impl_Route_58: function 58 -/
def impl_Route_58.f (l0 : List (S43)) (a1 : Int) (a2 : Int) (l3 : List (S43)) : Option ((List (S43))) := if 0 ≤ (wrap64 ((wrap64 ((l0.length : Int) - a2)) + (l3.length : Int))) then (if (wrap64 ((wrap64 ((l0.length : Int) - a2)) + (l3.length : Int)) : Int).toNat ≤ 7036874417766 then ((some (([] : List (S43)) : List (S43))).bind fun y282 => (if 0 ≤ a1 then (if a1 ≤ (l0.length : Int) then ((some (l0.take (a1 : Int).toNat : List (S43))).bind fun y285 => (if y282.length + y285.length < 3518437208883 then ((some (y282 ++ y285 : List (S43))).bind fun y289 => (if y289.length + l3.length < 3518437208883 then ((some (y289 ++ l3 : List (S43))).bind fun y292 => (if 0 ≤ (wrap64 (a1 + a2)) then (if (wrap64 (a1 + a2)) ≤ (l0.length : Int) then ((some (l0.drop ((wrap64 (a1 + a2)) : Int).toNat : List (S43))).bind fun y295 => (if y292.length + y295.length < 3518437208883 then (some (y292 ++ y295)) else (none))) else (none)) else (none))) else (none))) else (none))) else (none)) else (none))) else (none)) else (none)
set_option maxHeartbeats 8000000 in
set_option maxRecDepth 100000 in
theorem impl_Route_58.calls (A0 : Option Addr) (c0 : Nat) (l0 : List (S43)) (a1 : Int) (a2 : Int) (A3 : Option Addr) (c3 : Nat) (l3 : List (S43)) (r : List (S43)) (w : World) (hr0 : Kd.C k43 w A0 l0.length l0) (hc0 : l0.length ≤ c0) (hr3 : Kd.C k43 w A3 l3.length l3) (hc3 : l3.length ≤ c3) (h : impl_Route_58.f l0 a1 a2 l3 = some r) :
  Calls Try.prog 58 #[.slice A0 l0.length c0, .int .i64 a1, .int .i64 a2, .slice A3 l3.length c3] w fun e w' => ∃ v0_ : Value, e = .returned (v0_) ∧ Kd.R k43 43 w' w.heap.size (fun _ => True) v0_ r ∧ Below w.heap.size w w' := by
 have HR0 := Aside0.mk hr0
 have HC0 := Aside0.mk hc0
 clear hr0 hc0
 have HR3 := Aside0.mk hr3
 have HC3 := Aside0.mk hc3
 clear hr3 hc3
 have HB := Aside0.mk (Below.refl w.heap.size w)
 have H : (if 0 ≤ (wrap64 ((wrap64 ((l0.length : Int) - a2)) + (l3.length : Int))) then (if (wrap64 ((wrap64 ((l0.length : Int) - a2)) + (l3.length : Int)) : Int).toNat ≤ 7036874417766 then ((some (([] : List (S43)) : List (S43))).bind fun y282 => (if 0 ≤ a1 then (if a1 ≤ (l0.length : Int) then ((some (l0.take (a1 : Int).toNat : List (S43))).bind fun y285 => (if y282.length + y285.length < 3518437208883 then ((some (y282 ++ y285 : List (S43))).bind fun y289 => (if y289.length + l3.length < 3518437208883 then ((some (y289 ++ l3 : List (S43))).bind fun y292 => (if 0 ≤ (wrap64 (a1 + a2)) then (if (wrap64 (a1 + a2)) ≤ (l0.length : Int) then ((some (l0.drop ((wrap64 (a1 + a2)) : Int).toNat : List (S43))).bind fun y295 => (if y292.length + y295.length < 3518437208883 then (some (y292 ++ y295)) else (none))) else (none)) else (none))) else (none))) else (none))) else (none)) else (none))) else (none)) else (none)) = some r := h
 clear h
 obtain ⟨ji5, hji5⟩ : ∃ j_ : Int, (wrap64 ((wrap64 ((l0.length : Int) - a2)) + (l3.length : Int))) = j_ := ⟨_, rfl⟩
 replace H : (if 0 ≤ (ji5) then (if (ji5 : Int).toNat ≤ 7036874417766 then ((some (([] : List (S43)) : List (S43))).bind fun y282 => (if 0 ≤ a1 then (if a1 ≤ (l0.length : Int) then ((some (l0.take (a1 : Int).toNat : List (S43))).bind fun y285 => (if y282.length + y285.length < 3518437208883 then ((some (y282 ++ y285 : List (S43))).bind fun y289 => (if y289.length + l3.length < 3518437208883 then ((some (y289 ++ l3 : List (S43))).bind fun y292 => (if 0 ≤ (wrap64 (a1 + a2)) then (if (wrap64 (a1 + a2)) ≤ (l0.length : Int) then ((some (l0.drop ((wrap64 (a1 + a2)) : Int).toNat : List (S43))).bind fun y295 => (if y292.length + y295.length < 3518437208883 then (some (y292 ++ y295)) else (none))) else (none)) else (none))) else (none))) else (none))) else (none)) else (none))) else (none)) else (none)) = some r := by first | (rw [hji5] at H; exact H) | (simp only [hji5] at H ⊢; exact H)
 have hji5w : (IntKind.i64.wrap ((wrap64 ((l0.length : Int) - a2)) + (l3.length : Int))) = ji5 := (i64_w _).trans hji5
 by_cases c6 : 0 ≤ (ji5)
 ·
  rw [if_pos c6] at H
  have c6b0 := eq_true c6
  have c6b1 : decide (0 ≤ (ji5)) = true := decide_eq_true c6
  clear c6
  by_cases c7 : (ji5 : Int).toNat ≤ 7036874417766
  ·
   rw [if_pos c7] at H
   have c7b0 := eq_true c7
   have c7b1 : decide ((ji5 : Int).toNat ≤ 7036874417766) = true := decide_eq_true c7
   clear c7
   obtain ⟨y282, hy282⟩ : ∃ y_ : List (S43), y_ = (([] : List (S43))) := ⟨_, rfl⟩
   replace H : (if 0 ≤ a1 then (if a1 ≤ (l0.length : Int) then ((some (l0.take (a1 : Int).toNat : List (S43))).bind fun y285 => (if y282.length + y285.length < 3518437208883 then ((some (y282 ++ y285 : List (S43))).bind fun y289 => (if y289.length + l3.length < 3518437208883 then ((some (y289 ++ l3 : List (S43))).bind fun y292 => (if 0 ≤ (wrap64 (a1 + a2)) then (if (wrap64 (a1 + a2)) ≤ (l0.length : Int) then ((some (l0.drop ((wrap64 (a1 + a2)) : Int).toNat : List (S43))).bind fun y295 => (if y292.length + y295.length < 3518437208883 then (some (y292 ++ y295)) else (none))) else (none)) else (none))) else (none))) else (none))) else (none)) else (none)) = some r := by first | (rw [hy282]; with_reducible exact H) | (have H2_ := (Option.bind_some _ _).symm.trans H; rw [hy282]; with_reducible exact H2_) | (have H2_ := (Option.bind_some _ _).symm.trans H; with_reducible exact H2_) | with_reducible exact H | (rw [hy282]; exact H) | exact H
   have Ny282 := Aside0.mk hy282
   clear hy282
   by_cases c8 : 0 ≤ a1
   ·
    rw [if_pos c8] at H
    have c8b0 := eq_true c8
    have c8b1 : decide (0 ≤ a1) = true := decide_eq_true c8
    clear c8
    by_cases c9 : a1 ≤ (l0.length : Int)
    ·
     rw [if_pos c9] at H
     have c9b0 := eq_true c9
     have c9b1 : decide (a1 ≤ (l0.length : Int)) = true := decide_eq_true c9
     clear c9
     obtain ⟨y285, hy285⟩ : ∃ y_ : List (S43), y_ = (l0.take (a1 : Int).toNat) := ⟨_, rfl⟩
     replace H : (if y282.length + y285.length < 3518437208883 then ((some (y282 ++ y285 : List (S43))).bind fun y289 => (if y289.length + l3.length < 3518437208883 then ((some (y289 ++ l3 : List (S43))).bind fun y292 => (if 0 ≤ (wrap64 (a1 + a2)) then (if (wrap64 (a1 + a2)) ≤ (l0.length : Int) then ((some (l0.drop ((wrap64 (a1 + a2)) : Int).toNat : List (S43))).bind fun y295 => (if y292.length + y295.length < 3518437208883 then (some (y292 ++ y295)) else (none))) else (none)) else (none))) else (none))) else (none)) = some r := by first | (rw [hy285]; with_reducible exact H) | (have H2_ := (Option.bind_some _ _).symm.trans H; rw [hy285]; with_reducible exact H2_) | (have H2_ := (Option.bind_some _ _).symm.trans H; with_reducible exact H2_) | with_reducible exact H | (rw [hy285]; exact H) | exact H
     have Ny285 := Aside0.mk hy285
     clear hy285
     by_cases c10 : y282.length + y285.length < 3518437208883
     ·
      rw [if_pos c10] at H
      have LMc10 := Aside0.mk c10
      clear c10
      obtain ⟨y289, hy289⟩ : ∃ y_ : List (S43), y_ = (y282 ++ y285) := ⟨_, rfl⟩
      replace H : (if y289.length + l3.length < 3518437208883 then ((some (y289 ++ l3 : List (S43))).bind fun y292 => (if 0 ≤ (wrap64 (a1 + a2)) then (if (wrap64 (a1 + a2)) ≤ (l0.length : Int) then ((some (l0.drop ((wrap64 (a1 + a2)) : Int).toNat : List (S43))).bind fun y295 => (if y292.length + y295.length < 3518437208883 then (some (y292 ++ y295)) else (none))) else (none)) else (none))) else (none)) = some r := by first | (rw [hy289]; with_reducible exact H) | (have H2_ := (Option.bind_some _ _).symm.trans H; rw [hy289]; with_reducible exact H2_) | (have H2_ := (Option.bind_some _ _).symm.trans H; with_reducible exact H2_) | with_reducible exact H | (rw [hy289]; exact H) | exact H
      have Ny289 := Aside0.mk hy289
      clear hy289
      by_cases c11 : y289.length + l3.length < 3518437208883
      ·
       rw [if_pos c11] at H
       have LMc11 := Aside0.mk c11
       clear c11
       obtain ⟨y292, hy292⟩ : ∃ y_ : List (S43), y_ = (y289 ++ l3) := ⟨_, rfl⟩
       replace H : (if 0 ≤ (wrap64 (a1 + a2)) then (if (wrap64 (a1 + a2)) ≤ (l0.length : Int) then ((some (l0.drop ((wrap64 (a1 + a2)) : Int).toNat : List (S43))).bind fun y295 => (if y292.length + y295.length < 3518437208883 then (some (y292 ++ y295)) else (none))) else (none)) else (none)) = some r := by first | (rw [hy292]; with_reducible exact H) | (have H2_ := (Option.bind_some _ _).symm.trans H; rw [hy292]; with_reducible exact H2_) | (have H2_ := (Option.bind_some _ _).symm.trans H; with_reducible exact H2_) | with_reducible exact H | (rw [hy292]; exact H) | exact H
       have Ny292 := Aside0.mk hy292
       clear hy292
       obtain ⟨ji12, hji12⟩ : ∃ j_ : Int, (wrap64 (a1 + a2)) = j_ := ⟨_, rfl⟩
       replace H : (if 0 ≤ (ji12) then (if (ji12) ≤ (l0.length : Int) then ((some (l0.drop ((ji12) : Int).toNat : List (S43))).bind fun y295 => (if y292.length + y295.length < 3518437208883 then (some (y292 ++ y295)) else (none))) else (none)) else (none)) = some r := by first | (rw [hji12] at H; exact H) | (simp only [hji12] at H ⊢; exact H)
       have hji12w : (IntKind.i64.wrap (a1 + a2)) = ji12 := (i64_w _).trans hji12
       by_cases c13 : 0 ≤ (ji12)
       ·
        rw [if_pos c13] at H
        have c13b0 := eq_true c13
        have c13b1 : decide (0 ≤ (ji12)) = true := decide_eq_true c13
        clear c13
        by_cases c14 : (ji12) ≤ (l0.length : Int)
        ·
         rw [if_pos c14] at H
         have c14b0 := eq_true c14
         have c14b1 : decide ((ji12) ≤ (l0.length : Int)) = true := decide_eq_true c14
         clear c14
         obtain ⟨y295, hy295⟩ : ∃ y_ : List (S43), y_ = (l0.drop ((ji12) : Int).toNat) := ⟨_, rfl⟩
         replace H : (if y292.length + y295.length < 3518437208883 then (some (y292 ++ y295)) else (none)) = some r := by first | (rw [hy295]; with_reducible exact H) | (have H2_ := (Option.bind_some _ _).symm.trans H; rw [hy295]; with_reducible exact H2_) | (have H2_ := (Option.bind_some _ _).symm.trans H; with_reducible exact H2_) | with_reducible exact H | (rw [hy295]; exact H) | exact H
         have Ny295 := Aside0.mk hy295
         clear hy295
         by_cases c15 : y292.length + y295.length < 3518437208883
         ·
          rw [if_pos c15] at H
          have LMc15 := Aside0.mk c15
          clear c15
          obtain ⟨y299, hy299⟩ : ∃ y_ : List (S43), y_ = (y292 ++ y295) := ⟨_, rfl⟩
          replace H : (some y299) = some r := by first | (rw [hy299]; with_reducible exact H) | (have H2_ := (Option.bind_some _ _).symm.trans H; rw [hy299]; with_reducible exact H2_) | (have H2_ := (Option.bind_some _ _).symm.trans H; with_reducible exact H2_) | with_reducible exact H | (rw [hy299]; exact H) | exact H
          have Ny299 := Aside0.mk hy299
          clear hy299
          obtain rfl := Option.some.inj H
          go_enter Try.func58, Try.ntmps58
          go_wp2_with (first | ((with_reducible refine gate_dst (N := 17) rfl ?_); refine Kd.R_make_cap k43 _ 43 rfl 28 _ _ rfl ji5 rfl (by first | rfl | exact congrArg (Value.int .i64) (Eq.symm (by assumption))) Try.underlying28 (.agg #[(.int .i64 0), (.string ⟨#[]⟩), (.string ⟨#[]⟩)]) 40 info43 (by decide) (by omega) (ok := fun _ => True) trivial (of_decide_eq_true (by first | (with_reducible assumption) | assumption)) (Nat.le_trans (Nat.mul_le_mul_right _ (of_decide_eq_true (by first | (with_reducible assumption) | assumption) : ji5.toNat ≤ 7036874417766)) (by omega)) (Nat.le_trans (of_decide_eq_true (by first | (with_reducible assumption) | assumption) : ji5.toNat ≤ 7036874417766) (by decide)) (Below.refl _ _) (Nat.le_refl _) ?_; intro v283 w16 ho17 hb hg_ hnew_; clear hg_ hnew_; (first | rw [← Ny282.out] at ho17 | (simp only [Int.reduceToNat] at ho17; rw [← Ny282.out] at ho17)); have n0_ := Aside0.mk (Kd.R_lower ho17 (below_size (bz))); have n1_ := Aside0.mk (below_step (bz) hb); clear HB; have HO284 := n0_; have HB := n1_; clear n0_ n1_; clear hb ho17; have q18 : (a1 : Int) ≤ ((l0.length : Int) : Int) := of_decide_eq_true (by first | (with_reducible assumption) | assumption); obtain ⟨i018, hi018, _, hsz18, _⟩ := info_parts info43; have hroom18 : l0.length ≤ c0 := HC0.out; have hC18 : Kd.C k43 _ A0 l0.length l0 := HR0.out; have hcut18 := cut_to (P := Try.prog) 28 43 .i64 Try.underlying28 hi018 A0 l0.length c0 a1 (of_decide_eq_true (by first | (with_reducible assumption) | assumption)) q18 hroom18; have hr18 := Kd.C_take (m := (a1 : Int).toNat) hC18 (by omega); have hy18 : y285.length = (a1 : Int).toNat := (by rw [Ny285.out, List.length_take]; omega); rw [← Ny285.out] at hr18; rw [← hy18] at hcut18; have HR288 := Aside0.mk hr18; have HC288 := Aside0.mk (show y285.length ≤ c0 from by omega); clear hr18 hC18 hroom18 hi018 hsz18; have KY18 := Aside0.mk hy18; clear hy18; replace q18 := eq_true q18) | ((with_reducible refine gate_builtin (b := .append) (xs := #[.tmp 18, .tmp 21]) rfl ?_); at_builtin; refine Kd.R_append_rows k43 (w0 := w) w.heap.size rfl (.tmp 18) (.tmp 21) 28 43 (.agg #[(.int .i64 0), (.string ⟨#[]⟩), (.string ⟨#[]⟩)]) 40 rfl Try.underlying28 info43 rfl (by decide) (by omega) v283 y282 y285 _ _ _ (fun _ => True) (fun _ => False) rfl rfl ?aO ?aR (fun _ _ h => h) (fun _ h => h.elim) ?aF ?aB ?aS ?aL ?_; (case aR => repeat (first | exact (Kd.C_below HR288.out HB.out) | (with_reducible refine Kd.C_alloc ?_ _) | (with_reducible refine Kd.C_drewN ?_ _) | (with_reducible refine Kd.C_drew ?_))); (case aB => exact (bz)); (case aF => exact (fun _ _ => trivial)); (case aO => exact (by (with_reducible repeat (first | apply Kd.R_alloc | apply Kd.R_drewN | apply Kd.R_drew)); exact HO284.out)); (case aS => exact (below_size (bz))); (case aL => have := LMc10.out; omega); intro v290 w19 ho hb hg hat; rw [← Ny289.out] at ho; have n0_ := Aside0.mk (hb); have n1_ := Aside0.mk (ho); clear HB; clear HO284; have HB := n0_; have HO291 := n1_; clear n0_ n1_; clear ho hb hg hat) | ((with_reducible refine gate_builtin (b := .append) (xs := #[.tmp 23, .tmp 24]) rfl ?_); at_builtin; refine Kd.R_append_rows k43 (w0 := w) w.heap.size rfl (.tmp 23) (.tmp 24) 28 43 (.agg #[(.int .i64 0), (.string ⟨#[]⟩), (.string ⟨#[]⟩)]) 40 rfl Try.underlying28 info43 rfl (by decide) (by omega) v290 y289 l3 _ _ _ (fun _ => True) (fun _ => False) rfl rfl ?aO ?aR (fun _ _ h => h) (fun _ h => h.elim) ?aF ?aB ?aS ?aL ?_; (case aR => repeat (first | exact (Kd.C_below HR3.out HB.out) | (with_reducible refine Kd.C_alloc ?_ _) | (with_reducible refine Kd.C_drewN ?_ _) | (with_reducible refine Kd.C_drew ?_))); (case aB => exact (bz)); (case aF => exact (fun _ _ => trivial)); (case aO => exact (by (with_reducible repeat (first | apply Kd.R_alloc | apply Kd.R_drewN | apply Kd.R_drew)); exact HO291.out)); (case aS => exact (below_size (bz))); (case aL => have := LMc11.out; omega); intro v293 w20 ho hb hg hat; rw [← Ny292.out] at ho; have n0_ := Aside0.mk (hb); have n1_ := Aside0.mk (ho); clear HB; clear HO291; have HB := n0_; have HO294 := n1_; clear n0_ n1_; clear ho hb hg hat; have q21 : ((ji12) : Int) ≤ ((l0.length : Int) : Int) := of_decide_eq_true (by first | (with_reducible assumption) | assumption); obtain ⟨i021, hi021, _, hsz21, _⟩ := info_parts info43; have hroom21 : l0.length ≤ c0 := HC0.out; have hC21 : Kd.C k43 _ A0 l0.length l0 := HR0.out; have q021 : (0 : Int) ≤ ((ji12) : Int) := of_decide_eq_true (by first | (with_reducible assumption) | assumption); have hcut21 := cut_from (P := Try.prog) 28 43 .i64 Try.underlying28 hi021 3 hsz21 A0 l0.length c0 (ji12) q021 q21; have hr21 := Kd.C_drop (m := ((ji12) : Int).toNat) (c := c0) hC21 (by omega) hroom21; obtain ⟨A21, hA21⟩ : ∃ A1, A1 = (if c0 = ((ji12) : Int).toNat then A0 else (A0 : Option Addr).map (·.add (((ji12) : Int).toNat * 3))) := ⟨_, rfl⟩; obtain ⟨c21, hc21⟩ : ∃ c1, c1 = c0 - ((ji12) : Int).toNat := ⟨_, rfl⟩; have hy21 : y295.length = l0.length - ((ji12) : Int).toNat := (by rw [Ny295.out, List.length_drop] <;> omega); rw [show (l0).drop ((ji12) : Int).toNat = y295 from Ny295.out.symm] at hr21; replace hr21 : Kd.C k43 _ A21 y295.length y295 := (by rw [hA21]; exact hr21); rw [← hy21, ← hA21, ← hc21] at hcut21; have HR298 := Aside0.mk hr21; have HC298 := Aside0.mk (show y295.length ≤ c21 from by rw [hy21, hc21]; exact Nat.sub_le_sub_right hroom21 _); clear hr21 hC21 hroom21 hi021 hsz21 hc21; have KY21 := Aside0.mk hy21; have KA21 := Aside0.mk hA21; clear hy21 hA21; replace q21 := eq_true q21) | ((with_reducible refine gate_builtin (b := .append) (xs := #[.tmp 26, .tmp 31]) rfl ?_); at_builtin; refine Kd.R_append_rows k43 (w0 := w) w.heap.size rfl (.tmp 26) (.tmp 31) 28 43 (.agg #[(.int .i64 0), (.string ⟨#[]⟩), (.string ⟨#[]⟩)]) 40 rfl Try.underlying28 info43 rfl (by decide) (by omega) v293 y292 y295 _ _ _ (fun _ => True) (fun _ => False) rfl rfl ?aO ?aR (fun _ _ h => h) (fun _ h => h.elim) ?aF ?aB ?aS ?aL ?_; (case aR => repeat (first | exact (Kd.C_below HR298.out HB.out) | (with_reducible refine Kd.C_alloc ?_ _) | (with_reducible refine Kd.C_drewN ?_ _) | (with_reducible refine Kd.C_drew ?_))); (case aB => exact (bz)); (case aF => exact (fun _ _ => trivial)); (case aO => exact (by (with_reducible repeat (first | apply Kd.R_alloc | apply Kd.R_drewN | apply Kd.R_drew)); exact HO294.out)); (case aS => exact (below_size (bz))); (case aL => have := LMc15.out; omega); intro v300 w22 ho hb hg hat; rw [← Ny299.out] at ho; have n0_ := Aside0.mk (hb); have n1_ := Aside0.mk (ho); clear HB; clear HO294; have HB := n0_; have HO301 := n1_; clear n0_ n1_; clear ho hb hg hat))
          go_ret
          exact ⟨_, by first | rfl | (simp only [u8w, w64m]; rfl) | (simp [errW_none, errW_some] <;> rfl) | (simp only [← hji5, ← hji12]; first | rfl | (simp [errW_none, errW_some] <;> rfl)) | (simp [*, errW_none, errW_some] <;> rfl), by (with_reducible repeat (first | apply Kd.R_alloc | apply Kd.R_drewN | apply Kd.R_drew)); exact HO301.out, bz⟩
         ·
          rw [if_neg c15] at H
          exact absurd H (by simp)
        ·
         rw [if_neg c14] at H
         exact absurd H (by simp)
       ·
        rw [if_neg c13] at H
        exact absurd H (by simp)
      ·
       rw [if_neg c11] at H
       exact absurd H (by simp)
     ·
      rw [if_neg c10] at H
      exact absurd H (by simp)
    ·
     rw [if_neg c9] at H
     exact absurd H (by simp)
   ·
    rw [if_neg c8] at H
    exact absurd H (by simp)
  ·
   rw [if_neg c7] at H
   exact absurd H (by simp)
 ·
  rw [if_neg c6] at H
  exact absurd H (by simp)

/-! ### impl_IntervalCut: function 87 -/
def impl_IntervalCut.j0 : Nat → ByteArray → Bool → ByteArray → ByteArray → Option (ByteArray × ByteArray × ByteArray × ByteArray × Bool)
 | 0, _, _, _, _ => none
 | k + 1, x1, x16, x303000, x303001 => if x16 = true then (some ((⟨#[]⟩ : ByteArray), (⟨#[]⟩ : ByteArray), (⟨#[]⟩ : ByteArray), (⟨#[]⟩ : ByteArray), false)) else ((impl_IntervalValid.f k x303000 x1).bind fun t309 => (if t309 = true then ((impl_IntervalValid.f k x1 x303001).bind fun t310 => (if t310 = true then (some (x303000, x1, x1, x303001, true)) else (some ((⟨#[]⟩ : ByteArray), (⟨#[]⟩ : ByteArray), (⟨#[]⟩ : ByteArray), (⟨#[]⟩ : ByteArray), false)))) else (some ((⟨#[]⟩ : ByteArray), (⟨#[]⟩ : ByteArray), (⟨#[]⟩ : ByteArray), (⟨#[]⟩ : ByteArray), false))))
def impl_IntervalCut.f (k : Nat) (a0_0 : ByteArray) (a0_1 : ByteArray) (a1 : ByteArray) : Option (ByteArray × ByteArray × ByteArray × ByteArray × Bool) := (impl_IntervalValid.f k a0_0 a0_1).bind fun t305 => (if t305 = true then ((impl_KeyValid.f k a1).bind fun t306 => (impl_IntervalCut.j0 k a1 (!t306) a0_0 a0_1)) else (impl_IntervalCut.j0 k a1 true a0_0 a0_1))
theorem impl_IntervalCut.mono_l : ∀ k, (∀ y0 y1 y2 y3, LeO (impl_IntervalCut.j0 k y0 y1 y2 y3) (impl_IntervalCut.j0 (k + 1) y0 y1 y2 y3))
 | 0 => fun _ _ _ _ r h => by simp [impl_IntervalCut.j0] at h
 | k + 1 => by
  have ih0 := impl_IntervalCut.mono_l k
  ·
   intro y0 y1 y2 y3
   unfold impl_IntervalCut.j0
   repeat' first
   | (with_reducible exact ih0 _ _ _ _)
   | (with_reducible exact impl_IntervalValid.mono _ _ _)
   | (with_reducible exact impl_KeyValid.mono _ _)
   | (with_reducible exact LeO.refl _)
   | (with_reducible exact LeO.none _)
   | (with_reducible refine LeO.ite ?_ ?_)
   | (with_reducible refine LeO.bind ?_ (fun _ => ?_))
   | exact ih0 _ _ _ _
   | exact impl_IntervalValid.mono _ _ _
   | exact impl_KeyValid.mono _ _
   | exact LeO.none _
   | refine LeO.ite ?_ ?_
   | refine LeO.bind ?_ (fun _ => ?_)
theorem impl_IntervalCut.mono : ∀ a0 a1 a2 k, LeO (impl_IntervalCut.f k a0 a1 a2) (impl_IntervalCut.f (k + 1) a0 a1 a2) := by
 intro a0 a1 a2 k
 have ih0 := impl_IntervalCut.mono_l k
 unfold impl_IntervalCut.f
 repeat' first
   | (with_reducible exact ih0 _ _ _ _)
   | (with_reducible exact impl_IntervalValid.mono _ _ _)
   | (with_reducible exact impl_KeyValid.mono _ _)
   | (with_reducible exact LeO.refl _)
   | (with_reducible exact LeO.none _)
   | (with_reducible refine LeO.ite ?_ ?_)
   | (with_reducible refine LeO.bind ?_ (fun _ => ?_))
   | exact ih0 _ _ _ _
   | exact impl_IntervalValid.mono _ _ _
   | exact impl_KeyValid.mono _ _
   | exact LeO.none _
   | refine LeO.ite ?_ ?_
   | refine LeO.bind ?_ (fun _ => ?_)
set_option maxHeartbeats 8000000 in
set_option maxRecDepth 100000 in
theorem impl_IntervalCut.calls (k : Nat) (a0_0 : ByteArray) (a0_1 : ByteArray) (a1 : ByteArray) (r1 : ByteArray) (r2 : ByteArray) (r3 : ByteArray) (r4 : ByteArray) (r5 : Bool) (w : World) (h : impl_IntervalCut.f k a0_0 a0_1 a1 = some (r1, r2, r3, r4, r5)) :
  Calls Try.prog 87 #[.agg #[.string a0_0, .string a0_1], .string a1] w fun e w' => e = .returned (.tuple #[.agg #[.string r1, .string r2], .agg #[.string r3, .string r4], .bool r5]) ∧ Below w.heap.size w w' := by
 have hu25 := Try.underlying25
 have HB := Aside0.mk (Below.refl w.heap.size w)
 have H : ((impl_IntervalValid.f k a0_0 a0_1).bind fun t305 => (if t305 = true then ((impl_KeyValid.f k a1).bind fun t306 => (impl_IntervalCut.j0 k a1 (!t306) a0_0 a0_1)) else (impl_IntervalCut.j0 k a1 true a0_0 a0_1))) = some (r1, r2, r3, r4, r5) := h
 clear h
 have HC3 := Aside0.mk H
 clear H
 go_enter Try.func87, Try.ntmps87
 go_upto_region 1 with (first | ((with_reducible refine gate_dst (N := 2) rfl ?_); refine box_event ?hg (N := 2) ?hd (cs := #[.string a0_0, .string a0_1]) (t := 25) ?hr ?_; (case hd => rfl); (case hg => rfl); (case hr => first | (go_simp; done) | (go_simp; rfl)); intro gb302 hg w4 hbox hb; have n0_ := Aside0.mk (below_step (bz) hb); have n1_ := Aside0.mk (hbox); have n2_ : Aside0 (w.heap.size ≤ gb302) := bsg hg; have n3_ : Aside0 (w.heap.size ≤ gb302) := bsg hg; clear HB; have HB := n0_; have BK302 := n1_; have GW302 := n2_; have GE302 := n3_; clear n0_ n1_ n2_ n3_; clear hb hbox hg) | ((with_reducible refine gate_dst (N := 4) rfl ?_); refine box_event ?hg (N := 4) ?hd (cs := #[.string (⟨#[]⟩ : ByteArray), .string (⟨#[]⟩ : ByteArray)]) (t := 25) ?hr ?_; (case hd => rfl); (case hg => rfl); (case hr => first | (go_simp; done) | (go_simp; rfl)); intro gb303 hg w5 hbox hb; have n0_ := bkb BK302 hb; have n1_ := Aside0.mk (below_step (bz) hb); have n2_ := Aside0.mk (hbox); have n3_ : Aside0 (w.heap.size ≤ gb303) := bsg hg; have n4_ : Aside0 (w.heap.size ≤ gb303) := bsg hg; have n5_ := nlt hg BK302; have n6_ := ngt hg BK302; clear BK302; clear HB; have BK302 := n0_; have HB := n1_; have BK303 := n2_; have GW303 := n3_; have GE303 := n4_; have NB302_303 := n5_; have NB303_302 := n6_; clear n0_ n1_ n2_ n3_ n4_ n5_ n6_; clear hb hbox hg) | ((with_reducible refine gate_dst (N := 5) rfl ?_); refine box_event ?hg (N := 5) ?hd (cs := #[.string (⟨#[]⟩ : ByteArray), .string (⟨#[]⟩ : ByteArray)]) (t := 25) ?hr ?_; (case hd => rfl); (case hg => rfl); (case hr => first | (go_simp; done) | (go_simp; rfl)); intro gb304 hg w6 hbox hb; have n0_ := bkb BK302 hb; have n1_ := bkb BK303 hb; have n2_ := Aside0.mk (below_step (bz) hb); have n3_ := Aside0.mk (hbox); have n4_ : Aside0 (w.heap.size ≤ gb304) := bsg hg; have n5_ : Aside0 (w.heap.size ≤ gb304) := bsg hg; have n6_ := nlt hg BK302; have n7_ := ngt hg BK302; have n8_ := nlt hg BK303; have n9_ := ngt hg BK303; clear BK302; clear BK303; clear HB; have BK302 := n0_; have BK303 := n1_; have HB := n2_; have BK304 := n3_; have GW304 := n4_; have GE304 := n5_; have NB302_304 := n6_; have NB304_302 := n7_; have NB303_304 := n8_; have NB304_303 := n9_; clear n0_ n1_ n2_ n3_ n4_ n5_ n6_ n7_ n8_ n9_; clear hb hbox hg))
 (try simp only [Act.put, List.setIfInBounds_toArray, List.set_cons_zero, List.set_cons_succ])
 go_cut [16] (fun v16 wc => ∃ (kq : Nat) (x16_2 : Bool), v16 = .bool x16_2 ∧ Aside0 (impl_IntervalCut.j0 kq a1 x16_2 a0_0 a0_1 = some (r1, r2, r3, r4, r5)) ∧ Aside0 (kq ≤ k) ∧ Aside0 (wc.heap[gb302]? = some (.cells #[.string a0_0, .string a0_1] 25 (0, 0))) ∧ Aside0 (wc.heap[gb303]? = some (.cells #[.string (⟨#[]⟩ : ByteArray), .string (⟨#[]⟩ : ByteArray)] 25 (0, 0))) ∧ Aside0 (wc.heap[gb304]? = some (.cells #[.string (⟨#[]⟩ : ByteArray), .string (⟨#[]⟩ : ByteArray)] 25 (0, 0))) ∧ Aside0 (Below w.heap.size w wc))
 case first =>
  have H := HC3.out
  clear HC3
  replace H := Option.bind_eq_some_iff.mp H
  obtain ⟨t305, A70, H⟩ := H
  try dsimp only at H
  have A7 := Aside0.mk A70
  clear A70
  by_cases c8 : t305 = true
  ·
   subst c8
   rw [if_pos rfl] at H
   replace H := Option.bind_eq_some_iff.mp H
   obtain ⟨t306, A90, H⟩ := H
   try dsimp only at H
   have A9 := Aside0.mk A90
   clear A90
   have H' := Aside0.mk H
   clear H
   have hnb10 := NB302_303.out
   have hnc10 := NB303_302.out
   have hnb11 := NB302_304.out
   have hnc11 := NB304_302.out
   have hcz12_0 : w6.cell? ⟨gb302, 0, none⟩ = some (.string a0_0) := (blk_cell BK302.out 0).trans rfl
   have hcz12_1 : w6.cell? ⟨gb302, 1, none⟩ = some (.string a0_1) := (blk_cell BK302.out 1).trans rfl
   have hfz12_0 := blk_frozen BK302.out 0
   have hfz12_1 := blk_frozen BK302.out 1
   go_wp2_with (first | ((with_reducible refine gate_callee (f := 70) rfl ?_); refine goesL_ (some 10) rfl rfl Try.func70 (by kernel_rfl) rfl #[.agg #[.string a0_0, .string a0_1]] rfl (by (try simp only [List.map_toArray, List.map_cons, List.map_nil]); first | done | rfl | (simp only [List.length_drop, List.length_take]; rfl)) ?_; (with_reducible refine (impl_IntervalValid.calls k a0_0 a0_1 true _ A7.out).mono ?_); rintro e w13 ⟨rfl, hb⟩; refine ⟨_, rfl, ?_⟩; have n0_ := bkb BK302 hb; have n1_ := bkb BK303 hb; have n2_ := bkb BK304 hb; have n3_ := Aside0.mk (below_step (bz) hb); clear BK302; clear BK303; clear BK304; clear HB; have BK302 := n0_; have BK303 := n1_; have BK304 := n2_; have HB := n3_; clear n0_ n1_ n2_ n3_; (try clear hb); (try clear hb2); (try clear hk); (try clear hi)) | (go_at_call 67; (with_reducible refine (impl_KeyValid.calls k a1 t306 _ A9.out).mono ?_); rintro e w' ⟨rfl, ⟨nd, rfl⟩⟩))
   go_meet
   case rel => exact ⟨_, (!t306), (by first | rfl | (simp; done) | exact congrArg Value.bool (ne_nil_b _) | exact congrArg Value.bool (eq_nil_b _) | (simp [*]; done)), H', ⟨by first | omega | exact Nat.le_refl _⟩, ⟨by (with_reducible repeat (first | refine blk_drewN ?_ _ | refine blk_drew ?_ | refine blk_alloc ?_ _)); exact BK302.out⟩, ⟨by (with_reducible repeat (first | refine blk_drewN ?_ _ | refine blk_drew ?_ | refine blk_alloc ?_ _)); exact BK303.out⟩, ⟨by (with_reducible repeat (first | refine blk_drewN ?_ _ | refine blk_drew ?_ | refine blk_alloc ?_ _)); exact BK304.out⟩, ⟨bz⟩⟩
  ·
   replace c8 := Bool.eq_false_iff.mpr c8
   subst c8
   rw [if_neg (show ¬ (false = true) by decide)] at H
   have H' := Aside0.mk H
   clear H
   have hnb14 := NB302_303.out
   have hnc14 := NB303_302.out
   have hnb15 := NB302_304.out
   have hnc15 := NB304_302.out
   have hcz16_0 : w6.cell? ⟨gb302, 0, none⟩ = some (.string a0_0) := (blk_cell BK302.out 0).trans rfl
   have hcz16_1 : w6.cell? ⟨gb302, 1, none⟩ = some (.string a0_1) := (blk_cell BK302.out 1).trans rfl
   have hfz16_0 := blk_frozen BK302.out 0
   have hfz16_1 := blk_frozen BK302.out 1
   go_wp2_with (first | ((with_reducible refine gate_callee (f := 70) rfl ?_); refine goesL_ (some 10) rfl rfl Try.func70 (by kernel_rfl) rfl #[.agg #[.string a0_0, .string a0_1]] rfl (by (try simp only [List.map_toArray, List.map_cons, List.map_nil]); first | done | rfl | (simp only [List.length_drop, List.length_take]; rfl)) ?_; (with_reducible refine (impl_IntervalValid.calls k a0_0 a0_1 false _ A7.out).mono ?_); rintro e w17 ⟨rfl, hb⟩; refine ⟨_, rfl, ?_⟩; have n0_ := bkb BK302 hb; have n1_ := bkb BK303 hb; have n2_ := bkb BK304 hb; have n3_ := Aside0.mk (below_step (bz) hb); clear BK302; clear BK303; clear BK304; clear HB; have BK302 := n0_; have BK303 := n1_; have BK304 := n2_; have HB := n3_; clear n0_ n1_ n2_ n3_; (try clear hb); (try clear hb2); (try clear hk); (try clear hi)))
   go_meet
   case rel => exact ⟨_, (true), (by first | rfl | (simp; done) | exact congrArg Value.bool (ne_nil_b _) | exact congrArg Value.bool (eq_nil_b _) | (simp [*]; done)), H', ⟨by first | omega | exact Nat.le_refl _⟩, ⟨by (with_reducible repeat (first | refine blk_drewN ?_ _ | refine blk_drew ?_ | refine blk_alloc ?_ _)); exact BK302.out⟩, ⟨by (with_reducible repeat (first | refine blk_drewN ?_ _ | refine blk_drew ?_ | refine blk_alloc ?_ _)); exact BK303.out⟩, ⟨by (with_reducible repeat (first | refine blk_drewN ?_ _ | refine blk_drew ?_ | refine blk_alloc ?_ _)); exact BK304.out⟩, ⟨bz⟩⟩
 case rest =>
  clear HC3
  try clear c1
  try clear p2
  try clear c7
  try clear c8
  try clear c10
  try clear c11
  try clear c14
  try clear c15
  try clear hcz12_0
  try clear hcz12_1
  try clear hcz16_0
  try clear hcz16_1
  try clear hfz12_0
  try clear hfz12_1
  try clear hfz16_0
  try clear hfz16_1
  obtain ⟨kq, x16_2, rfl, HA, HJ2, BK302, BK303, BK304, HB⟩ := hcut
  cases kq with
  | zero => exact absurd HA.out (by simp [impl_IntervalCut.j0])
  | succ kj2 =>
   have H := HA.out
   clear HA
   simp only [impl_IntervalCut.j0] at H
   by_cases c18 : x16_2 = true
   ·
    subst c18
    rw [if_pos rfl] at H
    simp only [Option.some.injEq, Prod.mk.injEq] at H
    obtain ⟨rfl, rfl, rfl, rfl, rfl⟩ := H
    have hnb19 := NB303_302.out
    have hnc19 := NB302_303.out
    have hnb20 := NB303_304.out
    have hnc20 := NB304_303.out
    have hcz21_0 : wc.cell? ⟨gb303, 0, none⟩ = some (.string (⟨#[]⟩ : ByteArray)) := (blk_cell BK303.out 0).trans rfl
    have hcz21_1 : wc.cell? ⟨gb303, 1, none⟩ = some (.string (⟨#[]⟩ : ByteArray)) := (blk_cell BK303.out 1).trans rfl
    have hfz21_0 := blk_frozen BK303.out 0
    have hfz21_1 := blk_frozen BK303.out 1
    have hnb22 := NB304_302.out
    have hnc22 := NB302_304.out
    have hcz23_0 : wc.cell? ⟨gb304, 0, none⟩ = some (.string (⟨#[]⟩ : ByteArray)) := (blk_cell BK304.out 0).trans rfl
    have hcz23_1 : wc.cell? ⟨gb304, 1, none⟩ = some (.string (⟨#[]⟩ : ByteArray)) := (blk_cell BK304.out 1).trans rfl
    have hfz23_0 := blk_frozen BK304.out 0
    have hfz23_1 := blk_frozen BK304.out 1
    go_wp2
    refine bodyPost_ret (results_list (rs := [.cell 4 25, .cell 5 25, .tmp 6]) rfl (by simp) (.cell gb303 25 #[.string (⟨#[]⟩ : ByteArray), .string (⟨#[]⟩ : ByteArray)] (0, 0) _ rfl (by (with_reducible repeat (first | refine blk_drewN ?_ _ | refine blk_drew ?_ | refine blk_alloc ?_ _)); refine blk_far ?_ NB303_304.out _; (with_reducible repeat (first | refine blk_drewN ?_ _ | refine blk_drew ?_ | refine blk_alloc ?_ _)); refine blk_far ?_ NB303_304.out _; (with_reducible repeat (first | refine blk_drewN ?_ _ | refine blk_drew ?_ | refine blk_alloc ?_ _)); refine blk_put (cs := #[.string (⟨#[]⟩ : ByteArray), .string (⟨#[]⟩ : ByteArray)]) ?_ 1 _ rfl; (with_reducible repeat (first | refine blk_drewN ?_ _ | refine blk_drew ?_ | refine blk_alloc ?_ _)); refine blk_put (cs := #[.string (⟨#[]⟩ : ByteArray), .string (⟨#[]⟩ : ByteArray)]) ?_ 0 _ rfl; (with_reducible repeat (first | refine blk_drewN ?_ _ | refine blk_drew ?_ | refine blk_alloc ?_ _)); exact BK303.out) Try.underlying25 rfl (by kernel_rfl) (.cell gb304 25 #[.string (⟨#[]⟩ : ByteArray), .string (⟨#[]⟩ : ByteArray)] (0, 0) _ rfl (by (with_reducible repeat (first | refine blk_drewN ?_ _ | refine blk_drew ?_ | refine blk_alloc ?_ _)); refine blk_put (cs := #[.string (⟨#[]⟩ : ByteArray), .string (⟨#[]⟩ : ByteArray)]) ?_ 1 _ rfl; (with_reducible repeat (first | refine blk_drewN ?_ _ | refine blk_drew ?_ | refine blk_alloc ?_ _)); refine blk_put (cs := #[.string (⟨#[]⟩ : ByteArray), .string (⟨#[]⟩ : ByteArray)]) ?_ 0 _ rfl; (with_reducible repeat (first | refine blk_drewN ?_ _ | refine blk_drew ?_ | refine blk_alloc ?_ _)); refine blk_far ?_ NB304_303.out _; (with_reducible repeat (first | refine blk_drewN ?_ _ | refine blk_drew ?_ | refine blk_alloc ?_ _)); refine blk_far ?_ NB304_303.out _; (with_reducible repeat (first | refine blk_drewN ?_ _ | refine blk_drew ?_ | refine blk_alloc ?_ _)); exact BK304.out) Try.underlying25 rfl (by kernel_rfl) (.tmp .nil)))) rfl ?_
    exact ⟨by first | rfl | (simp only [u8w, w64m]; rfl) | (simp [errW_none, errW_some] <;> rfl) | (simp [*, errW_none, errW_some] <;> rfl), bz⟩
   ·
    replace c18 := Bool.eq_false_iff.mpr c18
    subst c18
    rw [if_neg (show ¬ (false = true) by decide)] at H
    replace H := Option.bind_eq_some_iff.mp H
    obtain ⟨t309, A240, H⟩ := H
    try dsimp only at H
    have A24 := Aside0.mk A240
    clear A240
    by_cases c25 : t309 = true
    ·
     subst c25
     rw [if_pos rfl] at H
     replace H := Option.bind_eq_some_iff.mp H
     obtain ⟨t310, A260, H⟩ := H
     try dsimp only at H
     have A26 := Aside0.mk A260
     clear A260
     by_cases c27 : t310 = true
     ·
      subst c27
      rw [if_pos rfl] at H
      simp only [Option.some.injEq, Prod.mk.injEq] at H
      obtain ⟨rfl, rfl, rfl, rfl, rfl⟩ := H
      have hnb28 := NB302_303.out
      have hnc28 := NB303_302.out
      have hnb29 := NB302_304.out
      have hnc29 := NB304_302.out
      have hcz30_0 : wc.cell? ⟨gb302, 0, none⟩ = some (.string a0_0) := (blk_cell BK302.out 0).trans rfl
      have hcz30_1 : wc.cell? ⟨gb302, 1, none⟩ = some (.string a0_1) := (blk_cell BK302.out 1).trans rfl
      have hfz30_0 := blk_frozen BK302.out 0
      have hfz30_1 := blk_frozen BK302.out 1
      try go_wp2_with (first | ((with_reducible refine gate_dst (N := 7) rfl ?_); refine box_event ?hg (N := 7) ?hd (cs := #[.string (⟨#[]⟩ : ByteArray), .string (⟨#[]⟩ : ByteArray)]) (t := 25) ?hr ?_; (case hd => rfl); (case hg => rfl); (case hr => first | (go_simp; done) | (go_simp; rfl)); intro gb307 hg w31 hbox hb; have n0_ := bkb BK302 hb; have n1_ := bkb BK303 hb; have n2_ := bkb BK304 hb; have n3_ := Aside0.mk (below_step (bz) hb); have n4_ := Aside0.mk (hbox); have n5_ : Aside0 (w.heap.size ≤ gb307) := bsg hg; have n6_ : Aside0 (w.heap.size ≤ gb307) := bsg hg; have n7_ := nlt hg BK302; have n8_ := ngt hg BK302; have n9_ := nlt hg BK303; have n10_ := ngt hg BK303; have n11_ := nlt hg BK304; have n12_ := ngt hg BK304; clear BK302; clear BK303; clear BK304; clear HB; have BK302 := n0_; have BK303 := n1_; have BK304 := n2_; have HB := n3_; have BK307 := n4_; have GW307 := n5_; have GE307 := n6_; have NB302_307 := n7_; have NB307_302 := n8_; have NB303_307 := n9_; have NB307_303 := n10_; have NB304_307 := n11_; have NB307_304 := n12_; clear n0_ n1_ n2_ n3_ n4_ n5_ n6_ n7_ n8_ n9_ n10_ n11_ n12_; clear hb hbox hg; have hnb32 := NB307_302.out; have hnc32 := NB302_307.out; have hnb33 := NB307_303.out; have hnc33 := NB303_307.out; have hnb34 := NB307_304.out; have hnc34 := NB304_307.out; have hcz35_0 : w31.cell? ⟨gb307, 0, none⟩ = some (.string (⟨#[]⟩ : ByteArray)) := (blk_cell BK307.out 0).trans rfl; have hcz35_1 : w31.cell? ⟨gb307, 1, none⟩ = some (.string (⟨#[]⟩ : ByteArray)) := (blk_cell BK307.out 1).trans rfl; have hfz35_0 := blk_frozen BK307.out 0; have hfz35_1 := blk_frozen BK307.out 1; have hcz36_0 : w31.cell? ⟨gb302, 0, none⟩ = some (.string a0_0) := (blk_cell BK302.out 0).trans rfl; have hcz36_1 : w31.cell? ⟨gb302, 1, none⟩ = some (.string a0_1) := (blk_cell BK302.out 1).trans rfl; have hfz36_0 := blk_frozen BK302.out 0; have hfz36_1 := blk_frozen BK302.out 1) | ((with_reducible refine gate_dst (N := 8) rfl ?_); refine box_event ?hg (N := 8) ?hd (cs := #[.string (⟨#[]⟩ : ByteArray), .string (⟨#[]⟩ : ByteArray)]) (t := 25) ?hr ?_; (case hd => rfl); (case hg => rfl); (case hr => first | (go_simp; done) | (go_simp; rfl)); intro gb308 hg w37 hbox hb; have n0_ := Aside0.mk (blk_below (g := gb302) (o := .cells #[.string a0_0, .string a0_1] 25 (0, 0)) (by (with_reducible repeat (first | refine blk_drewN ?_ _ | refine blk_drew ?_ | refine blk_alloc ?_ _)); refine blk_far ?_ NB302_307.out _; (with_reducible repeat (first | refine blk_drewN ?_ _ | refine blk_drew ?_ | refine blk_alloc ?_ _)); refine blk_far ?_ NB302_307.out _; (with_reducible repeat (first | refine blk_drewN ?_ _ | refine blk_drew ?_ | refine blk_alloc ?_ _)); exact BK302.out) hb); have n1_ := Aside0.mk (blk_below (g := gb303) (o := .cells #[.string (⟨#[]⟩ : ByteArray), .string (⟨#[]⟩ : ByteArray)] 25 (0, 0)) (by (with_reducible repeat (first | refine blk_drewN ?_ _ | refine blk_drew ?_ | refine blk_alloc ?_ _)); refine blk_far ?_ NB303_307.out _; (with_reducible repeat (first | refine blk_drewN ?_ _ | refine blk_drew ?_ | refine blk_alloc ?_ _)); refine blk_far ?_ NB303_307.out _; (with_reducible repeat (first | refine blk_drewN ?_ _ | refine blk_drew ?_ | refine blk_alloc ?_ _)); exact BK303.out) hb); have n2_ := Aside0.mk (blk_below (g := gb304) (o := .cells #[.string (⟨#[]⟩ : ByteArray), .string (⟨#[]⟩ : ByteArray)] 25 (0, 0)) (by (with_reducible repeat (first | refine blk_drewN ?_ _ | refine blk_drew ?_ | refine blk_alloc ?_ _)); refine blk_far ?_ NB304_307.out _; (with_reducible repeat (first | refine blk_drewN ?_ _ | refine blk_drew ?_ | refine blk_alloc ?_ _)); refine blk_far ?_ NB304_307.out _; (with_reducible repeat (first | refine blk_drewN ?_ _ | refine blk_drew ?_ | refine blk_alloc ?_ _)); exact BK304.out) hb); have n3_ := Aside0.mk (blk_below (g := gb307) (o := .cells #[.string a0_0, .string a1] 25 (0, 0)) (by (with_reducible repeat (first | refine blk_drewN ?_ _ | refine blk_drew ?_ | refine blk_alloc ?_ _)); refine blk_put (cs := #[.string a0_0, .string (⟨#[]⟩ : ByteArray)]) ?_ 1 _ rfl; (with_reducible repeat (first | refine blk_drewN ?_ _ | refine blk_drew ?_ | refine blk_alloc ?_ _)); refine blk_put (cs := #[.string (⟨#[]⟩ : ByteArray), .string (⟨#[]⟩ : ByteArray)]) ?_ 0 _ rfl; (with_reducible repeat (first | refine blk_drewN ?_ _ | refine blk_drew ?_ | refine blk_alloc ?_ _)); exact BK307.out) hb); have n4_ := Aside0.mk (below_step (bz) hb); have n5_ := Aside0.mk (hbox); have n6_ : Aside0 (w.heap.size ≤ gb308) := bsg hg; have n7_ : Aside0 (w.heap.size ≤ gb308) := bsg hg; have n8_ := Aside0.mk ((by rw [hg]; exact Nat.ne_of_lt (blk_lt (g := gb302) (o := .cells #[.string a0_0, .string a0_1] 25 (0, 0)) (by (with_reducible repeat (first | refine blk_drewN ?_ _ | refine blk_drew ?_ | refine blk_alloc ?_ _)); refine blk_far ?_ NB302_307.out _; (with_reducible repeat (first | refine blk_drewN ?_ _ | refine blk_drew ?_ | refine blk_alloc ?_ _)); refine blk_far ?_ NB302_307.out _; (with_reducible repeat (first | refine blk_drewN ?_ _ | refine blk_drew ?_ | refine blk_alloc ?_ _)); exact BK302.out)) : gb302 ≠ gb308)); have n9_ := Aside0.mk ((by rw [hg]; exact Nat.ne_of_gt (blk_lt (g := gb302) (o := .cells #[.string a0_0, .string a0_1] 25 (0, 0)) (by (with_reducible repeat (first | refine blk_drewN ?_ _ | refine blk_drew ?_ | refine blk_alloc ?_ _)); refine blk_far ?_ NB302_307.out _; (with_reducible repeat (first | refine blk_drewN ?_ _ | refine blk_drew ?_ | refine blk_alloc ?_ _)); refine blk_far ?_ NB302_307.out _; (with_reducible repeat (first | refine blk_drewN ?_ _ | refine blk_drew ?_ | refine blk_alloc ?_ _)); exact BK302.out)) : gb308 ≠ gb302)); have n10_ := Aside0.mk ((by rw [hg]; exact Nat.ne_of_lt (blk_lt (g := gb303) (o := .cells #[.string (⟨#[]⟩ : ByteArray), .string (⟨#[]⟩ : ByteArray)] 25 (0, 0)) (by (with_reducible repeat (first | refine blk_drewN ?_ _ | refine blk_drew ?_ | refine blk_alloc ?_ _)); refine blk_far ?_ NB303_307.out _; (with_reducible repeat (first | refine blk_drewN ?_ _ | refine blk_drew ?_ | refine blk_alloc ?_ _)); refine blk_far ?_ NB303_307.out _; (with_reducible repeat (first | refine blk_drewN ?_ _ | refine blk_drew ?_ | refine blk_alloc ?_ _)); exact BK303.out)) : gb303 ≠ gb308)); have n11_ := Aside0.mk ((by rw [hg]; exact Nat.ne_of_gt (blk_lt (g := gb303) (o := .cells #[.string (⟨#[]⟩ : ByteArray), .string (⟨#[]⟩ : ByteArray)] 25 (0, 0)) (by (with_reducible repeat (first | refine blk_drewN ?_ _ | refine blk_drew ?_ | refine blk_alloc ?_ _)); refine blk_far ?_ NB303_307.out _; (with_reducible repeat (first | refine blk_drewN ?_ _ | refine blk_drew ?_ | refine blk_alloc ?_ _)); refine blk_far ?_ NB303_307.out _; (with_reducible repeat (first | refine blk_drewN ?_ _ | refine blk_drew ?_ | refine blk_alloc ?_ _)); exact BK303.out)) : gb308 ≠ gb303)); have n12_ := Aside0.mk ((by rw [hg]; exact Nat.ne_of_lt (blk_lt (g := gb304) (o := .cells #[.string (⟨#[]⟩ : ByteArray), .string (⟨#[]⟩ : ByteArray)] 25 (0, 0)) (by (with_reducible repeat (first | refine blk_drewN ?_ _ | refine blk_drew ?_ | refine blk_alloc ?_ _)); refine blk_far ?_ NB304_307.out _; (with_reducible repeat (first | refine blk_drewN ?_ _ | refine blk_drew ?_ | refine blk_alloc ?_ _)); refine blk_far ?_ NB304_307.out _; (with_reducible repeat (first | refine blk_drewN ?_ _ | refine blk_drew ?_ | refine blk_alloc ?_ _)); exact BK304.out)) : gb304 ≠ gb308)); have n13_ := Aside0.mk ((by rw [hg]; exact Nat.ne_of_gt (blk_lt (g := gb304) (o := .cells #[.string (⟨#[]⟩ : ByteArray), .string (⟨#[]⟩ : ByteArray)] 25 (0, 0)) (by (with_reducible repeat (first | refine blk_drewN ?_ _ | refine blk_drew ?_ | refine blk_alloc ?_ _)); refine blk_far ?_ NB304_307.out _; (with_reducible repeat (first | refine blk_drewN ?_ _ | refine blk_drew ?_ | refine blk_alloc ?_ _)); refine blk_far ?_ NB304_307.out _; (with_reducible repeat (first | refine blk_drewN ?_ _ | refine blk_drew ?_ | refine blk_alloc ?_ _)); exact BK304.out)) : gb308 ≠ gb304)); have n14_ := Aside0.mk ((by rw [hg]; exact Nat.ne_of_lt (blk_lt (g := gb307) (o := .cells #[.string a0_0, .string a1] 25 (0, 0)) (by (with_reducible repeat (first | refine blk_drewN ?_ _ | refine blk_drew ?_ | refine blk_alloc ?_ _)); refine blk_put (cs := #[.string a0_0, .string (⟨#[]⟩ : ByteArray)]) ?_ 1 _ rfl; (with_reducible repeat (first | refine blk_drewN ?_ _ | refine blk_drew ?_ | refine blk_alloc ?_ _)); refine blk_put (cs := #[.string (⟨#[]⟩ : ByteArray), .string (⟨#[]⟩ : ByteArray)]) ?_ 0 _ rfl; (with_reducible repeat (first | refine blk_drewN ?_ _ | refine blk_drew ?_ | refine blk_alloc ?_ _)); exact BK307.out)) : gb307 ≠ gb308)); have n15_ := Aside0.mk ((by rw [hg]; exact Nat.ne_of_gt (blk_lt (g := gb307) (o := .cells #[.string a0_0, .string a1] 25 (0, 0)) (by (with_reducible repeat (first | refine blk_drewN ?_ _ | refine blk_drew ?_ | refine blk_alloc ?_ _)); refine blk_put (cs := #[.string a0_0, .string (⟨#[]⟩ : ByteArray)]) ?_ 1 _ rfl; (with_reducible repeat (first | refine blk_drewN ?_ _ | refine blk_drew ?_ | refine blk_alloc ?_ _)); refine blk_put (cs := #[.string (⟨#[]⟩ : ByteArray), .string (⟨#[]⟩ : ByteArray)]) ?_ 0 _ rfl; (with_reducible repeat (first | refine blk_drewN ?_ _ | refine blk_drew ?_ | refine blk_alloc ?_ _)); exact BK307.out)) : gb308 ≠ gb307)); clear BK302; clear BK303; clear BK304; clear BK307; clear HB; have BK302 := n0_; have BK303 := n1_; have BK304 := n2_; have BK307 := n3_; have HB := n4_; have BK308 := n5_; have GW308 := n6_; have GE308 := n7_; have NB302_308 := n8_; have NB308_302 := n9_; have NB303_308 := n10_; have NB308_303 := n11_; have NB304_308 := n12_; have NB308_304 := n13_; have NB307_308 := n14_; have NB308_307 := n15_; clear n0_ n1_ n2_ n3_ n4_ n5_ n6_ n7_ n8_ n9_ n10_ n11_ n12_ n13_ n14_ n15_; clear hb hbox hg; have hnb38 := NB308_302.out; have hnc38 := NB302_308.out; have hnb39 := NB308_303.out; have hnc39 := NB303_308.out; have hnb40 := NB308_304.out; have hnc40 := NB304_308.out; have hnb41 := NB308_307.out; have hnc41 := NB307_308.out; have hcz42_0 : w37.cell? ⟨gb308, 0, none⟩ = some (.string (⟨#[]⟩ : ByteArray)) := (blk_cell BK308.out 0).trans rfl; have hcz42_1 : w37.cell? ⟨gb308, 1, none⟩ = some (.string (⟨#[]⟩ : ByteArray)) := (blk_cell BK308.out 1).trans rfl; have hfz42_0 := blk_frozen BK308.out 0; have hfz42_1 := blk_frozen BK308.out 1; have hcz43_0 : w37.cell? ⟨gb307, 0, none⟩ = some (.string a0_0) := (blk_cell BK307.out 0).trans rfl; have hcz43_1 : w37.cell? ⟨gb307, 1, none⟩ = some (.string a1) := (blk_cell BK307.out 1).trans rfl; have hfz43_0 := blk_frozen BK307.out 0; have hfz43_1 := blk_frozen BK307.out 1) | ((with_reducible refine gate_callee (f := 70) rfl ?_); refine goesL_ (some 28) rfl rfl Try.func70 (by kernel_rfl) rfl #[.agg #[.string a0_0, .string a1]] rfl (by (try simp only [List.map_toArray, List.map_cons, List.map_nil]); first | done | rfl | (simp only [List.length_drop, List.length_take]; rfl)) ?_; (with_reducible refine (impl_IntervalValid.calls kj2 a0_0 a1 true _ A24.out).mono ?_); rintro e w44 ⟨rfl, hb⟩; refine ⟨_, rfl, ?_⟩; have n0_ := Aside0.mk (blk_below (g := gb302) (o := .cells #[.string a0_0, .string a0_1] 25 (0, 0)) (by (with_reducible repeat (first | refine blk_drewN ?_ _ | refine blk_drew ?_ | refine blk_alloc ?_ _)); refine blk_far ?_ NB302_308.out _; (with_reducible repeat (first | refine blk_drewN ?_ _ | refine blk_drew ?_ | refine blk_alloc ?_ _)); refine blk_far ?_ NB302_308.out _; (with_reducible repeat (first | refine blk_drewN ?_ _ | refine blk_drew ?_ | refine blk_alloc ?_ _)); exact BK302.out) hb); have n1_ := Aside0.mk (blk_below (g := gb303) (o := .cells #[.string (⟨#[]⟩ : ByteArray), .string (⟨#[]⟩ : ByteArray)] 25 (0, 0)) (by (with_reducible repeat (first | refine blk_drewN ?_ _ | refine blk_drew ?_ | refine blk_alloc ?_ _)); refine blk_far ?_ NB303_308.out _; (with_reducible repeat (first | refine blk_drewN ?_ _ | refine blk_drew ?_ | refine blk_alloc ?_ _)); refine blk_far ?_ NB303_308.out _; (with_reducible repeat (first | refine blk_drewN ?_ _ | refine blk_drew ?_ | refine blk_alloc ?_ _)); exact BK303.out) hb); have n2_ := Aside0.mk (blk_below (g := gb304) (o := .cells #[.string (⟨#[]⟩ : ByteArray), .string (⟨#[]⟩ : ByteArray)] 25 (0, 0)) (by (with_reducible repeat (first | refine blk_drewN ?_ _ | refine blk_drew ?_ | refine blk_alloc ?_ _)); refine blk_far ?_ NB304_308.out _; (with_reducible repeat (first | refine blk_drewN ?_ _ | refine blk_drew ?_ | refine blk_alloc ?_ _)); refine blk_far ?_ NB304_308.out _; (with_reducible repeat (first | refine blk_drewN ?_ _ | refine blk_drew ?_ | refine blk_alloc ?_ _)); exact BK304.out) hb); have n3_ := Aside0.mk (blk_below (g := gb307) (o := .cells #[.string a0_0, .string a1] 25 (0, 0)) (by (with_reducible repeat (first | refine blk_drewN ?_ _ | refine blk_drew ?_ | refine blk_alloc ?_ _)); refine blk_far ?_ NB307_308.out _; (with_reducible repeat (first | refine blk_drewN ?_ _ | refine blk_drew ?_ | refine blk_alloc ?_ _)); refine blk_far ?_ NB307_308.out _; (with_reducible repeat (first | refine blk_drewN ?_ _ | refine blk_drew ?_ | refine blk_alloc ?_ _)); exact BK307.out) hb); have n4_ := Aside0.mk (blk_below (g := gb308) (o := .cells #[.string a1, .string a0_1] 25 (0, 0)) (by (with_reducible repeat (first | refine blk_drewN ?_ _ | refine blk_drew ?_ | refine blk_alloc ?_ _)); refine blk_put (cs := #[.string a1, .string (⟨#[]⟩ : ByteArray)]) ?_ 1 _ rfl; (with_reducible repeat (first | refine blk_drewN ?_ _ | refine blk_drew ?_ | refine blk_alloc ?_ _)); refine blk_put (cs := #[.string (⟨#[]⟩ : ByteArray), .string (⟨#[]⟩ : ByteArray)]) ?_ 0 _ rfl; (with_reducible repeat (first | refine blk_drewN ?_ _ | refine blk_drew ?_ | refine blk_alloc ?_ _)); exact BK308.out) hb); have n5_ := Aside0.mk (below_step (bz) hb); clear BK302; clear BK303; clear BK304; clear BK307; clear BK308; clear HB; have BK302 := n0_; have BK303 := n1_; have BK304 := n2_; have BK307 := n3_; have BK308 := n4_; have HB := n5_; clear n0_ n1_ n2_ n3_ n4_ n5_; (try clear hb); (try clear hb2); (try clear hk); (try clear hi); have hcz45_0 : w44.cell? ⟨gb308, 0, none⟩ = some (.string a1) := (blk_cell BK308.out 0).trans rfl; have hcz45_1 : w44.cell? ⟨gb308, 1, none⟩ = some (.string a0_1) := (blk_cell BK308.out 1).trans rfl; have hfz45_0 := blk_frozen BK308.out 0; have hfz45_1 := blk_frozen BK308.out 1) | (go_at_call 70; (with_reducible refine (impl_IntervalValid.calls kj2 a1 a0_1 true _ A26.out).mono ?_); rintro e w46 ⟨rfl, hb⟩; have n0_ := bkb BK302 hb; have n1_ := bkb BK303 hb; have n2_ := bkb BK304 hb; have n3_ := bkb BK307 hb; have n4_ := bkb BK308 hb; have n5_ := Aside0.mk (below_step (bz) hb); clear BK302; clear BK303; clear BK304; clear BK307; clear BK308; clear HB; have BK302 := n0_; have BK303 := n1_; have BK304 := n2_; have BK307 := n3_; have BK308 := n4_; have HB := n5_; clear n0_ n1_ n2_ n3_ n4_ n5_; (try clear hb); (try clear hb2); (try clear hk); (try clear hi)))
      have n0_ := Aside0.mk (blk_drew BK302.out)
      have n1_ := Aside0.mk (blk_drew BK303.out)
      have n2_ := Aside0.mk (blk_drew BK304.out)
      have n3_ := Aside0.mk (blk_drew BK307.out)
      have n4_ := Aside0.mk (blk_drew BK308.out)
      have n5_ := Aside0.mk (below_drew1 HB.out)
      clear BK302
      clear BK303
      clear BK304
      clear BK307
      clear BK308
      clear HB
      have BK302 := n0_
      have BK303 := n1_
      have BK304 := n2_
      have BK307 := n3_
      have BK308 := n4_
      have HB := n5_
      clear n0_ n1_ n2_ n3_ n4_ n5_
      refine start_ (n := 5) (S := fun w' => w'.cell? ⟨gb307, 0, none⟩ = some (.string a0_0) ∧ w'.cell? ⟨gb307, 1, none⟩ = some (.string a1) ∧ w'.cell? ⟨gb308, 0, none⟩ = some (.string a1) ∧ w'.cell? ⟨gb308, 1, none⟩ = some (.string a0_1)) (ds := []) #[false, false, false, false, false] (by kernel_rfl) rfl rfl ⟨(blk_cell BK307.out 0).trans rfl, (blk_cell BK307.out 1).trans rfl, (blk_cell BK308.out 0).trans rfl, (blk_cell BK308.out 1).trans rfl⟩ (fun hHeld => ?_)
      generalize w46.drew = w47 at BK302 BK303 BK304 BK307 BK308 HB hHeld ⊢
      refine take_ (i := 0) (N := some 37) (v := ?_) (a' := ?_) #[true, false, false, false, false] rfl rfl (by kernel_rfl) (fun _ _ _ h => h) (Or.inl ⟨by rfl, ?_⟩) hHeld ?_ ?_
      rotate_left
      ·
       rintro w' ⟨s0, s1, s2, s3⟩
       go_simp
       with_reducible rfl
      rotate_left
      ·
       simp only [Act.put, List.setIfInBounds_toArray, List.set_cons_zero, List.set_cons_succ, i64_w, i32_w]
       rfl
      refine take_ (i := 1) (N := some 38) (v := ?_) (a' := ?_) #[true, true, false, false, false] rfl rfl (by kernel_rfl) (fun _ _ _ h => h) (Or.inl ⟨by rfl, ?_⟩) hHeld ?_ ?_
      rotate_left
      ·
       rintro w' ⟨s0, s1, s2, s3⟩
       go_simp
       with_reducible rfl
      rotate_left
      ·
       simp only [Act.put, List.setIfInBounds_toArray, List.set_cons_zero, List.set_cons_succ, i64_w, i32_w]
       rfl
      refine one_ (i := 2) (N := none) #[true, true, true, false, false] rfl rfl (by kernel_rfl) (by decide) (fun K hK => ?_)
      have hs48 : w47.cell? ⟨gb303, 0, none⟩ = some (.string (⟨#[]⟩ : ByteArray)) := (blk_cell BK303.out 0).trans rfl
      have hfs48 := blk_frozen BK303.out 0
      have hns48_0 := NB302_303.out
      have hns48_2 := NB304_303.out
      have hns48_3 := NB307_303.out
      have hns48_4 := NB308_303.out
      have hms48_0 := NB303_302.out
      have hms48_2 := NB303_304.out
      have hms48_3 := NB303_307.out
      have hms48_4 := NB303_308.out
      have hs49 : w47.cell? ⟨gb303, 1, none⟩ = some (.string (⟨#[]⟩ : ByteArray)) := (blk_cell BK303.out 1).trans rfl
      have hfs49 := blk_frozen BK303.out 1
      have hns49_0 := NB302_303.out
      have hns49_2 := NB304_303.out
      have hns49_3 := NB307_303.out
      have hns49_4 := NB308_303.out
      have hms49_0 := NB303_302.out
      have hms49_2 := NB303_304.out
      have hms49_3 := NB303_307.out
      have hms49_4 := NB303_308.out
      refine skip_ (w1 := ?_) (by rfl) rfl ?_ ?_
      rotate_left
      ·
       go_simp
       rfl
      refine hK.out _ _ ⟨((cell_far (p := ⟨gb303, _, none⟩) NB307_303.out _).trans (((cell_far (p := ⟨gb303, _, none⟩) NB307_303.out _).trans (hHeld.1)))), ((cell_far (p := ⟨gb303, _, none⟩) NB307_303.out _).trans (((cell_far (p := ⟨gb303, _, none⟩) NB307_303.out _).trans (hHeld.2.1)))), ((cell_far (p := ⟨gb303, _, none⟩) NB308_303.out _).trans (((cell_far (p := ⟨gb303, _, none⟩) NB308_303.out _).trans (hHeld.2.2.1)))), ((cell_far (p := ⟨gb303, _, none⟩) NB308_303.out _).trans (((cell_far (p := ⟨gb303, _, none⟩) NB308_303.out _).trans (hHeld.2.2.2))))⟩ (fun hHeld => ?_)
      clear hK K
      refine one_ (i := 3) (N := none) #[true, true, true, true, false] rfl rfl (by kernel_rfl) (by decide) (fun K hK => ?_)
      have hs50 : w47.cell? ⟨gb304, 0, none⟩ = some (.string (⟨#[]⟩ : ByteArray)) := (blk_cell BK304.out 0).trans rfl
      have hfs50 := blk_frozen BK304.out 0
      have hns50_0 := NB302_304.out
      have hns50_1 := NB303_304.out
      have hns50_3 := NB307_304.out
      have hns50_4 := NB308_304.out
      have hms50_0 := NB304_302.out
      have hms50_1 := NB304_303.out
      have hms50_3 := NB304_307.out
      have hms50_4 := NB304_308.out
      have hs51 : w47.cell? ⟨gb304, 1, none⟩ = some (.string (⟨#[]⟩ : ByteArray)) := (blk_cell BK304.out 1).trans rfl
      have hfs51 := blk_frozen BK304.out 1
      have hns51_0 := NB302_304.out
      have hns51_1 := NB303_304.out
      have hns51_3 := NB307_304.out
      have hns51_4 := NB308_304.out
      have hms51_0 := NB304_302.out
      have hms51_1 := NB304_303.out
      have hms51_3 := NB304_307.out
      have hms51_4 := NB304_308.out
      refine skip_ (w1 := ?_) (by rfl) rfl ?_ ?_
      rotate_left
      ·
       go_simp
       rfl
      refine hK.out _ _ ⟨((cell_far (p := ⟨gb304, _, none⟩) NB307_304.out _).trans (((cell_far (p := ⟨gb304, _, none⟩) NB307_304.out _).trans (hHeld.1)))), ((cell_far (p := ⟨gb304, _, none⟩) NB307_304.out _).trans (((cell_far (p := ⟨gb304, _, none⟩) NB307_304.out _).trans (hHeld.2.1)))), ((cell_far (p := ⟨gb304, _, none⟩) NB308_304.out _).trans (((cell_far (p := ⟨gb304, _, none⟩) NB308_304.out _).trans (hHeld.2.2.1)))), ((cell_far (p := ⟨gb304, _, none⟩) NB308_304.out _).trans (((cell_far (p := ⟨gb304, _, none⟩) NB308_304.out _).trans (hHeld.2.2.2))))⟩ (fun hHeld => ?_)
      clear hK K
      refine pure_ (i := 4) (N := some 6) (v := ?_) (a' := ?_) #[true, true, true, true, true] rfl rfl (by kernel_rfl) (fun _ _ _ h => h) (Or.inl ⟨by rfl, ?_⟩) ?_ ?_
      rotate_left
      ·
       intro w'
       go_simp
       with_reducible rfl
      rotate_left
      ·
       simp only [Act.put, List.setIfInBounds_toArray, List.set_cons_zero, List.set_cons_succ, i64_w, i32_w]
       rfl
      refine done_ (by kernel_rfl) ?_
      try go_wp2
      refine bodyPost_ret (results_list (rs := [.cell 4 25, .cell 5 25, .tmp 6]) rfl (by simp) (.cell gb303 25 #[.string a0_0, .string a1] (0, 0) _ rfl (by (with_reducible repeat (first | refine blk_drewN ?_ _ | refine blk_drew ?_ | refine blk_alloc ?_ _)); refine blk_far ?_ NB303_304.out _; (with_reducible repeat (first | refine blk_drewN ?_ _ | refine blk_drew ?_ | refine blk_alloc ?_ _)); refine blk_far ?_ NB303_304.out _; (with_reducible repeat (first | refine blk_drewN ?_ _ | refine blk_drew ?_ | refine blk_alloc ?_ _)); refine blk_put (cs := #[.string a0_0, .string (⟨#[]⟩ : ByteArray)]) ?_ 1 _ rfl; (with_reducible repeat (first | refine blk_drewN ?_ _ | refine blk_drew ?_ | refine blk_alloc ?_ _)); refine blk_put (cs := #[.string (⟨#[]⟩ : ByteArray), .string (⟨#[]⟩ : ByteArray)]) ?_ 0 _ rfl; (with_reducible repeat (first | refine blk_drewN ?_ _ | refine blk_drew ?_ | refine blk_alloc ?_ _)); exact BK303.out) Try.underlying25 rfl (by kernel_rfl) (.cell gb304 25 #[.string a1, .string a0_1] (0, 0) _ rfl (by (with_reducible repeat (first | refine blk_drewN ?_ _ | refine blk_drew ?_ | refine blk_alloc ?_ _)); refine blk_put (cs := #[.string a1, .string (⟨#[]⟩ : ByteArray)]) ?_ 1 _ rfl; (with_reducible repeat (first | refine blk_drewN ?_ _ | refine blk_drew ?_ | refine blk_alloc ?_ _)); refine blk_put (cs := #[.string (⟨#[]⟩ : ByteArray), .string (⟨#[]⟩ : ByteArray)]) ?_ 0 _ rfl; (with_reducible repeat (first | refine blk_drewN ?_ _ | refine blk_drew ?_ | refine blk_alloc ?_ _)); refine blk_far ?_ NB304_303.out _; (with_reducible repeat (first | refine blk_drewN ?_ _ | refine blk_drew ?_ | refine blk_alloc ?_ _)); refine blk_far ?_ NB304_303.out _; (with_reducible repeat (first | refine blk_drewN ?_ _ | refine blk_drew ?_ | refine blk_alloc ?_ _)); exact BK304.out) Try.underlying25 rfl (by kernel_rfl) (.tmp .nil)))) rfl ?_
      exact ⟨by first | rfl | (simp only [u8w, w64m]; rfl) | (simp [errW_none, errW_some] <;> rfl) | (simp [*, errW_none, errW_some] <;> rfl), bz⟩
     ·
      replace c27 := Bool.eq_false_iff.mpr c27
      subst c27
      rw [if_neg (show ¬ (false = true) by decide)] at H
      simp only [Option.some.injEq, Prod.mk.injEq] at H
      obtain ⟨rfl, rfl, rfl, rfl, rfl⟩ := H
      have hnb52 := NB302_303.out
      have hnc52 := NB303_302.out
      have hnb53 := NB302_304.out
      have hnc53 := NB304_302.out
      have hcz54_0 : wc.cell? ⟨gb302, 0, none⟩ = some (.string a0_0) := (blk_cell BK302.out 0).trans rfl
      have hcz54_1 : wc.cell? ⟨gb302, 1, none⟩ = some (.string a0_1) := (blk_cell BK302.out 1).trans rfl
      have hfz54_0 := blk_frozen BK302.out 0
      have hfz54_1 := blk_frozen BK302.out 1
      go_wp2_with (first | ((with_reducible refine gate_dst (N := 7) rfl ?_); refine box_event ?hg (N := 7) ?hd (cs := #[.string (⟨#[]⟩ : ByteArray), .string (⟨#[]⟩ : ByteArray)]) (t := 25) ?hr ?_; (case hd => rfl); (case hg => rfl); (case hr => first | (go_simp; done) | (go_simp; rfl)); intro gb307 hg w55 hbox hb; have n0_ := bkb BK302 hb; have n1_ := bkb BK303 hb; have n2_ := bkb BK304 hb; have n3_ := Aside0.mk (below_step (bz) hb); have n4_ := Aside0.mk (hbox); have n5_ : Aside0 (w.heap.size ≤ gb307) := bsg hg; have n6_ : Aside0 (w.heap.size ≤ gb307) := bsg hg; have n7_ := nlt hg BK302; have n8_ := ngt hg BK302; have n9_ := nlt hg BK303; have n10_ := ngt hg BK303; have n11_ := nlt hg BK304; have n12_ := ngt hg BK304; clear BK302; clear BK303; clear BK304; clear HB; have BK302 := n0_; have BK303 := n1_; have BK304 := n2_; have HB := n3_; have BK307 := n4_; have GW307 := n5_; have GE307 := n6_; have NB302_307 := n7_; have NB307_302 := n8_; have NB303_307 := n9_; have NB307_303 := n10_; have NB304_307 := n11_; have NB307_304 := n12_; clear n0_ n1_ n2_ n3_ n4_ n5_ n6_ n7_ n8_ n9_ n10_ n11_ n12_; clear hb hbox hg; have hnb56 := NB307_302.out; have hnc56 := NB302_307.out; have hnb57 := NB307_303.out; have hnc57 := NB303_307.out; have hnb58 := NB307_304.out; have hnc58 := NB304_307.out; have hcz59_0 : w55.cell? ⟨gb307, 0, none⟩ = some (.string (⟨#[]⟩ : ByteArray)) := (blk_cell BK307.out 0).trans rfl; have hcz59_1 : w55.cell? ⟨gb307, 1, none⟩ = some (.string (⟨#[]⟩ : ByteArray)) := (blk_cell BK307.out 1).trans rfl; have hfz59_0 := blk_frozen BK307.out 0; have hfz59_1 := blk_frozen BK307.out 1; have hcz60_0 : w55.cell? ⟨gb302, 0, none⟩ = some (.string a0_0) := (blk_cell BK302.out 0).trans rfl; have hcz60_1 : w55.cell? ⟨gb302, 1, none⟩ = some (.string a0_1) := (blk_cell BK302.out 1).trans rfl; have hfz60_0 := blk_frozen BK302.out 0; have hfz60_1 := blk_frozen BK302.out 1) | ((with_reducible refine gate_dst (N := 8) rfl ?_); refine box_event ?hg (N := 8) ?hd (cs := #[.string (⟨#[]⟩ : ByteArray), .string (⟨#[]⟩ : ByteArray)]) (t := 25) ?hr ?_; (case hd => rfl); (case hg => rfl); (case hr => first | (go_simp; done) | (go_simp; rfl)); intro gb308 hg w61 hbox hb; have n0_ := Aside0.mk (blk_below (g := gb302) (o := .cells #[.string a0_0, .string a0_1] 25 (0, 0)) (by (with_reducible repeat (first | refine blk_drewN ?_ _ | refine blk_drew ?_ | refine blk_alloc ?_ _)); refine blk_far ?_ NB302_307.out _; (with_reducible repeat (first | refine blk_drewN ?_ _ | refine blk_drew ?_ | refine blk_alloc ?_ _)); refine blk_far ?_ NB302_307.out _; (with_reducible repeat (first | refine blk_drewN ?_ _ | refine blk_drew ?_ | refine blk_alloc ?_ _)); exact BK302.out) hb); have n1_ := Aside0.mk (blk_below (g := gb303) (o := .cells #[.string (⟨#[]⟩ : ByteArray), .string (⟨#[]⟩ : ByteArray)] 25 (0, 0)) (by (with_reducible repeat (first | refine blk_drewN ?_ _ | refine blk_drew ?_ | refine blk_alloc ?_ _)); refine blk_far ?_ NB303_307.out _; (with_reducible repeat (first | refine blk_drewN ?_ _ | refine blk_drew ?_ | refine blk_alloc ?_ _)); refine blk_far ?_ NB303_307.out _; (with_reducible repeat (first | refine blk_drewN ?_ _ | refine blk_drew ?_ | refine blk_alloc ?_ _)); exact BK303.out) hb); have n2_ := Aside0.mk (blk_below (g := gb304) (o := .cells #[.string (⟨#[]⟩ : ByteArray), .string (⟨#[]⟩ : ByteArray)] 25 (0, 0)) (by (with_reducible repeat (first | refine blk_drewN ?_ _ | refine blk_drew ?_ | refine blk_alloc ?_ _)); refine blk_far ?_ NB304_307.out _; (with_reducible repeat (first | refine blk_drewN ?_ _ | refine blk_drew ?_ | refine blk_alloc ?_ _)); refine blk_far ?_ NB304_307.out _; (with_reducible repeat (first | refine blk_drewN ?_ _ | refine blk_drew ?_ | refine blk_alloc ?_ _)); exact BK304.out) hb); have n3_ := Aside0.mk (blk_below (g := gb307) (o := .cells #[.string a0_0, .string a1] 25 (0, 0)) (by (with_reducible repeat (first | refine blk_drewN ?_ _ | refine blk_drew ?_ | refine blk_alloc ?_ _)); refine blk_put (cs := #[.string a0_0, .string (⟨#[]⟩ : ByteArray)]) ?_ 1 _ rfl; (with_reducible repeat (first | refine blk_drewN ?_ _ | refine blk_drew ?_ | refine blk_alloc ?_ _)); refine blk_put (cs := #[.string (⟨#[]⟩ : ByteArray), .string (⟨#[]⟩ : ByteArray)]) ?_ 0 _ rfl; (with_reducible repeat (first | refine blk_drewN ?_ _ | refine blk_drew ?_ | refine blk_alloc ?_ _)); exact BK307.out) hb); have n4_ := Aside0.mk (below_step (bz) hb); have n5_ := Aside0.mk (hbox); have n6_ : Aside0 (w.heap.size ≤ gb308) := bsg hg; have n7_ : Aside0 (w.heap.size ≤ gb308) := bsg hg; have n8_ := Aside0.mk ((by rw [hg]; exact Nat.ne_of_lt (blk_lt (g := gb302) (o := .cells #[.string a0_0, .string a0_1] 25 (0, 0)) (by (with_reducible repeat (first | refine blk_drewN ?_ _ | refine blk_drew ?_ | refine blk_alloc ?_ _)); refine blk_far ?_ NB302_307.out _; (with_reducible repeat (first | refine blk_drewN ?_ _ | refine blk_drew ?_ | refine blk_alloc ?_ _)); refine blk_far ?_ NB302_307.out _; (with_reducible repeat (first | refine blk_drewN ?_ _ | refine blk_drew ?_ | refine blk_alloc ?_ _)); exact BK302.out)) : gb302 ≠ gb308)); have n9_ := Aside0.mk ((by rw [hg]; exact Nat.ne_of_gt (blk_lt (g := gb302) (o := .cells #[.string a0_0, .string a0_1] 25 (0, 0)) (by (with_reducible repeat (first | refine blk_drewN ?_ _ | refine blk_drew ?_ | refine blk_alloc ?_ _)); refine blk_far ?_ NB302_307.out _; (with_reducible repeat (first | refine blk_drewN ?_ _ | refine blk_drew ?_ | refine blk_alloc ?_ _)); refine blk_far ?_ NB302_307.out _; (with_reducible repeat (first | refine blk_drewN ?_ _ | refine blk_drew ?_ | refine blk_alloc ?_ _)); exact BK302.out)) : gb308 ≠ gb302)); have n10_ := Aside0.mk ((by rw [hg]; exact Nat.ne_of_lt (blk_lt (g := gb303) (o := .cells #[.string (⟨#[]⟩ : ByteArray), .string (⟨#[]⟩ : ByteArray)] 25 (0, 0)) (by (with_reducible repeat (first | refine blk_drewN ?_ _ | refine blk_drew ?_ | refine blk_alloc ?_ _)); refine blk_far ?_ NB303_307.out _; (with_reducible repeat (first | refine blk_drewN ?_ _ | refine blk_drew ?_ | refine blk_alloc ?_ _)); refine blk_far ?_ NB303_307.out _; (with_reducible repeat (first | refine blk_drewN ?_ _ | refine blk_drew ?_ | refine blk_alloc ?_ _)); exact BK303.out)) : gb303 ≠ gb308)); have n11_ := Aside0.mk ((by rw [hg]; exact Nat.ne_of_gt (blk_lt (g := gb303) (o := .cells #[.string (⟨#[]⟩ : ByteArray), .string (⟨#[]⟩ : ByteArray)] 25 (0, 0)) (by (with_reducible repeat (first | refine blk_drewN ?_ _ | refine blk_drew ?_ | refine blk_alloc ?_ _)); refine blk_far ?_ NB303_307.out _; (with_reducible repeat (first | refine blk_drewN ?_ _ | refine blk_drew ?_ | refine blk_alloc ?_ _)); refine blk_far ?_ NB303_307.out _; (with_reducible repeat (first | refine blk_drewN ?_ _ | refine blk_drew ?_ | refine blk_alloc ?_ _)); exact BK303.out)) : gb308 ≠ gb303)); have n12_ := Aside0.mk ((by rw [hg]; exact Nat.ne_of_lt (blk_lt (g := gb304) (o := .cells #[.string (⟨#[]⟩ : ByteArray), .string (⟨#[]⟩ : ByteArray)] 25 (0, 0)) (by (with_reducible repeat (first | refine blk_drewN ?_ _ | refine blk_drew ?_ | refine blk_alloc ?_ _)); refine blk_far ?_ NB304_307.out _; (with_reducible repeat (first | refine blk_drewN ?_ _ | refine blk_drew ?_ | refine blk_alloc ?_ _)); refine blk_far ?_ NB304_307.out _; (with_reducible repeat (first | refine blk_drewN ?_ _ | refine blk_drew ?_ | refine blk_alloc ?_ _)); exact BK304.out)) : gb304 ≠ gb308)); have n13_ := Aside0.mk ((by rw [hg]; exact Nat.ne_of_gt (blk_lt (g := gb304) (o := .cells #[.string (⟨#[]⟩ : ByteArray), .string (⟨#[]⟩ : ByteArray)] 25 (0, 0)) (by (with_reducible repeat (first | refine blk_drewN ?_ _ | refine blk_drew ?_ | refine blk_alloc ?_ _)); refine blk_far ?_ NB304_307.out _; (with_reducible repeat (first | refine blk_drewN ?_ _ | refine blk_drew ?_ | refine blk_alloc ?_ _)); refine blk_far ?_ NB304_307.out _; (with_reducible repeat (first | refine blk_drewN ?_ _ | refine blk_drew ?_ | refine blk_alloc ?_ _)); exact BK304.out)) : gb308 ≠ gb304)); have n14_ := Aside0.mk ((by rw [hg]; exact Nat.ne_of_lt (blk_lt (g := gb307) (o := .cells #[.string a0_0, .string a1] 25 (0, 0)) (by (with_reducible repeat (first | refine blk_drewN ?_ _ | refine blk_drew ?_ | refine blk_alloc ?_ _)); refine blk_put (cs := #[.string a0_0, .string (⟨#[]⟩ : ByteArray)]) ?_ 1 _ rfl; (with_reducible repeat (first | refine blk_drewN ?_ _ | refine blk_drew ?_ | refine blk_alloc ?_ _)); refine blk_put (cs := #[.string (⟨#[]⟩ : ByteArray), .string (⟨#[]⟩ : ByteArray)]) ?_ 0 _ rfl; (with_reducible repeat (first | refine blk_drewN ?_ _ | refine blk_drew ?_ | refine blk_alloc ?_ _)); exact BK307.out)) : gb307 ≠ gb308)); have n15_ := Aside0.mk ((by rw [hg]; exact Nat.ne_of_gt (blk_lt (g := gb307) (o := .cells #[.string a0_0, .string a1] 25 (0, 0)) (by (with_reducible repeat (first | refine blk_drewN ?_ _ | refine blk_drew ?_ | refine blk_alloc ?_ _)); refine blk_put (cs := #[.string a0_0, .string (⟨#[]⟩ : ByteArray)]) ?_ 1 _ rfl; (with_reducible repeat (first | refine blk_drewN ?_ _ | refine blk_drew ?_ | refine blk_alloc ?_ _)); refine blk_put (cs := #[.string (⟨#[]⟩ : ByteArray), .string (⟨#[]⟩ : ByteArray)]) ?_ 0 _ rfl; (with_reducible repeat (first | refine blk_drewN ?_ _ | refine blk_drew ?_ | refine blk_alloc ?_ _)); exact BK307.out)) : gb308 ≠ gb307)); clear BK302; clear BK303; clear BK304; clear BK307; clear HB; have BK302 := n0_; have BK303 := n1_; have BK304 := n2_; have BK307 := n3_; have HB := n4_; have BK308 := n5_; have GW308 := n6_; have GE308 := n7_; have NB302_308 := n8_; have NB308_302 := n9_; have NB303_308 := n10_; have NB308_303 := n11_; have NB304_308 := n12_; have NB308_304 := n13_; have NB307_308 := n14_; have NB308_307 := n15_; clear n0_ n1_ n2_ n3_ n4_ n5_ n6_ n7_ n8_ n9_ n10_ n11_ n12_ n13_ n14_ n15_; clear hb hbox hg; have hnb62 := NB308_302.out; have hnc62 := NB302_308.out; have hnb63 := NB308_303.out; have hnc63 := NB303_308.out; have hnb64 := NB308_304.out; have hnc64 := NB304_308.out; have hnb65 := NB308_307.out; have hnc65 := NB307_308.out; have hcz66_0 : w61.cell? ⟨gb308, 0, none⟩ = some (.string (⟨#[]⟩ : ByteArray)) := (blk_cell BK308.out 0).trans rfl; have hcz66_1 : w61.cell? ⟨gb308, 1, none⟩ = some (.string (⟨#[]⟩ : ByteArray)) := (blk_cell BK308.out 1).trans rfl; have hfz66_0 := blk_frozen BK308.out 0; have hfz66_1 := blk_frozen BK308.out 1; have hcz67_0 : w61.cell? ⟨gb307, 0, none⟩ = some (.string a0_0) := (blk_cell BK307.out 0).trans rfl; have hcz67_1 : w61.cell? ⟨gb307, 1, none⟩ = some (.string a1) := (blk_cell BK307.out 1).trans rfl; have hfz67_0 := blk_frozen BK307.out 0; have hfz67_1 := blk_frozen BK307.out 1) | ((with_reducible refine gate_callee (f := 70) rfl ?_); refine goesL_ (some 28) rfl rfl Try.func70 (by kernel_rfl) rfl #[.agg #[.string a0_0, .string a1]] rfl (by (try simp only [List.map_toArray, List.map_cons, List.map_nil]); first | done | rfl | (simp only [List.length_drop, List.length_take]; rfl)) ?_; (with_reducible refine (impl_IntervalValid.calls kj2 a0_0 a1 true _ A24.out).mono ?_); rintro e w68 ⟨rfl, hb⟩; refine ⟨_, rfl, ?_⟩; have n0_ := Aside0.mk (blk_below (g := gb302) (o := .cells #[.string a0_0, .string a0_1] 25 (0, 0)) (by (with_reducible repeat (first | refine blk_drewN ?_ _ | refine blk_drew ?_ | refine blk_alloc ?_ _)); refine blk_far ?_ NB302_308.out _; (with_reducible repeat (first | refine blk_drewN ?_ _ | refine blk_drew ?_ | refine blk_alloc ?_ _)); refine blk_far ?_ NB302_308.out _; (with_reducible repeat (first | refine blk_drewN ?_ _ | refine blk_drew ?_ | refine blk_alloc ?_ _)); exact BK302.out) hb); have n1_ := Aside0.mk (blk_below (g := gb303) (o := .cells #[.string (⟨#[]⟩ : ByteArray), .string (⟨#[]⟩ : ByteArray)] 25 (0, 0)) (by (with_reducible repeat (first | refine blk_drewN ?_ _ | refine blk_drew ?_ | refine blk_alloc ?_ _)); refine blk_far ?_ NB303_308.out _; (with_reducible repeat (first | refine blk_drewN ?_ _ | refine blk_drew ?_ | refine blk_alloc ?_ _)); refine blk_far ?_ NB303_308.out _; (with_reducible repeat (first | refine blk_drewN ?_ _ | refine blk_drew ?_ | refine blk_alloc ?_ _)); exact BK303.out) hb); have n2_ := Aside0.mk (blk_below (g := gb304) (o := .cells #[.string (⟨#[]⟩ : ByteArray), .string (⟨#[]⟩ : ByteArray)] 25 (0, 0)) (by (with_reducible repeat (first | refine blk_drewN ?_ _ | refine blk_drew ?_ | refine blk_alloc ?_ _)); refine blk_far ?_ NB304_308.out _; (with_reducible repeat (first | refine blk_drewN ?_ _ | refine blk_drew ?_ | refine blk_alloc ?_ _)); refine blk_far ?_ NB304_308.out _; (with_reducible repeat (first | refine blk_drewN ?_ _ | refine blk_drew ?_ | refine blk_alloc ?_ _)); exact BK304.out) hb); have n3_ := Aside0.mk (blk_below (g := gb307) (o := .cells #[.string a0_0, .string a1] 25 (0, 0)) (by (with_reducible repeat (first | refine blk_drewN ?_ _ | refine blk_drew ?_ | refine blk_alloc ?_ _)); refine blk_far ?_ NB307_308.out _; (with_reducible repeat (first | refine blk_drewN ?_ _ | refine blk_drew ?_ | refine blk_alloc ?_ _)); refine blk_far ?_ NB307_308.out _; (with_reducible repeat (first | refine blk_drewN ?_ _ | refine blk_drew ?_ | refine blk_alloc ?_ _)); exact BK307.out) hb); have n4_ := Aside0.mk (blk_below (g := gb308) (o := .cells #[.string a1, .string a0_1] 25 (0, 0)) (by (with_reducible repeat (first | refine blk_drewN ?_ _ | refine blk_drew ?_ | refine blk_alloc ?_ _)); refine blk_put (cs := #[.string a1, .string (⟨#[]⟩ : ByteArray)]) ?_ 1 _ rfl; (with_reducible repeat (first | refine blk_drewN ?_ _ | refine blk_drew ?_ | refine blk_alloc ?_ _)); refine blk_put (cs := #[.string (⟨#[]⟩ : ByteArray), .string (⟨#[]⟩ : ByteArray)]) ?_ 0 _ rfl; (with_reducible repeat (first | refine blk_drewN ?_ _ | refine blk_drew ?_ | refine blk_alloc ?_ _)); exact BK308.out) hb); have n5_ := Aside0.mk (below_step (bz) hb); clear BK302; clear BK303; clear BK304; clear BK307; clear BK308; clear HB; have BK302 := n0_; have BK303 := n1_; have BK304 := n2_; have BK307 := n3_; have BK308 := n4_; have HB := n5_; clear n0_ n1_ n2_ n3_ n4_ n5_; (try clear hb); (try clear hb2); (try clear hk); (try clear hi); have hcz69_0 : w68.cell? ⟨gb308, 0, none⟩ = some (.string a1) := (blk_cell BK308.out 0).trans rfl; have hcz69_1 : w68.cell? ⟨gb308, 1, none⟩ = some (.string a0_1) := (blk_cell BK308.out 1).trans rfl; have hfz69_0 := blk_frozen BK308.out 0; have hfz69_1 := blk_frozen BK308.out 1) | (go_at_call 70; (with_reducible refine (impl_IntervalValid.calls kj2 a1 a0_1 false _ A26.out).mono ?_); rintro e w70 ⟨rfl, hb⟩; have n0_ := bkb BK302 hb; have n1_ := bkb BK303 hb; have n2_ := bkb BK304 hb; have n3_ := bkb BK307 hb; have n4_ := bkb BK308 hb; have n5_ := Aside0.mk (below_step (bz) hb); clear BK302; clear BK303; clear BK304; clear BK307; clear BK308; clear HB; have BK302 := n0_; have BK303 := n1_; have BK304 := n2_; have BK307 := n3_; have BK308 := n4_; have HB := n5_; clear n0_ n1_ n2_ n3_ n4_ n5_; (try clear hb); (try clear hb2); (try clear hk); (try clear hi); have hnb71 := NB303_304.out; have hnc71 := NB304_303.out; have hcz72_0 : w70.cell? ⟨gb303, 0, none⟩ = some (.string (⟨#[]⟩ : ByteArray)) := (blk_cell BK303.out 0).trans rfl; have hcz72_1 : w70.cell? ⟨gb303, 1, none⟩ = some (.string (⟨#[]⟩ : ByteArray)) := (blk_cell BK303.out 1).trans rfl; have hfz72_0 := blk_frozen BK303.out 0; have hfz72_1 := blk_frozen BK303.out 1; have hcz73_0 : w70.cell? ⟨gb304, 0, none⟩ = some (.string (⟨#[]⟩ : ByteArray)) := (blk_cell BK304.out 0).trans rfl; have hcz73_1 : w70.cell? ⟨gb304, 1, none⟩ = some (.string (⟨#[]⟩ : ByteArray)) := (blk_cell BK304.out 1).trans rfl; have hfz73_0 := blk_frozen BK304.out 0; have hfz73_1 := blk_frozen BK304.out 1))
      refine bodyPost_ret (results_list (rs := [.cell 4 25, .cell 5 25, .tmp 6]) rfl (by simp) (.cell gb303 25 #[.string (⟨#[]⟩ : ByteArray), .string (⟨#[]⟩ : ByteArray)] (0, 0) _ rfl (by (with_reducible repeat (first | refine blk_drewN ?_ _ | refine blk_drew ?_ | refine blk_alloc ?_ _)); refine blk_far ?_ NB303_304.out _; (with_reducible repeat (first | refine blk_drewN ?_ _ | refine blk_drew ?_ | refine blk_alloc ?_ _)); refine blk_far ?_ NB303_304.out _; (with_reducible repeat (first | refine blk_drewN ?_ _ | refine blk_drew ?_ | refine blk_alloc ?_ _)); refine blk_put (cs := #[.string (⟨#[]⟩ : ByteArray), .string (⟨#[]⟩ : ByteArray)]) ?_ 1 _ rfl; (with_reducible repeat (first | refine blk_drewN ?_ _ | refine blk_drew ?_ | refine blk_alloc ?_ _)); refine blk_put (cs := #[.string (⟨#[]⟩ : ByteArray), .string (⟨#[]⟩ : ByteArray)]) ?_ 0 _ rfl; (with_reducible repeat (first | refine blk_drewN ?_ _ | refine blk_drew ?_ | refine blk_alloc ?_ _)); exact BK303.out) Try.underlying25 rfl (by kernel_rfl) (.cell gb304 25 #[.string (⟨#[]⟩ : ByteArray), .string (⟨#[]⟩ : ByteArray)] (0, 0) _ rfl (by (with_reducible repeat (first | refine blk_drewN ?_ _ | refine blk_drew ?_ | refine blk_alloc ?_ _)); refine blk_put (cs := #[.string (⟨#[]⟩ : ByteArray), .string (⟨#[]⟩ : ByteArray)]) ?_ 1 _ rfl; (with_reducible repeat (first | refine blk_drewN ?_ _ | refine blk_drew ?_ | refine blk_alloc ?_ _)); refine blk_put (cs := #[.string (⟨#[]⟩ : ByteArray), .string (⟨#[]⟩ : ByteArray)]) ?_ 0 _ rfl; (with_reducible repeat (first | refine blk_drewN ?_ _ | refine blk_drew ?_ | refine blk_alloc ?_ _)); refine blk_far ?_ NB304_303.out _; (with_reducible repeat (first | refine blk_drewN ?_ _ | refine blk_drew ?_ | refine blk_alloc ?_ _)); refine blk_far ?_ NB304_303.out _; (with_reducible repeat (first | refine blk_drewN ?_ _ | refine blk_drew ?_ | refine blk_alloc ?_ _)); exact BK304.out) Try.underlying25 rfl (by kernel_rfl) (.tmp .nil)))) rfl ?_
      exact ⟨by first | rfl | (simp only [u8w, w64m]; rfl) | (simp [errW_none, errW_some] <;> rfl) | (simp [*, errW_none, errW_some] <;> rfl), bz⟩
    ·
     replace c25 := Bool.eq_false_iff.mpr c25
     subst c25
     rw [if_neg (show ¬ (false = true) by decide)] at H
     simp only [Option.some.injEq, Prod.mk.injEq] at H
     obtain ⟨rfl, rfl, rfl, rfl, rfl⟩ := H
     have hnb74 := NB302_303.out
     have hnc74 := NB303_302.out
     have hnb75 := NB302_304.out
     have hnc75 := NB304_302.out
     have hcz76_0 : wc.cell? ⟨gb302, 0, none⟩ = some (.string a0_0) := (blk_cell BK302.out 0).trans rfl
     have hcz76_1 : wc.cell? ⟨gb302, 1, none⟩ = some (.string a0_1) := (blk_cell BK302.out 1).trans rfl
     have hfz76_0 := blk_frozen BK302.out 0
     have hfz76_1 := blk_frozen BK302.out 1
     go_wp2_with (first | ((with_reducible refine gate_dst (N := 7) rfl ?_); refine box_event ?hg (N := 7) ?hd (cs := #[.string (⟨#[]⟩ : ByteArray), .string (⟨#[]⟩ : ByteArray)]) (t := 25) ?hr ?_; (case hd => rfl); (case hg => rfl); (case hr => first | (go_simp; done) | (go_simp; rfl)); intro gb307 hg w77 hbox hb; have n0_ := bkb BK302 hb; have n1_ := bkb BK303 hb; have n2_ := bkb BK304 hb; have n3_ := Aside0.mk (below_step (bz) hb); have n4_ := Aside0.mk (hbox); have n5_ : Aside0 (w.heap.size ≤ gb307) := bsg hg; have n6_ : Aside0 (w.heap.size ≤ gb307) := bsg hg; have n7_ := nlt hg BK302; have n8_ := ngt hg BK302; have n9_ := nlt hg BK303; have n10_ := ngt hg BK303; have n11_ := nlt hg BK304; have n12_ := ngt hg BK304; clear BK302; clear BK303; clear BK304; clear HB; have BK302 := n0_; have BK303 := n1_; have BK304 := n2_; have HB := n3_; have BK307 := n4_; have GW307 := n5_; have GE307 := n6_; have NB302_307 := n7_; have NB307_302 := n8_; have NB303_307 := n9_; have NB307_303 := n10_; have NB304_307 := n11_; have NB307_304 := n12_; clear n0_ n1_ n2_ n3_ n4_ n5_ n6_ n7_ n8_ n9_ n10_ n11_ n12_; clear hb hbox hg; have hnb78 := NB307_302.out; have hnc78 := NB302_307.out; have hnb79 := NB307_303.out; have hnc79 := NB303_307.out; have hnb80 := NB307_304.out; have hnc80 := NB304_307.out; have hcz81_0 : w77.cell? ⟨gb307, 0, none⟩ = some (.string (⟨#[]⟩ : ByteArray)) := (blk_cell BK307.out 0).trans rfl; have hcz81_1 : w77.cell? ⟨gb307, 1, none⟩ = some (.string (⟨#[]⟩ : ByteArray)) := (blk_cell BK307.out 1).trans rfl; have hfz81_0 := blk_frozen BK307.out 0; have hfz81_1 := blk_frozen BK307.out 1; have hcz82_0 : w77.cell? ⟨gb302, 0, none⟩ = some (.string a0_0) := (blk_cell BK302.out 0).trans rfl; have hcz82_1 : w77.cell? ⟨gb302, 1, none⟩ = some (.string a0_1) := (blk_cell BK302.out 1).trans rfl; have hfz82_0 := blk_frozen BK302.out 0; have hfz82_1 := blk_frozen BK302.out 1) | ((with_reducible refine gate_dst (N := 8) rfl ?_); refine box_event ?hg (N := 8) ?hd (cs := #[.string (⟨#[]⟩ : ByteArray), .string (⟨#[]⟩ : ByteArray)]) (t := 25) ?hr ?_; (case hd => rfl); (case hg => rfl); (case hr => first | (go_simp; done) | (go_simp; rfl)); intro gb308 hg w83 hbox hb; have n0_ := Aside0.mk (blk_below (g := gb302) (o := .cells #[.string a0_0, .string a0_1] 25 (0, 0)) (by (with_reducible repeat (first | refine blk_drewN ?_ _ | refine blk_drew ?_ | refine blk_alloc ?_ _)); refine blk_far ?_ NB302_307.out _; (with_reducible repeat (first | refine blk_drewN ?_ _ | refine blk_drew ?_ | refine blk_alloc ?_ _)); refine blk_far ?_ NB302_307.out _; (with_reducible repeat (first | refine blk_drewN ?_ _ | refine blk_drew ?_ | refine blk_alloc ?_ _)); exact BK302.out) hb); have n1_ := Aside0.mk (blk_below (g := gb303) (o := .cells #[.string (⟨#[]⟩ : ByteArray), .string (⟨#[]⟩ : ByteArray)] 25 (0, 0)) (by (with_reducible repeat (first | refine blk_drewN ?_ _ | refine blk_drew ?_ | refine blk_alloc ?_ _)); refine blk_far ?_ NB303_307.out _; (with_reducible repeat (first | refine blk_drewN ?_ _ | refine blk_drew ?_ | refine blk_alloc ?_ _)); refine blk_far ?_ NB303_307.out _; (with_reducible repeat (first | refine blk_drewN ?_ _ | refine blk_drew ?_ | refine blk_alloc ?_ _)); exact BK303.out) hb); have n2_ := Aside0.mk (blk_below (g := gb304) (o := .cells #[.string (⟨#[]⟩ : ByteArray), .string (⟨#[]⟩ : ByteArray)] 25 (0, 0)) (by (with_reducible repeat (first | refine blk_drewN ?_ _ | refine blk_drew ?_ | refine blk_alloc ?_ _)); refine blk_far ?_ NB304_307.out _; (with_reducible repeat (first | refine blk_drewN ?_ _ | refine blk_drew ?_ | refine blk_alloc ?_ _)); refine blk_far ?_ NB304_307.out _; (with_reducible repeat (first | refine blk_drewN ?_ _ | refine blk_drew ?_ | refine blk_alloc ?_ _)); exact BK304.out) hb); have n3_ := Aside0.mk (blk_below (g := gb307) (o := .cells #[.string a0_0, .string a1] 25 (0, 0)) (by (with_reducible repeat (first | refine blk_drewN ?_ _ | refine blk_drew ?_ | refine blk_alloc ?_ _)); refine blk_put (cs := #[.string a0_0, .string (⟨#[]⟩ : ByteArray)]) ?_ 1 _ rfl; (with_reducible repeat (first | refine blk_drewN ?_ _ | refine blk_drew ?_ | refine blk_alloc ?_ _)); refine blk_put (cs := #[.string (⟨#[]⟩ : ByteArray), .string (⟨#[]⟩ : ByteArray)]) ?_ 0 _ rfl; (with_reducible repeat (first | refine blk_drewN ?_ _ | refine blk_drew ?_ | refine blk_alloc ?_ _)); exact BK307.out) hb); have n4_ := Aside0.mk (below_step (bz) hb); have n5_ := Aside0.mk (hbox); have n6_ : Aside0 (w.heap.size ≤ gb308) := bsg hg; have n7_ : Aside0 (w.heap.size ≤ gb308) := bsg hg; have n8_ := Aside0.mk ((by rw [hg]; exact Nat.ne_of_lt (blk_lt (g := gb302) (o := .cells #[.string a0_0, .string a0_1] 25 (0, 0)) (by (with_reducible repeat (first | refine blk_drewN ?_ _ | refine blk_drew ?_ | refine blk_alloc ?_ _)); refine blk_far ?_ NB302_307.out _; (with_reducible repeat (first | refine blk_drewN ?_ _ | refine blk_drew ?_ | refine blk_alloc ?_ _)); refine blk_far ?_ NB302_307.out _; (with_reducible repeat (first | refine blk_drewN ?_ _ | refine blk_drew ?_ | refine blk_alloc ?_ _)); exact BK302.out)) : gb302 ≠ gb308)); have n9_ := Aside0.mk ((by rw [hg]; exact Nat.ne_of_gt (blk_lt (g := gb302) (o := .cells #[.string a0_0, .string a0_1] 25 (0, 0)) (by (with_reducible repeat (first | refine blk_drewN ?_ _ | refine blk_drew ?_ | refine blk_alloc ?_ _)); refine blk_far ?_ NB302_307.out _; (with_reducible repeat (first | refine blk_drewN ?_ _ | refine blk_drew ?_ | refine blk_alloc ?_ _)); refine blk_far ?_ NB302_307.out _; (with_reducible repeat (first | refine blk_drewN ?_ _ | refine blk_drew ?_ | refine blk_alloc ?_ _)); exact BK302.out)) : gb308 ≠ gb302)); have n10_ := Aside0.mk ((by rw [hg]; exact Nat.ne_of_lt (blk_lt (g := gb303) (o := .cells #[.string (⟨#[]⟩ : ByteArray), .string (⟨#[]⟩ : ByteArray)] 25 (0, 0)) (by (with_reducible repeat (first | refine blk_drewN ?_ _ | refine blk_drew ?_ | refine blk_alloc ?_ _)); refine blk_far ?_ NB303_307.out _; (with_reducible repeat (first | refine blk_drewN ?_ _ | refine blk_drew ?_ | refine blk_alloc ?_ _)); refine blk_far ?_ NB303_307.out _; (with_reducible repeat (first | refine blk_drewN ?_ _ | refine blk_drew ?_ | refine blk_alloc ?_ _)); exact BK303.out)) : gb303 ≠ gb308)); have n11_ := Aside0.mk ((by rw [hg]; exact Nat.ne_of_gt (blk_lt (g := gb303) (o := .cells #[.string (⟨#[]⟩ : ByteArray), .string (⟨#[]⟩ : ByteArray)] 25 (0, 0)) (by (with_reducible repeat (first | refine blk_drewN ?_ _ | refine blk_drew ?_ | refine blk_alloc ?_ _)); refine blk_far ?_ NB303_307.out _; (with_reducible repeat (first | refine blk_drewN ?_ _ | refine blk_drew ?_ | refine blk_alloc ?_ _)); refine blk_far ?_ NB303_307.out _; (with_reducible repeat (first | refine blk_drewN ?_ _ | refine blk_drew ?_ | refine blk_alloc ?_ _)); exact BK303.out)) : gb308 ≠ gb303)); have n12_ := Aside0.mk ((by rw [hg]; exact Nat.ne_of_lt (blk_lt (g := gb304) (o := .cells #[.string (⟨#[]⟩ : ByteArray), .string (⟨#[]⟩ : ByteArray)] 25 (0, 0)) (by (with_reducible repeat (first | refine blk_drewN ?_ _ | refine blk_drew ?_ | refine blk_alloc ?_ _)); refine blk_far ?_ NB304_307.out _; (with_reducible repeat (first | refine blk_drewN ?_ _ | refine blk_drew ?_ | refine blk_alloc ?_ _)); refine blk_far ?_ NB304_307.out _; (with_reducible repeat (first | refine blk_drewN ?_ _ | refine blk_drew ?_ | refine blk_alloc ?_ _)); exact BK304.out)) : gb304 ≠ gb308)); have n13_ := Aside0.mk ((by rw [hg]; exact Nat.ne_of_gt (blk_lt (g := gb304) (o := .cells #[.string (⟨#[]⟩ : ByteArray), .string (⟨#[]⟩ : ByteArray)] 25 (0, 0)) (by (with_reducible repeat (first | refine blk_drewN ?_ _ | refine blk_drew ?_ | refine blk_alloc ?_ _)); refine blk_far ?_ NB304_307.out _; (with_reducible repeat (first | refine blk_drewN ?_ _ | refine blk_drew ?_ | refine blk_alloc ?_ _)); refine blk_far ?_ NB304_307.out _; (with_reducible repeat (first | refine blk_drewN ?_ _ | refine blk_drew ?_ | refine blk_alloc ?_ _)); exact BK304.out)) : gb308 ≠ gb304)); have n14_ := Aside0.mk ((by rw [hg]; exact Nat.ne_of_lt (blk_lt (g := gb307) (o := .cells #[.string a0_0, .string a1] 25 (0, 0)) (by (with_reducible repeat (first | refine blk_drewN ?_ _ | refine blk_drew ?_ | refine blk_alloc ?_ _)); refine blk_put (cs := #[.string a0_0, .string (⟨#[]⟩ : ByteArray)]) ?_ 1 _ rfl; (with_reducible repeat (first | refine blk_drewN ?_ _ | refine blk_drew ?_ | refine blk_alloc ?_ _)); refine blk_put (cs := #[.string (⟨#[]⟩ : ByteArray), .string (⟨#[]⟩ : ByteArray)]) ?_ 0 _ rfl; (with_reducible repeat (first | refine blk_drewN ?_ _ | refine blk_drew ?_ | refine blk_alloc ?_ _)); exact BK307.out)) : gb307 ≠ gb308)); have n15_ := Aside0.mk ((by rw [hg]; exact Nat.ne_of_gt (blk_lt (g := gb307) (o := .cells #[.string a0_0, .string a1] 25 (0, 0)) (by (with_reducible repeat (first | refine blk_drewN ?_ _ | refine blk_drew ?_ | refine blk_alloc ?_ _)); refine blk_put (cs := #[.string a0_0, .string (⟨#[]⟩ : ByteArray)]) ?_ 1 _ rfl; (with_reducible repeat (first | refine blk_drewN ?_ _ | refine blk_drew ?_ | refine blk_alloc ?_ _)); refine blk_put (cs := #[.string (⟨#[]⟩ : ByteArray), .string (⟨#[]⟩ : ByteArray)]) ?_ 0 _ rfl; (with_reducible repeat (first | refine blk_drewN ?_ _ | refine blk_drew ?_ | refine blk_alloc ?_ _)); exact BK307.out)) : gb308 ≠ gb307)); clear BK302; clear BK303; clear BK304; clear BK307; clear HB; have BK302 := n0_; have BK303 := n1_; have BK304 := n2_; have BK307 := n3_; have HB := n4_; have BK308 := n5_; have GW308 := n6_; have GE308 := n7_; have NB302_308 := n8_; have NB308_302 := n9_; have NB303_308 := n10_; have NB308_303 := n11_; have NB304_308 := n12_; have NB308_304 := n13_; have NB307_308 := n14_; have NB308_307 := n15_; clear n0_ n1_ n2_ n3_ n4_ n5_ n6_ n7_ n8_ n9_ n10_ n11_ n12_ n13_ n14_ n15_; clear hb hbox hg; have hnb84 := NB308_302.out; have hnc84 := NB302_308.out; have hnb85 := NB308_303.out; have hnc85 := NB303_308.out; have hnb86 := NB308_304.out; have hnc86 := NB304_308.out; have hnb87 := NB308_307.out; have hnc87 := NB307_308.out; have hcz88_0 : w83.cell? ⟨gb308, 0, none⟩ = some (.string (⟨#[]⟩ : ByteArray)) := (blk_cell BK308.out 0).trans rfl; have hcz88_1 : w83.cell? ⟨gb308, 1, none⟩ = some (.string (⟨#[]⟩ : ByteArray)) := (blk_cell BK308.out 1).trans rfl; have hfz88_0 := blk_frozen BK308.out 0; have hfz88_1 := blk_frozen BK308.out 1; have hcz89_0 : w83.cell? ⟨gb307, 0, none⟩ = some (.string a0_0) := (blk_cell BK307.out 0).trans rfl; have hcz89_1 : w83.cell? ⟨gb307, 1, none⟩ = some (.string a1) := (blk_cell BK307.out 1).trans rfl; have hfz89_0 := blk_frozen BK307.out 0; have hfz89_1 := blk_frozen BK307.out 1) | ((with_reducible refine gate_callee (f := 70) rfl ?_); refine goesL_ (some 28) rfl rfl Try.func70 (by kernel_rfl) rfl #[.agg #[.string a0_0, .string a1]] rfl (by (try simp only [List.map_toArray, List.map_cons, List.map_nil]); first | done | rfl | (simp only [List.length_drop, List.length_take]; rfl)) ?_; (with_reducible refine (impl_IntervalValid.calls kj2 a0_0 a1 false _ A24.out).mono ?_); rintro e w90 ⟨rfl, hb⟩; refine ⟨_, rfl, ?_⟩; have n0_ := Aside0.mk (blk_below (g := gb302) (o := .cells #[.string a0_0, .string a0_1] 25 (0, 0)) (by (with_reducible repeat (first | refine blk_drewN ?_ _ | refine blk_drew ?_ | refine blk_alloc ?_ _)); refine blk_far ?_ NB302_308.out _; (with_reducible repeat (first | refine blk_drewN ?_ _ | refine blk_drew ?_ | refine blk_alloc ?_ _)); refine blk_far ?_ NB302_308.out _; (with_reducible repeat (first | refine blk_drewN ?_ _ | refine blk_drew ?_ | refine blk_alloc ?_ _)); exact BK302.out) hb); have n1_ := Aside0.mk (blk_below (g := gb303) (o := .cells #[.string (⟨#[]⟩ : ByteArray), .string (⟨#[]⟩ : ByteArray)] 25 (0, 0)) (by (with_reducible repeat (first | refine blk_drewN ?_ _ | refine blk_drew ?_ | refine blk_alloc ?_ _)); refine blk_far ?_ NB303_308.out _; (with_reducible repeat (first | refine blk_drewN ?_ _ | refine blk_drew ?_ | refine blk_alloc ?_ _)); refine blk_far ?_ NB303_308.out _; (with_reducible repeat (first | refine blk_drewN ?_ _ | refine blk_drew ?_ | refine blk_alloc ?_ _)); exact BK303.out) hb); have n2_ := Aside0.mk (blk_below (g := gb304) (o := .cells #[.string (⟨#[]⟩ : ByteArray), .string (⟨#[]⟩ : ByteArray)] 25 (0, 0)) (by (with_reducible repeat (first | refine blk_drewN ?_ _ | refine blk_drew ?_ | refine blk_alloc ?_ _)); refine blk_far ?_ NB304_308.out _; (with_reducible repeat (first | refine blk_drewN ?_ _ | refine blk_drew ?_ | refine blk_alloc ?_ _)); refine blk_far ?_ NB304_308.out _; (with_reducible repeat (first | refine blk_drewN ?_ _ | refine blk_drew ?_ | refine blk_alloc ?_ _)); exact BK304.out) hb); have n3_ := Aside0.mk (blk_below (g := gb307) (o := .cells #[.string a0_0, .string a1] 25 (0, 0)) (by (with_reducible repeat (first | refine blk_drewN ?_ _ | refine blk_drew ?_ | refine blk_alloc ?_ _)); refine blk_far ?_ NB307_308.out _; (with_reducible repeat (first | refine blk_drewN ?_ _ | refine blk_drew ?_ | refine blk_alloc ?_ _)); refine blk_far ?_ NB307_308.out _; (with_reducible repeat (first | refine blk_drewN ?_ _ | refine blk_drew ?_ | refine blk_alloc ?_ _)); exact BK307.out) hb); have n4_ := Aside0.mk (blk_below (g := gb308) (o := .cells #[.string a1, .string a0_1] 25 (0, 0)) (by (with_reducible repeat (first | refine blk_drewN ?_ _ | refine blk_drew ?_ | refine blk_alloc ?_ _)); refine blk_put (cs := #[.string a1, .string (⟨#[]⟩ : ByteArray)]) ?_ 1 _ rfl; (with_reducible repeat (first | refine blk_drewN ?_ _ | refine blk_drew ?_ | refine blk_alloc ?_ _)); refine blk_put (cs := #[.string (⟨#[]⟩ : ByteArray), .string (⟨#[]⟩ : ByteArray)]) ?_ 0 _ rfl; (with_reducible repeat (first | refine blk_drewN ?_ _ | refine blk_drew ?_ | refine blk_alloc ?_ _)); exact BK308.out) hb); have n5_ := Aside0.mk (below_step (bz) hb); clear BK302; clear BK303; clear BK304; clear BK307; clear BK308; clear HB; have BK302 := n0_; have BK303 := n1_; have BK304 := n2_; have BK307 := n3_; have BK308 := n4_; have HB := n5_; clear n0_ n1_ n2_ n3_ n4_ n5_; (try clear hb); (try clear hb2); (try clear hk); (try clear hi); have hnb91 := NB303_304.out; have hnc91 := NB304_303.out; have hcz92_0 : w90.cell? ⟨gb303, 0, none⟩ = some (.string (⟨#[]⟩ : ByteArray)) := (blk_cell BK303.out 0).trans rfl; have hcz92_1 : w90.cell? ⟨gb303, 1, none⟩ = some (.string (⟨#[]⟩ : ByteArray)) := (blk_cell BK303.out 1).trans rfl; have hfz92_0 := blk_frozen BK303.out 0; have hfz92_1 := blk_frozen BK303.out 1; have hcz93_0 : w90.cell? ⟨gb304, 0, none⟩ = some (.string (⟨#[]⟩ : ByteArray)) := (blk_cell BK304.out 0).trans rfl; have hcz93_1 : w90.cell? ⟨gb304, 1, none⟩ = some (.string (⟨#[]⟩ : ByteArray)) := (blk_cell BK304.out 1).trans rfl; have hfz93_0 := blk_frozen BK304.out 0; have hfz93_1 := blk_frozen BK304.out 1))
     refine bodyPost_ret (results_list (rs := [.cell 4 25, .cell 5 25, .tmp 6]) rfl (by simp) (.cell gb303 25 #[.string (⟨#[]⟩ : ByteArray), .string (⟨#[]⟩ : ByteArray)] (0, 0) _ rfl (by (with_reducible repeat (first | refine blk_drewN ?_ _ | refine blk_drew ?_ | refine blk_alloc ?_ _)); refine blk_far ?_ NB303_304.out _; (with_reducible repeat (first | refine blk_drewN ?_ _ | refine blk_drew ?_ | refine blk_alloc ?_ _)); refine blk_far ?_ NB303_304.out _; (with_reducible repeat (first | refine blk_drewN ?_ _ | refine blk_drew ?_ | refine blk_alloc ?_ _)); refine blk_put (cs := #[.string (⟨#[]⟩ : ByteArray), .string (⟨#[]⟩ : ByteArray)]) ?_ 1 _ rfl; (with_reducible repeat (first | refine blk_drewN ?_ _ | refine blk_drew ?_ | refine blk_alloc ?_ _)); refine blk_put (cs := #[.string (⟨#[]⟩ : ByteArray), .string (⟨#[]⟩ : ByteArray)]) ?_ 0 _ rfl; (with_reducible repeat (first | refine blk_drewN ?_ _ | refine blk_drew ?_ | refine blk_alloc ?_ _)); exact BK303.out) Try.underlying25 rfl (by kernel_rfl) (.cell gb304 25 #[.string (⟨#[]⟩ : ByteArray), .string (⟨#[]⟩ : ByteArray)] (0, 0) _ rfl (by (with_reducible repeat (first | refine blk_drewN ?_ _ | refine blk_drew ?_ | refine blk_alloc ?_ _)); refine blk_put (cs := #[.string (⟨#[]⟩ : ByteArray), .string (⟨#[]⟩ : ByteArray)]) ?_ 1 _ rfl; (with_reducible repeat (first | refine blk_drewN ?_ _ | refine blk_drew ?_ | refine blk_alloc ?_ _)); refine blk_put (cs := #[.string (⟨#[]⟩ : ByteArray), .string (⟨#[]⟩ : ByteArray)]) ?_ 0 _ rfl; (with_reducible repeat (first | refine blk_drewN ?_ _ | refine blk_drew ?_ | refine blk_alloc ?_ _)); refine blk_far ?_ NB304_303.out _; (with_reducible repeat (first | refine blk_drewN ?_ _ | refine blk_drew ?_ | refine blk_alloc ?_ _)); refine blk_far ?_ NB304_303.out _; (with_reducible repeat (first | refine blk_drewN ?_ _ | refine blk_drew ?_ | refine blk_alloc ?_ _)); exact BK304.out) Try.underlying25 rfl (by kernel_rfl) (.tmp .nil)))) rfl ?_
     exact ⟨by first | rfl | (simp only [u8w, w64m]; rfl) | (simp [errW_none, errW_some] <;> rfl) | (simp [*, errW_none, errW_some] <;> rfl), bz⟩

/-! ### impl_SplitRoute: function 47 -/
def impl_SplitRoute.f (k : Nat) (l0 : List (S43)) (a1 : Int) (a2 : ByteArray) (a3 : Int) (a4 : Int) : Option ((List (S43)) × Bool) := (impl_RoutesValid.f k l0).bind fun t311 => (if t311 = true then ((impl_routePlace.f k l0 a1).bind fun t312 => (if t312 < 0 then ((impl_Route_57.f l0).bind fun t313 => (some (t313, false))) else (if 0 ≤ t312 then (if t312 < (l0.length : Int) then ((impl_IntervalCut.f k ((rd_T43 l0 t312).f1.f0) ((rd_T43 l0 t312).f1.f1) a2).bind fun bt317 => (if bt317.2.2.2.2 = true then ((impl_Route_58.f l0 t312 1 (([(⟨a3, (⟨bt317.1, bt317.2.1⟩ : S25)⟩ : S43), (⟨a4, (⟨bt317.2.2.1, bt317.2.2.2.1⟩ : S25)⟩ : S43)] : List (S43)))).bind fun t330 => ((impl_RoutesValid.f k t330).bind fun t333 => (if t333 = true then (some (t330, true)) else ((impl_Route_57.f l0).bind fun t334 => (some (t334, false)))))) else ((impl_Route_57.f l0).bind fun t324 => (some (t324, false))))) else (none)) else (none)))) else (some (([] : List (S43)), false)))
theorem impl_SplitRoute.mono : ∀ a0 a1 a2 a3 a4 k, LeO (impl_SplitRoute.f k a0 a1 a2 a3 a4) (impl_SplitRoute.f (k + 1) a0 a1 a2 a3 a4) := by
 intro a0 a1 a2 a3 a4 k
 unfold impl_SplitRoute.f
 repeat' first
   | (with_reducible exact impl_IntervalCut.mono _ _ _ _)
   | (with_reducible exact impl_RoutesValid.mono _ _)
   | (with_reducible exact impl_routePlace.mono _ _ _)
   | (with_reducible exact LeO.refl _)
   | (with_reducible exact LeO.none _)
   | (with_reducible refine LeO.ite ?_ ?_)
   | (with_reducible refine LeO.bind ?_ (fun _ => ?_))
   | exact impl_IntervalCut.mono _ _ _ _
   | exact impl_RoutesValid.mono _ _
   | exact impl_routePlace.mono _ _ _
   | exact LeO.none _
   | refine LeO.ite ?_ ?_
   | refine LeO.bind ?_ (fun _ => ?_)
set_option maxHeartbeats 8000000 in
set_option maxRecDepth 100000 in
theorem impl_SplitRoute.calls (k : Nat) (A0 : Option Addr) (c0 : Nat) (l0 : List (S43)) (a1 : Int) (a2 : ByteArray) (a3 : Int) (a4 : Int) (r1 : List (S43)) (r2 : Bool) (w : World) (hr0 : Kd.C k43 w A0 l0.length l0) (hc0 : l0.length ≤ c0) (h : impl_SplitRoute.f k l0 a1 a2 a3 a4 = some (r1, r2)) :
  Calls Try.prog 47 #[.slice A0 l0.length c0, .int .i64 a1, .string a2, .int .i64 a3, .int .i64 a4] w fun e w' => ∃ v0_ : Value, e = .returned (.tuple #[v0_, .bool r2]) ∧ Kd.R k43 43 w' w.heap.size (fun _ => True) v0_ r1 ∧ Below w.heap.size w w' := by
 have hu25 := Try.underlying25
 have hu43 := Try.underlying43
 have HR0 := Aside0.mk hr0
 have HC0 := Aside0.mk hc0
 clear hr0 hc0
 have HB := Aside0.mk (Below.refl w.heap.size w)
 have H : ((impl_RoutesValid.f k l0).bind fun t311 => (if t311 = true then ((impl_routePlace.f k l0 a1).bind fun t312 => (if t312 < 0 then ((impl_Route_57.f l0).bind fun t313 => (some (t313, false))) else (if 0 ≤ t312 then (if t312 < (l0.length : Int) then ((impl_IntervalCut.f k ((rd_T43 l0 t312).f1.f0) ((rd_T43 l0 t312).f1.f1) a2).bind fun bt317 => (if bt317.2.2.2.2 = true then ((impl_Route_58.f l0 t312 1 (([(⟨a3, (⟨bt317.1, bt317.2.1⟩ : S25)⟩ : S43), (⟨a4, (⟨bt317.2.2.1, bt317.2.2.2.1⟩ : S25)⟩ : S43)] : List (S43)))).bind fun t330 => ((impl_RoutesValid.f k t330).bind fun t333 => (if t333 = true then (some (t330, true)) else ((impl_Route_57.f l0).bind fun t334 => (some (t334, false)))))) else ((impl_Route_57.f l0).bind fun t324 => (some (t324, false))))) else (none)) else (none)))) else (some (([] : List (S43)), false)))) = some (r1, r2) := h
 clear h
 replace H := Option.bind_eq_some_iff.mp H
 obtain ⟨t311, A60, H⟩ := H
 try dsimp only at H
 have A6 := Aside0.mk A60
 clear A60
 by_cases c7 : t311 = true
 ·
  subst c7
  rw [if_pos rfl] at H
  replace H := Option.bind_eq_some_iff.mp H
  obtain ⟨t312, A80, H⟩ := H
  try dsimp only at H
  have A8 := Aside0.mk A80
  clear A80
  by_cases c9 : t312 < 0
  ·
   rw [if_pos c9] at H
   have c9b0 : decide (t312 < 0) = true := decide_eq_true c9
   clear c9
   replace H := Option.bind_eq_some_iff.mp H
   obtain ⟨t313, A100, H⟩ := H
   try dsimp only at H
   have A10 := Aside0.mk A100
   clear A100
   simp only [Option.some.injEq, Prod.mk.injEq] at H
   obtain ⟨rfl, rfl⟩ := H
   go_enter Try.func47, Try.ntmps47
   go_wp2_with (first | ((with_reducible refine gate_callee (f := 33) rfl ?_); refine goesL_ (some 18) rfl rfl Try.func33 (by kernel_rfl) rfl #[.slice A0 l0.length c0] rfl (by (try simp only [List.map_toArray, List.map_cons, List.map_nil]); first | done | rfl | (simp only [List.length_drop, List.length_take]; rfl)) ?_; (with_reducible refine (impl_RoutesValid.calls k _ _ l0 true _ ?side1 ?side2 A6.out).mono ?_); (case side1 => repeat (first | exact HR0.out | (with_reducible refine Kd.C_alloc ?_ _) | (with_reducible refine Kd.C_drewN ?_ _) | (with_reducible refine Kd.C_drew ?_))); (case side2 => exact HC0.out); rintro e w11 ⟨rfl, hb⟩; refine ⟨_, rfl, ?_⟩; have n0_ := Aside0.mk (below_step (bz) hb); clear HB; have HB := n0_; clear n0_; (try clear hb); (try clear hb2); (try clear hk); (try clear hi)) | ((with_reducible refine gate_callee (f := 54) rfl ?_); refine goesL_ (some 22) rfl rfl Try.func54 (by kernel_rfl) rfl #[.slice A0 l0.length c0, .int .i64 a1] rfl (by (try simp only [List.map_toArray, List.map_cons, List.map_nil]); first | done | rfl | (simp only [List.length_drop, List.length_take]; rfl)) ?_; (with_reducible refine (impl_routePlace.calls k _ _ l0 a1 t312 _ ?side1 ?side2 A8.out).mono ?_); (case side1 => repeat (first | exact (Kd.C_below HR0.out HB.out) | (with_reducible refine Kd.C_alloc ?_ _) | (with_reducible refine Kd.C_drewN ?_ _) | (with_reducible refine Kd.C_drew ?_))); (case side2 => exact HC0.out); rintro e w12 ⟨rfl, hb⟩; refine ⟨_, rfl, ?_⟩; have n0_ := Aside0.mk (below_step (bz) hb); clear HB; have HB := n0_; clear n0_; (try clear hb); (try clear hb2); (try clear hk); (try clear hi)) | ((with_reducible refine gate_callee (f := 57) rfl ?_); refine goesL_ (some 26) rfl rfl Try.func57 (by kernel_rfl) rfl #[.slice A0 l0.length c0] rfl (by (try simp only [List.map_toArray, List.map_cons, List.map_nil]); first | done | rfl | (simp only [List.length_drop, List.length_take]; rfl)) ?_; (with_reducible refine (impl_Route_57.calls _ _ l0 t313 _ ?side1 ?side2 A10.out).mono ?_); (case side1 => repeat (first | exact (Kd.C_below HR0.out HB.out) | (with_reducible refine Kd.C_alloc ?_ _) | (with_reducible refine Kd.C_drewN ?_ _) | (with_reducible refine Kd.C_drew ?_))); (case side2 => exact HC0.out); rintro e w13 ⟨v314, rfl, ho0, hb⟩; refine ⟨_, rfl, ?_⟩; have n0_ := Aside0.mk (Kd.R_lower ho0 (below_size (bz))); have n1_ := Aside0.mk (below_step (bz) hb); clear HB; have HO315 := n0_; have HB := n1_; clear n0_ n1_; (try clear hb); (try clear hb2); (try clear hk); (try clear hi); (try clear ho0)))
   go_ret2
   exact ⟨_, by first | rfl | (simp only [u8w, w64m]; rfl) | (simp [errW_none, errW_some] <;> rfl) | (simp [*, errW_none, errW_some] <;> rfl), by (with_reducible repeat (first | apply Kd.R_alloc | apply Kd.R_drewN | apply Kd.R_drew)); exact HO315.out, bz⟩
  ·
   rw [if_neg c9] at H
   have c9b0 : decide (t312 < 0) = false := decide_eq_false c9
   clear c9
   by_cases c14 : 0 ≤ t312
   ·
    rw [if_pos c14] at H
    have c14b0 : decide (0 ≤ t312) = true := decide_eq_true c14
    clear c14
    by_cases c15 : t312 < (l0.length : Int)
    ·
     rw [if_pos c15] at H
     have c15b0 : decide (t312 < (l0.length : Int)) = true := decide_eq_true c15
     clear c15
     replace H := Option.bind_eq_some_iff.mp H
     obtain ⟨⟨t317, t318, t319, t320, t321⟩, A160, H⟩ := H
     try dsimp only at H
     have A16 := Aside0.mk A160
     clear A160
     by_cases c17 : t321 = true
     ·
      subst c17
      rw [if_pos rfl] at H
      obtain ⟨y327, hy327⟩ : ∃ y_ : List (S43), y_ = (([(⟨a3, (⟨t317, t318⟩ : S25)⟩ : S43), (⟨a4, (⟨t319, t320⟩ : S25)⟩ : S43)] : List (S43))) := ⟨_, rfl⟩
      replace H : ((impl_Route_58.f l0 t312 1 y327).bind fun t330 => ((impl_RoutesValid.f k t330).bind fun t333 => (if t333 = true then (some (t330, true)) else ((impl_Route_57.f l0).bind fun t334 => (some (t334, false)))))) = some (r1, r2) := by first | (rw [hy327]; with_reducible exact H) | (have H2_ := (Option.bind_some _ _).symm.trans H; rw [hy327]; with_reducible exact H2_) | (have H2_ := (Option.bind_some _ _).symm.trans H; with_reducible exact H2_) | with_reducible exact H | (rw [hy327]; exact H) | exact H
      have Ny327 := Aside0.mk hy327
      clear hy327
      replace H := Option.bind_eq_some_iff.mp H
      obtain ⟨t330, A180, H⟩ := H
      try dsimp only at H
      have A18 := Aside0.mk A180
      clear A180
      replace H := Option.bind_eq_some_iff.mp H
      obtain ⟨t333, A190, H⟩ := H
      try dsimp only at H
      have A19 := Aside0.mk A190
      clear A190
      by_cases c20 : t333 = true
      ·
       subst c20
       rw [if_pos rfl] at H
       simp only [Option.some.injEq, Prod.mk.injEq] at H
       obtain ⟨rfl, rfl⟩ := H
       go_enter Try.func47, Try.ntmps47
       go_wp2_with (first | ((with_reducible refine gate_callee (f := 33) rfl ?_); refine goesL_ (some 18) rfl rfl Try.func33 (by kernel_rfl) rfl #[.slice A0 l0.length c0] rfl (by (try simp only [List.map_toArray, List.map_cons, List.map_nil]); first | done | rfl | (simp only [List.length_drop, List.length_take]; rfl)) ?_; (with_reducible refine (impl_RoutesValid.calls k _ _ l0 true _ ?side1 ?side2 A6.out).mono ?_); (case side1 => repeat (first | exact HR0.out | (with_reducible refine Kd.C_alloc ?_ _) | (with_reducible refine Kd.C_drewN ?_ _) | (with_reducible refine Kd.C_drew ?_))); (case side2 => exact HC0.out); rintro e w21 ⟨rfl, hb⟩; refine ⟨_, rfl, ?_⟩; have n0_ := Aside0.mk (below_step (bz) hb); clear HB; have HB := n0_; clear n0_; (try clear hb); (try clear hb2); (try clear hk); (try clear hi)) | ((with_reducible refine gate_callee (f := 54) rfl ?_); refine goesL_ (some 22) rfl rfl Try.func54 (by kernel_rfl) rfl #[.slice A0 l0.length c0, .int .i64 a1] rfl (by (try simp only [List.map_toArray, List.map_cons, List.map_nil]); first | done | rfl | (simp only [List.length_drop, List.length_take]; rfl)) ?_; (with_reducible refine (impl_routePlace.calls k _ _ l0 a1 t312 _ ?side1 ?side2 A8.out).mono ?_); (case side1 => repeat (first | exact (Kd.C_below HR0.out HB.out) | (with_reducible refine Kd.C_alloc ?_ _) | (with_reducible refine Kd.C_drewN ?_ _) | (with_reducible refine Kd.C_drew ?_))); (case side2 => exact HC0.out); rintro e w22 ⟨rfl, hb⟩; refine ⟨_, rfl, ?_⟩; have n0_ := Aside0.mk (below_step (bz) hb); clear HB; have HB := n0_; clear n0_; (try clear hb); (try clear hb2); (try clear hk); (try clear hi); have p316 : 0 ≤ (t312 : Int) := of_decide_eq_true (by first | (with_reducible assumption) | assumption); have q316 : t312 < (l0.length : Int) := of_decide_eq_true (by first | (with_reducible assumption) | assumption); obtain ⟨ad316, e316, hx316_0, hx316_1, hx316_2⟩ := at_T43 HR0.out t312 p316 q316; cases e316; replace hx316_0 := (HB.out.cell (World.block_lt_of_cell? w _ hx316_0)).trans hx316_0; replace hx316_1 := (HB.out.cell (World.block_lt_of_cell? w _ hx316_1)).trans hx316_1; replace hx316_2 := (HB.out.cell (World.block_lt_of_cell? w _ hx316_2)).trans hx316_2; replace p316 := eq_true p316; replace q316 := eq_true q316) | ((with_reducible refine gate_callee (f := 87) rfl ?_); refine goesL_ (some 34) rfl rfl Try.func87 (by kernel_rfl) rfl #[.agg #[.string ((rd_T43 l0 t312).f1.f0), .string ((rd_T43 l0 t312).f1.f1)], .string a2] rfl (by (try simp only [List.map_toArray, List.map_cons, List.map_nil]); first | done | rfl | (simp only [List.length_drop, List.length_take]; rfl)) ?_; (with_reducible refine (impl_IntervalCut.calls k ((rd_T43 l0 t312).f1.f0) ((rd_T43 l0 t312).f1.f1) a2 t317 t318 t319 t320 true _ A16.out).mono ?_); rintro e w23 ⟨rfl, hb⟩; refine ⟨_, rfl, ?_⟩; have n0_ := Aside0.mk (below_step (bz) hb); clear HB; have HB := n0_; clear n0_; (try clear hb); (try clear hb2); (try clear hk); (try clear hi)) | ((with_reducible refine gate_dst (N := 13) rfl ?_); refine box_event ?hg (N := 13) ?hd (cs := #[.string (⟨#[]⟩ : ByteArray), .string (⟨#[]⟩ : ByteArray)]) (t := 25) ?hr ?_; (case hd => rfl); (case hg => rfl); (case hr => first | (go_simp; done) | (go_simp; rfl)); intro gb322 hg w24 hbox hb; have n0_ := Aside0.mk (below_step (bz) hb); have n1_ := Aside0.mk (hbox); have n2_ : Aside0 (w.heap.size ≤ gb322) := bsg hg; have n3_ : Aside0 (w.heap.size ≤ gb322) := bsg hg; clear HB; have HB := n0_; have BK322 := n1_; have GW322 := n2_; have GE322 := n3_; clear n0_ n1_ n2_ n3_; clear hb hbox hg) | ((with_reducible refine gate_dst (N := 14) rfl ?_); refine box_event ?hg (N := 14) ?hd (cs := #[.string (⟨#[]⟩ : ByteArray), .string (⟨#[]⟩ : ByteArray)]) (t := 25) ?hr ?_; (case hd => rfl); (case hg => rfl); (case hr => first | (go_simp; done) | (go_simp; rfl)); intro gb323 hg w25 hbox hb; have n0_ := bkb BK322 hb; have n1_ := Aside0.mk (below_step (bz) hb); have n2_ := Aside0.mk (hbox); have n3_ : Aside0 (w.heap.size ≤ gb323) := bsg hg; have n4_ : Aside0 (w.heap.size ≤ gb323) := bsg hg; have n5_ := nlt hg BK322; have n6_ := ngt hg BK322; clear BK322; clear HB; have BK322 := n0_; have HB := n1_; have BK323 := n2_; have GW323 := n3_; have GE323 := n4_; have NB322_323 := n5_; have NB323_322 := n6_; clear n0_ n1_ n2_ n3_ n4_ n5_ n6_; clear hb hbox hg; have hnb26 := NB322_323.out; have hnc26 := NB323_322.out; have hcz27_0 : w25.cell? ⟨gb322, 0, none⟩ = some (.string (⟨#[]⟩ : ByteArray)) := (blk_cell BK322.out 0).trans rfl; have hcz27_1 : w25.cell? ⟨gb322, 1, none⟩ = some (.string (⟨#[]⟩ : ByteArray)) := (blk_cell BK322.out 1).trans rfl; have hfz27_0 := blk_frozen BK322.out 0; have hfz27_1 := blk_frozen BK322.out 1; have hcz28_0 : w25.cell? ⟨gb323, 0, none⟩ = some (.string (⟨#[]⟩ : ByteArray)) := (blk_cell BK323.out 0).trans rfl; have hcz28_1 : w25.cell? ⟨gb323, 1, none⟩ = some (.string (⟨#[]⟩ : ByteArray)) := (blk_cell BK323.out 1).trans rfl; have hfz28_0 := blk_frozen BK323.out 0; have hfz28_1 := blk_frozen BK323.out 1) | ((with_reducible refine gate_dst (N := 50) rfl ?_); refine Kd.R_lit k43 _ 43 ?hg (N := 50) ?hd (xs := ([(⟨a3, (⟨t317, t318⟩ : S25)⟩ : S43), (⟨a4, (⟨t319, t320⟩ : S25)⟩ : S43)] : List (S43))) (inner := [.int .i64 a3, .string t317, .string t318, .int .i64 a4, .string t319, .string t320]) (ok := fun _ => True) (okp := fun _ => True) ?hr ?hp (fun _ hk => hk) trivial (Below.refl _ _) (Nat.le_refl _) (by simp) ?_; (case hd => rfl); (case hg => rfl); (case hr => first | (go_simp; done) | (go_simp; rfl)); (case hp => exact (Reps.c3 (show Kd.M k43 _ _ _ (⟨a3, (⟨t317, t318⟩ : S25)⟩ : S43) [.int .i64 a3, .string t317, .string t318] from (k43_mkM _ _ _ (⟨a3, (⟨t317, t318⟩ : S25)⟩ : S43) )) (Reps.c3 (show Kd.M k43 _ _ _ (⟨a4, (⟨t319, t320⟩ : S25)⟩ : S43) [.int .i64 a4, .string t319, .string t320] from (k43_mkM _ _ _ (⟨a4, (⟨t319, t320⟩ : S25)⟩ : S43) )) (Reps.none _ _)))); intro v328 w29 ho30 hb hg_ hnew_; clear hg_ hnew_; (first | rw [← Ny327.out] at ho30 | (simp only [Int.reduceToNat] at ho30; rw [← Ny327.out] at ho30)); have n0_ := Aside0.mk (Kd.R_lower ho30 (below_size (bz))); have n1_ := Aside0.mk (blk_below (g := gb322) (o := .cells #[.string t317, .string t318] 25 (0, 0)) (by (with_reducible repeat (first | refine blk_drewN ?_ _ | refine blk_drew ?_ | refine blk_alloc ?_ _)); refine blk_far ?_ NB322_323.out _; (with_reducible repeat (first | refine blk_drewN ?_ _ | refine blk_drew ?_ | refine blk_alloc ?_ _)); refine blk_far ?_ NB322_323.out _; (with_reducible repeat (first | refine blk_drewN ?_ _ | refine blk_drew ?_ | refine blk_alloc ?_ _)); refine blk_put (cs := #[.string t317, .string (⟨#[]⟩ : ByteArray)]) ?_ 1 _ rfl; (with_reducible repeat (first | refine blk_drewN ?_ _ | refine blk_drew ?_ | refine blk_alloc ?_ _)); refine blk_put (cs := #[.string (⟨#[]⟩ : ByteArray), .string (⟨#[]⟩ : ByteArray)]) ?_ 0 _ rfl; (with_reducible repeat (first | refine blk_drewN ?_ _ | refine blk_drew ?_ | refine blk_alloc ?_ _)); exact BK322.out) hb); have n2_ := Aside0.mk (blk_below (g := gb323) (o := .cells #[.string t319, .string t320] 25 (0, 0)) (by (with_reducible repeat (first | refine blk_drewN ?_ _ | refine blk_drew ?_ | refine blk_alloc ?_ _)); refine blk_put (cs := #[.string t319, .string (⟨#[]⟩ : ByteArray)]) ?_ 1 _ rfl; (with_reducible repeat (first | refine blk_drewN ?_ _ | refine blk_drew ?_ | refine blk_alloc ?_ _)); refine blk_put (cs := #[.string (⟨#[]⟩ : ByteArray), .string (⟨#[]⟩ : ByteArray)]) ?_ 0 _ rfl; (with_reducible repeat (first | refine blk_drewN ?_ _ | refine blk_drew ?_ | refine blk_alloc ?_ _)); refine blk_far ?_ NB323_322.out _; (with_reducible repeat (first | refine blk_drewN ?_ _ | refine blk_drew ?_ | refine blk_alloc ?_ _)); refine blk_far ?_ NB323_322.out _; (with_reducible repeat (first | refine blk_drewN ?_ _ | refine blk_drew ?_ | refine blk_alloc ?_ _)); exact BK323.out) hb); have n3_ := Aside0.mk (below_step (bz) hb); clear BK322; clear BK323; clear HB; have HO329 := n0_; have BK322 := n1_; have BK323 := n2_; have HB := n3_; clear n0_ n1_ n2_ n3_; clear hb ho30; obtain ⟨Ao31, co31, eo31⟩ := Kd.R_slice HO329.out; subst eo31) | ((with_reducible refine gate_callee (f := 58) rfl ?_); refine goesL_ (some 51) rfl rfl Try.func58 (by kernel_rfl) rfl #[.slice (some ad316) l0.length c0, .int .i64 t312, .int .i64 1, .slice Ao31 y327.length co31] rfl (by (try simp only [List.map_toArray, List.map_cons, List.map_nil]); first | done | rfl | (simp only [List.length_drop, List.length_take]; rfl)) ?_; (with_reducible refine (impl_Route_58.calls _ _ l0 t312 1 _ _ y327 t330 _ ?side1 ?side2 ?side3 ?side4 A18.out).mono ?_); (case side1 => repeat (first | exact (Kd.C_below HR0.out HB.out) | (with_reducible refine Kd.C_alloc ?_ _) | (with_reducible refine Kd.C_drewN ?_ _) | (with_reducible refine Kd.C_drew ?_))); (case side2 => exact HC0.out); (case side3 => repeat (first | exact (Kd.R_reads' HO329.out).2.2 | (with_reducible refine Kd.C_alloc ?_ _) | (with_reducible refine Kd.C_drewN ?_ _) | (with_reducible refine Kd.C_drew ?_))); (case side4 => exact (Kd.R_reads' HO329.out).2.1); rintro e w32 ⟨v331, rfl, ho0, hb⟩; refine ⟨_, rfl, ?_⟩; have n0_ := Aside0.mk (Kd.R_elder' (by (with_reducible repeat (first | apply Kd.R_alloc | apply Kd.R_drewN | apply Kd.R_drew)); exact HO329.out) (Kd.R_base ho0) hb); have n1_ := Aside0.mk (Kd.R_lower (Kd.R_new' ho0 (Kd.R_lt (by (with_reducible repeat (first | apply Kd.R_alloc | apply Kd.R_drewN | apply Kd.R_drew)); exact HO329.out))) (below_size (bz))); have n2_ := bkb BK322 hb; have n3_ := bkb BK323 hb; have n4_ := Aside0.mk (below_step (bz) hb); clear HO329; clear BK322; clear BK323; clear HB; have HO329 := n0_; have HO332 := n1_; have BK322 := n2_; have BK323 := n3_; have HB := n4_; clear n0_ n1_ n2_ n3_ n4_; (try clear hb); (try clear hb2); (try clear hk); (try clear hi); (try clear ho0); obtain ⟨Ao33, co33, eo33⟩ := Kd.R_slice HO332.out; subst eo33) | ((with_reducible refine gate_callee (f := 33) rfl ?_); refine goesL_ (some 53) rfl rfl Try.func33 (by kernel_rfl) rfl #[.slice Ao33 t330.length co33] rfl (by (try simp only [List.map_toArray, List.map_cons, List.map_nil]); first | done | rfl | (simp only [List.length_drop, List.length_take]; rfl)) ?_; (with_reducible refine (impl_RoutesValid.calls k _ _ t330 true _ ?side1 ?side2 A19.out).mono ?_); (case side1 => repeat (first | exact (Kd.R_reads' HO332.out).2.2 | (with_reducible refine Kd.C_alloc ?_ _) | (with_reducible refine Kd.C_drewN ?_ _) | (with_reducible refine Kd.C_drew ?_))); (case side2 => exact (Kd.R_reads' HO332.out).2.1); rintro e w34 ⟨rfl, hb⟩; refine ⟨_, rfl, ?_⟩; have n0_ := Aside0.mk (Kd.R_below (by (with_reducible repeat (first | apply Kd.R_alloc | apply Kd.R_drewN | apply Kd.R_drew)); exact HO329.out) hb); have n1_ := Aside0.mk (Kd.R_below (by (with_reducible repeat (first | apply Kd.R_alloc | apply Kd.R_drewN | apply Kd.R_drew)); exact HO332.out) hb); have n2_ := bkb BK322 hb; have n3_ := bkb BK323 hb; have n4_ := Aside0.mk (below_step (bz) hb); clear HO329; clear HO332; clear BK322; clear BK323; clear HB; have HO329 := n0_; have HO332 := n1_; have BK322 := n2_; have BK323 := n3_; have HB := n4_; clear n0_ n1_ n2_ n3_ n4_; (try clear hb); (try clear hb2); (try clear hk); (try clear hi)))
       go_ret2
       exact ⟨_, by first | rfl | (simp only [u8w, w64m]; rfl) | (simp [errW_none, errW_some] <;> rfl) | (simp [*, errW_none, errW_some] <;> rfl), by (with_reducible repeat (first | apply Kd.R_alloc | apply Kd.R_drewN | apply Kd.R_drew)); exact Kd.R_mono HO332.out (fun _ hk => trivial), bz⟩
      ·
       replace c20 := Bool.eq_false_iff.mpr c20
       subst c20
       rw [if_neg (show ¬ (false = true) by decide)] at H
       replace H := Option.bind_eq_some_iff.mp H
       obtain ⟨t334, A350, H⟩ := H
       try dsimp only at H
       have A35 := Aside0.mk A350
       clear A350
       simp only [Option.some.injEq, Prod.mk.injEq] at H
       obtain ⟨rfl, rfl⟩ := H
       go_enter Try.func47, Try.ntmps47
       go_wp2_with (first | ((with_reducible refine gate_callee (f := 33) rfl ?_); refine goesL_ (some 18) rfl rfl Try.func33 (by kernel_rfl) rfl #[.slice A0 l0.length c0] rfl (by (try simp only [List.map_toArray, List.map_cons, List.map_nil]); first | done | rfl | (simp only [List.length_drop, List.length_take]; rfl)) ?_; (with_reducible refine (impl_RoutesValid.calls k _ _ l0 true _ ?side1 ?side2 A6.out).mono ?_); (case side1 => repeat (first | exact HR0.out | (with_reducible refine Kd.C_alloc ?_ _) | (with_reducible refine Kd.C_drewN ?_ _) | (with_reducible refine Kd.C_drew ?_))); (case side2 => exact HC0.out); rintro e w36 ⟨rfl, hb⟩; refine ⟨_, rfl, ?_⟩; have n0_ := Aside0.mk (below_step (bz) hb); clear HB; have HB := n0_; clear n0_; (try clear hb); (try clear hb2); (try clear hk); (try clear hi)) | ((with_reducible refine gate_callee (f := 54) rfl ?_); refine goesL_ (some 22) rfl rfl Try.func54 (by kernel_rfl) rfl #[.slice A0 l0.length c0, .int .i64 a1] rfl (by (try simp only [List.map_toArray, List.map_cons, List.map_nil]); first | done | rfl | (simp only [List.length_drop, List.length_take]; rfl)) ?_; (with_reducible refine (impl_routePlace.calls k _ _ l0 a1 t312 _ ?side1 ?side2 A8.out).mono ?_); (case side1 => repeat (first | exact (Kd.C_below HR0.out HB.out) | (with_reducible refine Kd.C_alloc ?_ _) | (with_reducible refine Kd.C_drewN ?_ _) | (with_reducible refine Kd.C_drew ?_))); (case side2 => exact HC0.out); rintro e w37 ⟨rfl, hb⟩; refine ⟨_, rfl, ?_⟩; have n0_ := Aside0.mk (below_step (bz) hb); clear HB; have HB := n0_; clear n0_; (try clear hb); (try clear hb2); (try clear hk); (try clear hi); have p316 : 0 ≤ (t312 : Int) := of_decide_eq_true (by first | (with_reducible assumption) | assumption); have q316 : t312 < (l0.length : Int) := of_decide_eq_true (by first | (with_reducible assumption) | assumption); obtain ⟨ad316, e316, hx316_0, hx316_1, hx316_2⟩ := at_T43 HR0.out t312 p316 q316; cases e316; replace hx316_0 := (HB.out.cell (World.block_lt_of_cell? w _ hx316_0)).trans hx316_0; replace hx316_1 := (HB.out.cell (World.block_lt_of_cell? w _ hx316_1)).trans hx316_1; replace hx316_2 := (HB.out.cell (World.block_lt_of_cell? w _ hx316_2)).trans hx316_2; replace p316 := eq_true p316; replace q316 := eq_true q316) | ((with_reducible refine gate_callee (f := 87) rfl ?_); refine goesL_ (some 34) rfl rfl Try.func87 (by kernel_rfl) rfl #[.agg #[.string ((rd_T43 l0 t312).f1.f0), .string ((rd_T43 l0 t312).f1.f1)], .string a2] rfl (by (try simp only [List.map_toArray, List.map_cons, List.map_nil]); first | done | rfl | (simp only [List.length_drop, List.length_take]; rfl)) ?_; (with_reducible refine (impl_IntervalCut.calls k ((rd_T43 l0 t312).f1.f0) ((rd_T43 l0 t312).f1.f1) a2 t317 t318 t319 t320 true _ A16.out).mono ?_); rintro e w38 ⟨rfl, hb⟩; refine ⟨_, rfl, ?_⟩; have n0_ := Aside0.mk (below_step (bz) hb); clear HB; have HB := n0_; clear n0_; (try clear hb); (try clear hb2); (try clear hk); (try clear hi)) | ((with_reducible refine gate_dst (N := 13) rfl ?_); refine box_event ?hg (N := 13) ?hd (cs := #[.string (⟨#[]⟩ : ByteArray), .string (⟨#[]⟩ : ByteArray)]) (t := 25) ?hr ?_; (case hd => rfl); (case hg => rfl); (case hr => first | (go_simp; done) | (go_simp; rfl)); intro gb322 hg w39 hbox hb; have n0_ := Aside0.mk (below_step (bz) hb); have n1_ := Aside0.mk (hbox); have n2_ : Aside0 (w.heap.size ≤ gb322) := bsg hg; have n3_ : Aside0 (w.heap.size ≤ gb322) := bsg hg; clear HB; have HB := n0_; have BK322 := n1_; have GW322 := n2_; have GE322 := n3_; clear n0_ n1_ n2_ n3_; clear hb hbox hg) | ((with_reducible refine gate_dst (N := 14) rfl ?_); refine box_event ?hg (N := 14) ?hd (cs := #[.string (⟨#[]⟩ : ByteArray), .string (⟨#[]⟩ : ByteArray)]) (t := 25) ?hr ?_; (case hd => rfl); (case hg => rfl); (case hr => first | (go_simp; done) | (go_simp; rfl)); intro gb323 hg w40 hbox hb; have n0_ := bkb BK322 hb; have n1_ := Aside0.mk (below_step (bz) hb); have n2_ := Aside0.mk (hbox); have n3_ : Aside0 (w.heap.size ≤ gb323) := bsg hg; have n4_ : Aside0 (w.heap.size ≤ gb323) := bsg hg; have n5_ := nlt hg BK322; have n6_ := ngt hg BK322; clear BK322; clear HB; have BK322 := n0_; have HB := n1_; have BK323 := n2_; have GW323 := n3_; have GE323 := n4_; have NB322_323 := n5_; have NB323_322 := n6_; clear n0_ n1_ n2_ n3_ n4_ n5_ n6_; clear hb hbox hg; have hnb41 := NB322_323.out; have hnc41 := NB323_322.out; have hcz42_0 : w40.cell? ⟨gb322, 0, none⟩ = some (.string (⟨#[]⟩ : ByteArray)) := (blk_cell BK322.out 0).trans rfl; have hcz42_1 : w40.cell? ⟨gb322, 1, none⟩ = some (.string (⟨#[]⟩ : ByteArray)) := (blk_cell BK322.out 1).trans rfl; have hfz42_0 := blk_frozen BK322.out 0; have hfz42_1 := blk_frozen BK322.out 1; have hcz43_0 : w40.cell? ⟨gb323, 0, none⟩ = some (.string (⟨#[]⟩ : ByteArray)) := (blk_cell BK323.out 0).trans rfl; have hcz43_1 : w40.cell? ⟨gb323, 1, none⟩ = some (.string (⟨#[]⟩ : ByteArray)) := (blk_cell BK323.out 1).trans rfl; have hfz43_0 := blk_frozen BK323.out 0; have hfz43_1 := blk_frozen BK323.out 1) | ((with_reducible refine gate_dst (N := 50) rfl ?_); refine Kd.R_lit k43 _ 43 ?hg (N := 50) ?hd (xs := ([(⟨a3, (⟨t317, t318⟩ : S25)⟩ : S43), (⟨a4, (⟨t319, t320⟩ : S25)⟩ : S43)] : List (S43))) (inner := [.int .i64 a3, .string t317, .string t318, .int .i64 a4, .string t319, .string t320]) (ok := fun _ => True) (okp := fun _ => True) ?hr ?hp (fun _ hk => hk) trivial (Below.refl _ _) (Nat.le_refl _) (by simp) ?_; (case hd => rfl); (case hg => rfl); (case hr => first | (go_simp; done) | (go_simp; rfl)); (case hp => exact (Reps.c3 (show Kd.M k43 _ _ _ (⟨a3, (⟨t317, t318⟩ : S25)⟩ : S43) [.int .i64 a3, .string t317, .string t318] from (k43_mkM _ _ _ (⟨a3, (⟨t317, t318⟩ : S25)⟩ : S43) )) (Reps.c3 (show Kd.M k43 _ _ _ (⟨a4, (⟨t319, t320⟩ : S25)⟩ : S43) [.int .i64 a4, .string t319, .string t320] from (k43_mkM _ _ _ (⟨a4, (⟨t319, t320⟩ : S25)⟩ : S43) )) (Reps.none _ _)))); intro v328 w44 ho45 hb hg_ hnew_; clear hg_ hnew_; (first | rw [← Ny327.out] at ho45 | (simp only [Int.reduceToNat] at ho45; rw [← Ny327.out] at ho45)); have n0_ := Aside0.mk (Kd.R_lower ho45 (below_size (bz))); have n1_ := Aside0.mk (blk_below (g := gb322) (o := .cells #[.string t317, .string t318] 25 (0, 0)) (by (with_reducible repeat (first | refine blk_drewN ?_ _ | refine blk_drew ?_ | refine blk_alloc ?_ _)); refine blk_far ?_ NB322_323.out _; (with_reducible repeat (first | refine blk_drewN ?_ _ | refine blk_drew ?_ | refine blk_alloc ?_ _)); refine blk_far ?_ NB322_323.out _; (with_reducible repeat (first | refine blk_drewN ?_ _ | refine blk_drew ?_ | refine blk_alloc ?_ _)); refine blk_put (cs := #[.string t317, .string (⟨#[]⟩ : ByteArray)]) ?_ 1 _ rfl; (with_reducible repeat (first | refine blk_drewN ?_ _ | refine blk_drew ?_ | refine blk_alloc ?_ _)); refine blk_put (cs := #[.string (⟨#[]⟩ : ByteArray), .string (⟨#[]⟩ : ByteArray)]) ?_ 0 _ rfl; (with_reducible repeat (first | refine blk_drewN ?_ _ | refine blk_drew ?_ | refine blk_alloc ?_ _)); exact BK322.out) hb); have n2_ := Aside0.mk (blk_below (g := gb323) (o := .cells #[.string t319, .string t320] 25 (0, 0)) (by (with_reducible repeat (first | refine blk_drewN ?_ _ | refine blk_drew ?_ | refine blk_alloc ?_ _)); refine blk_put (cs := #[.string t319, .string (⟨#[]⟩ : ByteArray)]) ?_ 1 _ rfl; (with_reducible repeat (first | refine blk_drewN ?_ _ | refine blk_drew ?_ | refine blk_alloc ?_ _)); refine blk_put (cs := #[.string (⟨#[]⟩ : ByteArray), .string (⟨#[]⟩ : ByteArray)]) ?_ 0 _ rfl; (with_reducible repeat (first | refine blk_drewN ?_ _ | refine blk_drew ?_ | refine blk_alloc ?_ _)); refine blk_far ?_ NB323_322.out _; (with_reducible repeat (first | refine blk_drewN ?_ _ | refine blk_drew ?_ | refine blk_alloc ?_ _)); refine blk_far ?_ NB323_322.out _; (with_reducible repeat (first | refine blk_drewN ?_ _ | refine blk_drew ?_ | refine blk_alloc ?_ _)); exact BK323.out) hb); have n3_ := Aside0.mk (below_step (bz) hb); clear BK322; clear BK323; clear HB; have HO329 := n0_; have BK322 := n1_; have BK323 := n2_; have HB := n3_; clear n0_ n1_ n2_ n3_; clear hb ho45; obtain ⟨Ao46, co46, eo46⟩ := Kd.R_slice HO329.out; subst eo46) | ((with_reducible refine gate_callee (f := 58) rfl ?_); refine goesL_ (some 51) rfl rfl Try.func58 (by kernel_rfl) rfl #[.slice (some ad316) l0.length c0, .int .i64 t312, .int .i64 1, .slice Ao46 y327.length co46] rfl (by (try simp only [List.map_toArray, List.map_cons, List.map_nil]); first | done | rfl | (simp only [List.length_drop, List.length_take]; rfl)) ?_; (with_reducible refine (impl_Route_58.calls _ _ l0 t312 1 _ _ y327 t330 _ ?side1 ?side2 ?side3 ?side4 A18.out).mono ?_); (case side1 => repeat (first | exact (Kd.C_below HR0.out HB.out) | (with_reducible refine Kd.C_alloc ?_ _) | (with_reducible refine Kd.C_drewN ?_ _) | (with_reducible refine Kd.C_drew ?_))); (case side2 => exact HC0.out); (case side3 => repeat (first | exact (Kd.R_reads' HO329.out).2.2 | (with_reducible refine Kd.C_alloc ?_ _) | (with_reducible refine Kd.C_drewN ?_ _) | (with_reducible refine Kd.C_drew ?_))); (case side4 => exact (Kd.R_reads' HO329.out).2.1); rintro e w47 ⟨v331, rfl, ho0, hb⟩; refine ⟨_, rfl, ?_⟩; have n0_ := Aside0.mk (Kd.R_elder' (by (with_reducible repeat (first | apply Kd.R_alloc | apply Kd.R_drewN | apply Kd.R_drew)); exact HO329.out) (Kd.R_base ho0) hb); have n1_ := Aside0.mk (Kd.R_lower (Kd.R_new' ho0 (Kd.R_lt (by (with_reducible repeat (first | apply Kd.R_alloc | apply Kd.R_drewN | apply Kd.R_drew)); exact HO329.out))) (below_size (bz))); have n2_ := bkb BK322 hb; have n3_ := bkb BK323 hb; have n4_ := Aside0.mk (below_step (bz) hb); clear HO329; clear BK322; clear BK323; clear HB; have HO329 := n0_; have HO332 := n1_; have BK322 := n2_; have BK323 := n3_; have HB := n4_; clear n0_ n1_ n2_ n3_ n4_; (try clear hb); (try clear hb2); (try clear hk); (try clear hi); (try clear ho0); obtain ⟨Ao48, co48, eo48⟩ := Kd.R_slice HO332.out; subst eo48) | ((with_reducible refine gate_callee (f := 33) rfl ?_); refine goesL_ (some 53) rfl rfl Try.func33 (by kernel_rfl) rfl #[.slice Ao48 t330.length co48] rfl (by (try simp only [List.map_toArray, List.map_cons, List.map_nil]); first | done | rfl | (simp only [List.length_drop, List.length_take]; rfl)) ?_; (with_reducible refine (impl_RoutesValid.calls k _ _ t330 false _ ?side1 ?side2 A19.out).mono ?_); (case side1 => repeat (first | exact (Kd.R_reads' HO332.out).2.2 | (with_reducible refine Kd.C_alloc ?_ _) | (with_reducible refine Kd.C_drewN ?_ _) | (with_reducible refine Kd.C_drew ?_))); (case side2 => exact (Kd.R_reads' HO332.out).2.1); rintro e w49 ⟨rfl, hb⟩; refine ⟨_, rfl, ?_⟩; have n0_ := Aside0.mk (Kd.R_below (by (with_reducible repeat (first | apply Kd.R_alloc | apply Kd.R_drewN | apply Kd.R_drew)); exact HO329.out) hb); have n1_ := Aside0.mk (Kd.R_below (by (with_reducible repeat (first | apply Kd.R_alloc | apply Kd.R_drewN | apply Kd.R_drew)); exact HO332.out) hb); have n2_ := bkb BK322 hb; have n3_ := bkb BK323 hb; have n4_ := Aside0.mk (below_step (bz) hb); clear HO329; clear HO332; clear BK322; clear BK323; clear HB; have HO329 := n0_; have HO332 := n1_; have BK322 := n2_; have BK323 := n3_; have HB := n4_; clear n0_ n1_ n2_ n3_ n4_; (try clear hb); (try clear hb2); (try clear hk); (try clear hi)) | ((with_reducible refine gate_callee (f := 57) rfl ?_); refine goesL_ (some 56) rfl rfl Try.func57 (by kernel_rfl) rfl #[.slice (some ad316) l0.length c0] rfl (by (try simp only [List.map_toArray, List.map_cons, List.map_nil]); first | done | rfl | (simp only [List.length_drop, List.length_take]; rfl)) ?_; (with_reducible refine (impl_Route_57.calls _ _ l0 t334 _ ?side1 ?side2 A35.out).mono ?_); (case side1 => repeat (first | exact (Kd.C_below HR0.out HB.out) | (with_reducible refine Kd.C_alloc ?_ _) | (with_reducible refine Kd.C_drewN ?_ _) | (with_reducible refine Kd.C_drew ?_))); (case side2 => exact HC0.out); rintro e w50 ⟨v335, rfl, ho0, hb⟩; refine ⟨_, rfl, ?_⟩; have n0_ := Aside0.mk (Kd.R_elder' (by (with_reducible repeat (first | apply Kd.R_alloc | apply Kd.R_drewN | apply Kd.R_drew)); exact HO329.out) (Kd.R_base ho0) hb); have n1_ := Aside0.mk (Kd.R_elder' (by (with_reducible repeat (first | apply Kd.R_alloc | apply Kd.R_drewN | apply Kd.R_drew)); exact HO332.out) (Kd.R_base ho0) hb); have n2_ := Aside0.mk (Kd.R_lower (Kd.R_new' (Kd.R_new' ho0 (Kd.R_lt (by (with_reducible repeat (first | apply Kd.R_alloc | apply Kd.R_drewN | apply Kd.R_drew)); exact HO329.out))) (Kd.R_lt (by (with_reducible repeat (first | apply Kd.R_alloc | apply Kd.R_drewN | apply Kd.R_drew)); exact HO332.out))) (below_size (bz))); have n3_ := bkb BK322 hb; have n4_ := bkb BK323 hb; have n5_ := Aside0.mk (below_step (bz) hb); clear HO329; clear HO332; clear BK322; clear BK323; clear HB; have HO329 := n0_; have HO332 := n1_; have HO336 := n2_; have BK322 := n3_; have BK323 := n4_; have HB := n5_; clear n0_ n1_ n2_ n3_ n4_ n5_; (try clear hb); (try clear hb2); (try clear hk); (try clear hi); (try clear ho0)))
       go_ret2
       exact ⟨_, by first | rfl | (simp only [u8w, w64m]; rfl) | (simp [errW_none, errW_some] <;> rfl) | (simp [*, errW_none, errW_some] <;> rfl), by (with_reducible repeat (first | apply Kd.R_alloc | apply Kd.R_drewN | apply Kd.R_drew)); exact Kd.R_mono HO336.out (fun _ hk => trivial), bz⟩
     ·
      replace c17 := Bool.eq_false_iff.mpr c17
      subst c17
      rw [if_neg (show ¬ (false = true) by decide)] at H
      replace H := Option.bind_eq_some_iff.mp H
      obtain ⟨t324, A510, H⟩ := H
      try dsimp only at H
      have A51 := Aside0.mk A510
      clear A510
      simp only [Option.some.injEq, Prod.mk.injEq] at H
      obtain ⟨rfl, rfl⟩ := H
      go_enter Try.func47, Try.ntmps47
      go_wp2_with (first | ((with_reducible refine gate_callee (f := 33) rfl ?_); refine goesL_ (some 18) rfl rfl Try.func33 (by kernel_rfl) rfl #[.slice A0 l0.length c0] rfl (by (try simp only [List.map_toArray, List.map_cons, List.map_nil]); first | done | rfl | (simp only [List.length_drop, List.length_take]; rfl)) ?_; (with_reducible refine (impl_RoutesValid.calls k _ _ l0 true _ ?side1 ?side2 A6.out).mono ?_); (case side1 => repeat (first | exact HR0.out | (with_reducible refine Kd.C_alloc ?_ _) | (with_reducible refine Kd.C_drewN ?_ _) | (with_reducible refine Kd.C_drew ?_))); (case side2 => exact HC0.out); rintro e w52 ⟨rfl, hb⟩; refine ⟨_, rfl, ?_⟩; have n0_ := Aside0.mk (below_step (bz) hb); clear HB; have HB := n0_; clear n0_; (try clear hb); (try clear hb2); (try clear hk); (try clear hi)) | ((with_reducible refine gate_callee (f := 54) rfl ?_); refine goesL_ (some 22) rfl rfl Try.func54 (by kernel_rfl) rfl #[.slice A0 l0.length c0, .int .i64 a1] rfl (by (try simp only [List.map_toArray, List.map_cons, List.map_nil]); first | done | rfl | (simp only [List.length_drop, List.length_take]; rfl)) ?_; (with_reducible refine (impl_routePlace.calls k _ _ l0 a1 t312 _ ?side1 ?side2 A8.out).mono ?_); (case side1 => repeat (first | exact (Kd.C_below HR0.out HB.out) | (with_reducible refine Kd.C_alloc ?_ _) | (with_reducible refine Kd.C_drewN ?_ _) | (with_reducible refine Kd.C_drew ?_))); (case side2 => exact HC0.out); rintro e w53 ⟨rfl, hb⟩; refine ⟨_, rfl, ?_⟩; have n0_ := Aside0.mk (below_step (bz) hb); clear HB; have HB := n0_; clear n0_; (try clear hb); (try clear hb2); (try clear hk); (try clear hi); have p316 : 0 ≤ (t312 : Int) := of_decide_eq_true (by first | (with_reducible assumption) | assumption); have q316 : t312 < (l0.length : Int) := of_decide_eq_true (by first | (with_reducible assumption) | assumption); obtain ⟨ad316, e316, hx316_0, hx316_1, hx316_2⟩ := at_T43 HR0.out t312 p316 q316; cases e316; replace hx316_0 := (HB.out.cell (World.block_lt_of_cell? w _ hx316_0)).trans hx316_0; replace hx316_1 := (HB.out.cell (World.block_lt_of_cell? w _ hx316_1)).trans hx316_1; replace hx316_2 := (HB.out.cell (World.block_lt_of_cell? w _ hx316_2)).trans hx316_2; replace p316 := eq_true p316; replace q316 := eq_true q316) | ((with_reducible refine gate_callee (f := 87) rfl ?_); refine goesL_ (some 34) rfl rfl Try.func87 (by kernel_rfl) rfl #[.agg #[.string ((rd_T43 l0 t312).f1.f0), .string ((rd_T43 l0 t312).f1.f1)], .string a2] rfl (by (try simp only [List.map_toArray, List.map_cons, List.map_nil]); first | done | rfl | (simp only [List.length_drop, List.length_take]; rfl)) ?_; (with_reducible refine (impl_IntervalCut.calls k ((rd_T43 l0 t312).f1.f0) ((rd_T43 l0 t312).f1.f1) a2 t317 t318 t319 t320 false _ A16.out).mono ?_); rintro e w54 ⟨rfl, hb⟩; refine ⟨_, rfl, ?_⟩; have n0_ := Aside0.mk (below_step (bz) hb); clear HB; have HB := n0_; clear n0_; (try clear hb); (try clear hb2); (try clear hk); (try clear hi)) | ((with_reducible refine gate_dst (N := 13) rfl ?_); refine box_event ?hg (N := 13) ?hd (cs := #[.string (⟨#[]⟩ : ByteArray), .string (⟨#[]⟩ : ByteArray)]) (t := 25) ?hr ?_; (case hd => rfl); (case hg => rfl); (case hr => first | (go_simp; done) | (go_simp; rfl)); intro gb322 hg w55 hbox hb; have n0_ := Aside0.mk (below_step (bz) hb); have n1_ := Aside0.mk (hbox); have n2_ : Aside0 (w.heap.size ≤ gb322) := bsg hg; have n3_ : Aside0 (w.heap.size ≤ gb322) := bsg hg; clear HB; have HB := n0_; have BK322 := n1_; have GW322 := n2_; have GE322 := n3_; clear n0_ n1_ n2_ n3_; clear hb hbox hg) | ((with_reducible refine gate_dst (N := 14) rfl ?_); refine box_event ?hg (N := 14) ?hd (cs := #[.string (⟨#[]⟩ : ByteArray), .string (⟨#[]⟩ : ByteArray)]) (t := 25) ?hr ?_; (case hd => rfl); (case hg => rfl); (case hr => first | (go_simp; done) | (go_simp; rfl)); intro gb323 hg w56 hbox hb; have n0_ := bkb BK322 hb; have n1_ := Aside0.mk (below_step (bz) hb); have n2_ := Aside0.mk (hbox); have n3_ : Aside0 (w.heap.size ≤ gb323) := bsg hg; have n4_ : Aside0 (w.heap.size ≤ gb323) := bsg hg; have n5_ := nlt hg BK322; have n6_ := ngt hg BK322; clear BK322; clear HB; have BK322 := n0_; have HB := n1_; have BK323 := n2_; have GW323 := n3_; have GE323 := n4_; have NB322_323 := n5_; have NB323_322 := n6_; clear n0_ n1_ n2_ n3_ n4_ n5_ n6_; clear hb hbox hg; have hnb57 := NB322_323.out; have hnc57 := NB323_322.out; have hcz58_0 : w56.cell? ⟨gb322, 0, none⟩ = some (.string (⟨#[]⟩ : ByteArray)) := (blk_cell BK322.out 0).trans rfl; have hcz58_1 : w56.cell? ⟨gb322, 1, none⟩ = some (.string (⟨#[]⟩ : ByteArray)) := (blk_cell BK322.out 1).trans rfl; have hfz58_0 := blk_frozen BK322.out 0; have hfz58_1 := blk_frozen BK322.out 1; have hcz59_0 : w56.cell? ⟨gb323, 0, none⟩ = some (.string (⟨#[]⟩ : ByteArray)) := (blk_cell BK323.out 0).trans rfl; have hcz59_1 : w56.cell? ⟨gb323, 1, none⟩ = some (.string (⟨#[]⟩ : ByteArray)) := (blk_cell BK323.out 1).trans rfl; have hfz59_0 := blk_frozen BK323.out 0; have hfz59_1 := blk_frozen BK323.out 1) | ((with_reducible refine gate_callee (f := 57) rfl ?_); refine goesL_ (some 41) rfl rfl Try.func57 (by kernel_rfl) rfl #[.slice (some ad316) l0.length c0] rfl (by (try simp only [List.map_toArray, List.map_cons, List.map_nil]); first | done | rfl | (simp only [List.length_drop, List.length_take]; rfl)) ?_; (with_reducible refine (impl_Route_57.calls _ _ l0 t324 _ ?side1 ?side2 A51.out).mono ?_); (case side1 => exact Kd.C_below HR0.out (bz)); (case side2 => exact HC0.out); rintro e w60 ⟨v325, rfl, ho0, hb⟩; refine ⟨_, rfl, ?_⟩; have n0_ := Aside0.mk (Kd.R_lower ho0 (below_size (bz))); have n1_ := Aside0.mk (blk_below (g := gb322) (o := .cells #[.string t317, .string t318] 25 (0, 0)) (by (with_reducible repeat (first | refine blk_drewN ?_ _ | refine blk_drew ?_ | refine blk_alloc ?_ _)); refine blk_far ?_ NB322_323.out _; (with_reducible repeat (first | refine blk_drewN ?_ _ | refine blk_drew ?_ | refine blk_alloc ?_ _)); refine blk_far ?_ NB322_323.out _; (with_reducible repeat (first | refine blk_drewN ?_ _ | refine blk_drew ?_ | refine blk_alloc ?_ _)); refine blk_put (cs := #[.string t317, .string (⟨#[]⟩ : ByteArray)]) ?_ 1 _ rfl; (with_reducible repeat (first | refine blk_drewN ?_ _ | refine blk_drew ?_ | refine blk_alloc ?_ _)); refine blk_put (cs := #[.string (⟨#[]⟩ : ByteArray), .string (⟨#[]⟩ : ByteArray)]) ?_ 0 _ rfl; (with_reducible repeat (first | refine blk_drewN ?_ _ | refine blk_drew ?_ | refine blk_alloc ?_ _)); exact BK322.out) hb); have n2_ := Aside0.mk (blk_below (g := gb323) (o := .cells #[.string t319, .string t320] 25 (0, 0)) (by (with_reducible repeat (first | refine blk_drewN ?_ _ | refine blk_drew ?_ | refine blk_alloc ?_ _)); refine blk_put (cs := #[.string t319, .string (⟨#[]⟩ : ByteArray)]) ?_ 1 _ rfl; (with_reducible repeat (first | refine blk_drewN ?_ _ | refine blk_drew ?_ | refine blk_alloc ?_ _)); refine blk_put (cs := #[.string (⟨#[]⟩ : ByteArray), .string (⟨#[]⟩ : ByteArray)]) ?_ 0 _ rfl; (with_reducible repeat (first | refine blk_drewN ?_ _ | refine blk_drew ?_ | refine blk_alloc ?_ _)); refine blk_far ?_ NB323_322.out _; (with_reducible repeat (first | refine blk_drewN ?_ _ | refine blk_drew ?_ | refine blk_alloc ?_ _)); refine blk_far ?_ NB323_322.out _; (with_reducible repeat (first | refine blk_drewN ?_ _ | refine blk_drew ?_ | refine blk_alloc ?_ _)); exact BK323.out) hb); have n3_ := Aside0.mk (below_step (bz) hb); clear BK322; clear BK323; clear HB; have HO326 := n0_; have BK322 := n1_; have BK323 := n2_; have HB := n3_; clear n0_ n1_ n2_ n3_; (try clear hb); (try clear hb2); (try clear hk); (try clear hi); (try clear ho0)))
      go_ret2
      exact ⟨_, by first | rfl | (simp only [u8w, w64m]; rfl) | (simp [errW_none, errW_some] <;> rfl) | (simp [*, errW_none, errW_some] <;> rfl), by (with_reducible repeat (first | apply Kd.R_alloc | apply Kd.R_drewN | apply Kd.R_drew)); exact HO326.out, bz⟩
    ·
     rw [if_neg c15] at H
     exact absurd H (by simp)
   ·
    rw [if_neg c14] at H
    exact absurd H (by simp)
 ·
  replace c7 := Bool.eq_false_iff.mpr c7
  subst c7
  rw [if_neg (show ¬ (false = true) by decide)] at H
  simp only [Option.some.injEq, Prod.mk.injEq] at H
  obtain ⟨rfl, rfl⟩ := H
  go_enter Try.func47, Try.ntmps47
  go_wp2_with (first | ((with_reducible refine gate_callee (f := 33) rfl ?_); refine goesL_ (some 18) rfl rfl Try.func33 (by kernel_rfl) rfl #[.slice A0 l0.length c0] rfl (by (try simp only [List.map_toArray, List.map_cons, List.map_nil]); first | done | rfl | (simp only [List.length_drop, List.length_take]; rfl)) ?_; (with_reducible refine (impl_RoutesValid.calls k _ _ l0 false _ ?side1 ?side2 A6.out).mono ?_); (case side1 => repeat (first | exact HR0.out | (with_reducible refine Kd.C_alloc ?_ _) | (with_reducible refine Kd.C_drewN ?_ _) | (with_reducible refine Kd.C_drew ?_))); (case side2 => exact HC0.out); rintro e w61 ⟨rfl, hb⟩; refine ⟨_, rfl, ?_⟩; have n0_ := Aside0.mk (below_step (bz) hb); clear HB; have HB := n0_; clear n0_; (try clear hb); (try clear hb2); (try clear hk); (try clear hi)))
  go_ret2
  exact ⟨_, by first | rfl | (simp only [u8w, w64m]; rfl) | (simp [errW_none, errW_some] <;> rfl) | (simp [*, errW_none, errW_some] <;> rfl), by first | exact Kd.R_nil _ _ _ _ _ | exact Kd.N_nil _ _ _ _ _ | exact Kd.V_nil _ _ _ _ _ | exact Kd.Q_nil _ _ _ _ _ | exact Kd.S_nil _ _ _ _ _, bz⟩

end Go.Proofs.Ytinnjgogaidhlaa.PFnExactSplitRoute
