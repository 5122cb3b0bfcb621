/- Go functions as plain Lean functions, and for each a proof that its call comes to what the function says; under the conditions that each theorem names. Written by a program of this session. -/
import Derived.Test.YtkjkokljgbpbbaaPFnRequestOfx0
import Derived.Test.YtkjkokljgbpbbaaPFnRequestOfx1
import Derived.Test.YtkjkokljgbpbbaaPFnRequestOfx5
import Derived.Test.YtkjkokljgbpbbaaPFnRequestOfx6
namespace Go.Proofs.Ytkjkokljgbpbbaa.PFnRequestOf
open Go.RowKit Go.Proofs.YtkjkokljgbpbbaaW.PrintWords Go.Proofs.YtkjkokljgbpbbaaW.PrintLast Go.Proofs.YtkjkokljgbpbbaaW.PrintMore
attribute [local go_sem high] str_gtr str_leq str_geq
attribute [local go_sem] max2_int min2_int max_two min_two max_three min_three max_four min_four   -- for this text's walks alone
set_option linter.unusedVariables false
set_option linter.unusedSimpArgs false

attribute [local go_sem high] eqA39
/-! ### spec_CommandValid: function 131 -/
mutual
def spec_CommandValid.j0 : Nat → Bool → Int → ByteArray → Int → Int → Option (Bool)
 | 0, _, _, _, _, _ => none
 | k + 1, x16, x385000, x385001, x385002, x385003 => if x16 = true then (some false) else (if x385000 = 1 then (spec_CommandValid.j1 k x385000 (x385000 == 1) x385000 x385001 x385002 x385003) else (if x385000 = 3 then (spec_CommandValid.j1 k x385000 (x385000 == 3) x385000 x385001 x385002 x385003) else (spec_CommandValid.j1 k x385000 (x385000 == 5) x385000 x385001 x385002 x385003)))
def spec_CommandValid.j1 : Nat → Int → Bool → Int → ByteArray → Int → Int → Option (Bool)
 | 0, _, _, _, _, _, _ => none
 | k + 1, x18, x19, x385000, x385001, x385002, x385003 => if x19 = true then (if x385002 = 0 then (some (x385003 == 0)) else (some false)) else (if x18 = 2 then ((spec_l1In.f x385002 0 999).bind fun t386 => (if t386 = true then (some (x385003 == 0)) else (some false))) else (if x18 = 4 then ((spec_l1In.f x385002 0 999).bind fun t387 => (if t387 = true then ((spec_l1In.f x385003 (-1) 999).bind fun t388 => (some t388)) else (some false))) else (some false)))
end
def spec_CommandValid.f (k : Nat) (a0_0 : Int) (a0_1 : ByteArray) (a0_2 : Int) (a0_3 : Int) : Option (Bool) := (spec_KeyValid.f k a0_1).bind fun t385 => (if t385 = true then (spec_CommandValid.j0 k false a0_0 a0_1 a0_2 a0_3) else (if a0_0 = 5 then (spec_CommandValid.j0 k (a0_1.toList != ([] : List UInt8)) a0_0 a0_1 a0_2 a0_3) else (spec_CommandValid.j0 k true a0_0 a0_1 a0_2 a0_3)))
theorem spec_CommandValid.mono_l : ∀ k, (∀ y0 y1 y2 y3 y4, LeO (spec_CommandValid.j0 k y0 y1 y2 y3 y4) (spec_CommandValid.j0 (k + 1) y0 y1 y2 y3 y4)) ∧ (∀ y0 y1 y2 y3 y4 y5, LeO (spec_CommandValid.j1 k y0 y1 y2 y3 y4 y5) (spec_CommandValid.j1 (k + 1) y0 y1 y2 y3 y4 y5))
 | 0 => ⟨fun _ _ _ _ _ r h => by simp [spec_CommandValid.j0] at h, fun _ _ _ _ _ _ r h => by simp [spec_CommandValid.j1] at h⟩
 | k + 1 => by
  obtain ⟨ih0, ih1⟩ := spec_CommandValid.mono_l k
  refine ⟨?_, ?_⟩
  ·
   intro y0 y1 y2 y3 y4
   unfold spec_CommandValid.j0
   repeat' first
   | (with_reducible exact ih0 _ _ _ _ _)
   | (with_reducible exact ih1 _ _ _ _ _ _)
   | (with_reducible exact spec_KeyValid.mono _ _)
   | (with_reducible exact LeO.refl _)
   | (with_reducible exact LeO.none _)
   | (with_reducible refine LeO.ite ?_ ?_)
   | (with_reducible refine LeO.bind ?_ (fun _ => ?_))
   | exact ih0 _ _ _ _ _
   | exact ih1 _ _ _ _ _ _
   | exact spec_KeyValid.mono _ _
   | exact LeO.none _
   | refine LeO.ite ?_ ?_
   | refine LeO.bind ?_ (fun _ => ?_)
  ·
   intro y0 y1 y2 y3 y4 y5
   unfold spec_CommandValid.j1
   repeat' first
   | (with_reducible exact ih0 _ _ _ _ _)
   | (with_reducible exact ih1 _ _ _ _ _ _)
   | (with_reducible exact spec_KeyValid.mono _ _)
   | (with_reducible exact LeO.refl _)
   | (with_reducible exact LeO.none _)
   | (with_reducible refine LeO.ite ?_ ?_)
   | (with_reducible refine LeO.bind ?_ (fun _ => ?_))
   | exact ih0 _ _ _ _ _
   | exact ih1 _ _ _ _ _ _
   | exact spec_KeyValid.mono _ _
   | exact LeO.none _
   | refine LeO.ite ?_ ?_
   | refine LeO.bind ?_ (fun _ => ?_)
theorem spec_CommandValid.mono : ∀ a0 a1 a2 a3 k, LeO (spec_CommandValid.f k a0 a1 a2 a3) (spec_CommandValid.f (k + 1) a0 a1 a2 a3) := by
 intro a0 a1 a2 a3 k
 obtain ⟨ih0, ih1⟩ := spec_CommandValid.mono_l k
 unfold spec_CommandValid.f
 repeat' first
   | (with_reducible exact ih0 _ _ _ _ _)
   | (with_reducible exact ih1 _ _ _ _ _ _)
   | (with_reducible exact spec_KeyValid.mono _ _)
   | (with_reducible exact LeO.refl _)
   | (with_reducible exact LeO.none _)
   | (with_reducible refine LeO.ite ?_ ?_)
   | (with_reducible refine LeO.bind ?_ (fun _ => ?_))
   | exact ih0 _ _ _ _ _
   | exact ih1 _ _ _ _ _ _
   | exact spec_KeyValid.mono _ _
   | exact LeO.none _
   | refine LeO.ite ?_ ?_
   | refine LeO.bind ?_ (fun _ => ?_)
set_option maxHeartbeats 8000000 in
set_option maxRecDepth 100000 in
theorem spec_CommandValid.calls (k : Nat) (a0_0 : Int) (a0_1 : ByteArray) (a0_2 : Int) (a0_3 : Int) (r : Bool) (w : World) (h : spec_CommandValid.f k a0_0 a0_1 a0_2 a0_3 = some r) :
  Calls Try.prog 131 #[.agg #[.int .i64 a0_0, .string a0_1, .int .i64 a0_2, .int .i64 a0_3]] w fun e w' => e = .returned (.bool r) ∧ Below w.heap.size w w' := by
 have hu39 := Try.underlying39
 have HB := Aside0.mk (Below.refl w.heap.size w)
 have H : ((spec_KeyValid.f k a0_1).bind fun t385 => (if t385 = true then (spec_CommandValid.j0 k false a0_0 a0_1 a0_2 a0_3) else (if a0_0 = 5 then (spec_CommandValid.j0 k (a0_1.toList != ([] : List UInt8)) a0_0 a0_1 a0_2 a0_3) else (spec_CommandValid.j0 k true a0_0 a0_1 a0_2 a0_3)))) = some r := h
 clear h
 have HC2 := Aside0.mk H
 clear H
 go_enter Try.func131, Try.ntmps131
 go_upto_region 1 with (first | ((with_reducible refine gate_dst (N := 1) rfl ?_); refine box_event ?hg (N := 1) ?hd (cs := #[.int .i64 a0_0, .string a0_1, .int .i64 a0_2, .int .i64 a0_3]) (t := 39) ?hr ?_; (case hd => rfl); (case hg => rfl); (case hr => first | (go_simp; done) | (go_simp; rfl)); intro gb384 hg w3 hbox hb; have n0_ := Aside0.mk (below_step (bz) hb); have n1_ := Aside0.mk (hbox); have n2_ : Aside0 (w.heap.size ≤ gb384) := bsg hg; have n3_ : Aside0 (w.heap.size ≤ gb384) := bsg hg; clear HB; have HB := n0_; have BK384 := n1_; have GW384 := n2_; have GE384 := n3_; clear n0_ n1_ n2_ n3_; clear hb hbox hg))
 (try simp only [Act.put, List.setIfInBounds_toArray, List.set_cons_zero, List.set_cons_succ])
 go_cut [16] (fun v16 wc => ∃ (kq : Nat) (x16_1 : Bool), v16 = .bool x16_1 ∧ Aside0 (spec_CommandValid.j0 kq x16_1 a0_0 a0_1 a0_2 a0_3 = some r) ∧ Aside0 (kq ≤ k) ∧ Aside0 (wc.heap[gb384]? = some (.cells #[.int .i64 a0_0, .string a0_1, .int .i64 a0_2, .int .i64 a0_3] 39 (0, 0))) ∧ Aside0 (Below w.heap.size w wc))
 case first =>
  have H := HC2.out
  clear HC2
  replace H := Option.bind_eq_some_iff.mp H
  obtain ⟨t385, A40, H⟩ := H
  try dsimp only at H
  have A4 := Aside0.mk A40
  clear A40
  by_cases c5 : t385 = true
  ·
   subst c5
   rw [if_pos rfl] at H
   have H' := Aside0.mk H
   clear H
   have hcz6_0 : w3.cell? ⟨gb384, 0, none⟩ = some (.int .i64 a0_0) := (blk_cell BK384.out 0).trans rfl
   have hcz6_1 : w3.cell? ⟨gb384, 1, none⟩ = some (.string a0_1) := (blk_cell BK384.out 1).trans rfl
   have hcz6_2 : w3.cell? ⟨gb384, 2, none⟩ = some (.int .i64 a0_2) := (blk_cell BK384.out 2).trans rfl
   have hcz6_3 : w3.cell? ⟨gb384, 3, none⟩ = some (.int .i64 a0_3) := (blk_cell BK384.out 3).trans rfl
   have hfz6_0 := blk_frozen BK384.out 0
   have hfz6_1 := blk_frozen BK384.out 1
   have hfz6_2 := blk_frozen BK384.out 2
   have hfz6_3 := blk_frozen BK384.out 3
   go_wp2_with (first | ((with_reducible refine gate_callee (f := 76) rfl ?_); refine goesL_ (some 5) rfl rfl Try.func76 (by kernel_rfl) rfl #[.string a0_1] rfl (by (try simp only [List.map_toArray, List.map_cons, List.map_nil]); first | done | rfl | (simp only [List.length_drop, List.length_take]; rfl)) ?_; (with_reducible refine (spec_KeyValid.calls k a0_1 true _ A4.out).mono ?_); rintro e w' ⟨rfl, ⟨nd, rfl⟩⟩; refine ⟨_, rfl, ?_⟩))
   go_meet
   case rel => exact ⟨_, (false), (by first | rfl | (simp; done) | exact congrArg Value.bool (ne_nil_b _) | exact congrArg Value.bool (eq_nil_b _) | (simp [*]; done)), H', ⟨by first | omega | exact Nat.le_refl _⟩, ⟨by (with_reducible repeat (first | refine blk_drewN ?_ _ | refine blk_drew ?_ | refine blk_alloc ?_ _)); exact BK384.out⟩, ⟨bz⟩⟩
  ·
   replace c5 := Bool.eq_false_iff.mpr c5
   subst c5
   rw [if_neg (show ¬ (false = true) by decide)] at H
   by_cases c7 : a0_0 = 5
   ·
    rw [if_pos c7] at H
    have c7b0 : (a0_0 == 5) = true := beq_iff_eq.mpr c7
    have c7b1 : (a0_0 != 5) = false := bne_eq_false_iff_eq.mpr c7
    clear c7
    (first | rw [c7b0] | (simp only [i64_w, i32_w]; rw [c7b0]) | skip)
    have H' := Aside0.mk H
    clear H
    have hcz8_0 : w3.cell? ⟨gb384, 0, none⟩ = some (.int .i64 a0_0) := (blk_cell BK384.out 0).trans rfl
    have hcz8_1 : w3.cell? ⟨gb384, 1, none⟩ = some (.string a0_1) := (blk_cell BK384.out 1).trans rfl
    have hcz8_2 : w3.cell? ⟨gb384, 2, none⟩ = some (.int .i64 a0_2) := (blk_cell BK384.out 2).trans rfl
    have hcz8_3 : w3.cell? ⟨gb384, 3, none⟩ = some (.int .i64 a0_3) := (blk_cell BK384.out 3).trans rfl
    have hfz8_0 := blk_frozen BK384.out 0
    have hfz8_1 := blk_frozen BK384.out 1
    have hfz8_2 := blk_frozen BK384.out 2
    have hfz8_3 := blk_frozen BK384.out 3
    go_wp2_with (first | ((with_reducible refine gate_callee (f := 76) rfl ?_); refine goesL_ (some 5) rfl rfl Try.func76 (by kernel_rfl) rfl #[.string a0_1] rfl (by (try simp only [List.map_toArray, List.map_cons, List.map_nil]); first | done | rfl | (simp only [List.length_drop, List.length_take]; rfl)) ?_; (with_reducible refine (spec_KeyValid.calls k a0_1 false _ A4.out).mono ?_); rintro e w' ⟨rfl, ⟨nd, rfl⟩⟩; refine ⟨_, rfl, ?_⟩))
    go_meet
    case rel => exact ⟨_, ((a0_1.toList != ([] : List UInt8))), (by first | rfl | (simp; done) | exact congrArg Value.bool (ne_nil_b _) | exact congrArg Value.bool (eq_nil_b _) | (simp [*]; done)), H', ⟨by first | omega | exact Nat.le_refl _⟩, ⟨by (with_reducible repeat (first | refine blk_drewN ?_ _ | refine blk_drew ?_ | refine blk_alloc ?_ _)); exact BK384.out⟩, ⟨bz⟩⟩
   ·
    rw [if_neg c7] at H
    have c7b0 : (a0_0 == 5) = false := beq_eq_false_iff_ne.mpr c7
    have c7b1 : (a0_0 != 5) = true := bne_iff_ne.mpr c7
    (first | rw [c7b0] | (simp only [i64_w, i32_w]; rw [c7b0]) | skip)
    have H' := Aside0.mk H
    clear H
    have hcz9_0 : w3.cell? ⟨gb384, 0, none⟩ = some (.int .i64 a0_0) := (blk_cell BK384.out 0).trans rfl
    have hcz9_1 : w3.cell? ⟨gb384, 1, none⟩ = some (.string a0_1) := (blk_cell BK384.out 1).trans rfl
    have hcz9_2 : w3.cell? ⟨gb384, 2, none⟩ = some (.int .i64 a0_2) := (blk_cell BK384.out 2).trans rfl
    have hcz9_3 : w3.cell? ⟨gb384, 3, none⟩ = some (.int .i64 a0_3) := (blk_cell BK384.out 3).trans rfl
    have hfz9_0 := blk_frozen BK384.out 0
    have hfz9_1 := blk_frozen BK384.out 1
    have hfz9_2 := blk_frozen BK384.out 2
    have hfz9_3 := blk_frozen BK384.out 3
    go_wp2_with (first | ((with_reducible refine gate_callee (f := 76) rfl ?_); refine goesL_ (some 5) rfl rfl Try.func76 (by kernel_rfl) rfl #[.string a0_1] rfl (by (try simp only [List.map_toArray, List.map_cons, List.map_nil]); first | done | rfl | (simp only [List.length_drop, List.length_take]; rfl)) ?_; (with_reducible refine (spec_KeyValid.calls k a0_1 false _ A4.out).mono ?_); rintro e w' ⟨rfl, ⟨nd, rfl⟩⟩; refine ⟨_, rfl, ?_⟩))
    go_meet
    case rel => exact ⟨_, (true), (by first | rfl | (simp; done) | exact congrArg Value.bool (ne_nil_b _) | exact congrArg Value.bool (eq_nil_b _) | (simp [*]; done)), H', ⟨by first | omega | exact Nat.le_refl _⟩, ⟨by (with_reducible repeat (first | refine blk_drewN ?_ _ | refine blk_drew ?_ | refine blk_alloc ?_ _)); exact BK384.out⟩, ⟨bz⟩⟩
 case rest =>
  clear HC2
  try clear c1
  try clear p2
  try clear c5
  try clear c7
  try clear c7b0
  try clear c7b1
  try clear hcz6_0
  try clear hcz6_1
  try clear hcz6_2
  try clear hcz6_3
  try clear hcz8_0
  try clear hcz8_1
  try clear hcz8_2
  try clear hcz8_3
  try clear hcz9_0
  try clear hcz9_1
  try clear hcz9_2
  try clear hcz9_3
  try clear hfz6_0
  try clear hfz6_1
  try clear hfz6_2
  try clear hfz6_3
  try clear hfz8_0
  try clear hfz8_1
  try clear hfz8_2
  try clear hfz8_3
  try clear hfz9_0
  try clear hfz9_1
  try clear hfz9_2
  try clear hfz9_3
  obtain ⟨kq, x16_1, rfl, HA, HJ1, BK384, HB⟩ := hcut
  cases kq with
  | zero => exact absurd HA.out (by simp [spec_CommandValid.j0])
  | succ kj1 =>
   have H := HA.out
   clear HA
   simp only [spec_CommandValid.j0] at H
   by_cases c10 : x16_1 = true
   ·
    subst c10
    rw [if_pos rfl] at H
    obtain rfl := Option.some.inj H
    go_wp2
    go_ret
    exact ⟨by first | rfl | (simp only [u8w, w64m]; rfl) | (simp [errW_none, errW_some] <;> rfl) | (simp [*, errW_none, errW_some] <;> rfl), bz⟩
   ·
    replace c10 := Bool.eq_false_iff.mpr c10
    subst c10
    rw [if_neg (show ¬ (false = true) by decide)] at H
    have HC11 := Aside0.mk H
    clear H
    have hcz12_0 : wc.cell? ⟨gb384, 0, none⟩ = some (.int .i64 a0_0) := (blk_cell BK384.out 0).trans rfl
    have hcz12_1 : wc.cell? ⟨gb384, 1, none⟩ = some (.string a0_1) := (blk_cell BK384.out 1).trans rfl
    have hcz12_2 : wc.cell? ⟨gb384, 2, none⟩ = some (.int .i64 a0_2) := (blk_cell BK384.out 2).trans rfl
    have hcz12_3 : wc.cell? ⟨gb384, 3, none⟩ = some (.int .i64 a0_3) := (blk_cell BK384.out 3).trans rfl
    have hfz12_0 := blk_frozen BK384.out 0
    have hfz12_1 := blk_frozen BK384.out 1
    have hfz12_2 := blk_frozen BK384.out 2
    have hfz12_3 := blk_frozen BK384.out 3
    go_upto_if 19 with (fail)
    go_cut [19] (fun v19 wc => ∃ (kq : Nat) (x19_10 : Bool), v19 = .bool x19_10 ∧ Aside0 (spec_CommandValid.j1 kq a0_0 x19_10 a0_0 a0_1 a0_2 a0_3 = some r) ∧ Aside0 (kq ≤ kj1) ∧ Aside0 (wc.heap[gb384]? = some (.cells #[.int .i64 a0_0, .string a0_1, .int .i64 a0_2, .int .i64 a0_3] 39 (0, 0))) ∧ Aside0 (Below w.heap.size w wc))
    case first =>
     have H := HC11.out
     clear HC11
     by_cases c13 : a0_0 = 1
     ·
      rw [if_pos c13] at H
      have c13b0 : (a0_0 == 1) = true := beq_iff_eq.mpr c13
      have c13b1 : (a0_0 != 1) = false := bne_eq_false_iff_eq.mpr c13
      clear c13
      (first | rw [c13b0] | (simp only [i64_w, i32_w]; rw [c13b0]) | skip)
      have H' := Aside0.mk H
      clear H
      go_wp2
      go_meet
      case rel => exact ⟨_, ((a0_0 == 1)), (by first | rfl | (simp; done) | exact congrArg Value.bool (ne_nil_b _) | exact congrArg Value.bool (eq_nil_b _) | (simp [*]; done)), H', ⟨by have := HJ1.out; first | omega | exact Nat.le_refl _⟩, ⟨by (with_reducible repeat (first | refine blk_drewN ?_ _ | refine blk_drew ?_ | refine blk_alloc ?_ _)); exact BK384.out⟩, ⟨bz⟩⟩
     ·
      rw [if_neg c13] at H
      have c13b0 : (a0_0 == 1) = false := beq_eq_false_iff_ne.mpr c13
      have c13b1 : (a0_0 != 1) = true := bne_iff_ne.mpr c13
      (first | rw [c13b0] | (simp only [i64_w, i32_w]; rw [c13b0]) | skip)
      by_cases c14 : a0_0 = 3
      ·
       rw [if_pos c14] at H
       have c14b0 : (a0_0 == 3) = true := beq_iff_eq.mpr c14
       have c14b1 : (a0_0 != 3) = false := bne_eq_false_iff_eq.mpr c14
       clear c14
       have H' := Aside0.mk H
       clear H
       go_wp2
       go_meet
       case rel => exact ⟨_, ((a0_0 == 3)), (by first | rfl | (simp; done) | exact congrArg Value.bool (ne_nil_b _) | exact congrArg Value.bool (eq_nil_b _) | (simp [*]; done)), H', ⟨by have := HJ1.out; first | omega | exact Nat.le_refl _⟩, ⟨by (with_reducible repeat (first | refine blk_drewN ?_ _ | refine blk_drew ?_ | refine blk_alloc ?_ _)); exact BK384.out⟩, ⟨bz⟩⟩
      ·
       rw [if_neg c14] at H
       have c14b0 : (a0_0 == 3) = false := beq_eq_false_iff_ne.mpr c14
       have c14b1 : (a0_0 != 3) = true := bne_iff_ne.mpr c14
       have H' := Aside0.mk H
       clear H
       go_wp2
       go_meet
       case rel => exact ⟨_, ((a0_0 == 5)), (by first | rfl | (simp; done) | exact congrArg Value.bool (ne_nil_b _) | exact congrArg Value.bool (eq_nil_b _) | (simp [*]; done)), H', ⟨by have := HJ1.out; first | omega | exact Nat.le_refl _⟩, ⟨by (with_reducible repeat (first | refine blk_drewN ?_ _ | refine blk_drew ?_ | refine blk_alloc ?_ _)); exact BK384.out⟩, ⟨bz⟩⟩
    case rest =>
     clear HC11
     try clear c1
     try clear p2
     try clear c5
     try clear c7
     try clear c7b0
     try clear c7b1
     try clear c10
     try clear c13
     try clear c13b0
     try clear c13b1
     try clear c14
     try clear c14b0
     try clear c14b1
     try clear hcz12_0
     try clear hcz12_1
     try clear hcz12_2
     try clear hcz12_3
     try clear hcz6_0
     try clear hcz6_1
     try clear hcz6_2
     try clear hcz6_3
     try clear hcz8_0
     try clear hcz8_1
     try clear hcz8_2
     try clear hcz8_3
     try clear hcz9_0
     try clear hcz9_1
     try clear hcz9_2
     try clear hcz9_3
     try clear hfz12_0
     try clear hfz12_1
     try clear hfz12_2
     try clear hfz12_3
     try clear hfz6_0
     try clear hfz6_1
     try clear hfz6_2
     try clear hfz6_3
     try clear hfz8_0
     try clear hfz8_1
     try clear hfz8_2
     try clear hfz8_3
     try clear hfz9_0
     try clear hfz9_1
     try clear hfz9_2
     try clear hfz9_3
     try clear p2
     obtain ⟨kq, x19_10, rfl, HA, HJ10, BK384, HB⟩ := hcut
     cases kq with
     | zero => exact absurd HA.out (by simp [spec_CommandValid.j1])
     | succ kj10 =>
      have H := HA.out
      clear HA
      simp only [spec_CommandValid.j1] at H
      by_cases c15 : x19_10 = true
      ·
       subst c15
       rw [if_pos rfl] at H
       by_cases c16 : a0_2 = 0
       ·
        rw [if_pos c16] at H
        have c16b0 : (a0_2 == 0) = true := beq_iff_eq.mpr c16
        have c16b1 : (a0_2 != 0) = false := bne_eq_false_iff_eq.mpr c16
        clear c16
        obtain rfl := Option.some.inj H
        have hcz17_0 : wc.cell? ⟨gb384, 0, none⟩ = some (.int .i64 a0_0) := (blk_cell BK384.out 0).trans rfl
        have hcz17_1 : wc.cell? ⟨gb384, 1, none⟩ = some (.string a0_1) := (blk_cell BK384.out 1).trans rfl
        have hcz17_2 : wc.cell? ⟨gb384, 2, none⟩ = some (.int .i64 a0_2) := (blk_cell BK384.out 2).trans rfl
        have hcz17_3 : wc.cell? ⟨gb384, 3, none⟩ = some (.int .i64 a0_3) := (blk_cell BK384.out 3).trans rfl
        have hfz17_0 := blk_frozen BK384.out 0
        have hfz17_1 := blk_frozen BK384.out 1
        have hfz17_2 := blk_frozen BK384.out 2
        have hfz17_3 := blk_frozen BK384.out 3
        go_wp2
        go_ret
        exact ⟨by first | rfl | (simp only [u8w, w64m]; rfl) | (simp [errW_none, errW_some] <;> rfl) | (simp [*, errW_none, errW_some] <;> rfl), bz⟩
       ·
        rw [if_neg c16] at H
        have c16b0 : (a0_2 == 0) = false := beq_eq_false_iff_ne.mpr c16
        have c16b1 : (a0_2 != 0) = true := bne_iff_ne.mpr c16
        obtain rfl := Option.some.inj H
        have hcz18_0 : wc.cell? ⟨gb384, 0, none⟩ = some (.int .i64 a0_0) := (blk_cell BK384.out 0).trans rfl
        have hcz18_1 : wc.cell? ⟨gb384, 1, none⟩ = some (.string a0_1) := (blk_cell BK384.out 1).trans rfl
        have hcz18_2 : wc.cell? ⟨gb384, 2, none⟩ = some (.int .i64 a0_2) := (blk_cell BK384.out 2).trans rfl
        have hcz18_3 : wc.cell? ⟨gb384, 3, none⟩ = some (.int .i64 a0_3) := (blk_cell BK384.out 3).trans rfl
        have hfz18_0 := blk_frozen BK384.out 0
        have hfz18_1 := blk_frozen BK384.out 1
        have hfz18_2 := blk_frozen BK384.out 2
        have hfz18_3 := blk_frozen BK384.out 3
        go_wp2
        go_ret
        exact ⟨by first | rfl | (simp only [u8w, w64m]; rfl) | (simp [errW_none, errW_some] <;> rfl) | (simp [*, errW_none, errW_some] <;> rfl), bz⟩
      ·
       replace c15 := Bool.eq_false_iff.mpr c15
       subst c15
       rw [if_neg (show ¬ (false = true) by decide)] at H
       by_cases c19 : a0_0 = 2
       ·
        rw [if_pos c19] at H
        have c19b0 : (a0_0 == 2) = true := beq_iff_eq.mpr c19
        have c19b1 : (a0_0 != 2) = false := bne_eq_false_iff_eq.mpr c19
        clear c19
        replace H := Option.bind_eq_some_iff.mp H
        obtain ⟨t386, A200, H⟩ := H
        try dsimp only at H
        have A20 := Aside0.mk A200
        clear A200
        by_cases c21 : t386 = true
        ·
         subst c21
         rw [if_pos rfl] at H
         obtain rfl := Option.some.inj H
         have hcz22_0 : wc.cell? ⟨gb384, 0, none⟩ = some (.int .i64 a0_0) := (blk_cell BK384.out 0).trans rfl
         have hcz22_1 : wc.cell? ⟨gb384, 1, none⟩ = some (.string a0_1) := (blk_cell BK384.out 1).trans rfl
         have hcz22_2 : wc.cell? ⟨gb384, 2, none⟩ = some (.int .i64 a0_2) := (blk_cell BK384.out 2).trans rfl
         have hcz22_3 : wc.cell? ⟨gb384, 3, none⟩ = some (.int .i64 a0_3) := (blk_cell BK384.out 3).trans rfl
         have hfz22_0 := blk_frozen BK384.out 0
         have hfz22_1 := blk_frozen BK384.out 1
         have hfz22_2 := blk_frozen BK384.out 2
         have hfz22_3 := blk_frozen BK384.out 3
         go_wp2_with (first | ((with_reducible refine gate_callee (f := 89) rfl ?_); refine goesL_ (some 35) rfl rfl Try.func89 (by kernel_rfl) rfl #[.int .i64 a0_2, .int .i64 0, .int .i64 999] rfl (by (try simp only [List.map_toArray, List.map_cons, List.map_nil]); first | done | rfl | (simp only [List.length_drop, List.length_take]; rfl)) ?_; (with_reducible refine (spec_l1In.calls a0_2 0 999 true _ A20.out).mono ?_); rintro e w' ⟨rfl, ⟨nd, rfl⟩⟩; refine ⟨_, rfl, ?_⟩))
         go_ret
         exact ⟨by first | rfl | (simp only [u8w, w64m]; rfl) | (simp [errW_none, errW_some] <;> rfl) | (simp [*, errW_none, errW_some] <;> rfl), bz⟩
        ·
         replace c21 := Bool.eq_false_iff.mpr c21
         subst c21
         rw [if_neg (show ¬ (false = true) by decide)] at H
         obtain rfl := Option.some.inj H
         have hcz23_0 : wc.cell? ⟨gb384, 0, none⟩ = some (.int .i64 a0_0) := (blk_cell BK384.out 0).trans rfl
         have hcz23_1 : wc.cell? ⟨gb384, 1, none⟩ = some (.string a0_1) := (blk_cell BK384.out 1).trans rfl
         have hcz23_2 : wc.cell? ⟨gb384, 2, none⟩ = some (.int .i64 a0_2) := (blk_cell BK384.out 2).trans rfl
         have hcz23_3 : wc.cell? ⟨gb384, 3, none⟩ = some (.int .i64 a0_3) := (blk_cell BK384.out 3).trans rfl
         have hfz23_0 := blk_frozen BK384.out 0
         have hfz23_1 := blk_frozen BK384.out 1
         have hfz23_2 := blk_frozen BK384.out 2
         have hfz23_3 := blk_frozen BK384.out 3
         go_wp2_with (first | ((with_reducible refine gate_callee (f := 89) rfl ?_); refine goesL_ (some 35) rfl rfl Try.func89 (by kernel_rfl) rfl #[.int .i64 a0_2, .int .i64 0, .int .i64 999] rfl (by (try simp only [List.map_toArray, List.map_cons, List.map_nil]); first | done | rfl | (simp only [List.length_drop, List.length_take]; rfl)) ?_; (with_reducible refine (spec_l1In.calls a0_2 0 999 false _ A20.out).mono ?_); rintro e w' ⟨rfl, ⟨nd, rfl⟩⟩; refine ⟨_, rfl, ?_⟩))
         go_ret
         exact ⟨by first | rfl | (simp only [u8w, w64m]; rfl) | (simp [errW_none, errW_some] <;> rfl) | (simp [*, errW_none, errW_some] <;> rfl), bz⟩
       ·
        rw [if_neg c19] at H
        have c19b0 : (a0_0 == 2) = false := beq_eq_false_iff_ne.mpr c19
        have c19b1 : (a0_0 != 2) = true := bne_iff_ne.mpr c19
        by_cases c24 : a0_0 = 4
        ·
         rw [if_pos c24] at H
         have c24b0 : (a0_0 == 4) = true := beq_iff_eq.mpr c24
         have c24b1 : (a0_0 != 4) = false := bne_eq_false_iff_eq.mpr c24
         clear c24
         replace H := Option.bind_eq_some_iff.mp H
         obtain ⟨t387, A250, H⟩ := H
         try dsimp only at H
         have A25 := Aside0.mk A250
         clear A250
         by_cases c26 : t387 = true
         ·
          subst c26
          rw [if_pos rfl] at H
          replace H := Option.bind_eq_some_iff.mp H
          obtain ⟨t388, A270, H⟩ := H
          try dsimp only at H
          have A27 := Aside0.mk A270
          clear A270
          obtain rfl := Option.some.inj H
          have hcz28_0 : wc.cell? ⟨gb384, 0, none⟩ = some (.int .i64 a0_0) := (blk_cell BK384.out 0).trans rfl
          have hcz28_1 : wc.cell? ⟨gb384, 1, none⟩ = some (.string a0_1) := (blk_cell BK384.out 1).trans rfl
          have hcz28_2 : wc.cell? ⟨gb384, 2, none⟩ = some (.int .i64 a0_2) := (blk_cell BK384.out 2).trans rfl
          have hcz28_3 : wc.cell? ⟨gb384, 3, none⟩ = some (.int .i64 a0_3) := (blk_cell BK384.out 3).trans rfl
          have hfz28_0 := blk_frozen BK384.out 0
          have hfz28_1 := blk_frozen BK384.out 1
          have hfz28_2 := blk_frozen BK384.out 2
          have hfz28_3 := blk_frozen BK384.out 3
          go_wp2_with (first | ((with_reducible refine gate_callee (f := 89) rfl ?_); refine goesL_ (some 45) rfl rfl Try.func89 (by kernel_rfl) rfl #[.int .i64 a0_2, .int .i64 0, .int .i64 999] rfl (by (try simp only [List.map_toArray, List.map_cons, List.map_nil]); first | done | rfl | (simp only [List.length_drop, List.length_take]; rfl)) ?_; (with_reducible refine (spec_l1In.calls a0_2 0 999 true _ A25.out).mono ?_); rintro e w' ⟨rfl, ⟨nd, rfl⟩⟩; refine ⟨_, rfl, ?_⟩) | (go_at_call 89; (with_reducible refine (spec_l1In.calls a0_3 (-1) 999 t388 _ A27.out).mono ?_); rintro e w' ⟨rfl, ⟨nd, rfl⟩⟩))
          go_ret
          exact ⟨by first | rfl | (simp only [u8w, w64m]; rfl) | (simp [errW_none, errW_some] <;> rfl) | (simp [*, errW_none, errW_some] <;> rfl), bz⟩
         ·
          replace c26 := Bool.eq_false_iff.mpr c26
          subst c26
          rw [if_neg (show ¬ (false = true) by decide)] at H
          obtain rfl := Option.some.inj H
          have hcz29_0 : wc.cell? ⟨gb384, 0, none⟩ = some (.int .i64 a0_0) := (blk_cell BK384.out 0).trans rfl
          have hcz29_1 : wc.cell? ⟨gb384, 1, none⟩ = some (.string a0_1) := (blk_cell BK384.out 1).trans rfl
          have hcz29_2 : wc.cell? ⟨gb384, 2, none⟩ = some (.int .i64 a0_2) := (blk_cell BK384.out 2).trans rfl
          have hcz29_3 : wc.cell? ⟨gb384, 3, none⟩ = some (.int .i64 a0_3) := (blk_cell BK384.out 3).trans rfl
          have hfz29_0 := blk_frozen BK384.out 0
          have hfz29_1 := blk_frozen BK384.out 1
          have hfz29_2 := blk_frozen BK384.out 2
          have hfz29_3 := blk_frozen BK384.out 3
          go_wp2_with (first | ((with_reducible refine gate_callee (f := 89) rfl ?_); refine goesL_ (some 45) rfl rfl Try.func89 (by kernel_rfl) rfl #[.int .i64 a0_2, .int .i64 0, .int .i64 999] rfl (by (try simp only [List.map_toArray, List.map_cons, List.map_nil]); first | done | rfl | (simp only [List.length_drop, List.length_take]; rfl)) ?_; (with_reducible refine (spec_l1In.calls a0_2 0 999 false _ A25.out).mono ?_); rintro e w' ⟨rfl, ⟨nd, rfl⟩⟩; refine ⟨_, rfl, ?_⟩))
          go_ret
          exact ⟨by first | rfl | (simp only [u8w, w64m]; rfl) | (simp [errW_none, errW_some] <;> rfl) | (simp [*, errW_none, errW_some] <;> rfl), bz⟩
        ·
         rw [if_neg c24] at H
         have c24b0 : (a0_0 == 4) = false := beq_eq_false_iff_ne.mpr c24
         have c24b1 : (a0_0 != 4) = true := bne_iff_ne.mpr c24
         obtain rfl := Option.some.inj H
         go_wp2
         go_ret
         exact ⟨by first | rfl | (simp only [u8w, w64m]; rfl) | (simp [errW_none, errW_some] <;> rfl) | (simp [*, errW_none, errW_some] <;> rfl), bz⟩

/-! ### spec_l25Wish: function 90 -/
def spec_l25Wish.f (k : Nat) (a0_0 : Int) (a0_1 : ByteArray) (a0_2 : Int) (a0_3 : Int) : Option (Bool) := (spec_CommandValid.f k a0_0 a0_1 a0_2 a0_3).bind fun t390 => (if t390 = true then (some (a0_0 != 5)) else (some false))
theorem spec_l25Wish.mono : ∀ a0 a1 a2 a3 k, LeO (spec_l25Wish.f k a0 a1 a2 a3) (spec_l25Wish.f (k + 1) a0 a1 a2 a3) := by
 intro a0 a1 a2 a3 k
 unfold spec_l25Wish.f
 repeat' first
   | (with_reducible exact spec_CommandValid.mono _ _ _ _ _)
   | (with_reducible exact LeO.refl _)
   | (with_reducible exact LeO.none _)
   | (with_reducible refine LeO.ite ?_ ?_)
   | (with_reducible refine LeO.bind ?_ (fun _ => ?_))
   | exact spec_CommandValid.mono _ _ _ _ _
   | exact LeO.none _
   | refine LeO.ite ?_ ?_
   | refine LeO.bind ?_ (fun _ => ?_)
set_option maxHeartbeats 8000000 in
set_option maxRecDepth 100000 in
theorem spec_l25Wish.calls (k : Nat) (a0_0 : Int) (a0_1 : ByteArray) (a0_2 : Int) (a0_3 : Int) (r : Bool) (w : World) (h : spec_l25Wish.f k a0_0 a0_1 a0_2 a0_3 = some r) :
  Calls Try.prog 90 #[.agg #[.int .i64 a0_0, .string a0_1, .int .i64 a0_2, .int .i64 a0_3]] w fun e w' => e = .returned (.bool r) ∧ Below w.heap.size w w' := by
 have hu39 := Try.underlying39
 have HB := Aside0.mk (Below.refl w.heap.size w)
 have H : ((spec_CommandValid.f k a0_0 a0_1 a0_2 a0_3).bind fun t390 => (if t390 = true then (some (a0_0 != 5)) else (some false))) = some r := h
 clear h
 replace H := Option.bind_eq_some_iff.mp H
 obtain ⟨t390, A20, H⟩ := H
 try dsimp only at H
 have A2 := Aside0.mk A20
 clear A20
 by_cases c3 : t390 = true
 ·
  subst c3
  rw [if_pos rfl] at H
  obtain rfl := Option.some.inj H
  go_enter Try.func90, Try.ntmps90
  go_wp2_with (first | ((with_reducible refine gate_dst (N := 1) rfl ?_); refine box_event ?hg (N := 1) ?hd (cs := #[.int .i64 a0_0, .string a0_1, .int .i64 a0_2, .int .i64 a0_3]) (t := 39) ?hr ?_; (case hd => rfl); (case hg => rfl); (case hr => first | (go_simp; done) | (go_simp; rfl)); intro gb389 hg w4 hbox hb; have n0_ := Aside0.mk (below_step (bz) hb); have n1_ := Aside0.mk (hbox); have n2_ : Aside0 (w.heap.size ≤ gb389) := bsg hg; have n3_ : Aside0 (w.heap.size ≤ gb389) := bsg hg; clear HB; have HB := n0_; have BK389 := n1_; have GW389 := n2_; have GE389 := n3_; clear n0_ n1_ n2_ n3_; clear hb hbox hg; have hcz5_0 : w4.cell? ⟨gb389, 0, none⟩ = some (.int .i64 a0_0) := (blk_cell BK389.out 0).trans rfl; have hcz5_1 : w4.cell? ⟨gb389, 1, none⟩ = some (.string a0_1) := (blk_cell BK389.out 1).trans rfl; have hcz5_2 : w4.cell? ⟨gb389, 2, none⟩ = some (.int .i64 a0_2) := (blk_cell BK389.out 2).trans rfl; have hcz5_3 : w4.cell? ⟨gb389, 3, none⟩ = some (.int .i64 a0_3) := (blk_cell BK389.out 3).trans rfl; have hfz5_0 := blk_frozen BK389.out 0; have hfz5_1 := blk_frozen BK389.out 1; have hfz5_2 := blk_frozen BK389.out 2; have hfz5_3 := blk_frozen BK389.out 3) | ((with_reducible refine gate_callee (f := 131) rfl ?_); refine goesL_ (some 4) rfl rfl Try.func131 (by kernel_rfl) rfl #[.agg #[.int .i64 a0_0, .string a0_1, .int .i64 a0_2, .int .i64 a0_3]] rfl (by (try simp only [List.map_toArray, List.map_cons, List.map_nil]); first | done | rfl | (simp only [List.length_drop, List.length_take]; rfl)) ?_; (with_reducible refine (spec_CommandValid.calls k a0_0 a0_1 a0_2 a0_3 true _ A2.out).mono ?_); rintro e w6 ⟨rfl, hb⟩; refine ⟨_, rfl, ?_⟩; have n0_ := bkb BK389 hb; have n1_ := Aside0.mk (below_step (bz) hb); clear BK389; clear HB; have BK389 := n0_; have HB := n1_; clear n0_ n1_; (try clear hb); (try clear hb2); (try clear hk); (try clear hi); have hcz7_0 : w6.cell? ⟨gb389, 0, none⟩ = some (.int .i64 a0_0) := (blk_cell BK389.out 0).trans rfl; have hcz7_1 : w6.cell? ⟨gb389, 1, none⟩ = some (.string a0_1) := (blk_cell BK389.out 1).trans rfl; have hcz7_2 : w6.cell? ⟨gb389, 2, none⟩ = some (.int .i64 a0_2) := (blk_cell BK389.out 2).trans rfl; have hcz7_3 : w6.cell? ⟨gb389, 3, none⟩ = some (.int .i64 a0_3) := (blk_cell BK389.out 3).trans rfl; have hfz7_0 := blk_frozen BK389.out 0; have hfz7_1 := blk_frozen BK389.out 1; have hfz7_2 := blk_frozen BK389.out 2; have hfz7_3 := blk_frozen BK389.out 3))
  go_ret
  exact ⟨by first | rfl | (simp only [u8w, w64m]; rfl) | (simp [errW_none, errW_some] <;> rfl) | (simp [*, errW_none, errW_some] <;> rfl), bz⟩
 ·
  replace c3 := Bool.eq_false_iff.mpr c3
  subst c3
  rw [if_neg (show ¬ (false = true) by decide)] at H
  obtain rfl := Option.some.inj H
  go_enter Try.func90, Try.ntmps90
  go_wp2_with (first | ((with_reducible refine gate_dst (N := 1) rfl ?_); refine box_event ?hg (N := 1) ?hd (cs := #[.int .i64 a0_0, .string a0_1, .int .i64 a0_2, .int .i64 a0_3]) (t := 39) ?hr ?_; (case hd => rfl); (case hg => rfl); (case hr => first | (go_simp; done) | (go_simp; rfl)); intro gb389 hg w8 hbox hb; have n0_ := Aside0.mk (below_step (bz) hb); have n1_ := Aside0.mk (hbox); have n2_ : Aside0 (w.heap.size ≤ gb389) := bsg hg; have n3_ : Aside0 (w.heap.size ≤ gb389) := bsg hg; clear HB; have HB := n0_; have BK389 := n1_; have GW389 := n2_; have GE389 := n3_; clear n0_ n1_ n2_ n3_; clear hb hbox hg; have hcz9_0 : w8.cell? ⟨gb389, 0, none⟩ = some (.int .i64 a0_0) := (blk_cell BK389.out 0).trans rfl; have hcz9_1 : w8.cell? ⟨gb389, 1, none⟩ = some (.string a0_1) := (blk_cell BK389.out 1).trans rfl; have hcz9_2 : w8.cell? ⟨gb389, 2, none⟩ = some (.int .i64 a0_2) := (blk_cell BK389.out 2).trans rfl; have hcz9_3 : w8.cell? ⟨gb389, 3, none⟩ = some (.int .i64 a0_3) := (blk_cell BK389.out 3).trans rfl; have hfz9_0 := blk_frozen BK389.out 0; have hfz9_1 := blk_frozen BK389.out 1; have hfz9_2 := blk_frozen BK389.out 2; have hfz9_3 := blk_frozen BK389.out 3) | ((with_reducible refine gate_callee (f := 131) rfl ?_); refine goesL_ (some 4) rfl rfl Try.func131 (by kernel_rfl) rfl #[.agg #[.int .i64 a0_0, .string a0_1, .int .i64 a0_2, .int .i64 a0_3]] rfl (by (try simp only [List.map_toArray, List.map_cons, List.map_nil]); first | done | rfl | (simp only [List.length_drop, List.length_take]; rfl)) ?_; (with_reducible refine (spec_CommandValid.calls k a0_0 a0_1 a0_2 a0_3 false _ A2.out).mono ?_); rintro e w10 ⟨rfl, hb⟩; refine ⟨_, rfl, ?_⟩; have n0_ := bkb BK389 hb; have n1_ := Aside0.mk (below_step (bz) hb); clear BK389; clear HB; have BK389 := n0_; have HB := n1_; clear n0_ n1_; (try clear hb); (try clear hb2); (try clear hk); (try clear hi)))
  go_ret
  exact ⟨by first | rfl | (simp only [u8w, w64m]; rfl) | (simp [errW_none, errW_some] <;> rfl) | (simp [*, errW_none, errW_some] <;> rfl), bz⟩

/-! ### spec_CallerValid: function 25 -/
def spec_CallerValid.j0 : Nat → Bool → List (S35) → Int → Bool → Int → ByteArray → Int → Int → Int → Option (Bool)
 | 0, _, _, _, _, _, _, _, _, _ => none
 | k + 1, x12, x392000, x392001, x392002, x392003, x392004, x392005, x392006, x392007 => if x12 = true then (some false) else (if x392002 = true then (if x392001 ≥ 1 then ((spec_l25Wish.f k x392003 x392004 x392005 x392006).bind fun t394 => (if t394 = true then ((spec_l1In.f x392007 0 200).bind fun t395 => (some t395)) else (some false))) else (some false)) else (if (x392003 == 0 && (x392004.toList == ([] : List UInt8) && (x392005 == 0 && (x392006 == 0)))) = true then (some (x392007 == 0)) else (some false)))
def spec_CallerValid.f (k : Nat) (l0_0 : List (S35)) (a0_1 : Int) (a0_2 : Bool) (a0_3 : Int) (a0_4 : ByteArray) (a0_5 : Int) (a0_6 : Int) (a0_7 : Int) : Option (Bool) := (spec_CacheValid.f k l0_0).bind fun t392 => (if t392 = true then ((spec_l1In.f a0_1 0 999).bind fun t393 => (spec_CallerValid.j0 k (!t393) l0_0 a0_1 a0_2 a0_3 a0_4 a0_5 a0_6 a0_7)) else (spec_CallerValid.j0 k true l0_0 a0_1 a0_2 a0_3 a0_4 a0_5 a0_6 a0_7))
theorem spec_CallerValid.mono_l : ∀ k, (∀ y0 y1 y2 y3 y4 y5 y6 y7 y8, LeO (spec_CallerValid.j0 k y0 y1 y2 y3 y4 y5 y6 y7 y8) (spec_CallerValid.j0 (k + 1) y0 y1 y2 y3 y4 y5 y6 y7 y8))
 | 0 => fun _ _ _ _ _ _ _ _ _ r h => by simp [spec_CallerValid.j0] at h
 | k + 1 => by
  have ih0 := spec_CallerValid.mono_l k
  ·
   intro y0 y1 y2 y3 y4 y5 y6 y7 y8
   unfold spec_CallerValid.j0
   repeat' first
   | (with_reducible exact ih0 _ _ _ _ _ _ _ _ _)
   | (with_reducible exact spec_CacheValid.mono _ _)
   | (with_reducible exact spec_l25Wish.mono _ _ _ _ _)
   | (with_reducible exact LeO.refl _)
   | (with_reducible exact LeO.none _)
   | (with_reducible refine LeO.ite ?_ ?_)
   | (with_reducible refine LeO.bind ?_ (fun _ => ?_))
   | exact ih0 _ _ _ _ _ _ _ _ _
   | exact spec_CacheValid.mono _ _
   | exact spec_l25Wish.mono _ _ _ _ _
   | exact LeO.none _
   | refine LeO.ite ?_ ?_
   | refine LeO.bind ?_ (fun _ => ?_)
theorem spec_CallerValid.mono : ∀ a0 a1 a2 a3 a4 a5 a6 a7 k, LeO (spec_CallerValid.f k a0 a1 a2 a3 a4 a5 a6 a7) (spec_CallerValid.f (k + 1) a0 a1 a2 a3 a4 a5 a6 a7) := by
 intro a0 a1 a2 a3 a4 a5 a6 a7 k
 have ih0 := spec_CallerValid.mono_l k
 unfold spec_CallerValid.f
 repeat' first
   | (with_reducible exact ih0 _ _ _ _ _ _ _ _ _)
   | (with_reducible exact spec_CacheValid.mono _ _)
   | (with_reducible exact spec_l25Wish.mono _ _ _ _ _)
   | (with_reducible exact LeO.refl _)
   | (with_reducible exact LeO.none _)
   | (with_reducible refine LeO.ite ?_ ?_)
   | (with_reducible refine LeO.bind ?_ (fun _ => ?_))
   | exact ih0 _ _ _ _ _ _ _ _ _
   | exact spec_CacheValid.mono _ _
   | exact spec_l25Wish.mono _ _ _ _ _
   | exact LeO.none _
   | refine LeO.ite ?_ ?_
   | refine LeO.bind ?_ (fun _ => ?_)
set_option maxHeartbeats 8000000 in
set_option maxRecDepth 100000 in
theorem spec_CallerValid.calls (k : Nat) (A0_0 : Option Addr) (c0_0 : Nat) (l0_0 : List (S35)) (a0_1 : Int) (a0_2 : Bool) (a0_3 : Int) (a0_4 : ByteArray) (a0_5 : Int) (a0_6 : Int) (a0_7 : Int) (r : Bool) (w : World) (hr0_0 : Kd.C k35 w A0_0 l0_0.length l0_0) (hc0_0 : l0_0.length ≤ c0_0) (h : spec_CallerValid.f k l0_0 a0_1 a0_2 a0_3 a0_4 a0_5 a0_6 a0_7 = some r) :
  Calls Try.prog 25 #[.agg #[.slice A0_0 l0_0.length c0_0, .int .i64 a0_1, .bool a0_2, .int .i64 a0_3, .string a0_4, .int .i64 a0_5, .int .i64 a0_6, .int .i64 a0_7]] w fun e w' => e = .returned (.bool r) ∧ Below w.heap.size w w' := by
 have hu41 := Try.underlying41
 have hu39 := Try.underlying39
 have HR0_0 := Aside0.mk hr0_0
 have HC0_0 := Aside0.mk hc0_0
 clear hr0_0 hc0_0
 have HB := Aside0.mk (Below.refl w.heap.size w)
 have H : ((spec_CacheValid.f k l0_0).bind fun t392 => (if t392 = true then ((spec_l1In.f a0_1 0 999).bind fun t393 => (spec_CallerValid.j0 k (!t393) l0_0 a0_1 a0_2 a0_3 a0_4 a0_5 a0_6 a0_7)) else (spec_CallerValid.j0 k true l0_0 a0_1 a0_2 a0_3 a0_4 a0_5 a0_6 a0_7))) = some r := h
 clear h
 have HC2 := Aside0.mk H
 clear H
 go_enter Try.func25, Try.ntmps25
 go_upto_region 1 with (first | ((with_reducible refine gate_dst (N := 1) rfl ?_); refine box_event ?hg (N := 1) ?hd (cs := #[.slice A0_0 l0_0.length c0_0, .int .i64 a0_1, .bool a0_2, .int .i64 a0_3, .string a0_4, .int .i64 a0_5, .int .i64 a0_6, .int .i64 a0_7]) (t := 41) ?hr ?_; (case hd => rfl); (case hg => rfl); (case hr => first | (go_simp; done) | (go_simp; rfl)); intro gb391 hg w3 hbox hb; have n0_ := Aside0.mk (below_step (bz) hb); have n1_ := Aside0.mk (hbox); have n2_ : Aside0 (w.heap.size ≤ gb391) := bsg hg; have n3_ : Aside0 (w.heap.size ≤ gb391) := bsg hg; clear HB; have HB := n0_; have BK391 := n1_; have GW391 := n2_; have GE391 := n3_; clear n0_ n1_ n2_ n3_; clear hb hbox hg))
 (try simp only [Act.put, List.setIfInBounds_toArray, List.set_cons_zero, List.set_cons_succ])
 go_cut [12] (fun v12 wc => ∃ (kq : Nat) (x12_1 : Bool), v12 = .bool x12_1 ∧ Aside0 (spec_CallerValid.j0 kq x12_1 l0_0 a0_1 a0_2 a0_3 a0_4 a0_5 a0_6 a0_7 = some r) ∧ Aside0 (kq ≤ k) ∧ Aside0 (wc.heap[gb391]? = some (.cells #[(.slice A0_0 l0_0.length c0_0), .int .i64 a0_1, .bool a0_2, .int .i64 a0_3, .string a0_4, .int .i64 a0_5, .int .i64 a0_6, .int .i64 a0_7] 41 (0, 0))) ∧ Aside0 (Below w.heap.size w wc))
 case first =>
  have H := HC2.out
  clear HC2
  replace H := Option.bind_eq_some_iff.mp H
  obtain ⟨t392, A40, H⟩ := H
  try dsimp only at H
  have A4 := Aside0.mk A40
  clear A40
  by_cases c5 : t392 = true
  ·
   subst c5
   rw [if_pos rfl] at H
   replace H := Option.bind_eq_some_iff.mp H
   obtain ⟨t393, A60, H⟩ := H
   try dsimp only at H
   have A6 := Aside0.mk A60
   clear A60
   have H' := Aside0.mk H
   clear H
   have hcz7_0 : w3.cell? ⟨gb391, 0, none⟩ = some (.slice A0_0 l0_0.length c0_0) := (blk_cell BK391.out 0).trans rfl
   have hcz7_1 : w3.cell? ⟨gb391, 1, none⟩ = some (.int .i64 a0_1) := (blk_cell BK391.out 1).trans rfl
   have hcz7_2 : w3.cell? ⟨gb391, 2, none⟩ = some (.bool a0_2) := (blk_cell BK391.out 2).trans rfl
   have hcz7_3 : w3.cell? ⟨gb391, 3, none⟩ = some (.int .i64 a0_3) := (blk_cell BK391.out 3).trans rfl
   have hcz7_4 : w3.cell? ⟨gb391, 4, none⟩ = some (.string a0_4) := (blk_cell BK391.out 4).trans rfl
   have hcz7_5 : w3.cell? ⟨gb391, 5, none⟩ = some (.int .i64 a0_5) := (blk_cell BK391.out 5).trans rfl
   have hcz7_6 : w3.cell? ⟨gb391, 6, none⟩ = some (.int .i64 a0_6) := (blk_cell BK391.out 6).trans rfl
   have hcz7_7 : w3.cell? ⟨gb391, 7, none⟩ = some (.int .i64 a0_7) := (blk_cell BK391.out 7).trans rfl
   have hfz7_0 := blk_frozen BK391.out 0
   have hfz7_1 := blk_frozen BK391.out 1
   have hfz7_2 := blk_frozen BK391.out 2
   have hfz7_3 := blk_frozen BK391.out 3
   have hfz7_4 := blk_frozen BK391.out 4
   have hfz7_5 := blk_frozen BK391.out 5
   have hfz7_6 := blk_frozen BK391.out 6
   have hfz7_7 := blk_frozen BK391.out 7
   go_wp2_with (first | ((with_reducible refine gate_callee (f := 88) rfl ?_); refine goesL_ (some 5) rfl rfl Try.func88 (by kernel_rfl) rfl #[.slice A0_0 l0_0.length c0_0] rfl (by (try simp only [List.map_toArray, List.map_cons, List.map_nil]); first | done | rfl | (simp only [List.length_drop, List.length_take]; rfl)) ?_; (with_reducible refine (spec_CacheValid.calls k _ _ l0_0 true _ ?side1 ?side2 A4.out).mono ?_); (case side1 => repeat (first | exact (Kd.C_below HR0_0.out HB.out) | (with_reducible refine Kd.C_alloc ?_ _) | (with_reducible refine Kd.C_drewN ?_ _) | (with_reducible refine Kd.C_drew ?_))); (case side2 => exact HC0_0.out); rintro e w8 ⟨rfl, hb⟩; refine ⟨_, rfl, ?_⟩; have n0_ := bkb BK391 hb; have n1_ := Aside0.mk (below_step (bz) hb); clear BK391; clear HB; have BK391 := n0_; have HB := n1_; clear n0_ n1_; (try clear hb); (try clear hb2); (try clear hk); (try clear hi); have hcz9_0 : w8.cell? ⟨gb391, 0, none⟩ = some (.slice A0_0 l0_0.length c0_0) := (blk_cell BK391.out 0).trans rfl; have hcz9_1 : w8.cell? ⟨gb391, 1, none⟩ = some (.int .i64 a0_1) := (blk_cell BK391.out 1).trans rfl; have hcz9_2 : w8.cell? ⟨gb391, 2, none⟩ = some (.bool a0_2) := (blk_cell BK391.out 2).trans rfl; have hcz9_3 : w8.cell? ⟨gb391, 3, none⟩ = some (.int .i64 a0_3) := (blk_cell BK391.out 3).trans rfl; have hcz9_4 : w8.cell? ⟨gb391, 4, none⟩ = some (.string a0_4) := (blk_cell BK391.out 4).trans rfl; have hcz9_5 : w8.cell? ⟨gb391, 5, none⟩ = some (.int .i64 a0_5) := (blk_cell BK391.out 5).trans rfl; have hcz9_6 : w8.cell? ⟨gb391, 6, none⟩ = some (.int .i64 a0_6) := (blk_cell BK391.out 6).trans rfl; have hcz9_7 : w8.cell? ⟨gb391, 7, none⟩ = some (.int .i64 a0_7) := (blk_cell BK391.out 7).trans rfl; have hfz9_0 := blk_frozen BK391.out 0; have hfz9_1 := blk_frozen BK391.out 1; have hfz9_2 := blk_frozen BK391.out 2; have hfz9_3 := blk_frozen BK391.out 3; have hfz9_4 := blk_frozen BK391.out 4; have hfz9_5 := blk_frozen BK391.out 5; have hfz9_6 := blk_frozen BK391.out 6; have hfz9_7 := blk_frozen BK391.out 7) | (go_at_call 89; (with_reducible refine (spec_l1In.calls a0_1 0 999 t393 _ A6.out).mono ?_); rintro e w' ⟨rfl, ⟨nd, rfl⟩⟩))
   go_meet
   case rel => exact ⟨_, (!t393), (by first | rfl | (simp; done) | exact congrArg Value.bool (ne_nil_b _) | exact congrArg Value.bool (eq_nil_b _) | (simp [*]; done)), H', ⟨by first | omega | exact Nat.le_refl _⟩, ⟨by (with_reducible repeat (first | refine blk_drewN ?_ _ | refine blk_drew ?_ | refine blk_alloc ?_ _)); exact BK391.out⟩, ⟨bz⟩⟩
  ·
   replace c5 := Bool.eq_false_iff.mpr c5
   subst c5
   rw [if_neg (show ¬ (false = true) by decide)] at H
   have H' := Aside0.mk H
   clear H
   have hcz10_0 : w3.cell? ⟨gb391, 0, none⟩ = some (.slice A0_0 l0_0.length c0_0) := (blk_cell BK391.out 0).trans rfl
   have hcz10_1 : w3.cell? ⟨gb391, 1, none⟩ = some (.int .i64 a0_1) := (blk_cell BK391.out 1).trans rfl
   have hcz10_2 : w3.cell? ⟨gb391, 2, none⟩ = some (.bool a0_2) := (blk_cell BK391.out 2).trans rfl
   have hcz10_3 : w3.cell? ⟨gb391, 3, none⟩ = some (.int .i64 a0_3) := (blk_cell BK391.out 3).trans rfl
   have hcz10_4 : w3.cell? ⟨gb391, 4, none⟩ = some (.string a0_4) := (blk_cell BK391.out 4).trans rfl
   have hcz10_5 : w3.cell? ⟨gb391, 5, none⟩ = some (.int .i64 a0_5) := (blk_cell BK391.out 5).trans rfl
   have hcz10_6 : w3.cell? ⟨gb391, 6, none⟩ = some (.int .i64 a0_6) := (blk_cell BK391.out 6).trans rfl
   have hcz10_7 : w3.cell? ⟨gb391, 7, none⟩ = some (.int .i64 a0_7) := (blk_cell BK391.out 7).trans rfl
   have hfz10_0 := blk_frozen BK391.out 0
   have hfz10_1 := blk_frozen BK391.out 1
   have hfz10_2 := blk_frozen BK391.out 2
   have hfz10_3 := blk_frozen BK391.out 3
   have hfz10_4 := blk_frozen BK391.out 4
   have hfz10_5 := blk_frozen BK391.out 5
   have hfz10_6 := blk_frozen BK391.out 6
   have hfz10_7 := blk_frozen BK391.out 7
   go_wp2_with (first | ((with_reducible refine gate_callee (f := 88) rfl ?_); refine goesL_ (some 5) rfl rfl Try.func88 (by kernel_rfl) rfl #[.slice A0_0 l0_0.length c0_0] rfl (by (try simp only [List.map_toArray, List.map_cons, List.map_nil]); first | done | rfl | (simp only [List.length_drop, List.length_take]; rfl)) ?_; (with_reducible refine (spec_CacheValid.calls k _ _ l0_0 false _ ?side1 ?side2 A4.out).mono ?_); (case side1 => repeat (first | exact (Kd.C_below HR0_0.out HB.out) | (with_reducible refine Kd.C_alloc ?_ _) | (with_reducible refine Kd.C_drewN ?_ _) | (with_reducible refine Kd.C_drew ?_))); (case side2 => exact HC0_0.out); rintro e w11 ⟨rfl, hb⟩; refine ⟨_, rfl, ?_⟩; have n0_ := bkb BK391 hb; have n1_ := Aside0.mk (below_step (bz) hb); clear BK391; clear HB; have BK391 := n0_; have HB := n1_; clear n0_ n1_; (try clear hb); (try clear hb2); (try clear hk); (try clear hi)))
   go_meet
   case rel => exact ⟨_, (true), (by first | rfl | (simp; done) | exact congrArg Value.bool (ne_nil_b _) | exact congrArg Value.bool (eq_nil_b _) | (simp [*]; done)), H', ⟨by first | omega | exact Nat.le_refl _⟩, ⟨by (with_reducible repeat (first | refine blk_drewN ?_ _ | refine blk_drew ?_ | refine blk_alloc ?_ _)); exact BK391.out⟩, ⟨bz⟩⟩
 case rest =>
  clear HC2
  try clear c2
  try clear p2
  try clear c5
  try clear c8
  try clear hcz10_0
  try clear hcz10_1
  try clear hcz10_2
  try clear hcz10_3
  try clear hcz10_4
  try clear hcz10_5
  try clear hcz10_6
  try clear hcz10_7
  try clear hcz7_0
  try clear hcz7_1
  try clear hcz7_2
  try clear hcz7_3
  try clear hcz7_4
  try clear hcz7_5
  try clear hcz7_6
  try clear hcz7_7
  try clear hcz9_0
  try clear hcz9_1
  try clear hcz9_2
  try clear hcz9_3
  try clear hcz9_4
  try clear hcz9_5
  try clear hcz9_6
  try clear hcz9_7
  try clear hfz10_0
  try clear hfz10_1
  try clear hfz10_2
  try clear hfz10_3
  try clear hfz10_4
  try clear hfz10_5
  try clear hfz10_6
  try clear hfz10_7
  try clear hfz7_0
  try clear hfz7_1
  try clear hfz7_2
  try clear hfz7_3
  try clear hfz7_4
  try clear hfz7_5
  try clear hfz7_6
  try clear hfz7_7
  try clear hfz9_0
  try clear hfz9_1
  try clear hfz9_2
  try clear hfz9_3
  try clear hfz9_4
  try clear hfz9_5
  try clear hfz9_6
  try clear hfz9_7
  obtain ⟨kq, x12_1, rfl, HA, HJ1, BK391, HB⟩ := hcut
  cases kq with
  | zero => exact absurd HA.out (by simp [spec_CallerValid.j0])
  | succ kj1 =>
   have H := HA.out
   clear HA
   simp only [spec_CallerValid.j0] at H
   by_cases c12 : x12_1 = true
   ·
    subst c12
    rw [if_pos rfl] at H
    obtain rfl := Option.some.inj H
    go_wp2
    go_ret
    exact ⟨by first | rfl | (simp only [u8w, w64m]; rfl) | (simp [errW_none, errW_some] <;> rfl) | (simp [*, errW_none, errW_some] <;> rfl), bz⟩
   ·
    replace c12 := Bool.eq_false_iff.mpr c12
    subst c12
    rw [if_neg (show ¬ (false = true) by decide)] at H
    by_cases c13 : a0_2 = true
    ·
     subst c13
     rw [if_pos rfl] at H
     by_cases c14 : a0_1 ≥ 1
     ·
      rw [if_pos c14] at H
      have c14b0 : decide (1 ≤ a0_1) = true := decide_eq_true c14
      clear c14
      replace H := Option.bind_eq_some_iff.mp H
      obtain ⟨t394, A150, H⟩ := H
      try dsimp only at H
      have A15 := Aside0.mk A150
      clear A150
      by_cases c16 : t394 = true
      ·
       subst c16
       rw [if_pos rfl] at H
       replace H := Option.bind_eq_some_iff.mp H
       obtain ⟨t395, A170, H⟩ := H
       try dsimp only at H
       have A17 := Aside0.mk A170
       clear A170
       obtain rfl := Option.some.inj H
       have hcz18_0 : wc.cell? ⟨gb391, 0, none⟩ = some (.slice A0_0 l0_0.length c0_0) := (blk_cell BK391.out 0).trans rfl
       have hcz18_1 : wc.cell? ⟨gb391, 1, none⟩ = some (.int .i64 a0_1) := (blk_cell BK391.out 1).trans rfl
       have hcz18_2 : wc.cell? ⟨gb391, 2, none⟩ = some (.bool true) := (blk_cell BK391.out 2).trans rfl
       have hcz18_3 : wc.cell? ⟨gb391, 3, none⟩ = some (.int .i64 a0_3) := (blk_cell BK391.out 3).trans rfl
       have hcz18_4 : wc.cell? ⟨gb391, 4, none⟩ = some (.string a0_4) := (blk_cell BK391.out 4).trans rfl
       have hcz18_5 : wc.cell? ⟨gb391, 5, none⟩ = some (.int .i64 a0_5) := (blk_cell BK391.out 5).trans rfl
       have hcz18_6 : wc.cell? ⟨gb391, 6, none⟩ = some (.int .i64 a0_6) := (blk_cell BK391.out 6).trans rfl
       have hcz18_7 : wc.cell? ⟨gb391, 7, none⟩ = some (.int .i64 a0_7) := (blk_cell BK391.out 7).trans rfl
       have hfz18_0 := blk_frozen BK391.out 0
       have hfz18_1 := blk_frozen BK391.out 1
       have hfz18_2 := blk_frozen BK391.out 2
       have hfz18_3 := blk_frozen BK391.out 3
       have hfz18_4 := blk_frozen BK391.out 4
       have hfz18_5 := blk_frozen BK391.out 5
       have hfz18_6 := blk_frozen BK391.out 6
       have hfz18_7 := blk_frozen BK391.out 7
       go_wp2_with (first | (go_at_call 90; (with_reducible refine (spec_l25Wish.calls kj1 a0_3 a0_4 a0_5 a0_6 true _ A15.out).mono ?_); rintro e w19 ⟨rfl, hb⟩; have n0_ := bkb BK391 hb; have n1_ := Aside0.mk (below_step (bz) hb); clear BK391; clear HB; have BK391 := n0_; have HB := n1_; clear n0_ n1_; (try clear hb); (try clear hb2); (try clear hk); (try clear hi); have hcz20_0 : w19.cell? ⟨gb391, 0, none⟩ = some (.slice A0_0 l0_0.length c0_0) := (blk_cell BK391.out 0).trans rfl; have hcz20_1 : w19.cell? ⟨gb391, 1, none⟩ = some (.int .i64 a0_1) := (blk_cell BK391.out 1).trans rfl; have hcz20_2 : w19.cell? ⟨gb391, 2, none⟩ = some (.bool true) := (blk_cell BK391.out 2).trans rfl; have hcz20_3 : w19.cell? ⟨gb391, 3, none⟩ = some (.int .i64 a0_3) := (blk_cell BK391.out 3).trans rfl; have hcz20_4 : w19.cell? ⟨gb391, 4, none⟩ = some (.string a0_4) := (blk_cell BK391.out 4).trans rfl; have hcz20_5 : w19.cell? ⟨gb391, 5, none⟩ = some (.int .i64 a0_5) := (blk_cell BK391.out 5).trans rfl; have hcz20_6 : w19.cell? ⟨gb391, 6, none⟩ = some (.int .i64 a0_6) := (blk_cell BK391.out 6).trans rfl; have hcz20_7 : w19.cell? ⟨gb391, 7, none⟩ = some (.int .i64 a0_7) := (blk_cell BK391.out 7).trans rfl; have hfz20_0 := blk_frozen BK391.out 0; have hfz20_1 := blk_frozen BK391.out 1; have hfz20_2 := blk_frozen BK391.out 2; have hfz20_3 := blk_frozen BK391.out 3; have hfz20_4 := blk_frozen BK391.out 4; have hfz20_5 := blk_frozen BK391.out 5; have hfz20_6 := blk_frozen BK391.out 6; have hfz20_7 := blk_frozen BK391.out 7) | (go_at_call 89; (with_reducible refine (spec_l1In.calls a0_7 0 200 t395 _ A17.out).mono ?_); rintro e w' ⟨rfl, ⟨nd, rfl⟩⟩))
       go_ret
       exact ⟨by first | rfl | (simp only [u8w, w64m]; rfl) | (simp [errW_none, errW_some] <;> rfl) | (simp [*, errW_none, errW_some] <;> rfl), bz⟩
      ·
       replace c16 := Bool.eq_false_iff.mpr c16
       subst c16
       rw [if_neg (show ¬ (false = true) by decide)] at H
       obtain rfl := Option.some.inj H
       have hcz21_0 : wc.cell? ⟨gb391, 0, none⟩ = some (.slice A0_0 l0_0.length c0_0) := (blk_cell BK391.out 0).trans rfl
       have hcz21_1 : wc.cell? ⟨gb391, 1, none⟩ = some (.int .i64 a0_1) := (blk_cell BK391.out 1).trans rfl
       have hcz21_2 : wc.cell? ⟨gb391, 2, none⟩ = some (.bool true) := (blk_cell BK391.out 2).trans rfl
       have hcz21_3 : wc.cell? ⟨gb391, 3, none⟩ = some (.int .i64 a0_3) := (blk_cell BK391.out 3).trans rfl
       have hcz21_4 : wc.cell? ⟨gb391, 4, none⟩ = some (.string a0_4) := (blk_cell BK391.out 4).trans rfl
       have hcz21_5 : wc.cell? ⟨gb391, 5, none⟩ = some (.int .i64 a0_5) := (blk_cell BK391.out 5).trans rfl
       have hcz21_6 : wc.cell? ⟨gb391, 6, none⟩ = some (.int .i64 a0_6) := (blk_cell BK391.out 6).trans rfl
       have hcz21_7 : wc.cell? ⟨gb391, 7, none⟩ = some (.int .i64 a0_7) := (blk_cell BK391.out 7).trans rfl
       have hfz21_0 := blk_frozen BK391.out 0
       have hfz21_1 := blk_frozen BK391.out 1
       have hfz21_2 := blk_frozen BK391.out 2
       have hfz21_3 := blk_frozen BK391.out 3
       have hfz21_4 := blk_frozen BK391.out 4
       have hfz21_5 := blk_frozen BK391.out 5
       have hfz21_6 := blk_frozen BK391.out 6
       have hfz21_7 := blk_frozen BK391.out 7
       go_wp2_with (first | (go_at_call 90; (with_reducible refine (spec_l25Wish.calls kj1 a0_3 a0_4 a0_5 a0_6 false _ A15.out).mono ?_); rintro e w22 ⟨rfl, hb⟩; have n0_ := bkb BK391 hb; have n1_ := Aside0.mk (below_step (bz) hb); clear BK391; clear HB; have BK391 := n0_; have HB := n1_; clear n0_ n1_; (try clear hb); (try clear hb2); (try clear hk); (try clear hi)))
       go_ret
       exact ⟨by first | rfl | (simp only [u8w, w64m]; rfl) | (simp [errW_none, errW_some] <;> rfl) | (simp [*, errW_none, errW_some] <;> rfl), bz⟩
     ·
      rw [if_neg c14] at H
      have c14b0 : decide (1 ≤ a0_1) = false := decide_eq_false c14
      clear c14
      obtain rfl := Option.some.inj H
      have hcz23_0 : wc.cell? ⟨gb391, 0, none⟩ = some (.slice A0_0 l0_0.length c0_0) := (blk_cell BK391.out 0).trans rfl
      have hcz23_1 : wc.cell? ⟨gb391, 1, none⟩ = some (.int .i64 a0_1) := (blk_cell BK391.out 1).trans rfl
      have hcz23_2 : wc.cell? ⟨gb391, 2, none⟩ = some (.bool true) := (blk_cell BK391.out 2).trans rfl
      have hcz23_3 : wc.cell? ⟨gb391, 3, none⟩ = some (.int .i64 a0_3) := (blk_cell BK391.out 3).trans rfl
      have hcz23_4 : wc.cell? ⟨gb391, 4, none⟩ = some (.string a0_4) := (blk_cell BK391.out 4).trans rfl
      have hcz23_5 : wc.cell? ⟨gb391, 5, none⟩ = some (.int .i64 a0_5) := (blk_cell BK391.out 5).trans rfl
      have hcz23_6 : wc.cell? ⟨gb391, 6, none⟩ = some (.int .i64 a0_6) := (blk_cell BK391.out 6).trans rfl
      have hcz23_7 : wc.cell? ⟨gb391, 7, none⟩ = some (.int .i64 a0_7) := (blk_cell BK391.out 7).trans rfl
      have hfz23_0 := blk_frozen BK391.out 0
      have hfz23_1 := blk_frozen BK391.out 1
      have hfz23_2 := blk_frozen BK391.out 2
      have hfz23_3 := blk_frozen BK391.out 3
      have hfz23_4 := blk_frozen BK391.out 4
      have hfz23_5 := blk_frozen BK391.out 5
      have hfz23_6 := blk_frozen BK391.out 6
      have hfz23_7 := blk_frozen BK391.out 7
      go_wp2
      go_ret
      exact ⟨by first | rfl | (simp only [u8w, w64m]; rfl) | (simp [errW_none, errW_some] <;> rfl) | (simp [*, errW_none, errW_some] <;> rfl), bz⟩
    ·
     replace c13 := Bool.eq_false_iff.mpr c13
     subst c13
     rw [if_neg (show ¬ (false = true) by decide)] at H
     by_cases c24 : (a0_3 == 0 && (a0_4.toList == ([] : List UInt8) && (a0_5 == 0 && (a0_6 == 0)))) = true
     ·
      rw [if_pos c24] at H
      have c24b0 : (a0_3 == 0 && (a0_4.toList == ([] : List UInt8) && (a0_5 == 0 && (a0_6 == 0)))) = true := c24
      (try (have c24b1 : decide (a0_3 = 0 && (a0_4.toList == ([] : List UInt8) && (a0_5 == 0 && (a0_6 == 0)))) = true := by simpa using c24))
      (try (have c24b2 : (a0_3 == 0 && (a0_4.toList == ([] : List UInt8) && (a0_5 == 0 && (a0_6 == 0)))) = true := by simpa using c24))
      (try (have c24b9 := c24b0; simp only [← eq_nil_b] at c24b9))
      clear c24
      obtain rfl := Option.some.inj H
      have hcz25_0 : wc.cell? ⟨gb391, 0, none⟩ = some (.slice A0_0 l0_0.length c0_0) := (blk_cell BK391.out 0).trans rfl
      have hcz25_1 : wc.cell? ⟨gb391, 1, none⟩ = some (.int .i64 a0_1) := (blk_cell BK391.out 1).trans rfl
      have hcz25_2 : wc.cell? ⟨gb391, 2, none⟩ = some (.bool false) := (blk_cell BK391.out 2).trans rfl
      have hcz25_3 : wc.cell? ⟨gb391, 3, none⟩ = some (.int .i64 a0_3) := (blk_cell BK391.out 3).trans rfl
      have hcz25_4 : wc.cell? ⟨gb391, 4, none⟩ = some (.string a0_4) := (blk_cell BK391.out 4).trans rfl
      have hcz25_5 : wc.cell? ⟨gb391, 5, none⟩ = some (.int .i64 a0_5) := (blk_cell BK391.out 5).trans rfl
      have hcz25_6 : wc.cell? ⟨gb391, 6, none⟩ = some (.int .i64 a0_6) := (blk_cell BK391.out 6).trans rfl
      have hcz25_7 : wc.cell? ⟨gb391, 7, none⟩ = some (.int .i64 a0_7) := (blk_cell BK391.out 7).trans rfl
      have hfz25_0 := blk_frozen BK391.out 0
      have hfz25_1 := blk_frozen BK391.out 1
      have hfz25_2 := blk_frozen BK391.out 2
      have hfz25_3 := blk_frozen BK391.out 3
      have hfz25_4 := blk_frozen BK391.out 4
      have hfz25_5 := blk_frozen BK391.out 5
      have hfz25_6 := blk_frozen BK391.out 6
      have hfz25_7 := blk_frozen BK391.out 7
      go_wp2
      go_ret
      exact ⟨by first | rfl | (simp only [u8w, w64m]; rfl) | (simp [errW_none, errW_some] <;> rfl) | (simp [*, errW_none, errW_some] <;> rfl), bz⟩
     ·
      rw [if_neg c24] at H
      have c24b0 : (a0_3 == 0 && (a0_4.toList == ([] : List UInt8) && (a0_5 == 0 && (a0_6 == 0)))) = false := by simpa using c24
      (try (have c24b1 : decide (a0_3 = 0 && (a0_4.toList == ([] : List UInt8) && (a0_5 == 0 && (a0_6 == 0)))) = false := by simpa using c24))
      (try (have c24b2 : (a0_3 == 0 && (a0_4.toList == ([] : List UInt8) && (a0_5 == 0 && (a0_6 == 0)))) = false := by simpa using c24))
      (try (have c24b3 : ¬ (a0_3 = 0 && (a0_4.toList == ([] : List UInt8) && (a0_5 == 0 && (a0_6 == 0)))) := by simpa using c24))
      (try (have c24b9 := c24b0; simp only [← eq_nil_b] at c24b9))
      clear c24
      obtain rfl := Option.some.inj H
      have hcz26_0 : wc.cell? ⟨gb391, 0, none⟩ = some (.slice A0_0 l0_0.length c0_0) := (blk_cell BK391.out 0).trans rfl
      have hcz26_1 : wc.cell? ⟨gb391, 1, none⟩ = some (.int .i64 a0_1) := (blk_cell BK391.out 1).trans rfl
      have hcz26_2 : wc.cell? ⟨gb391, 2, none⟩ = some (.bool false) := (blk_cell BK391.out 2).trans rfl
      have hcz26_3 : wc.cell? ⟨gb391, 3, none⟩ = some (.int .i64 a0_3) := (blk_cell BK391.out 3).trans rfl
      have hcz26_4 : wc.cell? ⟨gb391, 4, none⟩ = some (.string a0_4) := (blk_cell BK391.out 4).trans rfl
      have hcz26_5 : wc.cell? ⟨gb391, 5, none⟩ = some (.int .i64 a0_5) := (blk_cell BK391.out 5).trans rfl
      have hcz26_6 : wc.cell? ⟨gb391, 6, none⟩ = some (.int .i64 a0_6) := (blk_cell BK391.out 6).trans rfl
      have hcz26_7 : wc.cell? ⟨gb391, 7, none⟩ = some (.int .i64 a0_7) := (blk_cell BK391.out 7).trans rfl
      have hfz26_0 := blk_frozen BK391.out 0
      have hfz26_1 := blk_frozen BK391.out 1
      have hfz26_2 := blk_frozen BK391.out 2
      have hfz26_3 := blk_frozen BK391.out 3
      have hfz26_4 := blk_frozen BK391.out 4
      have hfz26_5 := blk_frozen BK391.out 5
      have hfz26_6 := blk_frozen BK391.out 6
      have hfz26_7 := blk_frozen BK391.out 7
      go_wp2
      go_ret
      exact ⟨by first | rfl | (simp only [u8w, w64m]; rfl) | (simp [errW_none, errW_some] <;> rfl) | (simp [*, errW_none, errW_some] <;> rfl), bz⟩

end Go.Proofs.Ytkjkokljgbpbbaa.PFnRequestOf
