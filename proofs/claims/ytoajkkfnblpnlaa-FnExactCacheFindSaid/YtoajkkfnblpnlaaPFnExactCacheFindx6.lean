/- Go functions as plain Lean functions, and for each a proof that its call comes to what the function says; under the conditions that each theorem names. Written by a program of this session. -/
import Derived.Test.YtoajkkfnblpnlaaPFnExactCacheFindx0
import Derived.Test.YtoajkkfnblpnlaaPFnExactCacheFindx1
import Derived.Test.YtoajkkfnblpnlaaPFnExactCacheFindx2
import Derived.Test.YtoajkkfnblpnlaaPFnExactCacheFindx3
import Derived.Test.YtoajkkfnblpnlaaPFnExactCacheFindx4
import Derived.Test.YtoajkkfnblpnlaaPFnExactCacheFindx5
namespace Go.Proofs.Ytoajkkfnblpnlaa.PFnExactCacheFind
open Go.RowKit Go.Proofs.YtoajkkfnblpnlaaW.PrintWords Go.Proofs.YtoajkkfnblpnlaaW.PrintLast Go.Proofs.YtoajkkfnblpnlaaW.PrintMore
attribute [local go_sem high] str_gtr str_leq str_geq
attribute [local go_sem] max2_int min2_int max_two min_two max_three min_three max_four min_four   -- for this text's walks alone
set_option linter.unusedVariables false
set_option linter.unusedSimpArgs false

/-! ### impl_CacheValid: function 36 -/
mutual
def impl_CacheValid.j0 : Nat → List (S75) → Bool → Option (Bool)
 | 0, _, _ => none
 | k + 1, x0, x12 => if x12 = true then (some false) else (impl_CacheValid.l0 k x0 x0 (x0.length : Int) 0)
def impl_CacheValid.l0 : Nat → List (S75) → List (S75) → Int → Int → Option (Bool)
 | 0, _, _, _, _ => none
 | k + 1, x0, x13, x14, x15 => if x15 < x14 then (if 0 ≤ x15 then (if x15 < (x13.length : Int) then ((impl_IntervalValid.f k ((rd_T75 x13 x15).f1.f0) ((rd_T75 x13 x15).f1.f1)).bind fun t173 => (if t173 = true then (if x15 > 0 then (if 0 ≤ (wrap64 (x15 - 1)) then (if (wrap64 (x15 - 1)) < (x0.length : Int) then (if ((rd_T75 x0 (wrap64 (x15 - 1))).f1.f1).toList = ([] : List UInt8) then (some false) else (if (Op.bytesLess (((rd_T75 x13 x15).f1.f0).toList) (((rd_T75 x0 (wrap64 (x15 - 1))).f1.f1).toList)) = true then (some false) else (impl_CacheValid.l0 k x0 x13 x14 (wrap64 (x15 + 1))))) else (none)) else (none)) else (impl_CacheValid.l0 k x0 x13 x14 (wrap64 (x15 + 1)))) else (some false))) else (none)) else (none)) else (some true)
end
def impl_CacheValid.f (k : Nat) (l0 : List (S75)) : Option (Bool) := if (l0.length : Int) > 8 then (impl_CacheValid.j0 k l0 true) else ((impl_numbersDiffer.f k l0).bind fun t170 => (impl_CacheValid.j0 k l0 (!t170)))
theorem impl_CacheValid.mono_l : ∀ k, (∀ y0 y1, LeO (impl_CacheValid.j0 k y0 y1) (impl_CacheValid.j0 (k + 1) y0 y1)) ∧ (∀ y0 y1 y2 y3, LeO (impl_CacheValid.l0 k y0 y1 y2 y3) (impl_CacheValid.l0 (k + 1) y0 y1 y2 y3))
 | 0 => ⟨fun _ _ r h => by simp [impl_CacheValid.j0] at h, fun _ _ _ _ r h => by simp [impl_CacheValid.l0] at h⟩
 | k + 1 => by
  obtain ⟨ih0, ih1⟩ := impl_CacheValid.mono_l k
  refine ⟨?_, ?_⟩
  ·
   intro y0 y1
   unfold impl_CacheValid.j0
   repeat' first
   | (with_reducible exact ih0 _ _)
   | (with_reducible exact ih1 _ _ _ _)
   | (with_reducible exact impl_IntervalValid.mono _ _ _)
   | (with_reducible exact impl_numbersDiffer.mono _ _)
   | (with_reducible exact LeO.refl _)
   | (with_reducible exact LeO.none _)
   | (with_reducible refine LeO.ite ?_ ?_)
   | (with_reducible refine LeO.bind ?_ (fun _ => ?_))
   | exact ih0 _ _
   | exact ih1 _ _ _ _
   | exact impl_IntervalValid.mono _ _ _
   | exact impl_numbersDiffer.mono _ _
   | exact LeO.none _
   | refine LeO.ite ?_ ?_
   | refine LeO.bind ?_ (fun _ => ?_)
  ·
   intro y0 y1 y2 y3
   unfold impl_CacheValid.l0
   repeat' first
   | (with_reducible exact ih0 _ _)
   | (with_reducible exact ih1 _ _ _ _)
   | (with_reducible exact impl_IntervalValid.mono _ _ _)
   | (with_reducible exact impl_numbersDiffer.mono _ _)
   | (with_reducible exact LeO.refl _)
   | (with_reducible exact LeO.none _)
   | (with_reducible refine LeO.ite ?_ ?_)
   | (with_reducible refine LeO.bind ?_ (fun _ => ?_))
   | exact ih0 _ _
   | exact ih1 _ _ _ _
   | exact impl_IntervalValid.mono _ _ _
   | exact impl_numbersDiffer.mono _ _
   | exact LeO.none _
   | refine LeO.ite ?_ ?_
   | refine LeO.bind ?_ (fun _ => ?_)
theorem impl_CacheValid.mono : ∀ a0 k, LeO (impl_CacheValid.f k a0) (impl_CacheValid.f (k + 1) a0) := by
 intro a0 k
 obtain ⟨ih0, ih1⟩ := impl_CacheValid.mono_l k
 unfold impl_CacheValid.f
 repeat' first
   | (with_reducible exact ih0 _ _)
   | (with_reducible exact ih1 _ _ _ _)
   | (with_reducible exact impl_IntervalValid.mono _ _ _)
   | (with_reducible exact impl_numbersDiffer.mono _ _)
   | (with_reducible exact LeO.refl _)
   | (with_reducible exact LeO.none _)
   | (with_reducible refine LeO.ite ?_ ?_)
   | (with_reducible refine LeO.bind ?_ (fun _ => ?_))
   | exact ih0 _ _
   | exact ih1 _ _ _ _
   | exact impl_IntervalValid.mono _ _ _
   | exact impl_numbersDiffer.mono _ _
   | exact LeO.none _
   | refine LeO.ite ?_ ?_
   | refine LeO.bind ?_ (fun _ => ?_)
set_option maxHeartbeats 8000000 in
set_option maxRecDepth 100000 in
theorem impl_CacheValid.calls (k : Nat) (A0 : Option Addr) (c0 : Nat) (l0 : List (S75)) (r : Bool) (w : World) (hr0 : Kd.C k75 w A0 l0.length l0) (hc0 : l0.length ≤ c0) (h : impl_CacheValid.f k l0 = some r) :
  Calls Try.prog 36 #[.slice A0 l0.length c0] w fun e w' => e = .returned (.bool r) ∧ Below w.heap.size w w' := by
 have hu75 := Try.underlying75
 have hu73 := Try.underlying73
 have HR0 := Aside0.mk hr0
 have HC0 := Aside0.mk hc0
 clear hr0 hc0
 have HB := Aside0.mk (Below.refl w.heap.size w)
 have H : (if (l0.length : Int) > 8 then (impl_CacheValid.j0 k l0 true) else ((impl_numbersDiffer.f k l0).bind fun t170 => (impl_CacheValid.j0 k l0 (!t170)))) = some r := h
 clear h
 have HC2 := Aside0.mk H
 clear H
 go_enter Try.func36, Try.ntmps36
 go_upto_region 1 with (fail)
 repeat (go_quiet (fail); go_upto_region 1 with (fail))
 go_cut [12] (fun v12 wc => ∃ (kq : Nat) (x12_1 : Bool), v12 = .bool x12_1 ∧ Aside0 (impl_CacheValid.j0 kq l0 x12_1 = some r) ∧ Aside0 (kq ≤ k) ∧ Aside0 (Below w.heap.size w wc))
 case first =>
  have H := HC2.out
  clear HC2
  by_cases c3 : (l0.length : Int) > 8
  ·
   rw [if_pos c3] at H
   have c3b0 : decide (8 < (l0.length : Int)) = true := decide_eq_true c3
   have c3b1 : decide (8 < l0.length) = true := decide_eq_true (by omega)
   clear c3
   (first | rw [c3b0] | (simp only [i64_w, i32_w]; rw [c3b0]) | skip)
   have H' := Aside0.mk H
   clear H
   go_wp2
   repeat (go_quiet (fail); try go_wp2)
   go_meet
   case rel => exact ⟨_, (true), (by first | rfl | (simp; done) | exact congrArg Value.bool (ne_nil_b _) | exact congrArg Value.bool (eq_nil_b _) | (simp [*]; done)), H', ⟨by first | omega | exact Nat.le_refl _⟩, ⟨bz⟩⟩
  ·
   rw [if_neg c3] at H
   have c3b0 : decide (8 < (l0.length : Int)) = false := decide_eq_false c3
   have c3b1 : decide (8 < l0.length) = false := decide_eq_false (by omega)
   clear c3
   (first | rw [c3b0] | (simp only [i64_w, i32_w]; rw [c3b0]) | skip)
   replace H := Option.bind_eq_some_iff.mp H
   obtain ⟨t170, A40, H⟩ := H
   try dsimp only at H
   have A4 := Aside0.mk A40
   clear A40
   have H' := Aside0.mk H
   clear H
   go_wp2_with (first | (go_at_call 71; (with_reducible refine (impl_numbersDiffer.calls k _ _ l0 t170 _ ?side1 ?side2 A4.out).mono ?_); (case side1 => repeat (first | exact (Kd.C_below HR0.out HB.out) | (with_reducible refine Kd.C_alloc ?_ _) | (with_reducible refine Kd.C_drewN ?_ _) | (with_reducible refine Kd.C_drew ?_))); (case side2 => exact HC0.out); rintro e w5 ⟨rfl, hb⟩; have n0_ := Aside0.mk (below_step (bz) hb); clear HB; have HB := n0_; clear n0_; (try clear hb); (try clear hb2); (try clear hk); (try clear hi)))
   repeat (go_quiet (first | (go_at_call 71; (with_reducible refine (impl_numbersDiffer.calls k _ _ l0 t170 _ ?side1 ?side2 A4.out).mono ?_); (case side1 => repeat (first | exact (Kd.C_below HR0.out HB.out) | (with_reducible refine Kd.C_alloc ?_ _) | (with_reducible refine Kd.C_drewN ?_ _) | (with_reducible refine Kd.C_drew ?_))); (case side2 => exact HC0.out); rintro e w5 ⟨rfl, hb⟩; have n0_ := Aside0.mk (below_step (bz) hb); clear HB; have HB := n0_; clear n0_; (try clear hb); (try clear hb2); (try clear hk); (try clear hi))); try go_wp2_with (first | (go_at_call 71; (with_reducible refine (impl_numbersDiffer.calls k _ _ l0 t170 _ ?side1 ?side2 A4.out).mono ?_); (case side1 => repeat (first | exact (Kd.C_below HR0.out HB.out) | (with_reducible refine Kd.C_alloc ?_ _) | (with_reducible refine Kd.C_drewN ?_ _) | (with_reducible refine Kd.C_drew ?_))); (case side2 => exact HC0.out); rintro e w5 ⟨rfl, hb⟩; have n0_ := Aside0.mk (below_step (bz) hb); clear HB; have HB := n0_; clear n0_; (try clear hb); (try clear hb2); (try clear hk); (try clear hi))))
   go_meet
   case rel => exact ⟨_, (!t170), (by first | rfl | (simp; done) | exact congrArg Value.bool (ne_nil_b _) | exact congrArg Value.bool (eq_nil_b _) | (simp [*]; done)), H', ⟨by first | omega | exact Nat.le_refl _⟩, ⟨bz⟩⟩
 case rest =>
  clear HC2
  try clear p2
  try clear c3
  try clear c3b0
  try clear c3b1
  obtain ⟨kq, x12_1, rfl, HA, HJ1, HB⟩ := hcut
  cases kq with
  | zero => exact absurd HA.out (by simp [impl_CacheValid.j0])
  | succ kj1 =>
   have H := HA.out
   clear HA
   simp only [impl_CacheValid.j0] at H
   by_cases c6 : x12_1 = true
   ·
    subst c6
    rw [if_pos rfl] at H
    obtain rfl := Option.some.inj H
    go_wp2
    repeat (go_quiet (fail); try go_wp2)
    go_ret
    exact ⟨by first | rfl | (simp only [u8w, w64m]; rfl) | (simp [errW_none, errW_some] <;> rfl) | (simp [*, errW_none, errW_some] <;> rfl), bz⟩
   ·
    replace c6 := Bool.eq_false_iff.mpr c6
    subst c6
    rw [if_neg (show ¬ (false = true) by decide)] at H
    have H' := Aside0.mk H
    clear H
    go_wp2
    repeat (go_quiet (fail); try go_wp2)
    go_loopg [15] kj1 (fun kq v15 w' => ∃ (x15_2 : Int), v15 = .int .i64 x15_2 ∧ Aside0 (impl_CacheValid.l0 kq l0 l0 (l0.length : Int) x15_2 = some r) ∧ Aside0 (kq ≤ kj1) ∧ Aside0 (Below w.heap.size w w'))
    case atStart => exact ⟨(0), (by first | rfl | (simp; done) | exact congrArg Value.bool (ne_nil_b _) | exact congrArg Value.bool (eq_nil_b _) | (simp [*]; done)), H', ⟨Nat.le_refl _⟩, ⟨bz⟩⟩
    case round =>
     clear H'
     try clear p2
     try clear c3
     try clear c3b0
     try clear c3b1
     try clear c6
     try clear p2
     obtain ⟨x15_2, rfl, HA, HK2, HB⟩ := hrel
     cases gk with
     | zero => exact absurd HA.out (by simp [impl_CacheValid.l0])
     | succ k2 =>
      have H := HA.out
      clear HA
      simp only [impl_CacheValid.l0] at H
      by_cases c7 : x15_2 < (l0.length : Int)
      ·
       rw [if_pos c7] at H
       have c7b0 : decide (x15_2 < (l0.length : Int)) = true := decide_eq_true c7
       clear c7
       by_cases c8 : 0 ≤ x15_2
       ·
        rw [if_pos c8] at H
        have c8b0 : decide (0 ≤ x15_2) = true := decide_eq_true c8
        clear c8
        by_cases c9 : x15_2 < (l0.length : Int)
        ·
         rw [if_pos c9] at H
         have c9b0 : decide (x15_2 < (l0.length : Int)) = true := decide_eq_true c9
         clear c9
         replace H := Option.bind_eq_some_iff.mp H
         obtain ⟨t173, A100, H⟩ := H
         try dsimp only at H
         have A10 := Aside0.mk A100
         clear A100
         by_cases c11 : t173 = true
         ·
          subst c11
          rw [if_pos rfl] at H
          by_cases c12 : x15_2 > 0
          ·
           rw [if_pos c12] at H
           have c12b0 : decide (0 < x15_2) = true := decide_eq_true c12
           clear c12
           obtain ⟨ji13, hji13⟩ : ∃ j_ : Int, (wrap64 (x15_2 - 1)) = j_ := ⟨_, rfl⟩
           replace H : (if 0 ≤ (ji13) then (if (ji13) < (l0.length : Int) then (if ((rd_T75 l0 (ji13)).f1.f1).toList = ([] : List UInt8) then (some false) else (if (Op.bytesLess (((rd_T75 l0 x15_2).f1.f0).toList) (((rd_T75 l0 (ji13)).f1.f1).toList)) = true then (some false) else (impl_CacheValid.l0 k2 l0 l0 (l0.length : Int) (wrap64 (x15_2 + 1))))) else (none)) else (none)) = some r := by first | (rw [hji13] at H; exact H) | (simp only [hji13] at H ⊢; exact H)
           (try rw [hji13] at A10)
           have hji13w : (IntKind.i64.wrap (x15_2 - 1)) = ji13 := (i64_w _).trans hji13
           by_cases c14 : 0 ≤ (ji13)
           ·
            rw [if_pos c14] at H
            have c14b0 : decide (0 ≤ (ji13)) = true := decide_eq_true c14
            clear c14
            by_cases c15 : (ji13) < (l0.length : Int)
            ·
             rw [if_pos c15] at H
             have c15b0 : decide ((ji13) < (l0.length : Int)) = true := decide_eq_true c15
             clear c15
             by_cases c16 : ((rd_T75 l0 (ji13)).f1.f1).toList = ([] : List UInt8)
             ·
              rw [if_pos c16] at H
              have c16b0 : (((rd_T75 l0 (ji13)).f1.f1).toList == ([] : List UInt8)) = true := beq_iff_eq.mpr c16
              have c16b1 : (((rd_T75 l0 (ji13)).f1.f1).toList != ([] : List UInt8)) = false := bne_eq_false_iff_eq.mpr c16
              clear c16
              obtain rfl := Option.some.inj H
              have p171 : 0 ≤ (x15_2 : Int) := of_decide_eq_true (by first | (with_reducible assumption) | assumption)
              have q171 : x15_2 < (l0.length : Int) := of_decide_eq_true (by first | (with_reducible assumption) | assumption)
              obtain ⟨ad171, e171, hx171_0, hx171_1, hx171_2⟩ := at_T75 HR0.out x15_2 p171 q171
              cases e171
              replace hx171_0 := (HB.out.cell (World.block_lt_of_cell? w _ hx171_0)).trans hx171_0
              replace hx171_1 := (HB.out.cell (World.block_lt_of_cell? w _ hx171_1)).trans hx171_1
              replace hx171_2 := (HB.out.cell (World.block_lt_of_cell? w _ hx171_2)).trans hx171_2
              replace p171 := eq_true p171
              replace q171 := eq_true q171
              go_wp2_with (first | ((with_reducible refine gate_dst (N := 4) rfl ?_); refine box_event ?hg (N := 4) ?hd (cs := #[.int .i64 0, .string (⟨#[]⟩ : ByteArray), .string (⟨#[]⟩ : ByteArray)]) (t := 75) ?hr ?_; (case hd => rfl); (case hg => rfl); (case hr => first | (go_simp; done) | (go_simp; rfl)); intro gb172 hg w17 hbox hb; have n0_ := Aside0.mk (below_step (bz) hb); have n1_ := Aside0.mk (hbox); have n2_ : Aside0 (w.heap.size ≤ gb172) := bsg hg; have n3_ : Aside0 (w.heap.size ≤ gb172) := bsg hg; clear HB; have HB := n0_; have BK172 := n1_; have GW172 := n2_; have GE172 := n3_; clear n0_ n1_ n2_ n3_; clear hb hbox hg; have hcz18_0 : w17.cell? ⟨gb172, 0, none⟩ = some (.int .i64 0) := (blk_cell BK172.out 0).trans rfl; have hcz18_1 : w17.cell? ⟨gb172, 1, none⟩ = some (.string (⟨#[]⟩ : ByteArray)) := (blk_cell BK172.out 1).trans rfl; have hcz18_2 : w17.cell? ⟨gb172, 2, none⟩ = some (.string (⟨#[]⟩ : ByteArray)) := (blk_cell BK172.out 2).trans rfl; have hfz18_0 := blk_frozen BK172.out 0; have hfz18_1 := blk_frozen BK172.out 1; have hfz18_2 := blk_frozen BK172.out 2) | (go_at_call 72; (with_reducible refine (impl_IntervalValid.calls k2 ((rd_T75 l0 x15_2).f1.f0) ((rd_T75 l0 x15_2).f1.f1) true _ A10.out).mono ?_); rintro e w19 ⟨rfl, hb⟩; have n0_ := Aside0.mk (blk_below (g := gb172) (o := .cells #[.int .i64 ((rd_T75 l0 x15_2).f0), .string ((rd_T75 l0 x15_2).f1.f0), .string ((rd_T75 l0 x15_2).f1.f1)] 75 (0, 0)) (by (with_reducible repeat (first | refine blk_drewN ?_ _ | refine blk_drew ?_ | refine blk_alloc ?_ _)); refine blk_put (cs := #[.int .i64 ((rd_T75 l0 x15_2).f0), .string ((rd_T75 l0 x15_2).f1.f0), .string (⟨#[]⟩ : ByteArray)]) ?_ 2 _ rfl; (with_reducible repeat (first | refine blk_drewN ?_ _ | refine blk_drew ?_ | refine blk_alloc ?_ _)); refine blk_put (cs := #[.int .i64 ((rd_T75 l0 x15_2).f0), .string (⟨#[]⟩ : ByteArray), .string (⟨#[]⟩ : ByteArray)]) ?_ 1 _ rfl; (with_reducible repeat (first | refine blk_drewN ?_ _ | refine blk_drew ?_ | refine blk_alloc ?_ _)); refine blk_put (cs := #[.int .i64 0, .string (⟨#[]⟩ : ByteArray), .string (⟨#[]⟩ : ByteArray)]) ?_ 0 _ rfl; (with_reducible repeat (first | refine blk_drewN ?_ _ | refine blk_drew ?_ | refine blk_alloc ?_ _)); exact BK172.out) hb); have n1_ := Aside0.mk (below_step (bz) hb); clear BK172; clear HB; have BK172 := n0_; have HB := n1_; clear n0_ n1_; (try clear hb); (try clear hb2); (try clear hk); (try clear hi); have p174 : 0 ≤ ((ji13) : Int) := of_decide_eq_true (by first | (with_reducible assumption) | assumption); have q174 : (ji13) < (l0.length : Int) := of_decide_eq_true (by first | (with_reducible assumption) | assumption); obtain ⟨ad174, e174, hx174_0, hx174_1, hx174_2⟩ := at_T75 HR0.out (ji13) p174 q174; obtain rfl : ad171 = ad174 := (by injection e174); replace hx174_0 := (HB.out.cell (World.block_lt_of_cell? w _ hx174_0)).trans hx174_0; replace hx174_1 := (HB.out.cell (World.block_lt_of_cell? w _ hx174_1)).trans hx174_1; replace hx174_2 := (HB.out.cell (World.block_lt_of_cell? w _ hx174_2)).trans hx174_2; replace p174 := eq_true p174; replace q174 := eq_true q174))
              repeat (go_quiet (first | ((with_reducible refine gate_dst (N := 4) rfl ?_); refine box_event ?hg (N := 4) ?hd (cs := #[.int .i64 0, .string (⟨#[]⟩ : ByteArray), .string (⟨#[]⟩ : ByteArray)]) (t := 75) ?hr ?_; (case hd => rfl); (case hg => rfl); (case hr => first | (go_simp; done) | (go_simp; rfl)); intro gb172 hg w17 hbox hb; have n0_ := Aside0.mk (below_step (bz) hb); have n1_ := Aside0.mk (hbox); have n2_ : Aside0 (w.heap.size ≤ gb172) := bsg hg; have n3_ : Aside0 (w.heap.size ≤ gb172) := bsg hg; clear HB; have HB := n0_; have BK172 := n1_; have GW172 := n2_; have GE172 := n3_; clear n0_ n1_ n2_ n3_; clear hb hbox hg; have hcz18_0 : w17.cell? ⟨gb172, 0, none⟩ = some (.int .i64 0) := (blk_cell BK172.out 0).trans rfl; have hcz18_1 : w17.cell? ⟨gb172, 1, none⟩ = some (.string (⟨#[]⟩ : ByteArray)) := (blk_cell BK172.out 1).trans rfl; have hcz18_2 : w17.cell? ⟨gb172, 2, none⟩ = some (.string (⟨#[]⟩ : ByteArray)) := (blk_cell BK172.out 2).trans rfl; have hfz18_0 := blk_frozen BK172.out 0; have hfz18_1 := blk_frozen BK172.out 1; have hfz18_2 := blk_frozen BK172.out 2) | (go_at_call 72; (with_reducible refine (impl_IntervalValid.calls k2 ((rd_T75 l0 x15_2).f1.f0) ((rd_T75 l0 x15_2).f1.f1) true _ A10.out).mono ?_); rintro e w19 ⟨rfl, hb⟩; have n0_ := Aside0.mk (blk_below (g := gb172) (o := .cells #[.int .i64 ((rd_T75 l0 x15_2).f0), .string ((rd_T75 l0 x15_2).f1.f0), .string ((rd_T75 l0 x15_2).f1.f1)] 75 (0, 0)) (by (with_reducible repeat (first | refine blk_drewN ?_ _ | refine blk_drew ?_ | refine blk_alloc ?_ _)); refine blk_put (cs := #[.int .i64 ((rd_T75 l0 x15_2).f0), .string ((rd_T75 l0 x15_2).f1.f0), .string (⟨#[]⟩ : ByteArray)]) ?_ 2 _ rfl; (with_reducible repeat (first | refine blk_drewN ?_ _ | refine blk_drew ?_ | refine blk_alloc ?_ _)); refine blk_put (cs := #[.int .i64 ((rd_T75 l0 x15_2).f0), .string (⟨#[]⟩ : ByteArray), .string (⟨#[]⟩ : ByteArray)]) ?_ 1 _ rfl; (with_reducible repeat (first | refine blk_drewN ?_ _ | refine blk_drew ?_ | refine blk_alloc ?_ _)); refine blk_put (cs := #[.int .i64 0, .string (⟨#[]⟩ : ByteArray), .string (⟨#[]⟩ : ByteArray)]) ?_ 0 _ rfl; (with_reducible repeat (first | refine blk_drewN ?_ _ | refine blk_drew ?_ | refine blk_alloc ?_ _)); exact BK172.out) hb); have n1_ := Aside0.mk (below_step (bz) hb); clear BK172; clear HB; have BK172 := n0_; have HB := n1_; clear n0_ n1_; (try clear hb); (try clear hb2); (try clear hk); (try clear hi); have p174 : 0 ≤ ((ji13) : Int) := of_decide_eq_true (by first | (with_reducible assumption) | assumption); have q174 : (ji13) < (l0.length : Int) := of_decide_eq_true (by first | (with_reducible assumption) | assumption); obtain ⟨ad174, e174, hx174_0, hx174_1, hx174_2⟩ := at_T75 HR0.out (ji13) p174 q174; obtain rfl : ad171 = ad174 := (by injection e174); replace hx174_0 := (HB.out.cell (World.block_lt_of_cell? w _ hx174_0)).trans hx174_0; replace hx174_1 := (HB.out.cell (World.block_lt_of_cell? w _ hx174_1)).trans hx174_1; replace hx174_2 := (HB.out.cell (World.block_lt_of_cell? w _ hx174_2)).trans hx174_2; replace p174 := eq_true p174; replace q174 := eq_true q174)); try go_wp2_with (first | ((with_reducible refine gate_dst (N := 4) rfl ?_); refine box_event ?hg (N := 4) ?hd (cs := #[.int .i64 0, .string (⟨#[]⟩ : ByteArray), .string (⟨#[]⟩ : ByteArray)]) (t := 75) ?hr ?_; (case hd => rfl); (case hg => rfl); (case hr => first | (go_simp; done) | (go_simp; rfl)); intro gb172 hg w17 hbox hb; have n0_ := Aside0.mk (below_step (bz) hb); have n1_ := Aside0.mk (hbox); have n2_ : Aside0 (w.heap.size ≤ gb172) := bsg hg; have n3_ : Aside0 (w.heap.size ≤ gb172) := bsg hg; clear HB; have HB := n0_; have BK172 := n1_; have GW172 := n2_; have GE172 := n3_; clear n0_ n1_ n2_ n3_; clear hb hbox hg; have hcz18_0 : w17.cell? ⟨gb172, 0, none⟩ = some (.int .i64 0) := (blk_cell BK172.out 0).trans rfl; have hcz18_1 : w17.cell? ⟨gb172, 1, none⟩ = some (.string (⟨#[]⟩ : ByteArray)) := (blk_cell BK172.out 1).trans rfl; have hcz18_2 : w17.cell? ⟨gb172, 2, none⟩ = some (.string (⟨#[]⟩ : ByteArray)) := (blk_cell BK172.out 2).trans rfl; have hfz18_0 := blk_frozen BK172.out 0; have hfz18_1 := blk_frozen BK172.out 1; have hfz18_2 := blk_frozen BK172.out 2) | (go_at_call 72; (with_reducible refine (impl_IntervalValid.calls k2 ((rd_T75 l0 x15_2).f1.f0) ((rd_T75 l0 x15_2).f1.f1) true _ A10.out).mono ?_); rintro e w19 ⟨rfl, hb⟩; have n0_ := Aside0.mk (blk_below (g := gb172) (o := .cells #[.int .i64 ((rd_T75 l0 x15_2).f0), .string ((rd_T75 l0 x15_2).f1.f0), .string ((rd_T75 l0 x15_2).f1.f1)] 75 (0, 0)) (by (with_reducible repeat (first | refine blk_drewN ?_ _ | refine blk_drew ?_ | refine blk_alloc ?_ _)); refine blk_put (cs := #[.int .i64 ((rd_T75 l0 x15_2).f0), .string ((rd_T75 l0 x15_2).f1.f0), .string (⟨#[]⟩ : ByteArray)]) ?_ 2 _ rfl; (with_reducible repeat (first | refine blk_drewN ?_ _ | refine blk_drew ?_ | refine blk_alloc ?_ _)); refine blk_put (cs := #[.int .i64 ((rd_T75 l0 x15_2).f0), .string (⟨#[]⟩ : ByteArray), .string (⟨#[]⟩ : ByteArray)]) ?_ 1 _ rfl; (with_reducible repeat (first | refine blk_drewN ?_ _ | refine blk_drew ?_ | refine blk_alloc ?_ _)); refine blk_put (cs := #[.int .i64 0, .string (⟨#[]⟩ : ByteArray), .string (⟨#[]⟩ : ByteArray)]) ?_ 0 _ rfl; (with_reducible repeat (first | refine blk_drewN ?_ _ | refine blk_drew ?_ | refine blk_alloc ?_ _)); exact BK172.out) hb); have n1_ := Aside0.mk (below_step (bz) hb); clear BK172; clear HB; have BK172 := n0_; have HB := n1_; clear n0_ n1_; (try clear hb); (try clear hb2); (try clear hk); (try clear hi); have p174 : 0 ≤ ((ji13) : Int) := of_decide_eq_true (by first | (with_reducible assumption) | assumption); have q174 : (ji13) < (l0.length : Int) := of_decide_eq_true (by first | (with_reducible assumption) | assumption); obtain ⟨ad174, e174, hx174_0, hx174_1, hx174_2⟩ := at_T75 HR0.out (ji13) p174 q174; obtain rfl : ad171 = ad174 := (by injection e174); replace hx174_0 := (HB.out.cell (World.block_lt_of_cell? w _ hx174_0)).trans hx174_0; replace hx174_1 := (HB.out.cell (World.block_lt_of_cell? w _ hx174_1)).trans hx174_1; replace hx174_2 := (HB.out.cell (World.block_lt_of_cell? w _ hx174_2)).trans hx174_2; replace p174 := eq_true p174; replace q174 := eq_true q174)))
              go_ret
              exact ⟨by first | rfl | (simp only [u8w, w64m]; rfl) | (simp [errW_none, errW_some] <;> rfl) | (simp only [← hji13]; first | rfl | (simp [errW_none, errW_some] <;> rfl)) | (simp [*, errW_none, errW_some] <;> rfl), bz⟩
             ·
              rw [if_neg c16] at H
              have c16b0 : (((rd_T75 l0 (ji13)).f1.f1).toList == ([] : List UInt8)) = false := beq_eq_false_iff_ne.mpr c16
              have c16b1 : (((rd_T75 l0 (ji13)).f1.f1).toList != ([] : List UInt8)) = true := bne_iff_ne.mpr c16
              by_cases c20 : (Op.bytesLess (((rd_T75 l0 x15_2).f1.f0).toList) (((rd_T75 l0 (ji13)).f1.f1).toList)) = true
              ·
               rw [if_pos c20] at H
               have c20b0 : (Op.bytesLess (((rd_T75 l0 x15_2).f1.f0).toList) (((rd_T75 l0 (ji13)).f1.f1).toList)) = true := c20
               clear c20
               obtain rfl := Option.some.inj H
               have p171 : 0 ≤ (x15_2 : Int) := of_decide_eq_true (by first | (with_reducible assumption) | assumption)
               have q171 : x15_2 < (l0.length : Int) := of_decide_eq_true (by first | (with_reducible assumption) | assumption)
               obtain ⟨ad171, e171, hx171_0, hx171_1, hx171_2⟩ := at_T75 HR0.out x15_2 p171 q171
               cases e171
               replace hx171_0 := (HB.out.cell (World.block_lt_of_cell? w _ hx171_0)).trans hx171_0
               replace hx171_1 := (HB.out.cell (World.block_lt_of_cell? w _ hx171_1)).trans hx171_1
               replace hx171_2 := (HB.out.cell (World.block_lt_of_cell? w _ hx171_2)).trans hx171_2
               replace p171 := eq_true p171
               replace q171 := eq_true q171
               go_wp2_with (first | ((with_reducible refine gate_dst (N := 4) rfl ?_); refine box_event ?hg (N := 4) ?hd (cs := #[.int .i64 0, .string (⟨#[]⟩ : ByteArray), .string (⟨#[]⟩ : ByteArray)]) (t := 75) ?hr ?_; (case hd => rfl); (case hg => rfl); (case hr => first | (go_simp; done) | (go_simp; rfl)); intro gb172 hg w21 hbox hb; have n0_ := Aside0.mk (below_step (bz) hb); have n1_ := Aside0.mk (hbox); have n2_ : Aside0 (w.heap.size ≤ gb172) := bsg hg; have n3_ : Aside0 (w.heap.size ≤ gb172) := bsg hg; clear HB; have HB := n0_; have BK172 := n1_; have GW172 := n2_; have GE172 := n3_; clear n0_ n1_ n2_ n3_; clear hb hbox hg; have hcz22_0 : w21.cell? ⟨gb172, 0, none⟩ = some (.int .i64 0) := (blk_cell BK172.out 0).trans rfl; have hcz22_1 : w21.cell? ⟨gb172, 1, none⟩ = some (.string (⟨#[]⟩ : ByteArray)) := (blk_cell BK172.out 1).trans rfl; have hcz22_2 : w21.cell? ⟨gb172, 2, none⟩ = some (.string (⟨#[]⟩ : ByteArray)) := (blk_cell BK172.out 2).trans rfl; have hfz22_0 := blk_frozen BK172.out 0; have hfz22_1 := blk_frozen BK172.out 1; have hfz22_2 := blk_frozen BK172.out 2) | (go_at_call 72; (with_reducible refine (impl_IntervalValid.calls k2 ((rd_T75 l0 x15_2).f1.f0) ((rd_T75 l0 x15_2).f1.f1) true _ A10.out).mono ?_); rintro e w23 ⟨rfl, hb⟩; have n0_ := Aside0.mk (blk_below (g := gb172) (o := .cells #[.int .i64 ((rd_T75 l0 x15_2).f0), .string ((rd_T75 l0 x15_2).f1.f0), .string ((rd_T75 l0 x15_2).f1.f1)] 75 (0, 0)) (by (with_reducible repeat (first | refine blk_drewN ?_ _ | refine blk_drew ?_ | refine blk_alloc ?_ _)); refine blk_put (cs := #[.int .i64 ((rd_T75 l0 x15_2).f0), .string ((rd_T75 l0 x15_2).f1.f0), .string (⟨#[]⟩ : ByteArray)]) ?_ 2 _ rfl; (with_reducible repeat (first | refine blk_drewN ?_ _ | refine blk_drew ?_ | refine blk_alloc ?_ _)); refine blk_put (cs := #[.int .i64 ((rd_T75 l0 x15_2).f0), .string (⟨#[]⟩ : ByteArray), .string (⟨#[]⟩ : ByteArray)]) ?_ 1 _ rfl; (with_reducible repeat (first | refine blk_drewN ?_ _ | refine blk_drew ?_ | refine blk_alloc ?_ _)); refine blk_put (cs := #[.int .i64 0, .string (⟨#[]⟩ : ByteArray), .string (⟨#[]⟩ : ByteArray)]) ?_ 0 _ rfl; (with_reducible repeat (first | refine blk_drewN ?_ _ | refine blk_drew ?_ | refine blk_alloc ?_ _)); exact BK172.out) hb); have n1_ := Aside0.mk (below_step (bz) hb); clear BK172; clear HB; have BK172 := n0_; have HB := n1_; clear n0_ n1_; (try clear hb); (try clear hb2); (try clear hk); (try clear hi); have p174 : 0 ≤ ((ji13) : Int) := of_decide_eq_true (by first | (with_reducible assumption) | assumption); have q174 : (ji13) < (l0.length : Int) := of_decide_eq_true (by first | (with_reducible assumption) | assumption); obtain ⟨ad174, e174, hx174_0, hx174_1, hx174_2⟩ := at_T75 HR0.out (ji13) p174 q174; obtain rfl : ad171 = ad174 := (by injection e174); replace hx174_0 := (HB.out.cell (World.block_lt_of_cell? w _ hx174_0)).trans hx174_0; replace hx174_1 := (HB.out.cell (World.block_lt_of_cell? w _ hx174_1)).trans hx174_1; replace hx174_2 := (HB.out.cell (World.block_lt_of_cell? w _ hx174_2)).trans hx174_2; replace p174 := eq_true p174; replace q174 := eq_true q174; have p175 : 0 ≤ ((ji13) : Int) := of_decide_eq_true (by first | (with_reducible assumption) | assumption); have q175 : (ji13) < (l0.length : Int) := of_decide_eq_true (by first | (with_reducible assumption) | assumption); obtain ⟨ad175, e175, hx175_0, hx175_1, hx175_2⟩ := at_T75 HR0.out (ji13) p175 q175; obtain rfl : ad171 = ad175 := (by injection e175); replace hx175_0 := (HB.out.cell (World.block_lt_of_cell? w _ hx175_0)).trans hx175_0; replace hx175_1 := (HB.out.cell (World.block_lt_of_cell? w _ hx175_1)).trans hx175_1; replace hx175_2 := (HB.out.cell (World.block_lt_of_cell? w _ hx175_2)).trans hx175_2; replace p175 := eq_true p175; replace q175 := eq_true q175; have hcz24_0 : w23.cell? ⟨gb172, 0, none⟩ = some (.int .i64 ((rd_T75 l0 x15_2).f0)) := (blk_cell BK172.out 0).trans rfl; have hcz24_1 : w23.cell? ⟨gb172, 1, none⟩ = some (.string ((rd_T75 l0 x15_2).f1.f0)) := (blk_cell BK172.out 1).trans rfl; have hcz24_2 : w23.cell? ⟨gb172, 2, none⟩ = some (.string ((rd_T75 l0 x15_2).f1.f1)) := (blk_cell BK172.out 2).trans rfl; have hfz24_0 := blk_frozen BK172.out 0; have hfz24_1 := blk_frozen BK172.out 1; have hfz24_2 := blk_frozen BK172.out 2))
               repeat (go_quiet (first | ((with_reducible refine gate_dst (N := 4) rfl ?_); refine box_event ?hg (N := 4) ?hd (cs := #[.int .i64 0, .string (⟨#[]⟩ : ByteArray), .string (⟨#[]⟩ : ByteArray)]) (t := 75) ?hr ?_; (case hd => rfl); (case hg => rfl); (case hr => first | (go_simp; done) | (go_simp; rfl)); intro gb172 hg w21 hbox hb; have n0_ := Aside0.mk (below_step (bz) hb); have n1_ := Aside0.mk (hbox); have n2_ : Aside0 (w.heap.size ≤ gb172) := bsg hg; have n3_ : Aside0 (w.heap.size ≤ gb172) := bsg hg; clear HB; have HB := n0_; have BK172 := n1_; have GW172 := n2_; have GE172 := n3_; clear n0_ n1_ n2_ n3_; clear hb hbox hg; have hcz22_0 : w21.cell? ⟨gb172, 0, none⟩ = some (.int .i64 0) := (blk_cell BK172.out 0).trans rfl; have hcz22_1 : w21.cell? ⟨gb172, 1, none⟩ = some (.string (⟨#[]⟩ : ByteArray)) := (blk_cell BK172.out 1).trans rfl; have hcz22_2 : w21.cell? ⟨gb172, 2, none⟩ = some (.string (⟨#[]⟩ : ByteArray)) := (blk_cell BK172.out 2).trans rfl; have hfz22_0 := blk_frozen BK172.out 0; have hfz22_1 := blk_frozen BK172.out 1; have hfz22_2 := blk_frozen BK172.out 2) | (go_at_call 72; (with_reducible refine (impl_IntervalValid.calls k2 ((rd_T75 l0 x15_2).f1.f0) ((rd_T75 l0 x15_2).f1.f1) true _ A10.out).mono ?_); rintro e w23 ⟨rfl, hb⟩; have n0_ := Aside0.mk (blk_below (g := gb172) (o := .cells #[.int .i64 ((rd_T75 l0 x15_2).f0), .string ((rd_T75 l0 x15_2).f1.f0), .string ((rd_T75 l0 x15_2).f1.f1)] 75 (0, 0)) (by (with_reducible repeat (first | refine blk_drewN ?_ _ | refine blk_drew ?_ | refine blk_alloc ?_ _)); refine blk_put (cs := #[.int .i64 ((rd_T75 l0 x15_2).f0), .string ((rd_T75 l0 x15_2).f1.f0), .string (⟨#[]⟩ : ByteArray)]) ?_ 2 _ rfl; (with_reducible repeat (first | refine blk_drewN ?_ _ | refine blk_drew ?_ | refine blk_alloc ?_ _)); refine blk_put (cs := #[.int .i64 ((rd_T75 l0 x15_2).f0), .string (⟨#[]⟩ : ByteArray), .string (⟨#[]⟩ : ByteArray)]) ?_ 1 _ rfl; (with_reducible repeat (first | refine blk_drewN ?_ _ | refine blk_drew ?_ | refine blk_alloc ?_ _)); refine blk_put (cs := #[.int .i64 0, .string (⟨#[]⟩ : ByteArray), .string (⟨#[]⟩ : ByteArray)]) ?_ 0 _ rfl; (with_reducible repeat (first | refine blk_drewN ?_ _ | refine blk_drew ?_ | refine blk_alloc ?_ _)); exact BK172.out) hb); have n1_ := Aside0.mk (below_step (bz) hb); clear BK172; clear HB; have BK172 := n0_; have HB := n1_; clear n0_ n1_; (try clear hb); (try clear hb2); (try clear hk); (try clear hi); have p174 : 0 ≤ ((ji13) : Int) := of_decide_eq_true (by first | (with_reducible assumption) | assumption); have q174 : (ji13) < (l0.length : Int) := of_decide_eq_true (by first | (with_reducible assumption) | assumption); obtain ⟨ad174, e174, hx174_0, hx174_1, hx174_2⟩ := at_T75 HR0.out (ji13) p174 q174; obtain rfl : ad171 = ad174 := (by injection e174); replace hx174_0 := (HB.out.cell (World.block_lt_of_cell? w _ hx174_0)).trans hx174_0; replace hx174_1 := (HB.out.cell (World.block_lt_of_cell? w _ hx174_1)).trans hx174_1; replace hx174_2 := (HB.out.cell (World.block_lt_of_cell? w _ hx174_2)).trans hx174_2; replace p174 := eq_true p174; replace q174 := eq_true q174; have p175 : 0 ≤ ((ji13) : Int) := of_decide_eq_true (by first | (with_reducible assumption) | assumption); have q175 : (ji13) < (l0.length : Int) := of_decide_eq_true (by first | (with_reducible assumption) | assumption); obtain ⟨ad175, e175, hx175_0, hx175_1, hx175_2⟩ := at_T75 HR0.out (ji13) p175 q175; obtain rfl : ad171 = ad175 := (by injection e175); replace hx175_0 := (HB.out.cell (World.block_lt_of_cell? w _ hx175_0)).trans hx175_0; replace hx175_1 := (HB.out.cell (World.block_lt_of_cell? w _ hx175_1)).trans hx175_1; replace hx175_2 := (HB.out.cell (World.block_lt_of_cell? w _ hx175_2)).trans hx175_2; replace p175 := eq_true p175; replace q175 := eq_true q175; have hcz24_0 : w23.cell? ⟨gb172, 0, none⟩ = some (.int .i64 ((rd_T75 l0 x15_2).f0)) := (blk_cell BK172.out 0).trans rfl; have hcz24_1 : w23.cell? ⟨gb172, 1, none⟩ = some (.string ((rd_T75 l0 x15_2).f1.f0)) := (blk_cell BK172.out 1).trans rfl; have hcz24_2 : w23.cell? ⟨gb172, 2, none⟩ = some (.string ((rd_T75 l0 x15_2).f1.f1)) := (blk_cell BK172.out 2).trans rfl; have hfz24_0 := blk_frozen BK172.out 0; have hfz24_1 := blk_frozen BK172.out 1; have hfz24_2 := blk_frozen BK172.out 2)); try go_wp2_with (first | ((with_reducible refine gate_dst (N := 4) rfl ?_); refine box_event ?hg (N := 4) ?hd (cs := #[.int .i64 0, .string (⟨#[]⟩ : ByteArray), .string (⟨#[]⟩ : ByteArray)]) (t := 75) ?hr ?_; (case hd => rfl); (case hg => rfl); (case hr => first | (go_simp; done) | (go_simp; rfl)); intro gb172 hg w21 hbox hb; have n0_ := Aside0.mk (below_step (bz) hb); have n1_ := Aside0.mk (hbox); have n2_ : Aside0 (w.heap.size ≤ gb172) := bsg hg; have n3_ : Aside0 (w.heap.size ≤ gb172) := bsg hg; clear HB; have HB := n0_; have BK172 := n1_; have GW172 := n2_; have GE172 := n3_; clear n0_ n1_ n2_ n3_; clear hb hbox hg; have hcz22_0 : w21.cell? ⟨gb172, 0, none⟩ = some (.int .i64 0) := (blk_cell BK172.out 0).trans rfl; have hcz22_1 : w21.cell? ⟨gb172, 1, none⟩ = some (.string (⟨#[]⟩ : ByteArray)) := (blk_cell BK172.out 1).trans rfl; have hcz22_2 : w21.cell? ⟨gb172, 2, none⟩ = some (.string (⟨#[]⟩ : ByteArray)) := (blk_cell BK172.out 2).trans rfl; have hfz22_0 := blk_frozen BK172.out 0; have hfz22_1 := blk_frozen BK172.out 1; have hfz22_2 := blk_frozen BK172.out 2) | (go_at_call 72; (with_reducible refine (impl_IntervalValid.calls k2 ((rd_T75 l0 x15_2).f1.f0) ((rd_T75 l0 x15_2).f1.f1) true _ A10.out).mono ?_); rintro e w23 ⟨rfl, hb⟩; have n0_ := Aside0.mk (blk_below (g := gb172) (o := .cells #[.int .i64 ((rd_T75 l0 x15_2).f0), .string ((rd_T75 l0 x15_2).f1.f0), .string ((rd_T75 l0 x15_2).f1.f1)] 75 (0, 0)) (by (with_reducible repeat (first | refine blk_drewN ?_ _ | refine blk_drew ?_ | refine blk_alloc ?_ _)); refine blk_put (cs := #[.int .i64 ((rd_T75 l0 x15_2).f0), .string ((rd_T75 l0 x15_2).f1.f0), .string (⟨#[]⟩ : ByteArray)]) ?_ 2 _ rfl; (with_reducible repeat (first | refine blk_drewN ?_ _ | refine blk_drew ?_ | refine blk_alloc ?_ _)); refine blk_put (cs := #[.int .i64 ((rd_T75 l0 x15_2).f0), .string (⟨#[]⟩ : ByteArray), .string (⟨#[]⟩ : ByteArray)]) ?_ 1 _ rfl; (with_reducible repeat (first | refine blk_drewN ?_ _ | refine blk_drew ?_ | refine blk_alloc ?_ _)); refine blk_put (cs := #[.int .i64 0, .string (⟨#[]⟩ : ByteArray), .string (⟨#[]⟩ : ByteArray)]) ?_ 0 _ rfl; (with_reducible repeat (first | refine blk_drewN ?_ _ | refine blk_drew ?_ | refine blk_alloc ?_ _)); exact BK172.out) hb); have n1_ := Aside0.mk (below_step (bz) hb); clear BK172; clear HB; have BK172 := n0_; have HB := n1_; clear n0_ n1_; (try clear hb); (try clear hb2); (try clear hk); (try clear hi); have p174 : 0 ≤ ((ji13) : Int) := of_decide_eq_true (by first | (with_reducible assumption) | assumption); have q174 : (ji13) < (l0.length : Int) := of_decide_eq_true (by first | (with_reducible assumption) | assumption); obtain ⟨ad174, e174, hx174_0, hx174_1, hx174_2⟩ := at_T75 HR0.out (ji13) p174 q174; obtain rfl : ad171 = ad174 := (by injection e174); replace hx174_0 := (HB.out.cell (World.block_lt_of_cell? w _ hx174_0)).trans hx174_0; replace hx174_1 := (HB.out.cell (World.block_lt_of_cell? w _ hx174_1)).trans hx174_1; replace hx174_2 := (HB.out.cell (World.block_lt_of_cell? w _ hx174_2)).trans hx174_2; replace p174 := eq_true p174; replace q174 := eq_true q174; have p175 : 0 ≤ ((ji13) : Int) := of_decide_eq_true (by first | (with_reducible assumption) | assumption); have q175 : (ji13) < (l0.length : Int) := of_decide_eq_true (by first | (with_reducible assumption) | assumption); obtain ⟨ad175, e175, hx175_0, hx175_1, hx175_2⟩ := at_T75 HR0.out (ji13) p175 q175; obtain rfl : ad171 = ad175 := (by injection e175); replace hx175_0 := (HB.out.cell (World.block_lt_of_cell? w _ hx175_0)).trans hx175_0; replace hx175_1 := (HB.out.cell (World.block_lt_of_cell? w _ hx175_1)).trans hx175_1; replace hx175_2 := (HB.out.cell (World.block_lt_of_cell? w _ hx175_2)).trans hx175_2; replace p175 := eq_true p175; replace q175 := eq_true q175; have hcz24_0 : w23.cell? ⟨gb172, 0, none⟩ = some (.int .i64 ((rd_T75 l0 x15_2).f0)) := (blk_cell BK172.out 0).trans rfl; have hcz24_1 : w23.cell? ⟨gb172, 1, none⟩ = some (.string ((rd_T75 l0 x15_2).f1.f0)) := (blk_cell BK172.out 1).trans rfl; have hcz24_2 : w23.cell? ⟨gb172, 2, none⟩ = some (.string ((rd_T75 l0 x15_2).f1.f1)) := (blk_cell BK172.out 2).trans rfl; have hfz24_0 := blk_frozen BK172.out 0; have hfz24_1 := blk_frozen BK172.out 1; have hfz24_2 := blk_frozen BK172.out 2)))
               go_ret
               exact ⟨by first | rfl | (simp only [u8w, w64m]; rfl) | (simp [errW_none, errW_some] <;> rfl) | (simp only [← hji13]; first | rfl | (simp [errW_none, errW_some] <;> rfl)) | (simp [*, errW_none, errW_some] <;> rfl), bz⟩
              ·
               rw [if_neg c20] at H
               have c20b0 : (Op.bytesLess (((rd_T75 l0 x15_2).f1.f0).toList) (((rd_T75 l0 (ji13)).f1.f1).toList)) = false := by simpa using c20
               clear c20
               have H' := Aside0.mk H
               clear H
               have p171 : 0 ≤ (x15_2 : Int) := of_decide_eq_true (by first | (with_reducible assumption) | assumption)
               have q171 : x15_2 < (l0.length : Int) := of_decide_eq_true (by first | (with_reducible assumption) | assumption)
               obtain ⟨ad171, e171, hx171_0, hx171_1, hx171_2⟩ := at_T75 HR0.out x15_2 p171 q171
               cases e171
               replace hx171_0 := (HB.out.cell (World.block_lt_of_cell? w _ hx171_0)).trans hx171_0
               replace hx171_1 := (HB.out.cell (World.block_lt_of_cell? w _ hx171_1)).trans hx171_1
               replace hx171_2 := (HB.out.cell (World.block_lt_of_cell? w _ hx171_2)).trans hx171_2
               replace p171 := eq_true p171
               replace q171 := eq_true q171
               go_wp2_with (first | ((with_reducible refine gate_dst (N := 4) rfl ?_); refine box_event ?hg (N := 4) ?hd (cs := #[.int .i64 0, .string (⟨#[]⟩ : ByteArray), .string (⟨#[]⟩ : ByteArray)]) (t := 75) ?hr ?_; (case hd => rfl); (case hg => rfl); (case hr => first | (go_simp; done) | (go_simp; rfl)); intro gb172 hg w25 hbox hb; have n0_ := Aside0.mk (below_step (bz) hb); have n1_ := Aside0.mk (hbox); have n2_ : Aside0 (w.heap.size ≤ gb172) := bsg hg; have n3_ : Aside0 (w.heap.size ≤ gb172) := bsg hg; clear HB; have HB := n0_; have BK172 := n1_; have GW172 := n2_; have GE172 := n3_; clear n0_ n1_ n2_ n3_; clear hb hbox hg; have hcz26_0 : w25.cell? ⟨gb172, 0, none⟩ = some (.int .i64 0) := (blk_cell BK172.out 0).trans rfl; have hcz26_1 : w25.cell? ⟨gb172, 1, none⟩ = some (.string (⟨#[]⟩ : ByteArray)) := (blk_cell BK172.out 1).trans rfl; have hcz26_2 : w25.cell? ⟨gb172, 2, none⟩ = some (.string (⟨#[]⟩ : ByteArray)) := (blk_cell BK172.out 2).trans rfl; have hfz26_0 := blk_frozen BK172.out 0; have hfz26_1 := blk_frozen BK172.out 1; have hfz26_2 := blk_frozen BK172.out 2) | (go_at_call 72; (with_reducible refine (impl_IntervalValid.calls k2 ((rd_T75 l0 x15_2).f1.f0) ((rd_T75 l0 x15_2).f1.f1) true _ A10.out).mono ?_); rintro e w27 ⟨rfl, hb⟩; have n0_ := Aside0.mk (blk_below (g := gb172) (o := .cells #[.int .i64 ((rd_T75 l0 x15_2).f0), .string ((rd_T75 l0 x15_2).f1.f0), .string ((rd_T75 l0 x15_2).f1.f1)] 75 (0, 0)) (by (with_reducible repeat (first | refine blk_drewN ?_ _ | refine blk_drew ?_ | refine blk_alloc ?_ _)); refine blk_put (cs := #[.int .i64 ((rd_T75 l0 x15_2).f0), .string ((rd_T75 l0 x15_2).f1.f0), .string (⟨#[]⟩ : ByteArray)]) ?_ 2 _ rfl; (with_reducible repeat (first | refine blk_drewN ?_ _ | refine blk_drew ?_ | refine blk_alloc ?_ _)); refine blk_put (cs := #[.int .i64 ((rd_T75 l0 x15_2).f0), .string (⟨#[]⟩ : ByteArray), .string (⟨#[]⟩ : ByteArray)]) ?_ 1 _ rfl; (with_reducible repeat (first | refine blk_drewN ?_ _ | refine blk_drew ?_ | refine blk_alloc ?_ _)); refine blk_put (cs := #[.int .i64 0, .string (⟨#[]⟩ : ByteArray), .string (⟨#[]⟩ : ByteArray)]) ?_ 0 _ rfl; (with_reducible repeat (first | refine blk_drewN ?_ _ | refine blk_drew ?_ | refine blk_alloc ?_ _)); exact BK172.out) hb); have n1_ := Aside0.mk (below_step (bz) hb); clear BK172; clear HB; have BK172 := n0_; have HB := n1_; clear n0_ n1_; (try clear hb); (try clear hb2); (try clear hk); (try clear hi); have p174 : 0 ≤ ((ji13) : Int) := of_decide_eq_true (by first | (with_reducible assumption) | assumption); have q174 : (ji13) < (l0.length : Int) := of_decide_eq_true (by first | (with_reducible assumption) | assumption); obtain ⟨ad174, e174, hx174_0, hx174_1, hx174_2⟩ := at_T75 HR0.out (ji13) p174 q174; obtain rfl : ad171 = ad174 := (by injection e174); replace hx174_0 := (HB.out.cell (World.block_lt_of_cell? w _ hx174_0)).trans hx174_0; replace hx174_1 := (HB.out.cell (World.block_lt_of_cell? w _ hx174_1)).trans hx174_1; replace hx174_2 := (HB.out.cell (World.block_lt_of_cell? w _ hx174_2)).trans hx174_2; replace p174 := eq_true p174; replace q174 := eq_true q174; have p175 : 0 ≤ ((ji13) : Int) := of_decide_eq_true (by first | (with_reducible assumption) | assumption); have q175 : (ji13) < (l0.length : Int) := of_decide_eq_true (by first | (with_reducible assumption) | assumption); obtain ⟨ad175, e175, hx175_0, hx175_1, hx175_2⟩ := at_T75 HR0.out (ji13) p175 q175; obtain rfl : ad171 = ad175 := (by injection e175); replace hx175_0 := (HB.out.cell (World.block_lt_of_cell? w _ hx175_0)).trans hx175_0; replace hx175_1 := (HB.out.cell (World.block_lt_of_cell? w _ hx175_1)).trans hx175_1; replace hx175_2 := (HB.out.cell (World.block_lt_of_cell? w _ hx175_2)).trans hx175_2; replace p175 := eq_true p175; replace q175 := eq_true q175; have hcz28_0 : w27.cell? ⟨gb172, 0, none⟩ = some (.int .i64 ((rd_T75 l0 x15_2).f0)) := (blk_cell BK172.out 0).trans rfl; have hcz28_1 : w27.cell? ⟨gb172, 1, none⟩ = some (.string ((rd_T75 l0 x15_2).f1.f0)) := (blk_cell BK172.out 1).trans rfl; have hcz28_2 : w27.cell? ⟨gb172, 2, none⟩ = some (.string ((rd_T75 l0 x15_2).f1.f1)) := (blk_cell BK172.out 2).trans rfl; have hfz28_0 := blk_frozen BK172.out 0; have hfz28_1 := blk_frozen BK172.out 1; have hfz28_2 := blk_frozen BK172.out 2))
               repeat (go_quiet (first | ((with_reducible refine gate_dst (N := 4) rfl ?_); refine box_event ?hg (N := 4) ?hd (cs := #[.int .i64 0, .string (⟨#[]⟩ : ByteArray), .string (⟨#[]⟩ : ByteArray)]) (t := 75) ?hr ?_; (case hd => rfl); (case hg => rfl); (case hr => first | (go_simp; done) | (go_simp; rfl)); intro gb172 hg w25 hbox hb; have n0_ := Aside0.mk (below_step (bz) hb); have n1_ := Aside0.mk (hbox); have n2_ : Aside0 (w.heap.size ≤ gb172) := bsg hg; have n3_ : Aside0 (w.heap.size ≤ gb172) := bsg hg; clear HB; have HB := n0_; have BK172 := n1_; have GW172 := n2_; have GE172 := n3_; clear n0_ n1_ n2_ n3_; clear hb hbox hg; have hcz26_0 : w25.cell? ⟨gb172, 0, none⟩ = some (.int .i64 0) := (blk_cell BK172.out 0).trans rfl; have hcz26_1 : w25.cell? ⟨gb172, 1, none⟩ = some (.string (⟨#[]⟩ : ByteArray)) := (blk_cell BK172.out 1).trans rfl; have hcz26_2 : w25.cell? ⟨gb172, 2, none⟩ = some (.string (⟨#[]⟩ : ByteArray)) := (blk_cell BK172.out 2).trans rfl; have hfz26_0 := blk_frozen BK172.out 0; have hfz26_1 := blk_frozen BK172.out 1; have hfz26_2 := blk_frozen BK172.out 2) | (go_at_call 72; (with_reducible refine (impl_IntervalValid.calls k2 ((rd_T75 l0 x15_2).f1.f0) ((rd_T75 l0 x15_2).f1.f1) true _ A10.out).mono ?_); rintro e w27 ⟨rfl, hb⟩; have n0_ := Aside0.mk (blk_below (g := gb172) (o := .cells #[.int .i64 ((rd_T75 l0 x15_2).f0), .string ((rd_T75 l0 x15_2).f1.f0), .string ((rd_T75 l0 x15_2).f1.f1)] 75 (0, 0)) (by (with_reducible repeat (first | refine blk_drewN ?_ _ | refine blk_drew ?_ | refine blk_alloc ?_ _)); refine blk_put (cs := #[.int .i64 ((rd_T75 l0 x15_2).f0), .string ((rd_T75 l0 x15_2).f1.f0), .string (⟨#[]⟩ : ByteArray)]) ?_ 2 _ rfl; (with_reducible repeat (first | refine blk_drewN ?_ _ | refine blk_drew ?_ | refine blk_alloc ?_ _)); refine blk_put (cs := #[.int .i64 ((rd_T75 l0 x15_2).f0), .string (⟨#[]⟩ : ByteArray), .string (⟨#[]⟩ : ByteArray)]) ?_ 1 _ rfl; (with_reducible repeat (first | refine blk_drewN ?_ _ | refine blk_drew ?_ | refine blk_alloc ?_ _)); refine blk_put (cs := #[.int .i64 0, .string (⟨#[]⟩ : ByteArray), .string (⟨#[]⟩ : ByteArray)]) ?_ 0 _ rfl; (with_reducible repeat (first | refine blk_drewN ?_ _ | refine blk_drew ?_ | refine blk_alloc ?_ _)); exact BK172.out) hb); have n1_ := Aside0.mk (below_step (bz) hb); clear BK172; clear HB; have BK172 := n0_; have HB := n1_; clear n0_ n1_; (try clear hb); (try clear hb2); (try clear hk); (try clear hi); have p174 : 0 ≤ ((ji13) : Int) := of_decide_eq_true (by first | (with_reducible assumption) | assumption); have q174 : (ji13) < (l0.length : Int) := of_decide_eq_true (by first | (with_reducible assumption) | assumption); obtain ⟨ad174, e174, hx174_0, hx174_1, hx174_2⟩ := at_T75 HR0.out (ji13) p174 q174; obtain rfl : ad171 = ad174 := (by injection e174); replace hx174_0 := (HB.out.cell (World.block_lt_of_cell? w _ hx174_0)).trans hx174_0; replace hx174_1 := (HB.out.cell (World.block_lt_of_cell? w _ hx174_1)).trans hx174_1; replace hx174_2 := (HB.out.cell (World.block_lt_of_cell? w _ hx174_2)).trans hx174_2; replace p174 := eq_true p174; replace q174 := eq_true q174; have p175 : 0 ≤ ((ji13) : Int) := of_decide_eq_true (by first | (with_reducible assumption) | assumption); have q175 : (ji13) < (l0.length : Int) := of_decide_eq_true (by first | (with_reducible assumption) | assumption); obtain ⟨ad175, e175, hx175_0, hx175_1, hx175_2⟩ := at_T75 HR0.out (ji13) p175 q175; obtain rfl : ad171 = ad175 := (by injection e175); replace hx175_0 := (HB.out.cell (World.block_lt_of_cell? w _ hx175_0)).trans hx175_0; replace hx175_1 := (HB.out.cell (World.block_lt_of_cell? w _ hx175_1)).trans hx175_1; replace hx175_2 := (HB.out.cell (World.block_lt_of_cell? w _ hx175_2)).trans hx175_2; replace p175 := eq_true p175; replace q175 := eq_true q175; have hcz28_0 : w27.cell? ⟨gb172, 0, none⟩ = some (.int .i64 ((rd_T75 l0 x15_2).f0)) := (blk_cell BK172.out 0).trans rfl; have hcz28_1 : w27.cell? ⟨gb172, 1, none⟩ = some (.string ((rd_T75 l0 x15_2).f1.f0)) := (blk_cell BK172.out 1).trans rfl; have hcz28_2 : w27.cell? ⟨gb172, 2, none⟩ = some (.string ((rd_T75 l0 x15_2).f1.f1)) := (blk_cell BK172.out 2).trans rfl; have hfz28_0 := blk_frozen BK172.out 0; have hfz28_1 := blk_frozen BK172.out 1; have hfz28_2 := blk_frozen BK172.out 2)); try go_wp2_with (first | ((with_reducible refine gate_dst (N := 4) rfl ?_); refine box_event ?hg (N := 4) ?hd (cs := #[.int .i64 0, .string (⟨#[]⟩ : ByteArray), .string (⟨#[]⟩ : ByteArray)]) (t := 75) ?hr ?_; (case hd => rfl); (case hg => rfl); (case hr => first | (go_simp; done) | (go_simp; rfl)); intro gb172 hg w25 hbox hb; have n0_ := Aside0.mk (below_step (bz) hb); have n1_ := Aside0.mk (hbox); have n2_ : Aside0 (w.heap.size ≤ gb172) := bsg hg; have n3_ : Aside0 (w.heap.size ≤ gb172) := bsg hg; clear HB; have HB := n0_; have BK172 := n1_; have GW172 := n2_; have GE172 := n3_; clear n0_ n1_ n2_ n3_; clear hb hbox hg; have hcz26_0 : w25.cell? ⟨gb172, 0, none⟩ = some (.int .i64 0) := (blk_cell BK172.out 0).trans rfl; have hcz26_1 : w25.cell? ⟨gb172, 1, none⟩ = some (.string (⟨#[]⟩ : ByteArray)) := (blk_cell BK172.out 1).trans rfl; have hcz26_2 : w25.cell? ⟨gb172, 2, none⟩ = some (.string (⟨#[]⟩ : ByteArray)) := (blk_cell BK172.out 2).trans rfl; have hfz26_0 := blk_frozen BK172.out 0; have hfz26_1 := blk_frozen BK172.out 1; have hfz26_2 := blk_frozen BK172.out 2) | (go_at_call 72; (with_reducible refine (impl_IntervalValid.calls k2 ((rd_T75 l0 x15_2).f1.f0) ((rd_T75 l0 x15_2).f1.f1) true _ A10.out).mono ?_); rintro e w27 ⟨rfl, hb⟩; have n0_ := Aside0.mk (blk_below (g := gb172) (o := .cells #[.int .i64 ((rd_T75 l0 x15_2).f0), .string ((rd_T75 l0 x15_2).f1.f0), .string ((rd_T75 l0 x15_2).f1.f1)] 75 (0, 0)) (by (with_reducible repeat (first | refine blk_drewN ?_ _ | refine blk_drew ?_ | refine blk_alloc ?_ _)); refine blk_put (cs := #[.int .i64 ((rd_T75 l0 x15_2).f0), .string ((rd_T75 l0 x15_2).f1.f0), .string (⟨#[]⟩ : ByteArray)]) ?_ 2 _ rfl; (with_reducible repeat (first | refine blk_drewN ?_ _ | refine blk_drew ?_ | refine blk_alloc ?_ _)); refine blk_put (cs := #[.int .i64 ((rd_T75 l0 x15_2).f0), .string (⟨#[]⟩ : ByteArray), .string (⟨#[]⟩ : ByteArray)]) ?_ 1 _ rfl; (with_reducible repeat (first | refine blk_drewN ?_ _ | refine blk_drew ?_ | refine blk_alloc ?_ _)); refine blk_put (cs := #[.int .i64 0, .string (⟨#[]⟩ : ByteArray), .string (⟨#[]⟩ : ByteArray)]) ?_ 0 _ rfl; (with_reducible repeat (first | refine blk_drewN ?_ _ | refine blk_drew ?_ | refine blk_alloc ?_ _)); exact BK172.out) hb); have n1_ := Aside0.mk (below_step (bz) hb); clear BK172; clear HB; have BK172 := n0_; have HB := n1_; clear n0_ n1_; (try clear hb); (try clear hb2); (try clear hk); (try clear hi); have p174 : 0 ≤ ((ji13) : Int) := of_decide_eq_true (by first | (with_reducible assumption) | assumption); have q174 : (ji13) < (l0.length : Int) := of_decide_eq_true (by first | (with_reducible assumption) | assumption); obtain ⟨ad174, e174, hx174_0, hx174_1, hx174_2⟩ := at_T75 HR0.out (ji13) p174 q174; obtain rfl : ad171 = ad174 := (by injection e174); replace hx174_0 := (HB.out.cell (World.block_lt_of_cell? w _ hx174_0)).trans hx174_0; replace hx174_1 := (HB.out.cell (World.block_lt_of_cell? w _ hx174_1)).trans hx174_1; replace hx174_2 := (HB.out.cell (World.block_lt_of_cell? w _ hx174_2)).trans hx174_2; replace p174 := eq_true p174; replace q174 := eq_true q174; have p175 : 0 ≤ ((ji13) : Int) := of_decide_eq_true (by first | (with_reducible assumption) | assumption); have q175 : (ji13) < (l0.length : Int) := of_decide_eq_true (by first | (with_reducible assumption) | assumption); obtain ⟨ad175, e175, hx175_0, hx175_1, hx175_2⟩ := at_T75 HR0.out (ji13) p175 q175; obtain rfl : ad171 = ad175 := (by injection e175); replace hx175_0 := (HB.out.cell (World.block_lt_of_cell? w _ hx175_0)).trans hx175_0; replace hx175_1 := (HB.out.cell (World.block_lt_of_cell? w _ hx175_1)).trans hx175_1; replace hx175_2 := (HB.out.cell (World.block_lt_of_cell? w _ hx175_2)).trans hx175_2; replace p175 := eq_true p175; replace q175 := eq_true q175; have hcz28_0 : w27.cell? ⟨gb172, 0, none⟩ = some (.int .i64 ((rd_T75 l0 x15_2).f0)) := (blk_cell BK172.out 0).trans rfl; have hcz28_1 : w27.cell? ⟨gb172, 1, none⟩ = some (.string ((rd_T75 l0 x15_2).f1.f0)) := (blk_cell BK172.out 1).trans rfl; have hcz28_2 : w27.cell? ⟨gb172, 2, none⟩ = some (.string ((rd_T75 l0 x15_2).f1.f1)) := (blk_cell BK172.out 2).trans rfl; have hfz28_0 := blk_frozen BK172.out 0; have hfz28_1 := blk_frozen BK172.out 1; have hfz28_2 := blk_frozen BK172.out 2)))
               go_roundg k2
               case measure => have := HJ1.out; have := HK2.out; omega
               case rel => exact ⟨(wrap64 (x15_2 + 1)), (by first | rfl | (simp; done) | exact congrArg Value.bool (ne_nil_b _) | exact congrArg Value.bool (eq_nil_b _) | (simp [*]; done)), H', ⟨by have := HJ1.out; have := HK2.out; omega⟩, ⟨bz⟩⟩
            ·
             rw [if_neg c15] at H
             exact absurd H (by simp)
           ·
            rw [if_neg c14] at H
            exact absurd H (by simp)
          ·
           rw [if_neg c12] at H
           have c12b0 : decide (0 < x15_2) = false := decide_eq_false c12
           clear c12
           have H' := Aside0.mk H
           clear H
           have p171 : 0 ≤ (x15_2 : Int) := of_decide_eq_true (by first | (with_reducible assumption) | assumption)
           have q171 : x15_2 < (l0.length : Int) := of_decide_eq_true (by first | (with_reducible assumption) | assumption)
           obtain ⟨ad171, e171, hx171_0, hx171_1, hx171_2⟩ := at_T75 HR0.out x15_2 p171 q171
           cases e171
           replace hx171_0 := (HB.out.cell (World.block_lt_of_cell? w _ hx171_0)).trans hx171_0
           replace hx171_1 := (HB.out.cell (World.block_lt_of_cell? w _ hx171_1)).trans hx171_1
           replace hx171_2 := (HB.out.cell (World.block_lt_of_cell? w _ hx171_2)).trans hx171_2
           replace p171 := eq_true p171
           replace q171 := eq_true q171
           go_wp2_with (first | ((with_reducible refine gate_dst (N := 4) rfl ?_); refine box_event ?hg (N := 4) ?hd (cs := #[.int .i64 0, .string (⟨#[]⟩ : ByteArray), .string (⟨#[]⟩ : ByteArray)]) (t := 75) ?hr ?_; (case hd => rfl); (case hg => rfl); (case hr => first | (go_simp; done) | (go_simp; rfl)); intro gb172 hg w29 hbox hb; have n0_ := Aside0.mk (below_step (bz) hb); have n1_ := Aside0.mk (hbox); have n2_ : Aside0 (w.heap.size ≤ gb172) := bsg hg; have n3_ : Aside0 (w.heap.size ≤ gb172) := bsg hg; clear HB; have HB := n0_; have BK172 := n1_; have GW172 := n2_; have GE172 := n3_; clear n0_ n1_ n2_ n3_; clear hb hbox hg; have hcz30_0 : w29.cell? ⟨gb172, 0, none⟩ = some (.int .i64 0) := (blk_cell BK172.out 0).trans rfl; have hcz30_1 : w29.cell? ⟨gb172, 1, none⟩ = some (.string (⟨#[]⟩ : ByteArray)) := (blk_cell BK172.out 1).trans rfl; have hcz30_2 : w29.cell? ⟨gb172, 2, none⟩ = some (.string (⟨#[]⟩ : ByteArray)) := (blk_cell BK172.out 2).trans rfl; have hfz30_0 := blk_frozen BK172.out 0; have hfz30_1 := blk_frozen BK172.out 1; have hfz30_2 := blk_frozen BK172.out 2) | (go_at_call 72; (with_reducible refine (impl_IntervalValid.calls k2 ((rd_T75 l0 x15_2).f1.f0) ((rd_T75 l0 x15_2).f1.f1) true _ A10.out).mono ?_); rintro e w31 ⟨rfl, hb⟩; have n0_ := Aside0.mk (blk_below (g := gb172) (o := .cells #[.int .i64 ((rd_T75 l0 x15_2).f0), .string ((rd_T75 l0 x15_2).f1.f0), .string ((rd_T75 l0 x15_2).f1.f1)] 75 (0, 0)) (by (with_reducible repeat (first | refine blk_drewN ?_ _ | refine blk_drew ?_ | refine blk_alloc ?_ _)); refine blk_put (cs := #[.int .i64 ((rd_T75 l0 x15_2).f0), .string ((rd_T75 l0 x15_2).f1.f0), .string (⟨#[]⟩ : ByteArray)]) ?_ 2 _ rfl; (with_reducible repeat (first | refine blk_drewN ?_ _ | refine blk_drew ?_ | refine blk_alloc ?_ _)); refine blk_put (cs := #[.int .i64 ((rd_T75 l0 x15_2).f0), .string (⟨#[]⟩ : ByteArray), .string (⟨#[]⟩ : ByteArray)]) ?_ 1 _ rfl; (with_reducible repeat (first | refine blk_drewN ?_ _ | refine blk_drew ?_ | refine blk_alloc ?_ _)); refine blk_put (cs := #[.int .i64 0, .string (⟨#[]⟩ : ByteArray), .string (⟨#[]⟩ : ByteArray)]) ?_ 0 _ rfl; (with_reducible repeat (first | refine blk_drewN ?_ _ | refine blk_drew ?_ | refine blk_alloc ?_ _)); exact BK172.out) hb); have n1_ := Aside0.mk (below_step (bz) hb); clear BK172; clear HB; have BK172 := n0_; have HB := n1_; clear n0_ n1_; (try clear hb); (try clear hb2); (try clear hk); (try clear hi)))
           repeat (go_quiet (first | ((with_reducible refine gate_dst (N := 4) rfl ?_); refine box_event ?hg (N := 4) ?hd (cs := #[.int .i64 0, .string (⟨#[]⟩ : ByteArray), .string (⟨#[]⟩ : ByteArray)]) (t := 75) ?hr ?_; (case hd => rfl); (case hg => rfl); (case hr => first | (go_simp; done) | (go_simp; rfl)); intro gb172 hg w29 hbox hb; have n0_ := Aside0.mk (below_step (bz) hb); have n1_ := Aside0.mk (hbox); have n2_ : Aside0 (w.heap.size ≤ gb172) := bsg hg; have n3_ : Aside0 (w.heap.size ≤ gb172) := bsg hg; clear HB; have HB := n0_; have BK172 := n1_; have GW172 := n2_; have GE172 := n3_; clear n0_ n1_ n2_ n3_; clear hb hbox hg; have hcz30_0 : w29.cell? ⟨gb172, 0, none⟩ = some (.int .i64 0) := (blk_cell BK172.out 0).trans rfl; have hcz30_1 : w29.cell? ⟨gb172, 1, none⟩ = some (.string (⟨#[]⟩ : ByteArray)) := (blk_cell BK172.out 1).trans rfl; have hcz30_2 : w29.cell? ⟨gb172, 2, none⟩ = some (.string (⟨#[]⟩ : ByteArray)) := (blk_cell BK172.out 2).trans rfl; have hfz30_0 := blk_frozen BK172.out 0; have hfz30_1 := blk_frozen BK172.out 1; have hfz30_2 := blk_frozen BK172.out 2) | (go_at_call 72; (with_reducible refine (impl_IntervalValid.calls k2 ((rd_T75 l0 x15_2).f1.f0) ((rd_T75 l0 x15_2).f1.f1) true _ A10.out).mono ?_); rintro e w31 ⟨rfl, hb⟩; have n0_ := Aside0.mk (blk_below (g := gb172) (o := .cells #[.int .i64 ((rd_T75 l0 x15_2).f0), .string ((rd_T75 l0 x15_2).f1.f0), .string ((rd_T75 l0 x15_2).f1.f1)] 75 (0, 0)) (by (with_reducible repeat (first | refine blk_drewN ?_ _ | refine blk_drew ?_ | refine blk_alloc ?_ _)); refine blk_put (cs := #[.int .i64 ((rd_T75 l0 x15_2).f0), .string ((rd_T75 l0 x15_2).f1.f0), .string (⟨#[]⟩ : ByteArray)]) ?_ 2 _ rfl; (with_reducible repeat (first | refine blk_drewN ?_ _ | refine blk_drew ?_ | refine blk_alloc ?_ _)); refine blk_put (cs := #[.int .i64 ((rd_T75 l0 x15_2).f0), .string (⟨#[]⟩ : ByteArray), .string (⟨#[]⟩ : ByteArray)]) ?_ 1 _ rfl; (with_reducible repeat (first | refine blk_drewN ?_ _ | refine blk_drew ?_ | refine blk_alloc ?_ _)); refine blk_put (cs := #[.int .i64 0, .string (⟨#[]⟩ : ByteArray), .string (⟨#[]⟩ : ByteArray)]) ?_ 0 _ rfl; (with_reducible repeat (first | refine blk_drewN ?_ _ | refine blk_drew ?_ | refine blk_alloc ?_ _)); exact BK172.out) hb); have n1_ := Aside0.mk (below_step (bz) hb); clear BK172; clear HB; have BK172 := n0_; have HB := n1_; clear n0_ n1_; (try clear hb); (try clear hb2); (try clear hk); (try clear hi))); try go_wp2_with (first | ((with_reducible refine gate_dst (N := 4) rfl ?_); refine box_event ?hg (N := 4) ?hd (cs := #[.int .i64 0, .string (⟨#[]⟩ : ByteArray), .string (⟨#[]⟩ : ByteArray)]) (t := 75) ?hr ?_; (case hd => rfl); (case hg => rfl); (case hr => first | (go_simp; done) | (go_simp; rfl)); intro gb172 hg w29 hbox hb; have n0_ := Aside0.mk (below_step (bz) hb); have n1_ := Aside0.mk (hbox); have n2_ : Aside0 (w.heap.size ≤ gb172) := bsg hg; have n3_ : Aside0 (w.heap.size ≤ gb172) := bsg hg; clear HB; have HB := n0_; have BK172 := n1_; have GW172 := n2_; have GE172 := n3_; clear n0_ n1_ n2_ n3_; clear hb hbox hg; have hcz30_0 : w29.cell? ⟨gb172, 0, none⟩ = some (.int .i64 0) := (blk_cell BK172.out 0).trans rfl; have hcz30_1 : w29.cell? ⟨gb172, 1, none⟩ = some (.string (⟨#[]⟩ : ByteArray)) := (blk_cell BK172.out 1).trans rfl; have hcz30_2 : w29.cell? ⟨gb172, 2, none⟩ = some (.string (⟨#[]⟩ : ByteArray)) := (blk_cell BK172.out 2).trans rfl; have hfz30_0 := blk_frozen BK172.out 0; have hfz30_1 := blk_frozen BK172.out 1; have hfz30_2 := blk_frozen BK172.out 2) | (go_at_call 72; (with_reducible refine (impl_IntervalValid.calls k2 ((rd_T75 l0 x15_2).f1.f0) ((rd_T75 l0 x15_2).f1.f1) true _ A10.out).mono ?_); rintro e w31 ⟨rfl, hb⟩; have n0_ := Aside0.mk (blk_below (g := gb172) (o := .cells #[.int .i64 ((rd_T75 l0 x15_2).f0), .string ((rd_T75 l0 x15_2).f1.f0), .string ((rd_T75 l0 x15_2).f1.f1)] 75 (0, 0)) (by (with_reducible repeat (first | refine blk_drewN ?_ _ | refine blk_drew ?_ | refine blk_alloc ?_ _)); refine blk_put (cs := #[.int .i64 ((rd_T75 l0 x15_2).f0), .string ((rd_T75 l0 x15_2).f1.f0), .string (⟨#[]⟩ : ByteArray)]) ?_ 2 _ rfl; (with_reducible repeat (first | refine blk_drewN ?_ _ | refine blk_drew ?_ | refine blk_alloc ?_ _)); refine blk_put (cs := #[.int .i64 ((rd_T75 l0 x15_2).f0), .string (⟨#[]⟩ : ByteArray), .string (⟨#[]⟩ : ByteArray)]) ?_ 1 _ rfl; (with_reducible repeat (first | refine blk_drewN ?_ _ | refine blk_drew ?_ | refine blk_alloc ?_ _)); refine blk_put (cs := #[.int .i64 0, .string (⟨#[]⟩ : ByteArray), .string (⟨#[]⟩ : ByteArray)]) ?_ 0 _ rfl; (with_reducible repeat (first | refine blk_drewN ?_ _ | refine blk_drew ?_ | refine blk_alloc ?_ _)); exact BK172.out) hb); have n1_ := Aside0.mk (below_step (bz) hb); clear BK172; clear HB; have BK172 := n0_; have HB := n1_; clear n0_ n1_; (try clear hb); (try clear hb2); (try clear hk); (try clear hi))))
           go_roundg k2
           case measure => have := HJ1.out; have := HK2.out; omega
           case rel => exact ⟨(wrap64 (x15_2 + 1)), (by first | rfl | (simp; done) | exact congrArg Value.bool (ne_nil_b _) | exact congrArg Value.bool (eq_nil_b _) | (simp [*]; done)), H', ⟨by have := HJ1.out; have := HK2.out; omega⟩, ⟨bz⟩⟩
         ·
          replace c11 := Bool.eq_false_iff.mpr c11
          subst c11
          rw [if_neg (show ¬ (false = true) by decide)] at H
          obtain rfl := Option.some.inj H
          have p171 : 0 ≤ (x15_2 : Int) := of_decide_eq_true (by first | (with_reducible assumption) | assumption)
          have q171 : x15_2 < (l0.length : Int) := of_decide_eq_true (by first | (with_reducible assumption) | assumption)
          obtain ⟨ad171, e171, hx171_0, hx171_1, hx171_2⟩ := at_T75 HR0.out x15_2 p171 q171
          cases e171
          replace hx171_0 := (HB.out.cell (World.block_lt_of_cell? w _ hx171_0)).trans hx171_0
          replace hx171_1 := (HB.out.cell (World.block_lt_of_cell? w _ hx171_1)).trans hx171_1
          replace hx171_2 := (HB.out.cell (World.block_lt_of_cell? w _ hx171_2)).trans hx171_2
          replace p171 := eq_true p171
          replace q171 := eq_true q171
          go_wp2_with (first | ((with_reducible refine gate_dst (N := 4) rfl ?_); refine box_event ?hg (N := 4) ?hd (cs := #[.int .i64 0, .string (⟨#[]⟩ : ByteArray), .string (⟨#[]⟩ : ByteArray)]) (t := 75) ?hr ?_; (case hd => rfl); (case hg => rfl); (case hr => first | (go_simp; done) | (go_simp; rfl)); intro gb172 hg w32 hbox hb; have n0_ := Aside0.mk (below_step (bz) hb); have n1_ := Aside0.mk (hbox); have n2_ : Aside0 (w.heap.size ≤ gb172) := bsg hg; have n3_ : Aside0 (w.heap.size ≤ gb172) := bsg hg; clear HB; have HB := n0_; have BK172 := n1_; have GW172 := n2_; have GE172 := n3_; clear n0_ n1_ n2_ n3_; clear hb hbox hg; have hcz33_0 : w32.cell? ⟨gb172, 0, none⟩ = some (.int .i64 0) := (blk_cell BK172.out 0).trans rfl; have hcz33_1 : w32.cell? ⟨gb172, 1, none⟩ = some (.string (⟨#[]⟩ : ByteArray)) := (blk_cell BK172.out 1).trans rfl; have hcz33_2 : w32.cell? ⟨gb172, 2, none⟩ = some (.string (⟨#[]⟩ : ByteArray)) := (blk_cell BK172.out 2).trans rfl; have hfz33_0 := blk_frozen BK172.out 0; have hfz33_1 := blk_frozen BK172.out 1; have hfz33_2 := blk_frozen BK172.out 2) | (go_at_call 72; (with_reducible refine (impl_IntervalValid.calls k2 ((rd_T75 l0 x15_2).f1.f0) ((rd_T75 l0 x15_2).f1.f1) false _ A10.out).mono ?_); rintro e w34 ⟨rfl, hb⟩; have n0_ := Aside0.mk (blk_below (g := gb172) (o := .cells #[.int .i64 ((rd_T75 l0 x15_2).f0), .string ((rd_T75 l0 x15_2).f1.f0), .string ((rd_T75 l0 x15_2).f1.f1)] 75 (0, 0)) (by (with_reducible repeat (first | refine blk_drewN ?_ _ | refine blk_drew ?_ | refine blk_alloc ?_ _)); refine blk_put (cs := #[.int .i64 ((rd_T75 l0 x15_2).f0), .string ((rd_T75 l0 x15_2).f1.f0), .string (⟨#[]⟩ : ByteArray)]) ?_ 2 _ rfl; (with_reducible repeat (first | refine blk_drewN ?_ _ | refine blk_drew ?_ | refine blk_alloc ?_ _)); refine blk_put (cs := #[.int .i64 ((rd_T75 l0 x15_2).f0), .string (⟨#[]⟩ : ByteArray), .string (⟨#[]⟩ : ByteArray)]) ?_ 1 _ rfl; (with_reducible repeat (first | refine blk_drewN ?_ _ | refine blk_drew ?_ | refine blk_alloc ?_ _)); refine blk_put (cs := #[.int .i64 0, .string (⟨#[]⟩ : ByteArray), .string (⟨#[]⟩ : ByteArray)]) ?_ 0 _ rfl; (with_reducible repeat (first | refine blk_drewN ?_ _ | refine blk_drew ?_ | refine blk_alloc ?_ _)); exact BK172.out) hb); have n1_ := Aside0.mk (below_step (bz) hb); clear BK172; clear HB; have BK172 := n0_; have HB := n1_; clear n0_ n1_; (try clear hb); (try clear hb2); (try clear hk); (try clear hi)))
          repeat (go_quiet (first | ((with_reducible refine gate_dst (N := 4) rfl ?_); refine box_event ?hg (N := 4) ?hd (cs := #[.int .i64 0, .string (⟨#[]⟩ : ByteArray), .string (⟨#[]⟩ : ByteArray)]) (t := 75) ?hr ?_; (case hd => rfl); (case hg => rfl); (case hr => first | (go_simp; done) | (go_simp; rfl)); intro gb172 hg w32 hbox hb; have n0_ := Aside0.mk (below_step (bz) hb); have n1_ := Aside0.mk (hbox); have n2_ : Aside0 (w.heap.size ≤ gb172) := bsg hg; have n3_ : Aside0 (w.heap.size ≤ gb172) := bsg hg; clear HB; have HB := n0_; have BK172 := n1_; have GW172 := n2_; have GE172 := n3_; clear n0_ n1_ n2_ n3_; clear hb hbox hg; have hcz33_0 : w32.cell? ⟨gb172, 0, none⟩ = some (.int .i64 0) := (blk_cell BK172.out 0).trans rfl; have hcz33_1 : w32.cell? ⟨gb172, 1, none⟩ = some (.string (⟨#[]⟩ : ByteArray)) := (blk_cell BK172.out 1).trans rfl; have hcz33_2 : w32.cell? ⟨gb172, 2, none⟩ = some (.string (⟨#[]⟩ : ByteArray)) := (blk_cell BK172.out 2).trans rfl; have hfz33_0 := blk_frozen BK172.out 0; have hfz33_1 := blk_frozen BK172.out 1; have hfz33_2 := blk_frozen BK172.out 2) | (go_at_call 72; (with_reducible refine (impl_IntervalValid.calls k2 ((rd_T75 l0 x15_2).f1.f0) ((rd_T75 l0 x15_2).f1.f1) false _ A10.out).mono ?_); rintro e w34 ⟨rfl, hb⟩; have n0_ := Aside0.mk (blk_below (g := gb172) (o := .cells #[.int .i64 ((rd_T75 l0 x15_2).f0), .string ((rd_T75 l0 x15_2).f1.f0), .string ((rd_T75 l0 x15_2).f1.f1)] 75 (0, 0)) (by (with_reducible repeat (first | refine blk_drewN ?_ _ | refine blk_drew ?_ | refine blk_alloc ?_ _)); refine blk_put (cs := #[.int .i64 ((rd_T75 l0 x15_2).f0), .string ((rd_T75 l0 x15_2).f1.f0), .string (⟨#[]⟩ : ByteArray)]) ?_ 2 _ rfl; (with_reducible repeat (first | refine blk_drewN ?_ _ | refine blk_drew ?_ | refine blk_alloc ?_ _)); refine blk_put (cs := #[.int .i64 ((rd_T75 l0 x15_2).f0), .string (⟨#[]⟩ : ByteArray), .string (⟨#[]⟩ : ByteArray)]) ?_ 1 _ rfl; (with_reducible repeat (first | refine blk_drewN ?_ _ | refine blk_drew ?_ | refine blk_alloc ?_ _)); refine blk_put (cs := #[.int .i64 0, .string (⟨#[]⟩ : ByteArray), .string (⟨#[]⟩ : ByteArray)]) ?_ 0 _ rfl; (with_reducible repeat (first | refine blk_drewN ?_ _ | refine blk_drew ?_ | refine blk_alloc ?_ _)); exact BK172.out) hb); have n1_ := Aside0.mk (below_step (bz) hb); clear BK172; clear HB; have BK172 := n0_; have HB := n1_; clear n0_ n1_; (try clear hb); (try clear hb2); (try clear hk); (try clear hi))); try go_wp2_with (first | ((with_reducible refine gate_dst (N := 4) rfl ?_); refine box_event ?hg (N := 4) ?hd (cs := #[.int .i64 0, .string (⟨#[]⟩ : ByteArray), .string (⟨#[]⟩ : ByteArray)]) (t := 75) ?hr ?_; (case hd => rfl); (case hg => rfl); (case hr => first | (go_simp; done) | (go_simp; rfl)); intro gb172 hg w32 hbox hb; have n0_ := Aside0.mk (below_step (bz) hb); have n1_ := Aside0.mk (hbox); have n2_ : Aside0 (w.heap.size ≤ gb172) := bsg hg; have n3_ : Aside0 (w.heap.size ≤ gb172) := bsg hg; clear HB; have HB := n0_; have BK172 := n1_; have GW172 := n2_; have GE172 := n3_; clear n0_ n1_ n2_ n3_; clear hb hbox hg; have hcz33_0 : w32.cell? ⟨gb172, 0, none⟩ = some (.int .i64 0) := (blk_cell BK172.out 0).trans rfl; have hcz33_1 : w32.cell? ⟨gb172, 1, none⟩ = some (.string (⟨#[]⟩ : ByteArray)) := (blk_cell BK172.out 1).trans rfl; have hcz33_2 : w32.cell? ⟨gb172, 2, none⟩ = some (.string (⟨#[]⟩ : ByteArray)) := (blk_cell BK172.out 2).trans rfl; have hfz33_0 := blk_frozen BK172.out 0; have hfz33_1 := blk_frozen BK172.out 1; have hfz33_2 := blk_frozen BK172.out 2) | (go_at_call 72; (with_reducible refine (impl_IntervalValid.calls k2 ((rd_T75 l0 x15_2).f1.f0) ((rd_T75 l0 x15_2).f1.f1) false _ A10.out).mono ?_); rintro e w34 ⟨rfl, hb⟩; have n0_ := Aside0.mk (blk_below (g := gb172) (o := .cells #[.int .i64 ((rd_T75 l0 x15_2).f0), .string ((rd_T75 l0 x15_2).f1.f0), .string ((rd_T75 l0 x15_2).f1.f1)] 75 (0, 0)) (by (with_reducible repeat (first | refine blk_drewN ?_ _ | refine blk_drew ?_ | refine blk_alloc ?_ _)); refine blk_put (cs := #[.int .i64 ((rd_T75 l0 x15_2).f0), .string ((rd_T75 l0 x15_2).f1.f0), .string (⟨#[]⟩ : ByteArray)]) ?_ 2 _ rfl; (with_reducible repeat (first | refine blk_drewN ?_ _ | refine blk_drew ?_ | refine blk_alloc ?_ _)); refine blk_put (cs := #[.int .i64 ((rd_T75 l0 x15_2).f0), .string (⟨#[]⟩ : ByteArray), .string (⟨#[]⟩ : ByteArray)]) ?_ 1 _ rfl; (with_reducible repeat (first | refine blk_drewN ?_ _ | refine blk_drew ?_ | refine blk_alloc ?_ _)); refine blk_put (cs := #[.int .i64 0, .string (⟨#[]⟩ : ByteArray), .string (⟨#[]⟩ : ByteArray)]) ?_ 0 _ rfl; (with_reducible repeat (first | refine blk_drewN ?_ _ | refine blk_drew ?_ | refine blk_alloc ?_ _)); exact BK172.out) hb); have n1_ := Aside0.mk (below_step (bz) hb); clear BK172; clear HB; have BK172 := n0_; have HB := n1_; clear n0_ n1_; (try clear hb); (try clear hb2); (try clear hk); (try clear hi))))
          go_ret
          exact ⟨by first | rfl | (simp only [u8w, w64m]; rfl) | (simp [errW_none, errW_some] <;> rfl) | (simp [*, errW_none, errW_some] <;> rfl), bz⟩
        ·
         rw [if_neg c9] at H
         exact absurd H (by simp)
       ·
        rw [if_neg c8] at H
        exact absurd H (by simp)
      ·
       rw [if_neg c7] at H
       have c7b0 : decide (x15_2 < (l0.length : Int)) = false := decide_eq_false c7
       clear c7
       obtain rfl := Option.some.inj H
       go_wp2
       repeat (go_quiet (fail); try go_wp2)
       go_ret
       exact ⟨by first | rfl | (simp only [u8w, w64m]; rfl) | (simp [errW_none, errW_some] <;> rfl) | (simp [*, errW_none, errW_some] <;> rfl), bz⟩

/-! ### impl_inside: function 82 -/
def impl_inside.f (a0_0 : ByteArray) (a0_1 : ByteArray) (a1 : ByteArray) : Option (Bool) := if ((Op.bytesLess a1.toList a0_0.toList) = true) then (some false) else (if a0_1.toList = ([] : List UInt8) then (some true) else (some (Op.bytesLess a1.toList a0_1.toList)))
set_option maxHeartbeats 8000000 in
set_option maxRecDepth 100000 in
theorem impl_inside.calls (a0_0 : ByteArray) (a0_1 : ByteArray) (a1 : ByteArray) (r : Bool) (w : World) (h : impl_inside.f a0_0 a0_1 a1 = some r) :
  Calls Try.prog 82 #[.agg #[.string a0_0, .string a0_1], .string a1] w fun e w' => e = .returned (.bool r) ∧ Below w.heap.size w w' := by
 have hu73 := Try.underlying73
 have HB := Aside0.mk (Below.refl w.heap.size w)
 have H : (if ((Op.bytesLess a1.toList a0_0.toList) = true) then (some false) else (if a0_1.toList = ([] : List UInt8) then (some true) else (some (Op.bytesLess a1.toList a0_1.toList)))) = some r := h
 clear h
 by_cases c3 : ((Op.bytesLess a1.toList a0_0.toList) = true)
 ·
  rw [if_pos c3] at H
  have c3b0 : (Op.bytesLess a1.toList a0_0.toList) = true := c3
  clear c3
  obtain rfl := Option.some.inj H
  go_enter Try.func82, Try.ntmps82
  go_wp2_with (first | ((with_reducible refine gate_dst (N := 2) rfl ?_); refine box_event ?hg (N := 2) ?hd (cs := #[.string a0_0, .string a0_1]) (t := 73) ?hr ?_; (case hd => rfl); (case hg => rfl); (case hr => first | (go_simp; done) | (go_simp; rfl)); intro gb176 hg w4 hbox hb; have n0_ := Aside0.mk (below_step (bz) hb); have n1_ := Aside0.mk (hbox); have n2_ : Aside0 (w.heap.size ≤ gb176) := bsg hg; have n3_ : Aside0 (w.heap.size ≤ gb176) := bsg hg; clear HB; have HB := n0_; have BK176 := n1_; have GW176 := n2_; have GE176 := n3_; clear n0_ n1_ n2_ n3_; clear hb hbox hg; have hcz5_0 : w4.cell? ⟨gb176, 0, none⟩ = some (.string a0_0) := (blk_cell BK176.out 0).trans rfl; have hcz5_1 : w4.cell? ⟨gb176, 1, none⟩ = some (.string a0_1) := (blk_cell BK176.out 1).trans rfl; have hfz5_0 := blk_frozen BK176.out 0; have hfz5_1 := blk_frozen BK176.out 1))
  go_ret
  exact ⟨by first | rfl | (simp only [u8w, w64m]; rfl) | (simp [errW_none, errW_some] <;> rfl) | (simp [*, errW_none, errW_some] <;> rfl), bz⟩
 ·
  rw [if_neg c3] at H
  have c3b0 : (Op.bytesLess a1.toList a0_0.toList) = false := by simpa using c3
  clear c3
  by_cases c6 : a0_1.toList = ([] : List UInt8)
  ·
   rw [if_pos c6] at H
   have c6b0 : (a0_1.toList == ([] : List UInt8)) = true := beq_iff_eq.mpr c6
   have c6b1 : (a0_1.toList != ([] : List UInt8)) = false := bne_eq_false_iff_eq.mpr c6
   clear c6
   obtain rfl := Option.some.inj H
   go_enter Try.func82, Try.ntmps82
   go_wp2_with (first | ((with_reducible refine gate_dst (N := 2) rfl ?_); refine box_event ?hg (N := 2) ?hd (cs := #[.string a0_0, .string a0_1]) (t := 73) ?hr ?_; (case hd => rfl); (case hg => rfl); (case hr => first | (go_simp; done) | (go_simp; rfl)); intro gb176 hg w7 hbox hb; have n0_ := Aside0.mk (below_step (bz) hb); have n1_ := Aside0.mk (hbox); have n2_ : Aside0 (w.heap.size ≤ gb176) := bsg hg; have n3_ : Aside0 (w.heap.size ≤ gb176) := bsg hg; clear HB; have HB := n0_; have BK176 := n1_; have GW176 := n2_; have GE176 := n3_; clear n0_ n1_ n2_ n3_; clear hb hbox hg; have hcz8_0 : w7.cell? ⟨gb176, 0, none⟩ = some (.string a0_0) := (blk_cell BK176.out 0).trans rfl; have hcz8_1 : w7.cell? ⟨gb176, 1, none⟩ = some (.string a0_1) := (blk_cell BK176.out 1).trans rfl; have hfz8_0 := blk_frozen BK176.out 0; have hfz8_1 := blk_frozen BK176.out 1))
   go_ret
   exact ⟨by first | rfl | (simp only [u8w, w64m]; rfl) | (simp [errW_none, errW_some] <;> rfl) | (simp [*, errW_none, errW_some] <;> rfl), bz⟩
  ·
   rw [if_neg c6] at H
   have c6b0 : (a0_1.toList == ([] : List UInt8)) = false := beq_eq_false_iff_ne.mpr c6
   have c6b1 : (a0_1.toList != ([] : List UInt8)) = true := bne_iff_ne.mpr c6
   obtain rfl := Option.some.inj H
   go_enter Try.func82, Try.ntmps82
   go_wp2_with (first | ((with_reducible refine gate_dst (N := 2) rfl ?_); refine box_event ?hg (N := 2) ?hd (cs := #[.string a0_0, .string a0_1]) (t := 73) ?hr ?_; (case hd => rfl); (case hg => rfl); (case hr => first | (go_simp; done) | (go_simp; rfl)); intro gb176 hg w9 hbox hb; have n0_ := Aside0.mk (below_step (bz) hb); have n1_ := Aside0.mk (hbox); have n2_ : Aside0 (w.heap.size ≤ gb176) := bsg hg; have n3_ : Aside0 (w.heap.size ≤ gb176) := bsg hg; clear HB; have HB := n0_; have BK176 := n1_; have GW176 := n2_; have GE176 := n3_; clear n0_ n1_ n2_ n3_; clear hb hbox hg; have hcz10_0 : w9.cell? ⟨gb176, 0, none⟩ = some (.string a0_0) := (blk_cell BK176.out 0).trans rfl; have hcz10_1 : w9.cell? ⟨gb176, 1, none⟩ = some (.string a0_1) := (blk_cell BK176.out 1).trans rfl; have hfz10_0 := blk_frozen BK176.out 0; have hfz10_1 := blk_frozen BK176.out 1))
   go_ret
   exact ⟨by first | rfl | (simp only [u8w, w64m]; rfl) | (simp [errW_none, errW_some] <;> rfl) | (simp [*, errW_none, errW_some] <;> rfl), bz⟩

/-! ### impl_CacheFind: function 44 -/
mutual
def impl_CacheFind.j0 : Nat → List (S75) → ByteArray → Bool → Option (Int)
 | 0, _, _, _ => none
 | k + 1, x0, x1, x14 => if x14 = true then (some (-1)) else (impl_CacheFind.l0 k x1 x0 (x0.length : Int) 0)
def impl_CacheFind.l0 : Nat → ByteArray → List (S75) → Int → Int → Option (Int)
 | 0, _, _, _, _ => none
 | k + 1, x1, x15, x16, x17 => if x17 < x16 then (if 0 ≤ x17 then (if x17 < (x15.length : Int) then ((impl_inside.f ((rd_T75 x15 x17).f1.f0) ((rd_T75 x15 x17).f1.f1) x1).bind fun t181 => (if t181 = true then (some ((rd_T75 x15 x17).f0)) else (impl_CacheFind.l0 k x1 x15 x16 (wrap64 (x17 + 1))))) else (none)) else (none)) else (some (-1))
end
def impl_CacheFind.f (k : Nat) (l0 : List (S75)) (a1 : ByteArray) : Option (Int) := (impl_CacheValid.f k l0).bind fun t177 => (if t177 = true then ((impl_KeyValid.f k a1).bind fun t178 => (impl_CacheFind.j0 k l0 a1 (!t178))) else (impl_CacheFind.j0 k l0 a1 true))
theorem impl_CacheFind.mono_l : ∀ k, (∀ y0 y1 y2, LeO (impl_CacheFind.j0 k y0 y1 y2) (impl_CacheFind.j0 (k + 1) y0 y1 y2)) ∧ (∀ y0 y1 y2 y3, LeO (impl_CacheFind.l0 k y0 y1 y2 y3) (impl_CacheFind.l0 (k + 1) y0 y1 y2 y3))
 | 0 => ⟨fun _ _ _ r h => by simp [impl_CacheFind.j0] at h, fun _ _ _ _ r h => by simp [impl_CacheFind.l0] at h⟩
 | k + 1 => by
  obtain ⟨ih0, ih1⟩ := impl_CacheFind.mono_l k
  refine ⟨?_, ?_⟩
  ·
   intro y0 y1 y2
   unfold impl_CacheFind.j0
   repeat' first
   | (with_reducible exact ih0 _ _ _)
   | (with_reducible exact ih1 _ _ _ _)
   | (with_reducible exact impl_CacheValid.mono _ _)
   | (with_reducible exact impl_KeyValid.mono _ _)
   | (with_reducible exact LeO.refl _)
   | (with_reducible exact LeO.none _)
   | (with_reducible refine LeO.ite ?_ ?_)
   | (with_reducible refine LeO.bind ?_ (fun _ => ?_))
   | exact ih0 _ _ _
   | exact ih1 _ _ _ _
   | exact impl_CacheValid.mono _ _
   | exact impl_KeyValid.mono _ _
   | exact LeO.none _
   | refine LeO.ite ?_ ?_
   | refine LeO.bind ?_ (fun _ => ?_)
  ·
   intro y0 y1 y2 y3
   unfold impl_CacheFind.l0
   repeat' first
   | (with_reducible exact ih0 _ _ _)
   | (with_reducible exact ih1 _ _ _ _)
   | (with_reducible exact impl_CacheValid.mono _ _)
   | (with_reducible exact impl_KeyValid.mono _ _)
   | (with_reducible exact LeO.refl _)
   | (with_reducible exact LeO.none _)
   | (with_reducible refine LeO.ite ?_ ?_)
   | (with_reducible refine LeO.bind ?_ (fun _ => ?_))
   | exact ih0 _ _ _
   | exact ih1 _ _ _ _
   | exact impl_CacheValid.mono _ _
   | exact impl_KeyValid.mono _ _
   | exact LeO.none _
   | refine LeO.ite ?_ ?_
   | refine LeO.bind ?_ (fun _ => ?_)
theorem impl_CacheFind.mono : ∀ a0 a1 k, LeO (impl_CacheFind.f k a0 a1) (impl_CacheFind.f (k + 1) a0 a1) := by
 intro a0 a1 k
 obtain ⟨ih0, ih1⟩ := impl_CacheFind.mono_l k
 unfold impl_CacheFind.f
 repeat' first
   | (with_reducible exact ih0 _ _ _)
   | (with_reducible exact ih1 _ _ _ _)
   | (with_reducible exact impl_CacheValid.mono _ _)
   | (with_reducible exact impl_KeyValid.mono _ _)
   | (with_reducible exact LeO.refl _)
   | (with_reducible exact LeO.none _)
   | (with_reducible refine LeO.ite ?_ ?_)
   | (with_reducible refine LeO.bind ?_ (fun _ => ?_))
   | exact ih0 _ _ _
   | exact ih1 _ _ _ _
   | exact impl_CacheValid.mono _ _
   | exact impl_KeyValid.mono _ _
   | exact LeO.none _
   | refine LeO.ite ?_ ?_
   | refine LeO.bind ?_ (fun _ => ?_)
set_option maxHeartbeats 8000000 in
set_option maxRecDepth 100000 in
theorem impl_CacheFind.calls (k : Nat) (A0 : Option Addr) (c0 : Nat) (l0 : List (S75)) (a1 : ByteArray) (r : Int) (w : World) (hr0 : Kd.C k75 w A0 l0.length l0) (hc0 : l0.length ≤ c0) (h : impl_CacheFind.f k l0 a1 = some r) :
  Calls Try.prog 44 #[.slice A0 l0.length c0, .string a1] w fun e w' => e = .returned (.int .i64 r) ∧ Below w.heap.size w w' := by
 have hu75 := Try.underlying75
 have hu73 := Try.underlying73
 have HR0 := Aside0.mk hr0
 have HC0 := Aside0.mk hc0
 clear hr0 hc0
 have HB := Aside0.mk (Below.refl w.heap.size w)
 have H : ((impl_CacheValid.f k l0).bind fun t177 => (if t177 = true then ((impl_KeyValid.f k a1).bind fun t178 => (impl_CacheFind.j0 k l0 a1 (!t178))) else (impl_CacheFind.j0 k l0 a1 true))) = some r := h
 clear h
 have HC3 := Aside0.mk H
 clear H
 go_enter Try.func44, Try.ntmps44
 go_upto_region 1 with (fail)
 go_cut [14] (fun v14 wc => ∃ (kq : Nat) (x14_2 : Bool), v14 = .bool x14_2 ∧ Aside0 (impl_CacheFind.j0 kq l0 a1 x14_2 = some r) ∧ Aside0 (kq ≤ k) ∧ Aside0 (Below w.heap.size w wc))
 case first =>
  have H := HC3.out
  clear HC3
  replace H := Option.bind_eq_some_iff.mp H
  obtain ⟨t177, A40, H⟩ := H
  try dsimp only at H
  have A4 := Aside0.mk A40
  clear A40
  by_cases c5 : t177 = true
  ·
   subst c5
   rw [if_pos rfl] at H
   replace H := Option.bind_eq_some_iff.mp H
   obtain ⟨t178, A60, H⟩ := H
   try dsimp only at H
   have A6 := Aside0.mk A60
   clear A60
   have H' := Aside0.mk H
   clear H
   go_wp2_with (first | ((with_reducible refine gate_callee (f := 36) rfl ?_); refine goesL_ (some 8) rfl rfl Try.func36 (by kernel_rfl) rfl #[.slice A0 l0.length c0] rfl (by (try simp only [List.map_toArray, List.map_cons, List.map_nil]); first | done | rfl | (simp only [List.length_drop, List.length_take]; rfl)) ?_; (with_reducible refine (impl_CacheValid.calls k _ _ l0 true _ ?side1 ?side2 A4.out).mono ?_); (case side1 => repeat (first | exact (Kd.C_below HR0.out HB.out) | (with_reducible refine Kd.C_alloc ?_ _) | (with_reducible refine Kd.C_drewN ?_ _) | (with_reducible refine Kd.C_drew ?_))); (case side2 => exact HC0.out); rintro e w7 ⟨rfl, hb⟩; refine ⟨_, rfl, ?_⟩; have n0_ := Aside0.mk (below_step (bz) hb); clear HB; have HB := n0_; clear n0_; (try clear hb); (try clear hb2); (try clear hk); (try clear hi)) | (go_at_call 51; (with_reducible refine (impl_KeyValid.calls k a1 t178 _ A6.out).mono ?_); rintro e w' ⟨rfl, ⟨nd, rfl⟩⟩))
   go_meet
   case rel => exact ⟨_, (!t178), (by first | rfl | (simp; done) | exact congrArg Value.bool (ne_nil_b _) | exact congrArg Value.bool (eq_nil_b _) | (simp [*]; done)), H', ⟨by first | omega | exact Nat.le_refl _⟩, ⟨bz⟩⟩
  ·
   replace c5 := Bool.eq_false_iff.mpr c5
   subst c5
   rw [if_neg (show ¬ (false = true) by decide)] at H
   have H' := Aside0.mk H
   clear H
   go_wp2_with (first | ((with_reducible refine gate_callee (f := 36) rfl ?_); refine goesL_ (some 8) rfl rfl Try.func36 (by kernel_rfl) rfl #[.slice A0 l0.length c0] rfl (by (try simp only [List.map_toArray, List.map_cons, List.map_nil]); first | done | rfl | (simp only [List.length_drop, List.length_take]; rfl)) ?_; (with_reducible refine (impl_CacheValid.calls k _ _ l0 false _ ?side1 ?side2 A4.out).mono ?_); (case side1 => repeat (first | exact (Kd.C_below HR0.out HB.out) | (with_reducible refine Kd.C_alloc ?_ _) | (with_reducible refine Kd.C_drewN ?_ _) | (with_reducible refine Kd.C_drew ?_))); (case side2 => exact HC0.out); rintro e w8 ⟨rfl, hb⟩; refine ⟨_, rfl, ?_⟩; have n0_ := Aside0.mk (below_step (bz) hb); clear HB; have HB := n0_; clear n0_; (try clear hb); (try clear hb2); (try clear hk); (try clear hi)))
   go_meet
   case rel => exact ⟨_, (true), (by first | rfl | (simp; done) | exact congrArg Value.bool (ne_nil_b _) | exact congrArg Value.bool (eq_nil_b _) | (simp [*]; done)), H', ⟨by first | omega | exact Nat.le_refl _⟩, ⟨bz⟩⟩
 case rest =>
  clear HC3
  try clear p2
  try clear c3
  try clear c4
  try clear c5
  obtain ⟨kq, x14_2, rfl, HA, HJ2, HB⟩ := hcut
  cases kq with
  | zero => exact absurd HA.out (by simp [impl_CacheFind.j0])
  | succ kj2 =>
   have H := HA.out
   clear HA
   simp only [impl_CacheFind.j0] at H
   by_cases c9 : x14_2 = true
   ·
    subst c9
    rw [if_pos rfl] at H
    obtain rfl := Option.some.inj H
    go_wp2
    go_ret
    exact ⟨by first | rfl | (simp only [u8w, w64m]; rfl) | (simp [errW_none, errW_some] <;> rfl) | (simp [*, errW_none, errW_some] <;> rfl), bz⟩
   ·
    replace c9 := Bool.eq_false_iff.mpr c9
    subst c9
    rw [if_neg (show ¬ (false = true) by decide)] at H
    have H' := Aside0.mk H
    clear H
    go_wp2
    go_loopg [17] kj2 (fun kq v17 w' => ∃ (x17_2 : Int), v17 = .int .i64 x17_2 ∧ Aside0 (impl_CacheFind.l0 kq a1 l0 (l0.length : Int) x17_2 = some r) ∧ Aside0 (kq ≤ kj2) ∧ Aside0 (Below w.heap.size w w'))
    case atStart => exact ⟨(0), (by first | rfl | (simp; done) | exact congrArg Value.bool (ne_nil_b _) | exact congrArg Value.bool (eq_nil_b _) | (simp [*]; done)), H', ⟨Nat.le_refl _⟩, ⟨bz⟩⟩
    case round =>
     clear H'
     try clear p2
     try clear c3
     try clear c4
     try clear c5
     try clear c9
     try clear p2
     obtain ⟨x17_2, rfl, HA, HK2, HB⟩ := hrel
     cases gk with
     | zero => exact absurd HA.out (by simp [impl_CacheFind.l0])
     | succ k2 =>
      have H := HA.out
      clear HA
      simp only [impl_CacheFind.l0] at H
      by_cases c10 : x17_2 < (l0.length : Int)
      ·
       rw [if_pos c10] at H
       have c10b0 : decide (x17_2 < (l0.length : Int)) = true := decide_eq_true c10
       clear c10
       by_cases c11 : 0 ≤ x17_2
       ·
        rw [if_pos c11] at H
        have c11b0 : decide (0 ≤ x17_2) = true := decide_eq_true c11
        clear c11
        by_cases c12 : x17_2 < (l0.length : Int)
        ·
         rw [if_pos c12] at H
         have c12b0 : decide (x17_2 < (l0.length : Int)) = true := decide_eq_true c12
         clear c12
         replace H := Option.bind_eq_some_iff.mp H
         obtain ⟨t181, A130, H⟩ := H
         try dsimp only at H
         have A13 := Aside0.mk A130
         clear A130
         by_cases c14 : t181 = true
         ·
          subst c14
          rw [if_pos rfl] at H
          obtain rfl := Option.some.inj H
          have p179 : 0 ≤ (x17_2 : Int) := of_decide_eq_true (by first | (with_reducible assumption) | assumption)
          have q179 : x17_2 < (l0.length : Int) := of_decide_eq_true (by first | (with_reducible assumption) | assumption)
          obtain ⟨ad179, e179, hx179_0, hx179_1, hx179_2⟩ := at_T75 HR0.out x17_2 p179 q179
          cases e179
          replace hx179_0 := (HB.out.cell (World.block_lt_of_cell? w _ hx179_0)).trans hx179_0
          replace hx179_1 := (HB.out.cell (World.block_lt_of_cell? w _ hx179_1)).trans hx179_1
          replace hx179_2 := (HB.out.cell (World.block_lt_of_cell? w _ hx179_2)).trans hx179_2
          replace p179 := eq_true p179
          replace q179 := eq_true q179
          go_wp2_with (first | ((with_reducible refine gate_dst (N := 6) rfl ?_); refine box_event ?hg (N := 6) ?hd (cs := #[.int .i64 0, .string (⟨#[]⟩ : ByteArray), .string (⟨#[]⟩ : ByteArray)]) (t := 75) ?hr ?_; (case hd => rfl); (case hg => rfl); (case hr => first | (go_simp; done) | (go_simp; rfl)); intro gb180 hg w15 hbox hb; have n0_ := Aside0.mk (below_step (bz) hb); have n1_ := Aside0.mk (hbox); have n2_ : Aside0 (w.heap.size ≤ gb180) := bsg hg; have n3_ : Aside0 (w.heap.size ≤ gb180) := bsg hg; clear HB; have HB := n0_; have BK180 := n1_; have GW180 := n2_; have GE180 := n3_; clear n0_ n1_ n2_ n3_; clear hb hbox hg; have hcz16_0 : w15.cell? ⟨gb180, 0, none⟩ = some (.int .i64 0) := (blk_cell BK180.out 0).trans rfl; have hcz16_1 : w15.cell? ⟨gb180, 1, none⟩ = some (.string (⟨#[]⟩ : ByteArray)) := (blk_cell BK180.out 1).trans rfl; have hcz16_2 : w15.cell? ⟨gb180, 2, none⟩ = some (.string (⟨#[]⟩ : ByteArray)) := (blk_cell BK180.out 2).trans rfl; have hfz16_0 := blk_frozen BK180.out 0; have hfz16_1 := blk_frozen BK180.out 1; have hfz16_2 := blk_frozen BK180.out 2) | ((with_reducible refine gate_callee (f := 82) rfl ?_); refine goesL_ (some 24) rfl rfl Try.func82 (by kernel_rfl) rfl #[.agg #[.string ((rd_T75 l0 x17_2).f1.f0), .string ((rd_T75 l0 x17_2).f1.f1)], .string a1] rfl (by (try simp only [List.map_toArray, List.map_cons, List.map_nil]); first | done | rfl | (simp only [List.length_drop, List.length_take]; rfl)) ?_; (with_reducible refine (impl_inside.calls ((rd_T75 l0 x17_2).f1.f0) ((rd_T75 l0 x17_2).f1.f1) a1 true _ A13.out).mono ?_); rintro e w17 ⟨rfl, hb⟩; refine ⟨_, rfl, ?_⟩; have n0_ := Aside0.mk (blk_below (g := gb180) (o := .cells #[.int .i64 ((rd_T75 l0 x17_2).f0), .string ((rd_T75 l0 x17_2).f1.f0), .string ((rd_T75 l0 x17_2).f1.f1)] 75 (0, 0)) (by (with_reducible repeat (first | refine blk_drewN ?_ _ | refine blk_drew ?_ | refine blk_alloc ?_ _)); refine blk_put (cs := #[.int .i64 ((rd_T75 l0 x17_2).f0), .string ((rd_T75 l0 x17_2).f1.f0), .string (⟨#[]⟩ : ByteArray)]) ?_ 2 _ rfl; (with_reducible repeat (first | refine blk_drewN ?_ _ | refine blk_drew ?_ | refine blk_alloc ?_ _)); refine blk_put (cs := #[.int .i64 ((rd_T75 l0 x17_2).f0), .string (⟨#[]⟩ : ByteArray), .string (⟨#[]⟩ : ByteArray)]) ?_ 1 _ rfl; (with_reducible repeat (first | refine blk_drewN ?_ _ | refine blk_drew ?_ | refine blk_alloc ?_ _)); refine blk_put (cs := #[.int .i64 0, .string (⟨#[]⟩ : ByteArray), .string (⟨#[]⟩ : ByteArray)]) ?_ 0 _ rfl; (with_reducible repeat (first | refine blk_drewN ?_ _ | refine blk_drew ?_ | refine blk_alloc ?_ _)); exact BK180.out) hb); have n1_ := Aside0.mk (below_step (bz) hb); clear BK180; clear HB; have BK180 := n0_; have HB := n1_; clear n0_ n1_; (try clear hb); (try clear hb2); (try clear hk); (try clear hi); have hcz18_0 : w17.cell? ⟨gb180, 0, none⟩ = some (.int .i64 ((rd_T75 l0 x17_2).f0)) := (blk_cell BK180.out 0).trans rfl; have hcz18_1 : w17.cell? ⟨gb180, 1, none⟩ = some (.string ((rd_T75 l0 x17_2).f1.f0)) := (blk_cell BK180.out 1).trans rfl; have hcz18_2 : w17.cell? ⟨gb180, 2, none⟩ = some (.string ((rd_T75 l0 x17_2).f1.f1)) := (blk_cell BK180.out 2).trans rfl; have hfz18_0 := blk_frozen BK180.out 0; have hfz18_1 := blk_frozen BK180.out 1; have hfz18_2 := blk_frozen BK180.out 2))
          go_ret
          exact ⟨by first | rfl | (simp only [u8w, w64m]; rfl) | (simp [errW_none, errW_some] <;> rfl) | (simp [*, errW_none, errW_some] <;> rfl), bz⟩
         ·
          replace c14 := Bool.eq_false_iff.mpr c14
          subst c14
          rw [if_neg (show ¬ (false = true) by decide)] at H
          have H' := Aside0.mk H
          clear H
          have p179 : 0 ≤ (x17_2 : Int) := of_decide_eq_true (by first | (with_reducible assumption) | assumption)
          have q179 : x17_2 < (l0.length : Int) := of_decide_eq_true (by first | (with_reducible assumption) | assumption)
          obtain ⟨ad179, e179, hx179_0, hx179_1, hx179_2⟩ := at_T75 HR0.out x17_2 p179 q179
          cases e179
          replace hx179_0 := (HB.out.cell (World.block_lt_of_cell? w _ hx179_0)).trans hx179_0
          replace hx179_1 := (HB.out.cell (World.block_lt_of_cell? w _ hx179_1)).trans hx179_1
          replace hx179_2 := (HB.out.cell (World.block_lt_of_cell? w _ hx179_2)).trans hx179_2
          replace p179 := eq_true p179
          replace q179 := eq_true q179
          go_wp2_with (first | ((with_reducible refine gate_dst (N := 6) rfl ?_); refine box_event ?hg (N := 6) ?hd (cs := #[.int .i64 0, .string (⟨#[]⟩ : ByteArray), .string (⟨#[]⟩ : ByteArray)]) (t := 75) ?hr ?_; (case hd => rfl); (case hg => rfl); (case hr => first | (go_simp; done) | (go_simp; rfl)); intro gb180 hg w19 hbox hb; have n0_ := Aside0.mk (below_step (bz) hb); have n1_ := Aside0.mk (hbox); have n2_ : Aside0 (w.heap.size ≤ gb180) := bsg hg; have n3_ : Aside0 (w.heap.size ≤ gb180) := bsg hg; clear HB; have HB := n0_; have BK180 := n1_; have GW180 := n2_; have GE180 := n3_; clear n0_ n1_ n2_ n3_; clear hb hbox hg; have hcz20_0 : w19.cell? ⟨gb180, 0, none⟩ = some (.int .i64 0) := (blk_cell BK180.out 0).trans rfl; have hcz20_1 : w19.cell? ⟨gb180, 1, none⟩ = some (.string (⟨#[]⟩ : ByteArray)) := (blk_cell BK180.out 1).trans rfl; have hcz20_2 : w19.cell? ⟨gb180, 2, none⟩ = some (.string (⟨#[]⟩ : ByteArray)) := (blk_cell BK180.out 2).trans rfl; have hfz20_0 := blk_frozen BK180.out 0; have hfz20_1 := blk_frozen BK180.out 1; have hfz20_2 := blk_frozen BK180.out 2) | ((with_reducible refine gate_callee (f := 82) rfl ?_); refine goesL_ (some 24) rfl rfl Try.func82 (by kernel_rfl) rfl #[.agg #[.string ((rd_T75 l0 x17_2).f1.f0), .string ((rd_T75 l0 x17_2).f1.f1)], .string a1] rfl (by (try simp only [List.map_toArray, List.map_cons, List.map_nil]); first | done | rfl | (simp only [List.length_drop, List.length_take]; rfl)) ?_; (with_reducible refine (impl_inside.calls ((rd_T75 l0 x17_2).f1.f0) ((rd_T75 l0 x17_2).f1.f1) a1 false _ A13.out).mono ?_); rintro e w21 ⟨rfl, hb⟩; refine ⟨_, rfl, ?_⟩; have n0_ := Aside0.mk (blk_below (g := gb180) (o := .cells #[.int .i64 ((rd_T75 l0 x17_2).f0), .string ((rd_T75 l0 x17_2).f1.f0), .string ((rd_T75 l0 x17_2).f1.f1)] 75 (0, 0)) (by (with_reducible repeat (first | refine blk_drewN ?_ _ | refine blk_drew ?_ | refine blk_alloc ?_ _)); refine blk_put (cs := #[.int .i64 ((rd_T75 l0 x17_2).f0), .string ((rd_T75 l0 x17_2).f1.f0), .string (⟨#[]⟩ : ByteArray)]) ?_ 2 _ rfl; (with_reducible repeat (first | refine blk_drewN ?_ _ | refine blk_drew ?_ | refine blk_alloc ?_ _)); refine blk_put (cs := #[.int .i64 ((rd_T75 l0 x17_2).f0), .string (⟨#[]⟩ : ByteArray), .string (⟨#[]⟩ : ByteArray)]) ?_ 1 _ rfl; (with_reducible repeat (first | refine blk_drewN ?_ _ | refine blk_drew ?_ | refine blk_alloc ?_ _)); refine blk_put (cs := #[.int .i64 0, .string (⟨#[]⟩ : ByteArray), .string (⟨#[]⟩ : ByteArray)]) ?_ 0 _ rfl; (with_reducible repeat (first | refine blk_drewN ?_ _ | refine blk_drew ?_ | refine blk_alloc ?_ _)); exact BK180.out) hb); have n1_ := Aside0.mk (below_step (bz) hb); clear BK180; clear HB; have BK180 := n0_; have HB := n1_; clear n0_ n1_; (try clear hb); (try clear hb2); (try clear hk); (try clear hi)))
          go_roundg k2
          case measure => have := HJ2.out; have := HK2.out; omega
          case rel => exact ⟨(wrap64 (x17_2 + 1)), (by first | rfl | (simp; done) | exact congrArg Value.bool (ne_nil_b _) | exact congrArg Value.bool (eq_nil_b _) | (simp [*]; done)), H', ⟨by have := HJ2.out; have := HK2.out; omega⟩, ⟨bz⟩⟩
        ·
         rw [if_neg c12] at H
         exact absurd H (by simp)
       ·
        rw [if_neg c11] at H
        exact absurd H (by simp)
      ·
       rw [if_neg c10] at H
       have c10b0 : decide (x17_2 < (l0.length : Int)) = false := decide_eq_false c10
       clear c10
       obtain rfl := Option.some.inj H
       go_wp2
       go_ret
       exact ⟨by first | rfl | (simp only [u8w, w64m]; rfl) | (simp [errW_none, errW_some] <;> rfl) | (simp [*, errW_none, errW_some] <;> rfl), bz⟩

/-! ### laws_FnExactCacheFind: function 12 -/
def laws_FnExactCacheFind.f (k : Nat) (l0 : List (S94)) (a1 : ByteArray) : Option (Bool) := if (a1.size : Int) > 1048576 then (some true) else ((laws_szRouteS.f k l0 1048576).bind fun t182 => (if t182 < 0 then (some true) else ((laws_toRouteS.f k l0).bind fun t183 => ((spec_CacheFind.f k t183 a1).bind fun t186 => ((laws_toRouteS.f k l0).bind fun t187 => ((impl_CacheFind.f k t187 a1).bind fun t190 => (if t190 = t186 then ((laws_toRouteS.f k l0).bind fun t191 => ((laws_eqRouteS.f k t187 t191).bind fun t194 => (if t194 = true then (some true) else (some false)))) else (some false))))))))
theorem laws_FnExactCacheFind.mono : ∀ a0 a1 k, LeO (laws_FnExactCacheFind.f k a0 a1) (laws_FnExactCacheFind.f (k + 1) a0 a1) := by
 intro a0 a1 k
 unfold laws_FnExactCacheFind.f
 repeat' first
   | (with_reducible exact impl_CacheFind.mono _ _ _)
   | (with_reducible exact laws_eqRouteS.mono _ _ _)
   | (with_reducible exact laws_szRouteS.mono _ _ _)
   | (with_reducible exact laws_toRouteS.mono _ _)
   | (with_reducible exact spec_CacheFind.mono _ _ _)
   | (with_reducible exact LeO.refl _)
   | (with_reducible exact LeO.none _)
   | (with_reducible refine LeO.ite ?_ ?_)
   | (with_reducible refine LeO.bind ?_ (fun _ => ?_))
   | exact impl_CacheFind.mono _ _ _
   | exact laws_eqRouteS.mono _ _ _
   | exact laws_szRouteS.mono _ _ _
   | exact laws_toRouteS.mono _ _
   | exact spec_CacheFind.mono _ _ _
   | exact LeO.none _
   | refine LeO.ite ?_ ?_
   | refine LeO.bind ?_ (fun _ => ?_)
set_option maxHeartbeats 8000000 in
set_option maxRecDepth 100000 in
theorem laws_FnExactCacheFind.calls (k : Nat) (A0 : Option Addr) (c0 : Nat) (l0 : List (S94)) (a1 : ByteArray) (r : Bool) (w : World) (hr0 : Kd.C k94 w A0 l0.length l0) (hc0 : l0.length ≤ c0) (h : laws_FnExactCacheFind.f k l0 a1 = some r) :
  Calls Try.prog 12 #[.slice A0 l0.length c0, .string a1] w fun e w' => e = .returned (.bool r) ∧ Below w.heap.size w w' := by
 have HR0 := Aside0.mk hr0
 have HC0 := Aside0.mk hc0
 clear hr0 hc0
 have HB := Aside0.mk (Below.refl w.heap.size w)
 have H : (if (a1.size : Int) > 1048576 then (some true) else ((laws_szRouteS.f k l0 1048576).bind fun t182 => (if t182 < 0 then (some true) else ((laws_toRouteS.f k l0).bind fun t183 => ((spec_CacheFind.f k t183 a1).bind fun t186 => ((laws_toRouteS.f k l0).bind fun t187 => ((impl_CacheFind.f k t187 a1).bind fun t190 => (if t190 = t186 then ((laws_toRouteS.f k l0).bind fun t191 => ((laws_eqRouteS.f k t187 t191).bind fun t194 => (if t194 = true then (some true) else (some false)))) else (some false))))))))) = some r := h
 clear h
 by_cases c3 : (a1.size : Int) > 1048576
 ·
  rw [if_pos c3] at H
  have c3b0 : decide (1048576 < (a1.size : Int)) = true := decide_eq_true c3
  have c3b1 : decide (1048576 < a1.size) = true := decide_eq_true (by omega)
  clear c3
  obtain rfl := Option.some.inj H
  go_enter Try.func12, Try.ntmps12
  go_wp2
  go_ret
  exact ⟨by first | rfl | (simp only [u8w, w64m]; rfl) | (simp [errW_none, errW_some] <;> rfl) | (simp [*, errW_none, errW_some] <;> rfl), bz⟩
 ·
  rw [if_neg c3] at H
  have c3b0 : decide (1048576 < (a1.size : Int)) = false := decide_eq_false c3
  have c3b1 : decide (1048576 < a1.size) = false := decide_eq_false (by omega)
  clear c3
  replace H := Option.bind_eq_some_iff.mp H
  obtain ⟨t182, A40, H⟩ := H
  try dsimp only at H
  have A4 := Aside0.mk A40
  clear A40
  by_cases c5 : t182 < 0
  ·
   rw [if_pos c5] at H
   have c5b0 : decide (t182 < 0) = true := decide_eq_true c5
   clear c5
   obtain rfl := Option.some.inj H
   go_enter Try.func12, Try.ntmps12
   go_wp2_with (first | ((with_reducible refine gate_callee (f := 33) rfl ?_); refine goesL_ (some 14) rfl rfl Try.func33 (by kernel_rfl) rfl #[.slice A0 l0.length c0, .int .i64 1048576] rfl (by (try simp only [List.map_toArray, List.map_cons, List.map_nil]); first | done | rfl | (simp only [List.length_drop, List.length_take]; rfl)) ?_; (with_reducible refine (laws_szRouteS.calls k _ _ l0 1048576 t182 _ ?side1 ?side2 A4.out).mono ?_); (case side1 => repeat (first | exact HR0.out | (with_reducible refine Kd.C_alloc ?_ _) | (with_reducible refine Kd.C_drewN ?_ _) | (with_reducible refine Kd.C_drew ?_))); (case side2 => exact HC0.out); rintro e w6 ⟨rfl, hb⟩; refine ⟨_, rfl, ?_⟩; have n0_ := Aside0.mk (below_step (bz) hb); clear HB; have HB := n0_; clear n0_; (try clear hb); (try clear hb2); (try clear hk); (try clear hi)))
   go_ret
   exact ⟨by first | rfl | (simp only [u8w, w64m]; rfl) | (simp [errW_none, errW_some] <;> rfl) | (simp [*, errW_none, errW_some] <;> rfl), bz⟩
  ·
   rw [if_neg c5] at H
   have c5b0 : decide (t182 < 0) = false := decide_eq_false c5
   clear c5
   replace H := Option.bind_eq_some_iff.mp H
   obtain ⟨t183, A70, H⟩ := H
   try dsimp only at H
   have A7 := Aside0.mk A70
   clear A70
   replace H := Option.bind_eq_some_iff.mp H
   obtain ⟨t186, A80, H⟩ := H
   try dsimp only at H
   have A8 := Aside0.mk A80
   clear A80
   replace H := Option.bind_eq_some_iff.mp H
   obtain ⟨t187, A90, H⟩ := H
   try dsimp only at H
   have A9 := Aside0.mk A90
   clear A90
   replace H := Option.bind_eq_some_iff.mp H
   obtain ⟨t190, A100, H⟩ := H
   try dsimp only at H
   have A10 := Aside0.mk A100
   clear A100
   by_cases c11 : t190 = t186
   ·
    rw [if_pos c11] at H
    have c11b0 : (t190 == t186) = true := beq_iff_eq.mpr c11
    have c11b1 : (t190 != t186) = false := bne_eq_false_iff_eq.mpr c11
    clear c11
    replace H := Option.bind_eq_some_iff.mp H
    obtain ⟨t191, A120, H⟩ := H
    try dsimp only at H
    have A12 := Aside0.mk A120
    clear A120
    replace H := Option.bind_eq_some_iff.mp H
    obtain ⟨t194, A130, H⟩ := H
    try dsimp only at H
    have A13 := Aside0.mk A130
    clear A130
    by_cases c14 : t194 = true
    ·
     subst c14
     rw [if_pos rfl] at H
     obtain rfl := Option.some.inj H
     go_enter Try.func12, Try.ntmps12
     go_wp2_with (first | ((with_reducible refine gate_callee (f := 33) rfl ?_); refine goesL_ (some 14) rfl rfl Try.func33 (by kernel_rfl) rfl #[.slice A0 l0.length c0, .int .i64 1048576] rfl (by (try simp only [List.map_toArray, List.map_cons, List.map_nil]); first | done | rfl | (simp only [List.length_drop, List.length_take]; rfl)) ?_; (with_reducible refine (laws_szRouteS.calls k _ _ l0 1048576 t182 _ ?side1 ?side2 A4.out).mono ?_); (case side1 => repeat (first | exact HR0.out | (with_reducible refine Kd.C_alloc ?_ _) | (with_reducible refine Kd.C_drewN ?_ _) | (with_reducible refine Kd.C_drew ?_))); (case side2 => exact HC0.out); rintro e w15 ⟨rfl, hb⟩; refine ⟨_, rfl, ?_⟩; have n0_ := Aside0.mk (below_step (bz) hb); clear HB; have HB := n0_; clear n0_; (try clear hb); (try clear hb2); (try clear hk); (try clear hi)) | ((with_reducible refine gate_callee (f := 35) rfl ?_); refine goesL_ (some 18) rfl rfl Try.func35 (by kernel_rfl) rfl #[.slice A0 l0.length c0] rfl (by (try simp only [List.map_toArray, List.map_cons, List.map_nil]); first | done | rfl | (simp only [List.length_drop, List.length_take]; rfl)) ?_; (with_reducible refine (laws_toRouteS.calls k _ _ l0 t183 _ ?side1 ?side2 A7.out).mono ?_); (case side1 => repeat (first | exact (Kd.C_below HR0.out HB.out) | (with_reducible refine Kd.C_alloc ?_ _) | (with_reducible refine Kd.C_drewN ?_ _) | (with_reducible refine Kd.C_drew ?_))); (case side2 => exact HC0.out); rintro e w16 ⟨v184, rfl, ho0, hb⟩; refine ⟨_, rfl, ?_⟩; have n0_ := Aside0.mk (Kd.R_lower ho0 (below_size (bz))); have n1_ := Aside0.mk (below_step (bz) hb); clear HB; have HO185 := n0_; have HB := n1_; clear n0_ n1_; (try clear hb); (try clear hb2); (try clear hk); (try clear hi); (try clear ho0); obtain ⟨Ao17, co17, eo17⟩ := Kd.R_slice HO185.out; subst eo17) | ((with_reducible refine gate_callee (f := 43) rfl ?_); refine goesL_ (some 20) rfl rfl Try.func43 (by kernel_rfl) rfl #[.slice Ao17 t183.length co17, .string a1] rfl (by (try simp only [List.map_toArray, List.map_cons, List.map_nil]); first | done | rfl | (simp only [List.length_drop, List.length_take]; rfl)) ?_; (with_reducible refine (spec_CacheFind.calls k _ _ t183 a1 t186 _ ?side1 ?side2 A8.out).mono ?_); (case side1 => repeat (first | exact (Kd.R_reads' HO185.out).2.2 | (with_reducible refine Kd.C_alloc ?_ _) | (with_reducible refine Kd.C_drewN ?_ _) | (with_reducible refine Kd.C_drew ?_))); (case side2 => exact (Kd.R_reads' HO185.out).2.1); rintro e w18 ⟨rfl, hb⟩; refine ⟨_, rfl, ?_⟩; have n0_ := Aside0.mk (Kd.R_below (by (with_reducible repeat (first | apply Kd.R_alloc | apply Kd.R_drewN | apply Kd.R_drew)); exact HO185.out) hb); have n1_ := Aside0.mk (below_step (bz) hb); clear HO185; clear HB; have HO185 := n0_; have HB := n1_; clear n0_ n1_; (try clear hb); (try clear hb2); (try clear hk); (try clear hi)) | ((with_reducible refine gate_callee (f := 35) rfl ?_); refine goesL_ (some 22) rfl rfl Try.func35 (by kernel_rfl) rfl #[.slice A0 l0.length c0] rfl (by (try simp only [List.map_toArray, List.map_cons, List.map_nil]); first | done | rfl | (simp only [List.length_drop, List.length_take]; rfl)) ?_; (with_reducible refine (laws_toRouteS.calls k _ _ l0 t187 _ ?side1 ?side2 A9.out).mono ?_); (case side1 => repeat (first | exact (Kd.C_below HR0.out HB.out) | (with_reducible refine Kd.C_alloc ?_ _) | (with_reducible refine Kd.C_drewN ?_ _) | (with_reducible refine Kd.C_drew ?_))); (case side2 => exact HC0.out); rintro e w19 ⟨v188, rfl, ho0, hb⟩; refine ⟨_, rfl, ?_⟩; have n0_ := Aside0.mk (Kd.R_elder' (by (with_reducible repeat (first | apply Kd.R_alloc | apply Kd.R_drewN | apply Kd.R_drew)); exact HO185.out) (Kd.R_base ho0) hb); have n1_ := Aside0.mk (Kd.R_lower (Kd.R_new' ho0 (Kd.R_lt (by (with_reducible repeat (first | apply Kd.R_alloc | apply Kd.R_drewN | apply Kd.R_drew)); exact HO185.out))) (below_size (bz))); have n2_ := Aside0.mk (below_step (bz) hb); clear HO185; clear HB; have HO185 := n0_; have HO189 := n1_; have HB := n2_; clear n0_ n1_ n2_; (try clear hb); (try clear hb2); (try clear hk); (try clear hi); (try clear ho0); obtain ⟨Ao20, co20, eo20⟩ := Kd.R_slice HO189.out; subst eo20) | ((with_reducible refine gate_callee (f := 44) rfl ?_); refine goesL_ (some 25) rfl rfl Try.func44 (by kernel_rfl) rfl #[.slice Ao20 t187.length co20, .string a1] rfl (by (try simp only [List.map_toArray, List.map_cons, List.map_nil]); first | done | rfl | (simp only [List.length_drop, List.length_take]; rfl)) ?_; (with_reducible refine (impl_CacheFind.calls k _ _ t187 a1 t190 _ ?side1 ?side2 A10.out).mono ?_); (case side1 => repeat (first | exact (Kd.R_reads' HO189.out).2.2 | (with_reducible refine Kd.C_alloc ?_ _) | (with_reducible refine Kd.C_drewN ?_ _) | (with_reducible refine Kd.C_drew ?_))); (case side2 => exact (Kd.R_reads' HO189.out).2.1); rintro e w21 ⟨rfl, hb⟩; refine ⟨_, rfl, ?_⟩; have n0_ := Aside0.mk (Kd.R_below (by (with_reducible repeat (first | apply Kd.R_alloc | apply Kd.R_drewN | apply Kd.R_drew)); exact HO185.out) hb); have n1_ := Aside0.mk (Kd.R_below (by (with_reducible repeat (first | apply Kd.R_alloc | apply Kd.R_drewN | apply Kd.R_drew)); exact HO189.out) hb); have n2_ := Aside0.mk (below_step (bz) hb); clear HO185; clear HO189; clear HB; have HO185 := n0_; have HO189 := n1_; have HB := n2_; clear n0_ n1_ n2_; (try clear hb); (try clear hb2); (try clear hk); (try clear hi)) | ((with_reducible refine gate_callee (f := 35) rfl ?_); refine goesL_ (some 31) rfl rfl Try.func35 (by kernel_rfl) rfl #[.slice A0 l0.length c0] rfl (by (try simp only [List.map_toArray, List.map_cons, List.map_nil]); first | done | rfl | (simp only [List.length_drop, List.length_take]; rfl)) ?_; (with_reducible refine (laws_toRouteS.calls k _ _ l0 t191 _ ?side1 ?side2 A12.out).mono ?_); (case side1 => repeat (first | exact (Kd.C_below HR0.out HB.out) | (with_reducible refine Kd.C_alloc ?_ _) | (with_reducible refine Kd.C_drewN ?_ _) | (with_reducible refine Kd.C_drew ?_))); (case side2 => exact HC0.out); rintro e w22 ⟨v192, rfl, ho0, hb⟩; refine ⟨_, rfl, ?_⟩; have n0_ := Aside0.mk (Kd.R_elder' (by (with_reducible repeat (first | apply Kd.R_alloc | apply Kd.R_drewN | apply Kd.R_drew)); exact HO185.out) (Kd.R_base ho0) hb); have n1_ := Aside0.mk (Kd.R_elder' (by (with_reducible repeat (first | apply Kd.R_alloc | apply Kd.R_drewN | apply Kd.R_drew)); exact HO189.out) (Kd.R_base ho0) hb); have n2_ := Aside0.mk (Kd.R_lower (Kd.R_new' (Kd.R_new' ho0 (Kd.R_lt (by (with_reducible repeat (first | apply Kd.R_alloc | apply Kd.R_drewN | apply Kd.R_drew)); exact HO185.out))) (Kd.R_lt (by (with_reducible repeat (first | apply Kd.R_alloc | apply Kd.R_drewN | apply Kd.R_drew)); exact HO189.out))) (below_size (bz))); have n3_ := Aside0.mk (below_step (bz) hb); clear HO185; clear HO189; clear HB; have HO185 := n0_; have HO189 := n1_; have HO193 := n2_; have HB := n3_; clear n0_ n1_ n2_ n3_; (try clear hb); (try clear hb2); (try clear hk); (try clear hi); (try clear ho0); obtain ⟨Ao23, co23, eo23⟩ := Kd.R_slice HO193.out; subst eo23) | ((with_reducible refine gate_callee (f := 37) rfl ?_); refine goesL_ (some 32) rfl rfl Try.func37 (by kernel_rfl) rfl #[.slice Ao20 t187.length co20, .slice Ao23 t191.length co23] rfl (by (try simp only [List.map_toArray, List.map_cons, List.map_nil]); first | done | rfl | (simp only [List.length_drop, List.length_take]; rfl)) ?_; (with_reducible refine (laws_eqRouteS.calls k _ _ t187 _ _ t191 true _ ?side1 ?side2 ?side3 ?side4 A13.out).mono ?_); (case side1 => repeat (first | exact (Kd.R_reads' HO189.out).2.2 | (with_reducible refine Kd.C_alloc ?_ _) | (with_reducible refine Kd.C_drewN ?_ _) | (with_reducible refine Kd.C_drew ?_))); (case side2 => exact (Kd.R_reads' HO189.out).2.1); (case side3 => repeat (first | exact (Kd.R_reads' HO193.out).2.2 | (with_reducible refine Kd.C_alloc ?_ _) | (with_reducible refine Kd.C_drewN ?_ _) | (with_reducible refine Kd.C_drew ?_))); (case side4 => exact (Kd.R_reads' HO193.out).2.1); rintro e w24 ⟨rfl, hb⟩; refine ⟨_, rfl, ?_⟩; have n0_ := Aside0.mk (Kd.R_below (by (with_reducible repeat (first | apply Kd.R_alloc | apply Kd.R_drewN | apply Kd.R_drew)); exact HO185.out) hb); have n1_ := Aside0.mk (Kd.R_below (by (with_reducible repeat (first | apply Kd.R_alloc | apply Kd.R_drewN | apply Kd.R_drew)); exact HO189.out) hb); have n2_ := Aside0.mk (Kd.R_below (by (with_reducible repeat (first | apply Kd.R_alloc | apply Kd.R_drewN | apply Kd.R_drew)); exact HO193.out) hb); have n3_ := Aside0.mk (below_step (bz) hb); clear HO185; clear HO189; clear HO193; clear HB; have HO185 := n0_; have HO189 := n1_; have HO193 := n2_; have HB := n3_; clear n0_ n1_ n2_ n3_; (try clear hb); (try clear hb2); (try clear hk); (try clear hi)))
     go_ret
     exact ⟨by first | rfl | (simp only [u8w, w64m]; rfl) | (simp [errW_none, errW_some] <;> rfl) | (simp [*, errW_none, errW_some] <;> rfl), bz⟩
    ·
     replace c14 := Bool.eq_false_iff.mpr c14
     subst c14
     rw [if_neg (show ¬ (false = true) by decide)] at H
     obtain rfl := Option.some.inj H
     go_enter Try.func12, Try.ntmps12
     go_wp2_with (first | ((with_reducible refine gate_callee (f := 33) rfl ?_); refine goesL_ (some 14) rfl rfl Try.func33 (by kernel_rfl) rfl #[.slice A0 l0.length c0, .int .i64 1048576] rfl (by (try simp only [List.map_toArray, List.map_cons, List.map_nil]); first | done | rfl | (simp only [List.length_drop, List.length_take]; rfl)) ?_; (with_reducible refine (laws_szRouteS.calls k _ _ l0 1048576 t182 _ ?side1 ?side2 A4.out).mono ?_); (case side1 => repeat (first | exact HR0.out | (with_reducible refine Kd.C_alloc ?_ _) | (with_reducible refine Kd.C_drewN ?_ _) | (with_reducible refine Kd.C_drew ?_))); (case side2 => exact HC0.out); rintro e w25 ⟨rfl, hb⟩; refine ⟨_, rfl, ?_⟩; have n0_ := Aside0.mk (below_step (bz) hb); clear HB; have HB := n0_; clear n0_; (try clear hb); (try clear hb2); (try clear hk); (try clear hi)) | ((with_reducible refine gate_callee (f := 35) rfl ?_); refine goesL_ (some 18) rfl rfl Try.func35 (by kernel_rfl) rfl #[.slice A0 l0.length c0] rfl (by (try simp only [List.map_toArray, List.map_cons, List.map_nil]); first | done | rfl | (simp only [List.length_drop, List.length_take]; rfl)) ?_; (with_reducible refine (laws_toRouteS.calls k _ _ l0 t183 _ ?side1 ?side2 A7.out).mono ?_); (case side1 => repeat (first | exact (Kd.C_below HR0.out HB.out) | (with_reducible refine Kd.C_alloc ?_ _) | (with_reducible refine Kd.C_drewN ?_ _) | (with_reducible refine Kd.C_drew ?_))); (case side2 => exact HC0.out); rintro e w26 ⟨v184, rfl, ho0, hb⟩; refine ⟨_, rfl, ?_⟩; have n0_ := Aside0.mk (Kd.R_lower ho0 (below_size (bz))); have n1_ := Aside0.mk (below_step (bz) hb); clear HB; have HO185 := n0_; have HB := n1_; clear n0_ n1_; (try clear hb); (try clear hb2); (try clear hk); (try clear hi); (try clear ho0); obtain ⟨Ao27, co27, eo27⟩ := Kd.R_slice HO185.out; subst eo27) | ((with_reducible refine gate_callee (f := 43) rfl ?_); refine goesL_ (some 20) rfl rfl Try.func43 (by kernel_rfl) rfl #[.slice Ao27 t183.length co27, .string a1] rfl (by (try simp only [List.map_toArray, List.map_cons, List.map_nil]); first | done | rfl | (simp only [List.length_drop, List.length_take]; rfl)) ?_; (with_reducible refine (spec_CacheFind.calls k _ _ t183 a1 t186 _ ?side1 ?side2 A8.out).mono ?_); (case side1 => repeat (first | exact (Kd.R_reads' HO185.out).2.2 | (with_reducible refine Kd.C_alloc ?_ _) | (with_reducible refine Kd.C_drewN ?_ _) | (with_reducible refine Kd.C_drew ?_))); (case side2 => exact (Kd.R_reads' HO185.out).2.1); rintro e w28 ⟨rfl, hb⟩; refine ⟨_, rfl, ?_⟩; have n0_ := Aside0.mk (Kd.R_below (by (with_reducible repeat (first | apply Kd.R_alloc | apply Kd.R_drewN | apply Kd.R_drew)); exact HO185.out) hb); have n1_ := Aside0.mk (below_step (bz) hb); clear HO185; clear HB; have HO185 := n0_; have HB := n1_; clear n0_ n1_; (try clear hb); (try clear hb2); (try clear hk); (try clear hi)) | ((with_reducible refine gate_callee (f := 35) rfl ?_); refine goesL_ (some 22) rfl rfl Try.func35 (by kernel_rfl) rfl #[.slice A0 l0.length c0] rfl (by (try simp only [List.map_toArray, List.map_cons, List.map_nil]); first | done | rfl | (simp only [List.length_drop, List.length_take]; rfl)) ?_; (with_reducible refine (laws_toRouteS.calls k _ _ l0 t187 _ ?side1 ?side2 A9.out).mono ?_); (case side1 => repeat (first | exact (Kd.C_below HR0.out HB.out) | (with_reducible refine Kd.C_alloc ?_ _) | (with_reducible refine Kd.C_drewN ?_ _) | (with_reducible refine Kd.C_drew ?_))); (case side2 => exact HC0.out); rintro e w29 ⟨v188, rfl, ho0, hb⟩; refine ⟨_, rfl, ?_⟩; have n0_ := Aside0.mk (Kd.R_elder' (by (with_reducible repeat (first | apply Kd.R_alloc | apply Kd.R_drewN | apply Kd.R_drew)); exact HO185.out) (Kd.R_base ho0) hb); have n1_ := Aside0.mk (Kd.R_lower (Kd.R_new' ho0 (Kd.R_lt (by (with_reducible repeat (first | apply Kd.R_alloc | apply Kd.R_drewN | apply Kd.R_drew)); exact HO185.out))) (below_size (bz))); have n2_ := Aside0.mk (below_step (bz) hb); clear HO185; clear HB; have HO185 := n0_; have HO189 := n1_; have HB := n2_; clear n0_ n1_ n2_; (try clear hb); (try clear hb2); (try clear hk); (try clear hi); (try clear ho0); obtain ⟨Ao30, co30, eo30⟩ := Kd.R_slice HO189.out; subst eo30) | ((with_reducible refine gate_callee (f := 44) rfl ?_); refine goesL_ (some 25) rfl rfl Try.func44 (by kernel_rfl) rfl #[.slice Ao30 t187.length co30, .string a1] rfl (by (try simp only [List.map_toArray, List.map_cons, List.map_nil]); first | done | rfl | (simp only [List.length_drop, List.length_take]; rfl)) ?_; (with_reducible refine (impl_CacheFind.calls k _ _ t187 a1 t190 _ ?side1 ?side2 A10.out).mono ?_); (case side1 => repeat (first | exact (Kd.R_reads' HO189.out).2.2 | (with_reducible refine Kd.C_alloc ?_ _) | (with_reducible refine Kd.C_drewN ?_ _) | (with_reducible refine Kd.C_drew ?_))); (case side2 => exact (Kd.R_reads' HO189.out).2.1); rintro e w31 ⟨rfl, hb⟩; refine ⟨_, rfl, ?_⟩; have n0_ := Aside0.mk (Kd.R_below (by (with_reducible repeat (first | apply Kd.R_alloc | apply Kd.R_drewN | apply Kd.R_drew)); exact HO185.out) hb); have n1_ := Aside0.mk (Kd.R_below (by (with_reducible repeat (first | apply Kd.R_alloc | apply Kd.R_drewN | apply Kd.R_drew)); exact HO189.out) hb); have n2_ := Aside0.mk (below_step (bz) hb); clear HO185; clear HO189; clear HB; have HO185 := n0_; have HO189 := n1_; have HB := n2_; clear n0_ n1_ n2_; (try clear hb); (try clear hb2); (try clear hk); (try clear hi)) | ((with_reducible refine gate_callee (f := 35) rfl ?_); refine goesL_ (some 31) rfl rfl Try.func35 (by kernel_rfl) rfl #[.slice A0 l0.length c0] rfl (by (try simp only [List.map_toArray, List.map_cons, List.map_nil]); first | done | rfl | (simp only [List.length_drop, List.length_take]; rfl)) ?_; (with_reducible refine (laws_toRouteS.calls k _ _ l0 t191 _ ?side1 ?side2 A12.out).mono ?_); (case side1 => repeat (first | exact (Kd.C_below HR0.out HB.out) | (with_reducible refine Kd.C_alloc ?_ _) | (with_reducible refine Kd.C_drewN ?_ _) | (with_reducible refine Kd.C_drew ?_))); (case side2 => exact HC0.out); rintro e w32 ⟨v192, rfl, ho0, hb⟩; refine ⟨_, rfl, ?_⟩; have n0_ := Aside0.mk (Kd.R_elder' (by (with_reducible repeat (first | apply Kd.R_alloc | apply Kd.R_drewN | apply Kd.R_drew)); exact HO185.out) (Kd.R_base ho0) hb); have n1_ := Aside0.mk (Kd.R_elder' (by (with_reducible repeat (first | apply Kd.R_alloc | apply Kd.R_drewN | apply Kd.R_drew)); exact HO189.out) (Kd.R_base ho0) hb); have n2_ := Aside0.mk (Kd.R_lower (Kd.R_new' (Kd.R_new' ho0 (Kd.R_lt (by (with_reducible repeat (first | apply Kd.R_alloc | apply Kd.R_drewN | apply Kd.R_drew)); exact HO185.out))) (Kd.R_lt (by (with_reducible repeat (first | apply Kd.R_alloc | apply Kd.R_drewN | apply Kd.R_drew)); exact HO189.out))) (below_size (bz))); have n3_ := Aside0.mk (below_step (bz) hb); clear HO185; clear HO189; clear HB; have HO185 := n0_; have HO189 := n1_; have HO193 := n2_; have HB := n3_; clear n0_ n1_ n2_ n3_; (try clear hb); (try clear hb2); (try clear hk); (try clear hi); (try clear ho0); obtain ⟨Ao33, co33, eo33⟩ := Kd.R_slice HO193.out; subst eo33) | ((with_reducible refine gate_callee (f := 37) rfl ?_); refine goesL_ (some 32) rfl rfl Try.func37 (by kernel_rfl) rfl #[.slice Ao30 t187.length co30, .slice Ao33 t191.length co33] rfl (by (try simp only [List.map_toArray, List.map_cons, List.map_nil]); first | done | rfl | (simp only [List.length_drop, List.length_take]; rfl)) ?_; (with_reducible refine (laws_eqRouteS.calls k _ _ t187 _ _ t191 false _ ?side1 ?side2 ?side3 ?side4 A13.out).mono ?_); (case side1 => repeat (first | exact (Kd.R_reads' HO189.out).2.2 | (with_reducible refine Kd.C_alloc ?_ _) | (with_reducible refine Kd.C_drewN ?_ _) | (with_reducible refine Kd.C_drew ?_))); (case side2 => exact (Kd.R_reads' HO189.out).2.1); (case side3 => repeat (first | exact (Kd.R_reads' HO193.out).2.2 | (with_reducible refine Kd.C_alloc ?_ _) | (with_reducible refine Kd.C_drewN ?_ _) | (with_reducible refine Kd.C_drew ?_))); (case side4 => exact (Kd.R_reads' HO193.out).2.1); rintro e w34 ⟨rfl, hb⟩; refine ⟨_, rfl, ?_⟩; have n0_ := Aside0.mk (Kd.R_below (by (with_reducible repeat (first | apply Kd.R_alloc | apply Kd.R_drewN | apply Kd.R_drew)); exact HO185.out) hb); have n1_ := Aside0.mk (Kd.R_below (by (with_reducible repeat (first | apply Kd.R_alloc | apply Kd.R_drewN | apply Kd.R_drew)); exact HO189.out) hb); have n2_ := Aside0.mk (Kd.R_below (by (with_reducible repeat (first | apply Kd.R_alloc | apply Kd.R_drewN | apply Kd.R_drew)); exact HO193.out) hb); have n3_ := Aside0.mk (below_step (bz) hb); clear HO185; clear HO189; clear HO193; clear HB; have HO185 := n0_; have HO189 := n1_; have HO193 := n2_; have HB := n3_; clear n0_ n1_ n2_ n3_; (try clear hb); (try clear hb2); (try clear hk); (try clear hi)))
     go_ret
     exact ⟨by first | rfl | (simp only [u8w, w64m]; rfl) | (simp [errW_none, errW_some] <;> rfl) | (simp [*, errW_none, errW_some] <;> rfl), bz⟩
   ·
    rw [if_neg c11] at H
    have c11b0 : (t190 == t186) = false := beq_eq_false_iff_ne.mpr c11
    have c11b1 : (t190 != t186) = true := bne_iff_ne.mpr c11
    obtain rfl := Option.some.inj H
    go_enter Try.func12, Try.ntmps12
    go_wp2_with (first | ((with_reducible refine gate_callee (f := 33) rfl ?_); refine goesL_ (some 14) rfl rfl Try.func33 (by kernel_rfl) rfl #[.slice A0 l0.length c0, .int .i64 1048576] rfl (by (try simp only [List.map_toArray, List.map_cons, List.map_nil]); first | done | rfl | (simp only [List.length_drop, List.length_take]; rfl)) ?_; (with_reducible refine (laws_szRouteS.calls k _ _ l0 1048576 t182 _ ?side1 ?side2 A4.out).mono ?_); (case side1 => repeat (first | exact HR0.out | (with_reducible refine Kd.C_alloc ?_ _) | (with_reducible refine Kd.C_drewN ?_ _) | (with_reducible refine Kd.C_drew ?_))); (case side2 => exact HC0.out); rintro e w35 ⟨rfl, hb⟩; refine ⟨_, rfl, ?_⟩; have n0_ := Aside0.mk (below_step (bz) hb); clear HB; have HB := n0_; clear n0_; (try clear hb); (try clear hb2); (try clear hk); (try clear hi)) | ((with_reducible refine gate_callee (f := 35) rfl ?_); refine goesL_ (some 18) rfl rfl Try.func35 (by kernel_rfl) rfl #[.slice A0 l0.length c0] rfl (by (try simp only [List.map_toArray, List.map_cons, List.map_nil]); first | done | rfl | (simp only [List.length_drop, List.length_take]; rfl)) ?_; (with_reducible refine (laws_toRouteS.calls k _ _ l0 t183 _ ?side1 ?side2 A7.out).mono ?_); (case side1 => repeat (first | exact (Kd.C_below HR0.out HB.out) | (with_reducible refine Kd.C_alloc ?_ _) | (with_reducible refine Kd.C_drewN ?_ _) | (with_reducible refine Kd.C_drew ?_))); (case side2 => exact HC0.out); rintro e w36 ⟨v184, rfl, ho0, hb⟩; refine ⟨_, rfl, ?_⟩; have n0_ := Aside0.mk (Kd.R_lower ho0 (below_size (bz))); have n1_ := Aside0.mk (below_step (bz) hb); clear HB; have HO185 := n0_; have HB := n1_; clear n0_ n1_; (try clear hb); (try clear hb2); (try clear hk); (try clear hi); (try clear ho0); obtain ⟨Ao37, co37, eo37⟩ := Kd.R_slice HO185.out; subst eo37) | ((with_reducible refine gate_callee (f := 43) rfl ?_); refine goesL_ (some 20) rfl rfl Try.func43 (by kernel_rfl) rfl #[.slice Ao37 t183.length co37, .string a1] rfl (by (try simp only [List.map_toArray, List.map_cons, List.map_nil]); first | done | rfl | (simp only [List.length_drop, List.length_take]; rfl)) ?_; (with_reducible refine (spec_CacheFind.calls k _ _ t183 a1 t186 _ ?side1 ?side2 A8.out).mono ?_); (case side1 => repeat (first | exact (Kd.R_reads' HO185.out).2.2 | (with_reducible refine Kd.C_alloc ?_ _) | (with_reducible refine Kd.C_drewN ?_ _) | (with_reducible refine Kd.C_drew ?_))); (case side2 => exact (Kd.R_reads' HO185.out).2.1); rintro e w38 ⟨rfl, hb⟩; refine ⟨_, rfl, ?_⟩; have n0_ := Aside0.mk (Kd.R_below (by (with_reducible repeat (first | apply Kd.R_alloc | apply Kd.R_drewN | apply Kd.R_drew)); exact HO185.out) hb); have n1_ := Aside0.mk (below_step (bz) hb); clear HO185; clear HB; have HO185 := n0_; have HB := n1_; clear n0_ n1_; (try clear hb); (try clear hb2); (try clear hk); (try clear hi)) | ((with_reducible refine gate_callee (f := 35) rfl ?_); refine goesL_ (some 22) rfl rfl Try.func35 (by kernel_rfl) rfl #[.slice A0 l0.length c0] rfl (by (try simp only [List.map_toArray, List.map_cons, List.map_nil]); first | done | rfl | (simp only [List.length_drop, List.length_take]; rfl)) ?_; (with_reducible refine (laws_toRouteS.calls k _ _ l0 t187 _ ?side1 ?side2 A9.out).mono ?_); (case side1 => repeat (first | exact (Kd.C_below HR0.out HB.out) | (with_reducible refine Kd.C_alloc ?_ _) | (with_reducible refine Kd.C_drewN ?_ _) | (with_reducible refine Kd.C_drew ?_))); (case side2 => exact HC0.out); rintro e w39 ⟨v188, rfl, ho0, hb⟩; refine ⟨_, rfl, ?_⟩; have n0_ := Aside0.mk (Kd.R_elder' (by (with_reducible repeat (first | apply Kd.R_alloc | apply Kd.R_drewN | apply Kd.R_drew)); exact HO185.out) (Kd.R_base ho0) hb); have n1_ := Aside0.mk (Kd.R_lower (Kd.R_new' ho0 (Kd.R_lt (by (with_reducible repeat (first | apply Kd.R_alloc | apply Kd.R_drewN | apply Kd.R_drew)); exact HO185.out))) (below_size (bz))); have n2_ := Aside0.mk (below_step (bz) hb); clear HO185; clear HB; have HO185 := n0_; have HO189 := n1_; have HB := n2_; clear n0_ n1_ n2_; (try clear hb); (try clear hb2); (try clear hk); (try clear hi); (try clear ho0); obtain ⟨Ao40, co40, eo40⟩ := Kd.R_slice HO189.out; subst eo40) | ((with_reducible refine gate_callee (f := 44) rfl ?_); refine goesL_ (some 25) rfl rfl Try.func44 (by kernel_rfl) rfl #[.slice Ao40 t187.length co40, .string a1] rfl (by (try simp only [List.map_toArray, List.map_cons, List.map_nil]); first | done | rfl | (simp only [List.length_drop, List.length_take]; rfl)) ?_; (with_reducible refine (impl_CacheFind.calls k _ _ t187 a1 t190 _ ?side1 ?side2 A10.out).mono ?_); (case side1 => repeat (first | exact (Kd.R_reads' HO189.out).2.2 | (with_reducible refine Kd.C_alloc ?_ _) | (with_reducible refine Kd.C_drewN ?_ _) | (with_reducible refine Kd.C_drew ?_))); (case side2 => exact (Kd.R_reads' HO189.out).2.1); rintro e w41 ⟨rfl, hb⟩; refine ⟨_, rfl, ?_⟩; have n0_ := Aside0.mk (Kd.R_below (by (with_reducible repeat (first | apply Kd.R_alloc | apply Kd.R_drewN | apply Kd.R_drew)); exact HO185.out) hb); have n1_ := Aside0.mk (Kd.R_below (by (with_reducible repeat (first | apply Kd.R_alloc | apply Kd.R_drewN | apply Kd.R_drew)); exact HO189.out) hb); have n2_ := Aside0.mk (below_step (bz) hb); clear HO185; clear HO189; clear HB; have HO185 := n0_; have HO189 := n1_; have HB := n2_; clear n0_ n1_ n2_; (try clear hb); (try clear hb2); (try clear hk); (try clear hi)))
    go_ret
    exact ⟨by first | rfl | (simp only [u8w, w64m]; rfl) | (simp [errW_none, errW_some] <;> rfl) | (simp [*, errW_none, errW_some] <;> rfl), bz⟩

/-- THE ONE PURE STATEMENT of laws_FnExactCacheFind. -/
def laws_FnExactCacheFind.Pure : Prop := ∀ (l0 : List (S94)) (a1 : ByteArray), (l0.length ≤ maxLen ∧ ∀ y ∈ l0, okS94 y) → (a1.size ≤ maxLen) → ∃ k, laws_FnExactCacheFind.f k l0 a1 = some true

end Go.Proofs.Ytoajkkfnblpnlaa.PFnExactCacheFind
