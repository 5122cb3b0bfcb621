/- Go functions as plain Lean functions, and for each a proof that its call comes to what the function says; under the conditions that each theorem names. Written by a program of this session. -/
import Derived.Test.YtkjkokljgbpbbaaPFnGiveUpx0
import Derived.Test.YtkjkokljgbpbbaaPFnGiveUpx3
namespace Go.Proofs.Ytkjkokljgbpbbaa.PFnGiveUp
open Go.RowKit Go.Proofs.YtkjkokljgbpbbaaW.PrintWords Go.Proofs.YtkjkokljgbpbbaaW.PrintLast Go.Proofs.YtkjkokljgbpbbaaW.PrintMore
attribute [local go_sem high] str_gtr str_leq str_geq
attribute [local go_sem] max2_int min2_int max_two min_two max_three min_three max_four min_four   -- for this text's walks alone
set_option linter.unusedVariables false
set_option linter.unusedSimpArgs false

/-! ### impl_numbersDiffer: function 79 -/
def impl_numbersDiffer.l0 : Nat → List (S35) → List (S35) → Int → Int → Option (Bool)
 | 0, _, _, _, _ => none
 | k + 1, x0, x5, x6, x7 => if x7 < x6 then (if 0 ≤ x7 then (if x7 < (x5.length : Int) then ((impl_shardNumber.f ((rd_T35 x5 x7).f0)).bind fun t114 => (if t114 = true then (if x7 ≤ (x0.length : Int) then ((impl_routePlace.f k (x0.take (x7 : Int).toNat) ((rd_T35 x5 x7).f0)).bind fun t119 => (if t119 ≥ 0 then (some false) else (impl_numbersDiffer.l0 k x0 x5 x6 (wrap64 (x7 + 1))))) else (none)) else (some false))) else (none)) else (none)) else (some true)
def impl_numbersDiffer.f (k : Nat) (l0 : List (S35)) : Option (Bool) := impl_numbersDiffer.l0 k l0 l0 (l0.length : Int) 0
theorem impl_numbersDiffer.mono_l : ∀ k, (∀ y0 y1 y2 y3, LeO (impl_numbersDiffer.l0 k y0 y1 y2 y3) (impl_numbersDiffer.l0 (k + 1) y0 y1 y2 y3))
 | 0 => fun _ _ _ _ r h => by simp [impl_numbersDiffer.l0] at h
 | k + 1 => by
  have ih0 := impl_numbersDiffer.mono_l k
  ·
   intro y0 y1 y2 y3
   unfold impl_numbersDiffer.l0
   repeat' first
   | (with_reducible exact ih0 _ _ _ _)
   | (with_reducible exact impl_routePlace.mono _ _ _)
   | (with_reducible exact LeO.refl _)
   | (with_reducible exact LeO.none _)
   | (with_reducible refine LeO.ite ?_ ?_)
   | (with_reducible refine LeO.bind ?_ (fun _ => ?_))
   | exact ih0 _ _ _ _
   | exact impl_routePlace.mono _ _ _
   | exact LeO.none _
   | refine LeO.ite ?_ ?_
   | refine LeO.bind ?_ (fun _ => ?_)
theorem impl_numbersDiffer.mono : ∀ a0 k, LeO (impl_numbersDiffer.f k a0) (impl_numbersDiffer.f (k + 1) a0) := by
 intro a0 k
 have ih0 := impl_numbersDiffer.mono_l k
 unfold impl_numbersDiffer.f
 repeat' first
   | (with_reducible exact ih0 _ _ _ _)
   | (with_reducible exact impl_routePlace.mono _ _ _)
   | (with_reducible exact LeO.refl _)
   | (with_reducible exact LeO.none _)
   | (with_reducible refine LeO.ite ?_ ?_)
   | (with_reducible refine LeO.bind ?_ (fun _ => ?_))
   | exact ih0 _ _ _ _
   | exact impl_routePlace.mono _ _ _
   | exact LeO.none _
   | refine LeO.ite ?_ ?_
   | refine LeO.bind ?_ (fun _ => ?_)
def impl_numbersDiffer.T4 : Bool × List (List Nat × List Nat) := (true, [([], []), ([0], [0]), ([1], [1]), ([2], [2]), ([3, 2], [3]), ([4], [4]), ([4], [4]), ([5, 6, 4], [4, 5, 6]), ([4], [4]), ([8, 4], [4, 8]), ([7, 9, 4, 4], [4, 7, 9]), ([10, 4], [4, 10]), ([4, 11], [4, 11])])
def impl_numbersDiffer.B4 : List Nat := [0, 1, 3, 7, 15, 31, 31, 127, 31, 287, 1023, 2047, 4095]
theorem impl_numbersDiffer.tab4 : rtab .any (opsOf Try.f79 4) = impl_numbersDiffer.T4 := by kernel_rfl
theorem impl_numbersDiffer.bits4 : waitsOk impl_numbersDiffer.T4.2 impl_numbersDiffer.B4 = true := by kernel_rfl
set_option maxHeartbeats 8000000 in
set_option maxRecDepth 100000 in
theorem impl_numbersDiffer.calls (k : Nat) (A0 : Option Addr) (c0 : Nat) (l0 : List (S35)) (r : Bool) (w : World) (hr0 : Kd.C k35 w A0 l0.length l0) (hc0 : l0.length ≤ c0) (h : impl_numbersDiffer.f k l0 = some r) :
  Calls Try.prog 79 #[.slice A0 l0.length c0] w fun e w' => e = .returned (.bool r) ∧ Below w.heap.size w w' := by
 have hu35 := Try.underlying35
 have HR0 := Aside0.mk hr0
 have HC0 := Aside0.mk hc0
 clear hr0 hc0
 have HB := Aside0.mk (Below.refl w.heap.size w)
 have H : (impl_numbersDiffer.l0 k l0 l0 (l0.length : Int) 0) = some r := h
 clear h
 have H' := Aside0.mk H
 clear H
 go_enter Try.func79, Try.ntmps79
 go_wp2
 go_loopg [7] k (fun kq v7 w' => ∃ (x7_1 : Int), v7 = .int .i64 x7_1 ∧ Aside0 (impl_numbersDiffer.l0 kq l0 l0 (l0.length : Int) x7_1 = some r) ∧ Aside0 (kq ≤ k) ∧ Aside0 (Below w.heap.size w w'))
 case atStart => exact ⟨(0), (by first | rfl | (simp; done) | exact congrArg Value.bool (ne_nil_b _) | exact congrArg Value.bool (eq_nil_b _) | (simp [*]; done)), H', ⟨Nat.le_refl _⟩, ⟨bz⟩⟩
 case round =>
  clear H'
  obtain ⟨x7_1, rfl, HA, HK1, HB⟩ := hrel
  cases gk with
  | zero => exact absurd HA.out (by simp [impl_numbersDiffer.l0])
  | succ k1 =>
   have H := HA.out
   clear HA
   simp only [impl_numbersDiffer.l0] at H
   by_cases c2 : x7_1 < (l0.length : Int)
   ·
    rw [if_pos c2] at H
    have c2b0 : decide (x7_1 < (l0.length : Int)) = true := decide_eq_true c2
    clear c2
    by_cases c3 : 0 ≤ x7_1
    ·
     rw [if_pos c3] at H
     have c3b0 : decide (0 ≤ x7_1) = true := decide_eq_true c3
     clear c3
     by_cases c4 : x7_1 < (l0.length : Int)
     ·
      rw [if_pos c4] at H
      have c4b0 : decide (x7_1 < (l0.length : Int)) = true := decide_eq_true c4
      clear c4
      replace H := Option.bind_eq_some_iff.mp H
      obtain ⟨t114, A50, H⟩ := H
      try dsimp only at H
      have A5 := Aside0.mk A50
      clear A50
      by_cases c6 : t114 = true
      ·
       subst c6
       rw [if_pos rfl] at H
       have c7b0 := eq_true (of_decide_eq_true (by first | (with_reducible assumption) | assumption) : 0 ≤ x7_1)
       by_cases c8 : x7_1 ≤ (l0.length : Int)
       ·
        rw [if_pos c8] at H
        have c8b0 := eq_true c8
        have c8b1 : decide (x7_1 ≤ (l0.length : Int)) = true := decide_eq_true c8
        clear c8
        obtain ⟨y115, hy115⟩ : ∃ y_ : List (S35), y_ = (l0.take (x7_1 : Int).toNat) := ⟨_, rfl⟩
        replace H : ((impl_routePlace.f k1 y115 ((rd_T35 l0 x7_1).f0)).bind fun t119 => (if t119 ≥ 0 then (some false) else (impl_numbersDiffer.l0 k1 l0 l0 (l0.length : Int) (wrap64 (x7_1 + 1))))) = some r := by first | (rw [hy115]; with_reducible exact H) | (have H2_ := (Option.bind_some _ _).symm.trans H; rw [hy115]; with_reducible exact H2_) | (have H2_ := (Option.bind_some _ _).symm.trans H; with_reducible exact H2_) | with_reducible exact H | (rw [hy115]; exact H) | exact H
        have Ny115 := Aside0.mk hy115
        clear hy115
        replace H := Option.bind_eq_some_iff.mp H
        obtain ⟨t119, A90, H⟩ := H
        try dsimp only at H
        have A9 := Aside0.mk A90
        clear A90
        by_cases c10 : t119 ≥ 0
        ·
         rw [if_pos c10] at H
         have c10b0 : decide (0 ≤ t119) = true := decide_eq_true c10
         clear c10
         obtain rfl := Option.some.inj H
         have p112 : 0 ≤ (x7_1 : Int) := of_decide_eq_true (by first | (with_reducible assumption) | assumption)
         have q112 : x7_1 < (l0.length : Int) := of_decide_eq_true (by first | (with_reducible assumption) | assumption)
         obtain ⟨ad112, e112, hx112_0, hx112_1, hx112_2⟩ := at_T35 HR0.out x7_1 p112 q112
         cases e112
         replace hx112_0 := (HB.out.cell (World.block_lt_of_cell? w _ hx112_0)).trans hx112_0
         replace hx112_1 := (HB.out.cell (World.block_lt_of_cell? w _ hx112_1)).trans hx112_1
         replace hx112_2 := (HB.out.cell (World.block_lt_of_cell? w _ hx112_2)).trans hx112_2
         replace p112 := eq_true p112
         replace q112 := eq_true q112
         try go_wp2_with (first | ((with_reducible refine gate_dst (N := 4) rfl ?_); refine box_event ?hg (N := 4) ?hd (cs := #[.int .i64 0, .string (⟨#[]⟩ : ByteArray), .string (⟨#[]⟩ : ByteArray)]) (t := 35) ?hr ?_; (case hd => rfl); (case hg => rfl); (case hr => first | (go_simp; done) | (go_simp; rfl)); intro gb113 hg w11 hbox hb; have n0_ := Aside0.mk (below_step (bz) hb); have n1_ := Aside0.mk (hbox); have n2_ : Aside0 (w.heap.size ≤ gb113) := bsg hg; have n3_ : Aside0 (w.heap.size ≤ gb113) := bsg hg; clear HB; have HB := n0_; have BK113 := n1_; have GW113 := n2_; have GE113 := n3_; clear n0_ n1_ n2_ n3_; clear hb hbox hg; obtain ⟨hcz12_0, hcz12_1, hcz12_2⟩ := cl3 BK113; obtain ⟨hfz12_0, hfz12_1, hfz12_2⟩ := fz3 BK113))
         have n0_ : Aside0 ((((w11.setCell ⟨gb113, 0, none⟩ (.int .i64 ((rd_T35 l0 x7_1).f0))).setCell ⟨gb113, 1, none⟩ (.string ((rd_T35 l0 x7_1).f1.f0))).setCell ⟨gb113, 2, none⟩ (.string ((rd_T35 l0 x7_1).f1.f1))).heap[gb113]? = some (.cells #[.int .i64 ((rd_T35 l0 x7_1).f0), .string ((rd_T35 l0 x7_1).f1.f0), .string ((rd_T35 l0 x7_1).f1.f1)] 35 (0, 0))) := ⟨by (with_reducible repeat (first | refine blk_drewN ?_ _ | refine blk_drew ?_ | refine blk_alloc ?_ _)); refine blk_put (cs := #[.int .i64 ((rd_T35 l0 x7_1).f0), .string ((rd_T35 l0 x7_1).f1.f0), .string (⟨#[]⟩ : ByteArray)]) ?_ 2 _ rfl; (with_reducible repeat (first | refine blk_drewN ?_ _ | refine blk_drew ?_ | refine blk_alloc ?_ _)); refine blk_put (cs := #[.int .i64 ((rd_T35 l0 x7_1).f0), .string (⟨#[]⟩ : ByteArray), .string (⟨#[]⟩ : ByteArray)]) ?_ 1 _ rfl; (with_reducible repeat (first | refine blk_drewN ?_ _ | refine blk_drew ?_ | refine blk_alloc ?_ _)); refine blk_put (cs := #[.int .i64 0, .string (⟨#[]⟩ : ByteArray), .string (⟨#[]⟩ : ByteArray)]) ?_ 0 _ rfl; (with_reducible repeat (first | refine blk_drewN ?_ _ | refine blk_drew ?_ | refine blk_alloc ?_ _)); exact BK113.out⟩
         have n1_ : Aside0 (Below w.heap.size w (((w11.setCell ⟨gb113, 0, none⟩ (.int .i64 ((rd_T35 l0 x7_1).f0))).setCell ⟨gb113, 1, none⟩ (.string ((rd_T35 l0 x7_1).f1.f0))).setCell ⟨gb113, 2, none⟩ (.string ((rd_T35 l0 x7_1).f1.f1)))) := ⟨bz⟩
         (try clear BK113)
         (try clear HB)
         generalize (((w11.setCell ⟨gb113, 0, none⟩ (.int .i64 ((rd_T35 l0 x7_1).f0))).setCell ⟨gb113, 1, none⟩ (.string ((rd_T35 l0 x7_1).f1.f0))).setCell ⟨gb113, 2, none⟩ (.string ((rd_T35 l0 x7_1).f1.f1))) = w13 at n0_ n1_ ⊢
         have BK113 := n0_
         have HB := n1_
         clear n0_ n1_
         have n0_ := Aside0.mk (blk_drew BK113.out)
         have n1_ := Aside0.mk (below_drew1 HB.out)
         clear BK113
         clear HB
         have BK113 := n0_
         have HB := n1_
         clear n0_ n1_
         refine start_ (n := 13) (S := fun w' => w'.cell? ⟨gb113, 0, none⟩ = some (.int .i64 ((rd_T35 l0 x7_1).f0)) ∧ w'.cell? ⟨gb113, 1, none⟩ = some (.string ((rd_T35 l0 x7_1).f1.f0)) ∧ w'.cell? ⟨gb113, 2, none⟩ = some (.string ((rd_T35 l0 x7_1).f1.f1))) (ds := []) #[false, false, false, false, false, false, false, false, false, false, false, false, false] (by kernel_rfl) rfl rfl (cl3 BK113) (fun hHeld => ?_); refine with_tabW impl_numbersDiffer.tab4 impl_numbersDiffer.bits4 (fun HT_ HW_ => ?_)
         generalize w13.drew = w14 at BK113 HB hHeld ⊢
         refine pure_ (i := 0) (N := some 12) (v := ?_) (a' := ?_) #[true, false, false, false, false, false, false, false, false, false, false, false, false] rfl rfl (any_of HT_.out (by kernel_rfl)) (fun _ _ _ h => h) (Or.inl ⟨by rfl, ?_⟩) ?_ ?_
         rotate_left
         ·
          intro w'
          go_simp
          with_reducible rfl
         rotate_left
         ·
          simp only [sx]
          rfl
         refine take_ (i := 1) (N := some 13) (v := ?_) (a' := ?_) #[true, true, false, false, false, false, false, false, false, false, false, false, false] rfl rfl (take_ofW HT_.out HW_.out (by kernel_rfl)) (fun _ _ _ h => h) (Or.inl ⟨by rfl, ?_⟩) hHeld ?_ ?_
         rotate_left
         ·
          rintro w' ⟨s0, s1, s2⟩
          go_simp
          with_reducible rfl
         rotate_left
         ·
          simp only [sx]
          rfl
         refine one_ (i := 2) (N := some 14) #[true, true, true, false, false, false, false, false, false, false, false, false, false] rfl rfl (one_of HT_.out (by kernel_rfl)) (by decide) (fun K hK => ?_)
         refine goes_ Try.func107 (by kernel_rfl) rfl #[.int .i64 ((rd_T35 l0 x7_1).f0)] (by rfl) rfl rfl ga ?_
         with_reducible refine (impl_shardNumber.calls ((rd_T35 l0 x7_1).f0) true _ A5.out).mono ?_
         rintro e w' ⟨rfl, ⟨nd, rfl⟩⟩
         refine ⟨_, rfl, ?_⟩
         have q15 : (x7_1 : Int) ≤ ((l0.length : Int) : Int) := of_decide_eq_true (by first | (with_reducible assumption) | assumption)
         obtain ⟨i015, hi015, _, hsz15, _⟩ := info_parts info35
         have hroom15 : l0.length ≤ c0 := HC0.out
         have hC15 : Kd.C k35 _ (some ad112) l0.length l0 := HR0.out
         have hcut15 := cut_to (P := Try.prog) 23 35 .i64 Try.underlying23 hi015 (some ad112) l0.length c0 x7_1 (of_decide_eq_true (by first | (with_reducible assumption) | assumption)) q15 hroom15
         have hr15 := Kd.C_take (m := (x7_1 : Int).toNat) hC15 (by omega)
         have hy15 : y115.length = (x7_1 : Int).toNat := (by rw [Ny115.out, List.length_take]; omega)
         rw [← Ny115.out] at hr15
         rw [← hy15] at hcut15
         have HR118 := Aside0.mk hr15
         have HC118 := Aside0.mk (show y115.length ≤ c0 from by omega)
         clear hr15 hC15 hroom15 hi015 hsz15
         have KY15 := Aside0.mk hy15
         clear hy15
         replace q15 := eq_true q15
         refine hK.out _ _ (cl3 BK113) (fun hHeld => ?_)
         clear hK K
         refine norm_ (a' := ?_) ?_ ?_
         rotate_left
         ·
          show Act.put _ (some 14) _ = _
          simp only [sx]
          rfl
         refine pure_ (i := 3) (N := some 15) (v := ?_) (a' := ?_) #[true, true, true, true, false, false, false, false, false, false, false, false, false] rfl rfl (any_of HT_.out (by kernel_rfl)) (fun _ _ _ h => h) (Or.inl ⟨by rfl, ?_⟩) ?_ ?_
         rotate_left
         ·
          intro w'
          go_simp
          with_reducible rfl
         rotate_left
         ·
          simp only [sx]
          rfl
         refine pure_ (i := 4) (N := some 16) (v := ?_) (a' := ?_) #[true, true, true, true, true, false, false, false, false, false, false, false, false] rfl rfl (any_of HT_.out (by kernel_rfl)) (fun _ _ _ h => h) (Or.inl ⟨by rfl, ?_⟩) ?_ ?_
         rotate_left
         ·
          intro w'
          go_simp
          with_reducible rfl
         rotate_left
         ·
          simp only [sx]
          rfl
         refine pure_ (i := 5) (N := some 17) (v := ?_) (a' := ?_) #[true, true, true, true, true, true, false, false, false, false, false, false, false] rfl rfl (any_of HT_.out (by kernel_rfl)) (fun _ _ _ h => h) (Or.inl ⟨by rfl, ?_⟩) ?_ ?_
         rotate_left
         ·
          intro w'
          go_simp
          with_reducible rfl
         rotate_left
         ·
          simp only [sx]
          rfl
         refine pure_ (i := 6) (N := some 18) (v := ?_) (a' := ?_) #[true, true, true, true, true, true, true, false, false, false, false, false, false] rfl rfl (any_of HT_.out (by kernel_rfl)) (fun _ _ _ h => h) (Or.inl ⟨by rfl, ?_⟩) ?_ ?_
         rotate_left
         ·
          intro w'
          go_simp
          with_reducible rfl
         rotate_left
         ·
          simp only [sx]
          rfl
         refine pure_ (i := 7) (N := some 19) (v := ?_) (a' := ?_) #[true, true, true, true, true, true, true, true, false, false, false, false, false] rfl rfl (any_of HT_.out (by kernel_rfl)) (fun _ _ _ h => h) (Or.inl ⟨by rfl, ?_⟩) ?_ ?_
         rotate_left
         ·
          intro w'
          go_simp
          with_reducible rfl
         rotate_left
         ·
          simp only [sx]
          rfl
         refine pure_ (i := 8) (N := some 20) (v := ?_) (a' := ?_) #[true, true, true, true, true, true, true, true, true, false, false, false, false] rfl rfl (any_of HT_.out (by kernel_rfl)) (fun _ _ _ h => h) (Or.inl ⟨by rfl, ?_⟩) ?_ ?_
         rotate_left
         ·
          intro w'
          go_simp
          with_reducible rfl
         rotate_left
         ·
          simp only [sx]
          rfl
         refine take_ (i := 9) (N := some 21) (v := ?_) (a' := ?_) #[true, true, true, true, true, true, true, true, true, true, false, false, false] rfl rfl (take_ofW HT_.out HW_.out (by kernel_rfl)) (fun _ _ _ h => h) (Or.inl ⟨by rfl, ?_⟩) hHeld ?_ ?_
         rotate_left
         ·
          rintro w' ⟨s0, s1, s2⟩
          go_simp
          with_reducible rfl
         rotate_left
         ·
          simp only [sx]
          rfl
         refine one_ (i := 10) (N := some 22) #[true, true, true, true, true, true, true, true, true, true, true, false, false] rfl rfl (one_of HT_.out (by kernel_rfl)) (by decide) (fun K hK => ?_)
         refine goes_ Try.func81 (by kernel_rfl) rfl #[.slice (some ad112) y115.length c0, .int .i64 ((rd_T35 l0 x7_1).f0)] (by rfl) rfl rfl ga ?_
         with_reducible refine (impl_routePlace.calls k1 _ _ y115 ((rd_T35 l0 x7_1).f0) t119 _ ?side1 ?side2 A9.out).mono ?_
         (case side1 => repeat (first | exact (Kd.C_below HR118.out (bz)) | (with_reducible refine Kd.C_alloc ?_ _) | (with_reducible refine Kd.C_drewN ?_ _) | (with_reducible refine Kd.C_drew ?_)))
         (case side2 => exact HC118.out)
         rintro e w16 ⟨rfl, hb⟩
         refine ⟨_, rfl, ?_⟩
         have n0_ := bkb BK113 hb
         have n1_ := Aside0.mk (below_step (bz) hb)
         clear BK113
         clear HB
         have BK113 := n0_
         have HB := n1_
         clear n0_ n1_
         (try clear hb)
         (try clear hb2)
         (try clear hk)
         (try clear hi)
         refine hK.out _ _ (cl3 BK113) (fun hHeld => ?_)
         clear hK K
         refine norm_ (a' := ?_) ?_ ?_
         rotate_left
         ·
          show Act.put _ (some 22) _ = _
          simp only [sx]
          rfl
         refine pure_ (i := 11) (N := some 23) (v := ?_) (a' := ?_) #[true, true, true, true, true, true, true, true, true, true, true, true, false] rfl rfl (any_of HT_.out (by kernel_rfl)) (fun _ _ _ h => h) (Or.inl ⟨by rfl, ?_⟩) ?_ ?_
         rotate_left
         ·
          intro w'
          go_simp
          with_reducible rfl
         rotate_left
         ·
          simp only [sx]
          rfl
         refine pure_ (i := 12) (N := some 24) (v := ?_) (a' := ?_) #[true, true, true, true, true, true, true, true, true, true, true, true, true] rfl rfl (any_of HT_.out (by kernel_rfl)) (fun _ _ _ h => h) (Or.inl ⟨by rfl, ?_⟩) ?_ ?_
         rotate_left
         ·
          intro w'
          go_simp
          with_reducible rfl
         rotate_left
         ·
          simp only [sx]
          rfl
         refine done_ (done_of HT_.out (by kernel_rfl)) ?_
         try go_wp2
         go_ret
         exact ⟨by first | rfl | (simp only [u8w, w64m]; rfl) | (simp [errW_none, errW_some] <;> rfl) | (simp [*, errW_none, errW_some] <;> rfl), bz⟩
        ·
         rw [if_neg c10] at H
         have c10b0 : decide (0 ≤ t119) = false := decide_eq_false c10
         clear c10
         have H' := Aside0.mk H
         clear H
         have p112 : 0 ≤ (x7_1 : Int) := of_decide_eq_true (by first | (with_reducible assumption) | assumption)
         have q112 : x7_1 < (l0.length : Int) := of_decide_eq_true (by first | (with_reducible assumption) | assumption)
         obtain ⟨ad112, e112, hx112_0, hx112_1, hx112_2⟩ := at_T35 HR0.out x7_1 p112 q112
         cases e112
         replace hx112_0 := (HB.out.cell (World.block_lt_of_cell? w _ hx112_0)).trans hx112_0
         replace hx112_1 := (HB.out.cell (World.block_lt_of_cell? w _ hx112_1)).trans hx112_1
         replace hx112_2 := (HB.out.cell (World.block_lt_of_cell? w _ hx112_2)).trans hx112_2
         replace p112 := eq_true p112
         replace q112 := eq_true q112
         try go_wp2_with (first | ((with_reducible refine gate_dst (N := 4) rfl ?_); refine box_event ?hg (N := 4) ?hd (cs := #[.int .i64 0, .string (⟨#[]⟩ : ByteArray), .string (⟨#[]⟩ : ByteArray)]) (t := 35) ?hr ?_; (case hd => rfl); (case hg => rfl); (case hr => first | (go_simp; done) | (go_simp; rfl)); intro gb113 hg w17 hbox hb; have n0_ := Aside0.mk (below_step (bz) hb); have n1_ := Aside0.mk (hbox); have n2_ : Aside0 (w.heap.size ≤ gb113) := bsg hg; have n3_ : Aside0 (w.heap.size ≤ gb113) := bsg hg; clear HB; have HB := n0_; have BK113 := n1_; have GW113 := n2_; have GE113 := n3_; clear n0_ n1_ n2_ n3_; clear hb hbox hg; obtain ⟨hcz18_0, hcz18_1, hcz18_2⟩ := cl3 BK113; obtain ⟨hfz18_0, hfz18_1, hfz18_2⟩ := fz3 BK113))
         have n0_ : Aside0 ((((w17.setCell ⟨gb113, 0, none⟩ (.int .i64 ((rd_T35 l0 x7_1).f0))).setCell ⟨gb113, 1, none⟩ (.string ((rd_T35 l0 x7_1).f1.f0))).setCell ⟨gb113, 2, none⟩ (.string ((rd_T35 l0 x7_1).f1.f1))).heap[gb113]? = some (.cells #[.int .i64 ((rd_T35 l0 x7_1).f0), .string ((rd_T35 l0 x7_1).f1.f0), .string ((rd_T35 l0 x7_1).f1.f1)] 35 (0, 0))) := ⟨by (with_reducible repeat (first | refine blk_drewN ?_ _ | refine blk_drew ?_ | refine blk_alloc ?_ _)); refine blk_put (cs := #[.int .i64 ((rd_T35 l0 x7_1).f0), .string ((rd_T35 l0 x7_1).f1.f0), .string (⟨#[]⟩ : ByteArray)]) ?_ 2 _ rfl; (with_reducible repeat (first | refine blk_drewN ?_ _ | refine blk_drew ?_ | refine blk_alloc ?_ _)); refine blk_put (cs := #[.int .i64 ((rd_T35 l0 x7_1).f0), .string (⟨#[]⟩ : ByteArray), .string (⟨#[]⟩ : ByteArray)]) ?_ 1 _ rfl; (with_reducible repeat (first | refine blk_drewN ?_ _ | refine blk_drew ?_ | refine blk_alloc ?_ _)); refine blk_put (cs := #[.int .i64 0, .string (⟨#[]⟩ : ByteArray), .string (⟨#[]⟩ : ByteArray)]) ?_ 0 _ rfl; (with_reducible repeat (first | refine blk_drewN ?_ _ | refine blk_drew ?_ | refine blk_alloc ?_ _)); exact BK113.out⟩
         have n1_ : Aside0 (Below w.heap.size w (((w17.setCell ⟨gb113, 0, none⟩ (.int .i64 ((rd_T35 l0 x7_1).f0))).setCell ⟨gb113, 1, none⟩ (.string ((rd_T35 l0 x7_1).f1.f0))).setCell ⟨gb113, 2, none⟩ (.string ((rd_T35 l0 x7_1).f1.f1)))) := ⟨bz⟩
         (try clear BK113)
         (try clear HB)
         generalize (((w17.setCell ⟨gb113, 0, none⟩ (.int .i64 ((rd_T35 l0 x7_1).f0))).setCell ⟨gb113, 1, none⟩ (.string ((rd_T35 l0 x7_1).f1.f0))).setCell ⟨gb113, 2, none⟩ (.string ((rd_T35 l0 x7_1).f1.f1))) = w19 at n0_ n1_ ⊢
         have BK113 := n0_
         have HB := n1_
         clear n0_ n1_
         have n0_ := Aside0.mk (blk_drew BK113.out)
         have n1_ := Aside0.mk (below_drew1 HB.out)
         clear BK113
         clear HB
         have BK113 := n0_
         have HB := n1_
         clear n0_ n1_
         refine start_ (n := 13) (S := fun w' => w'.cell? ⟨gb113, 0, none⟩ = some (.int .i64 ((rd_T35 l0 x7_1).f0)) ∧ w'.cell? ⟨gb113, 1, none⟩ = some (.string ((rd_T35 l0 x7_1).f1.f0)) ∧ w'.cell? ⟨gb113, 2, none⟩ = some (.string ((rd_T35 l0 x7_1).f1.f1))) (ds := []) #[false, false, false, false, false, false, false, false, false, false, false, false, false] (by kernel_rfl) rfl rfl (cl3 BK113) (fun hHeld => ?_); refine with_tabW impl_numbersDiffer.tab4 impl_numbersDiffer.bits4 (fun HT_ HW_ => ?_)
         generalize w19.drew = w20 at BK113 HB hHeld ⊢
         refine pure_ (i := 0) (N := some 12) (v := ?_) (a' := ?_) #[true, false, false, false, false, false, false, false, false, false, false, false, false] rfl rfl (any_of HT_.out (by kernel_rfl)) (fun _ _ _ h => h) (Or.inl ⟨by rfl, ?_⟩) ?_ ?_
         rotate_left
         ·
          intro w'
          go_simp
          with_reducible rfl
         rotate_left
         ·
          simp only [sx]
          rfl
         refine take_ (i := 1) (N := some 13) (v := ?_) (a' := ?_) #[true, true, false, false, false, false, false, false, false, false, false, false, false] rfl rfl (take_ofW HT_.out HW_.out (by kernel_rfl)) (fun _ _ _ h => h) (Or.inl ⟨by rfl, ?_⟩) hHeld ?_ ?_
         rotate_left
         ·
          rintro w' ⟨s0, s1, s2⟩
          go_simp
          with_reducible rfl
         rotate_left
         ·
          simp only [sx]
          rfl
         refine one_ (i := 2) (N := some 14) #[true, true, true, false, false, false, false, false, false, false, false, false, false] rfl rfl (one_of HT_.out (by kernel_rfl)) (by decide) (fun K hK => ?_)
         refine goes_ Try.func107 (by kernel_rfl) rfl #[.int .i64 ((rd_T35 l0 x7_1).f0)] (by rfl) rfl rfl ga ?_
         with_reducible refine (impl_shardNumber.calls ((rd_T35 l0 x7_1).f0) true _ A5.out).mono ?_
         rintro e w' ⟨rfl, ⟨nd, rfl⟩⟩
         refine ⟨_, rfl, ?_⟩
         have q21 : (x7_1 : Int) ≤ ((l0.length : Int) : Int) := of_decide_eq_true (by first | (with_reducible assumption) | assumption)
         obtain ⟨i021, hi021, _, hsz21, _⟩ := info_parts info35
         have hroom21 : l0.length ≤ c0 := HC0.out
         have hC21 : Kd.C k35 _ (some ad112) l0.length l0 := HR0.out
         have hcut21 := cut_to (P := Try.prog) 23 35 .i64 Try.underlying23 hi021 (some ad112) l0.length c0 x7_1 (of_decide_eq_true (by first | (with_reducible assumption) | assumption)) q21 hroom21
         have hr21 := Kd.C_take (m := (x7_1 : Int).toNat) hC21 (by omega)
         have hy21 : y115.length = (x7_1 : Int).toNat := (by rw [Ny115.out, List.length_take]; omega)
         rw [← Ny115.out] at hr21
         rw [← hy21] at hcut21
         have HR118 := Aside0.mk hr21
         have HC118 := Aside0.mk (show y115.length ≤ c0 from by omega)
         clear hr21 hC21 hroom21 hi021 hsz21
         have KY21 := Aside0.mk hy21
         clear hy21
         replace q21 := eq_true q21
         refine hK.out _ _ (cl3 BK113) (fun hHeld => ?_)
         clear hK K
         refine norm_ (a' := ?_) ?_ ?_
         rotate_left
         ·
          show Act.put _ (some 14) _ = _
          simp only [sx]
          rfl
         refine pure_ (i := 3) (N := some 15) (v := ?_) (a' := ?_) #[true, true, true, true, false, false, false, false, false, false, false, false, false] rfl rfl (any_of HT_.out (by kernel_rfl)) (fun _ _ _ h => h) (Or.inl ⟨by rfl, ?_⟩) ?_ ?_
         rotate_left
         ·
          intro w'
          go_simp
          with_reducible rfl
         rotate_left
         ·
          simp only [sx]
          rfl
         refine pure_ (i := 4) (N := some 16) (v := ?_) (a' := ?_) #[true, true, true, true, true, false, false, false, false, false, false, false, false] rfl rfl (any_of HT_.out (by kernel_rfl)) (fun _ _ _ h => h) (Or.inl ⟨by rfl, ?_⟩) ?_ ?_
         rotate_left
         ·
          intro w'
          go_simp
          with_reducible rfl
         rotate_left
         ·
          simp only [sx]
          rfl
         refine pure_ (i := 5) (N := some 17) (v := ?_) (a' := ?_) #[true, true, true, true, true, true, false, false, false, false, false, false, false] rfl rfl (any_of HT_.out (by kernel_rfl)) (fun _ _ _ h => h) (Or.inl ⟨by rfl, ?_⟩) ?_ ?_
         rotate_left
         ·
          intro w'
          go_simp
          with_reducible rfl
         rotate_left
         ·
          simp only [sx]
          rfl
         refine pure_ (i := 6) (N := some 18) (v := ?_) (a' := ?_) #[true, true, true, true, true, true, true, false, false, false, false, false, false] rfl rfl (any_of HT_.out (by kernel_rfl)) (fun _ _ _ h => h) (Or.inl ⟨by rfl, ?_⟩) ?_ ?_
         rotate_left
         ·
          intro w'
          go_simp
          with_reducible rfl
         rotate_left
         ·
          simp only [sx]
          rfl
         refine pure_ (i := 7) (N := some 19) (v := ?_) (a' := ?_) #[true, true, true, true, true, true, true, true, false, false, false, false, false] rfl rfl (any_of HT_.out (by kernel_rfl)) (fun _ _ _ h => h) (Or.inl ⟨by rfl, ?_⟩) ?_ ?_
         rotate_left
         ·
          intro w'
          go_simp
          with_reducible rfl
         rotate_left
         ·
          simp only [sx]
          rfl
         refine pure_ (i := 8) (N := some 20) (v := ?_) (a' := ?_) #[true, true, true, true, true, true, true, true, true, false, false, false, false] rfl rfl (any_of HT_.out (by kernel_rfl)) (fun _ _ _ h => h) (Or.inl ⟨by rfl, ?_⟩) ?_ ?_
         rotate_left
         ·
          intro w'
          go_simp
          with_reducible rfl
         rotate_left
         ·
          simp only [sx]
          rfl
         refine take_ (i := 9) (N := some 21) (v := ?_) (a' := ?_) #[true, true, true, true, true, true, true, true, true, true, false, false, false] rfl rfl (take_ofW HT_.out HW_.out (by kernel_rfl)) (fun _ _ _ h => h) (Or.inl ⟨by rfl, ?_⟩) hHeld ?_ ?_
         rotate_left
         ·
          rintro w' ⟨s0, s1, s2⟩
          go_simp
          with_reducible rfl
         rotate_left
         ·
          simp only [sx]
          rfl
         refine one_ (i := 10) (N := some 22) #[true, true, true, true, true, true, true, true, true, true, true, false, false] rfl rfl (one_of HT_.out (by kernel_rfl)) (by decide) (fun K hK => ?_)
         refine goes_ Try.func81 (by kernel_rfl) rfl #[.slice (some ad112) y115.length c0, .int .i64 ((rd_T35 l0 x7_1).f0)] (by rfl) rfl rfl ga ?_
         with_reducible refine (impl_routePlace.calls k1 _ _ y115 ((rd_T35 l0 x7_1).f0) t119 _ ?side1 ?side2 A9.out).mono ?_
         (case side1 => repeat (first | exact (Kd.C_below HR118.out (bz)) | (with_reducible refine Kd.C_alloc ?_ _) | (with_reducible refine Kd.C_drewN ?_ _) | (with_reducible refine Kd.C_drew ?_)))
         (case side2 => exact HC118.out)
         rintro e w22 ⟨rfl, hb⟩
         refine ⟨_, rfl, ?_⟩
         have n0_ := bkb BK113 hb
         have n1_ := Aside0.mk (below_step (bz) hb)
         clear BK113
         clear HB
         have BK113 := n0_
         have HB := n1_
         clear n0_ n1_
         (try clear hb)
         (try clear hb2)
         (try clear hk)
         (try clear hi)
         refine hK.out _ _ (cl3 BK113) (fun hHeld => ?_)
         clear hK K
         refine norm_ (a' := ?_) ?_ ?_
         rotate_left
         ·
          show Act.put _ (some 22) _ = _
          simp only [sx]
          rfl
         refine pure_ (i := 11) (N := some 23) (v := ?_) (a' := ?_) #[true, true, true, true, true, true, true, true, true, true, true, true, false] rfl rfl (any_of HT_.out (by kernel_rfl)) (fun _ _ _ h => h) (Or.inl ⟨by rfl, ?_⟩) ?_ ?_
         rotate_left
         ·
          intro w'
          go_simp
          with_reducible rfl
         rotate_left
         ·
          simp only [sx]
          rfl
         refine pure_ (i := 12) (N := some 24) (v := ?_) (a' := ?_) #[true, true, true, true, true, true, true, true, true, true, true, true, true] rfl rfl (any_of HT_.out (by kernel_rfl)) (fun _ _ _ h => h) (Or.inl ⟨by rfl, ?_⟩) ?_ ?_
         rotate_left
         ·
          intro w'
          go_simp
          with_reducible rfl
         rotate_left
         ·
          simp only [sx]
          rfl
         refine done_ (done_of HT_.out (by kernel_rfl)) ?_
         try go_wp2
         go_roundg k1
         case measure => have := HK1.out; omega
         case rel => exact ⟨(wrap64 (x7_1 + 1)), (by first | rfl | (simp; done) | exact congrArg Value.bool (ne_nil_b _) | exact congrArg Value.bool (eq_nil_b _) | (simp [*]; done)), H', ⟨by have := HK1.out; omega⟩, ⟨bz⟩⟩
       ·
        rw [if_neg c8] at H
        exact absurd H (by simp)
      ·
       replace c6 := Bool.eq_false_iff.mpr c6
       subst c6
       rw [if_neg (show ¬ (false = true) by decide)] at H
       obtain rfl := Option.some.inj H
       have p112 : 0 ≤ (x7_1 : Int) := of_decide_eq_true (by first | (with_reducible assumption) | assumption)
       have q112 : x7_1 < (l0.length : Int) := of_decide_eq_true (by first | (with_reducible assumption) | assumption)
       obtain ⟨ad112, e112, hx112_0, hx112_1, hx112_2⟩ := at_T35 HR0.out x7_1 p112 q112
       cases e112
       replace hx112_0 := (HB.out.cell (World.block_lt_of_cell? w _ hx112_0)).trans hx112_0
       replace hx112_1 := (HB.out.cell (World.block_lt_of_cell? w _ hx112_1)).trans hx112_1
       replace hx112_2 := (HB.out.cell (World.block_lt_of_cell? w _ hx112_2)).trans hx112_2
       replace p112 := eq_true p112
       replace q112 := eq_true q112
       try go_wp2_with (first | ((with_reducible refine gate_dst (N := 4) rfl ?_); refine box_event ?hg (N := 4) ?hd (cs := #[.int .i64 0, .string (⟨#[]⟩ : ByteArray), .string (⟨#[]⟩ : ByteArray)]) (t := 35) ?hr ?_; (case hd => rfl); (case hg => rfl); (case hr => first | (go_simp; done) | (go_simp; rfl)); intro gb113 hg w23 hbox hb; have n0_ := Aside0.mk (below_step (bz) hb); have n1_ := Aside0.mk (hbox); have n2_ : Aside0 (w.heap.size ≤ gb113) := bsg hg; have n3_ : Aside0 (w.heap.size ≤ gb113) := bsg hg; clear HB; have HB := n0_; have BK113 := n1_; have GW113 := n2_; have GE113 := n3_; clear n0_ n1_ n2_ n3_; clear hb hbox hg; obtain ⟨hcz24_0, hcz24_1, hcz24_2⟩ := cl3 BK113; obtain ⟨hfz24_0, hfz24_1, hfz24_2⟩ := fz3 BK113))
       have n0_ : Aside0 ((((w23.setCell ⟨gb113, 0, none⟩ (.int .i64 ((rd_T35 l0 x7_1).f0))).setCell ⟨gb113, 1, none⟩ (.string ((rd_T35 l0 x7_1).f1.f0))).setCell ⟨gb113, 2, none⟩ (.string ((rd_T35 l0 x7_1).f1.f1))).heap[gb113]? = some (.cells #[.int .i64 ((rd_T35 l0 x7_1).f0), .string ((rd_T35 l0 x7_1).f1.f0), .string ((rd_T35 l0 x7_1).f1.f1)] 35 (0, 0))) := ⟨by (with_reducible repeat (first | refine blk_drewN ?_ _ | refine blk_drew ?_ | refine blk_alloc ?_ _)); refine blk_put (cs := #[.int .i64 ((rd_T35 l0 x7_1).f0), .string ((rd_T35 l0 x7_1).f1.f0), .string (⟨#[]⟩ : ByteArray)]) ?_ 2 _ rfl; (with_reducible repeat (first | refine blk_drewN ?_ _ | refine blk_drew ?_ | refine blk_alloc ?_ _)); refine blk_put (cs := #[.int .i64 ((rd_T35 l0 x7_1).f0), .string (⟨#[]⟩ : ByteArray), .string (⟨#[]⟩ : ByteArray)]) ?_ 1 _ rfl; (with_reducible repeat (first | refine blk_drewN ?_ _ | refine blk_drew ?_ | refine blk_alloc ?_ _)); refine blk_put (cs := #[.int .i64 0, .string (⟨#[]⟩ : ByteArray), .string (⟨#[]⟩ : ByteArray)]) ?_ 0 _ rfl; (with_reducible repeat (first | refine blk_drewN ?_ _ | refine blk_drew ?_ | refine blk_alloc ?_ _)); exact BK113.out⟩
       have n1_ : Aside0 (Below w.heap.size w (((w23.setCell ⟨gb113, 0, none⟩ (.int .i64 ((rd_T35 l0 x7_1).f0))).setCell ⟨gb113, 1, none⟩ (.string ((rd_T35 l0 x7_1).f1.f0))).setCell ⟨gb113, 2, none⟩ (.string ((rd_T35 l0 x7_1).f1.f1)))) := ⟨bz⟩
       (try clear BK113)
       (try clear HB)
       generalize (((w23.setCell ⟨gb113, 0, none⟩ (.int .i64 ((rd_T35 l0 x7_1).f0))).setCell ⟨gb113, 1, none⟩ (.string ((rd_T35 l0 x7_1).f1.f0))).setCell ⟨gb113, 2, none⟩ (.string ((rd_T35 l0 x7_1).f1.f1))) = w25 at n0_ n1_ ⊢
       have BK113 := n0_
       have HB := n1_
       clear n0_ n1_
       have n0_ := Aside0.mk (blk_drew BK113.out)
       have n1_ := Aside0.mk (below_drew1 HB.out)
       clear BK113
       clear HB
       have BK113 := n0_
       have HB := n1_
       clear n0_ n1_
       refine start_ (n := 13) (S := fun w' => w'.cell? ⟨gb113, 0, none⟩ = some (.int .i64 ((rd_T35 l0 x7_1).f0)) ∧ w'.cell? ⟨gb113, 1, none⟩ = some (.string ((rd_T35 l0 x7_1).f1.f0)) ∧ w'.cell? ⟨gb113, 2, none⟩ = some (.string ((rd_T35 l0 x7_1).f1.f1))) (ds := []) #[false, false, false, false, false, false, false, false, false, false, false, false, false] (by kernel_rfl) rfl rfl (cl3 BK113) (fun hHeld => ?_); refine with_tabW impl_numbersDiffer.tab4 impl_numbersDiffer.bits4 (fun HT_ HW_ => ?_)
       generalize w25.drew = w26 at BK113 HB hHeld ⊢
       refine pure_ (i := 0) (N := some 12) (v := ?_) (a' := ?_) #[true, false, false, false, false, false, false, false, false, false, false, false, false] rfl rfl (any_of HT_.out (by kernel_rfl)) (fun _ _ _ h => h) (Or.inl ⟨by rfl, ?_⟩) ?_ ?_
       rotate_left
       ·
        intro w'
        go_simp
        with_reducible rfl
       rotate_left
       ·
        simp only [sx]
        rfl
       refine take_ (i := 1) (N := some 13) (v := ?_) (a' := ?_) #[true, true, false, false, false, false, false, false, false, false, false, false, false] rfl rfl (take_ofW HT_.out HW_.out (by kernel_rfl)) (fun _ _ _ h => h) (Or.inl ⟨by rfl, ?_⟩) hHeld ?_ ?_
       rotate_left
       ·
        rintro w' ⟨s0, s1, s2⟩
        go_simp
        with_reducible rfl
       rotate_left
       ·
        simp only [sx]
        rfl
       refine one_ (i := 2) (N := some 14) #[true, true, true, false, false, false, false, false, false, false, false, false, false] rfl rfl (one_of HT_.out (by kernel_rfl)) (by decide) (fun K hK => ?_)
       refine goes_ Try.func107 (by kernel_rfl) rfl #[.int .i64 ((rd_T35 l0 x7_1).f0)] (by rfl) rfl rfl ga ?_
       with_reducible refine (impl_shardNumber.calls ((rd_T35 l0 x7_1).f0) false _ A5.out).mono ?_
       rintro e w' ⟨rfl, ⟨nd, rfl⟩⟩
       refine ⟨_, rfl, ?_⟩
       refine hK.out _ _ (cl3 BK113) (fun hHeld => ?_)
       clear hK K
       refine norm_ (a' := ?_) ?_ ?_
       rotate_left
       ·
        show Act.put _ (some 14) _ = _
        simp only [sx]
        rfl
       refine pure_ (i := 3) (N := some 15) (v := ?_) (a' := ?_) #[true, true, true, true, false, false, false, false, false, false, false, false, false] rfl rfl (any_of HT_.out (by kernel_rfl)) (fun _ _ _ h => h) (Or.inl ⟨by rfl, ?_⟩) ?_ ?_
       rotate_left
       ·
        intro w'
        go_simp
        with_reducible rfl
       rotate_left
       ·
        simp only [sx]
        rfl
       refine pure_ (i := 4) (N := some 16) (v := ?_) (a' := ?_) #[true, true, true, true, true, false, false, false, false, false, false, false, false] rfl rfl (any_of HT_.out (by kernel_rfl)) (fun _ _ _ h => h) (Or.inl ⟨by rfl, ?_⟩) ?_ ?_
       rotate_left
       ·
        intro w'
        go_simp
        with_reducible rfl
       rotate_left
       ·
        simp only [sx]
        rfl
       refine pure_ (i := 5) (N := some 17) (v := undef) (a' := ?_) #[true, true, true, true, true, true, false, false, false, false, false, false, false] rfl rfl (any_of HT_.out (by kernel_rfl)) (fun _ _ _ h => h) (Or.inr ⟨by rfl, rfl⟩) ?_ ?_
       rotate_left
       ·
        simp only [sx]
        rfl
       refine pure_ (i := 6) (N := some 18) (v := undef) (a' := ?_) #[true, true, true, true, true, true, true, false, false, false, false, false, false] rfl rfl (any_of HT_.out (by kernel_rfl)) (fun _ _ _ h => h) (Or.inr ⟨by rfl, rfl⟩) ?_ ?_
       rotate_left
       ·
        simp only [sx]
        rfl
       refine pure_ (i := 7) (N := some 19) (v := undef) (a' := ?_) #[true, true, true, true, true, true, true, true, false, false, false, false, false] rfl rfl (any_of HT_.out (by kernel_rfl)) (fun _ _ _ h => h) (Or.inr ⟨by rfl, rfl⟩) ?_ ?_
       rotate_left
       ·
        simp only [sx]
        rfl
       refine pure_ (i := 8) (N := some 20) (v := undef) (a' := ?_) #[true, true, true, true, true, true, true, true, true, false, false, false, false] rfl rfl (any_of HT_.out (by kernel_rfl)) (fun _ _ _ h => h) (Or.inr ⟨by rfl, rfl⟩) ?_ ?_
       rotate_left
       ·
        simp only [sx]
        rfl
       refine pure_ (i := 9) (N := some 21) (v := undef) (a' := ?_) #[true, true, true, true, true, true, true, true, true, true, false, false, false] rfl rfl (any_of HT_.out (by kernel_rfl)) (fun _ _ _ h => h) (Or.inr ⟨by rfl, rfl⟩) ?_ ?_
       rotate_left
       ·
        simp only [sx]
        rfl
       refine pure_ (i := 10) (N := some 22) (v := undef) (a' := ?_) #[true, true, true, true, true, true, true, true, true, true, true, false, false] rfl rfl (any_of HT_.out (by kernel_rfl)) (fun _ _ _ h => h) (Or.inr ⟨by rfl, rfl⟩) ?_ ?_
       rotate_left
       ·
        simp only [sx]
        rfl
       refine pure_ (i := 11) (N := some 23) (v := undef) (a' := ?_) #[true, true, true, true, true, true, true, true, true, true, true, true, false] rfl rfl (any_of HT_.out (by kernel_rfl)) (fun _ _ _ h => h) (Or.inr ⟨by rfl, rfl⟩) ?_ ?_
       rotate_left
       ·
        simp only [sx]
        rfl
       refine pure_ (i := 12) (N := some 24) (v := ?_) (a' := ?_) #[true, true, true, true, true, true, true, true, true, true, true, true, true] rfl rfl (any_of HT_.out (by kernel_rfl)) (fun _ _ _ h => h) (Or.inl ⟨by rfl, ?_⟩) ?_ ?_
       rotate_left
       ·
        intro w'
        go_simp
        with_reducible rfl
       rotate_left
       ·
        simp only [sx]
        rfl
       refine done_ (done_of HT_.out (by kernel_rfl)) ?_
       try go_wp2
       go_ret
       exact ⟨by first | rfl | (simp only [u8w, w64m]; rfl) | (simp [errW_none, errW_some] <;> rfl) | (simp [*, errW_none, errW_some] <;> rfl), bz⟩
     ·
      rw [if_neg c4] at H
      exact absurd H (by simp)
    ·
     rw [if_neg c3] at H
     exact absurd H (by simp)
   ·
    rw [if_neg c2] at H
    have c2b0 : decide (x7_1 < (l0.length : Int)) = false := decide_eq_false c2
    clear c2
    obtain rfl := Option.some.inj H
    go_wp2
    go_ret
    exact ⟨by first | rfl | (simp only [u8w, w64m]; rfl) | (simp [errW_none, errW_some] <;> rfl) | (simp [*, errW_none, errW_some] <;> rfl), bz⟩

/-! ### impl_lowestKey: function 129 -/
def impl_lowestKey.f (a0_0 : ByteArray) (a0_1 : ByteArray) : Option (ByteArray) := if a0_0.toList = ([] : List UInt8) then (some (⟨#[97]⟩ : ByteArray)) else (some a0_0)
set_option maxHeartbeats 8000000 in
set_option maxRecDepth 100000 in
theorem impl_lowestKey.calls (a0_0 : ByteArray) (a0_1 : ByteArray) (r : ByteArray) (w : World) (h : impl_lowestKey.f a0_0 a0_1 = some r) :
  Calls Try.prog 129 #[.agg #[.string a0_0, .string a0_1]] w fun e w' => e = .returned (.string r) ∧ Below w.heap.size w w' := by
 have hu31 := Try.underlying31
 have HB := Aside0.mk (Below.refl w.heap.size w)
 have H : (if a0_0.toList = ([] : List UInt8) then (some (⟨#[97]⟩ : ByteArray)) else (some a0_0)) = some r := h
 clear h
 by_cases c2 : a0_0.toList = ([] : List UInt8)
 ·
  rw [if_pos c2] at H
  have c2b0 : (a0_0.toList == ([] : List UInt8)) = true := beq_iff_eq.mpr c2
  have c2b1 : (a0_0.toList != ([] : List UInt8)) = false := bne_eq_false_iff_eq.mpr c2
  clear c2
  obtain rfl := Option.some.inj H
  go_enter Try.func129, Try.ntmps129
  go_wp2_with (first | ((with_reducible refine gate_dst (N := 1) rfl ?_); refine box_event ?hg (N := 1) ?hd (cs := #[.string a0_0, .string a0_1]) (t := 31) ?hr ?_; (case hd => rfl); (case hg => rfl); (case hr => first | (go_simp; done) | (go_simp; rfl)); intro gb120 hg w3 hbox hb; have n0_ := Aside0.mk (below_step (bz) hb); have n1_ := Aside0.mk (hbox); have n2_ : Aside0 (w.heap.size ≤ gb120) := bsg hg; have n3_ : Aside0 (w.heap.size ≤ gb120) := bsg hg; clear HB; have HB := n0_; have BK120 := n1_; have GW120 := n2_; have GE120 := n3_; clear n0_ n1_ n2_ n3_; clear hb hbox hg; obtain ⟨hcz4_0, hcz4_1⟩ := cl2 BK120; obtain ⟨hfz4_0, hfz4_1⟩ := fz2 BK120))
  go_ret
  exact ⟨by first | rfl | (simp only [u8w, w64m]; rfl) | (simp [errW_none, errW_some] <;> rfl) | (simp [*, errW_none, errW_some] <;> rfl), bz⟩
 ·
  rw [if_neg c2] at H
  have c2b0 : (a0_0.toList == ([] : List UInt8)) = false := beq_eq_false_iff_ne.mpr c2
  have c2b1 : (a0_0.toList != ([] : List UInt8)) = true := bne_iff_ne.mpr c2
  obtain rfl := Option.some.inj H
  go_enter Try.func129, Try.ntmps129
  go_wp2_with (first | ((with_reducible refine gate_dst (N := 1) rfl ?_); refine box_event ?hg (N := 1) ?hd (cs := #[.string a0_0, .string a0_1]) (t := 31) ?hr ?_; (case hd => rfl); (case hg => rfl); (case hr => first | (go_simp; done) | (go_simp; rfl)); intro gb120 hg w5 hbox hb; have n0_ := Aside0.mk (below_step (bz) hb); have n1_ := Aside0.mk (hbox); have n2_ : Aside0 (w.heap.size ≤ gb120) := bsg hg; have n3_ : Aside0 (w.heap.size ≤ gb120) := bsg hg; clear HB; have HB := n0_; have BK120 := n1_; have GW120 := n2_; have GE120 := n3_; clear n0_ n1_ n2_ n3_; clear hb hbox hg; obtain ⟨hcz6_0, hcz6_1⟩ := cl2 BK120; obtain ⟨hfz6_0, hfz6_1⟩ := fz2 BK120))
  go_ret
  exact ⟨by first | rfl | (simp only [u8w, w64m]; rfl) | (simp [errW_none, errW_some] <;> rfl) | (simp [*, errW_none, errW_some] <;> rfl), bz⟩

end Go.Proofs.Ytkjkokljgbpbbaa.PFnGiveUp
