/- Go functions as plain Lean functions, and for each a proof that its call comes to what the function says; under the conditions that each theorem names. Written by a program of this session. -/
import Derived.Test.YtkjkokljgbpbbaaPFnExactGiveUpx0
import Derived.Test.YtkjkokljgbpbbaaPFnExactGiveUpx2
import Derived.Test.YtkjkokljgbpbbaaPFnExactGiveUpx5
import Derived.Test.YtkjkokljgbpbbaaPFnExactGiveUpx9
import Derived.Test.YtkjkokljgbpbbaaPFnExactGiveUpx10
import Derived.Test.YtkjkokljgbpbbaaPFnExactGiveUpx11
namespace Go.Proofs.Ytkjkokljgbpbbaa.PFnExactGiveUp
open Go.RowKit Go.Proofs.YtkjkokljgbpbbaaW.PrintWords Go.Proofs.YtkjkokljgbpbbaaW.PrintLast Go.Proofs.YtkjkokljgbpbbaaW.PrintMore
attribute [local go_sem high] str_gtr str_leq str_geq
attribute [local go_sem] max2_int min2_int max_two min_two max_three min_three max_four min_four   -- for this text's walks alone
set_option linter.unusedVariables false
set_option linter.unusedSimpArgs false

/-! ### laws_FnExactGiveUp: function 7 -/
mutual
def laws_FnExactGiveUp.j0 : Nat → Bool → Bool → Bool → List (S74) → Int → Bool → Int → ByteArray → Int → Int → Int → List (S35) → Int → Bool → Int → ByteArray → Int → Int → Int → List (S35) → Int → Bool → Int → ByteArray → Int → Int → Int → List (S35) → Int → Bool → Int → ByteArray → Int → Int → Int → Option (Bool)
 | 0, _, _, _, _, _, _, _, _, _, _, _, _, _, _, _, _, _, _, _, _, _, _, _, _, _, _, _, _, _, _, _, _, _, _, _ => none
 | k + 1, x5, x8, x40, x279000, x279001, x279002, x279003, x279004, x279005, x279006, x279007, x302000, x302001, x302002, x302003, x302004, x302005, x302006, x302007, x313000, x313001, x313002, x313003, x313004, x313005, x313006, x313007, x325000, x325001, x325002, x325003, x325004, x325005, x325006, x325007 => if x40 = true then (some false) else ((laws_toCaller.f k x279000 x279001 x279002 x279003 x279004 x279005 x279006 x279007).bind fun bt326 => ((laws_eqCaller.f k x313000 x313001 x313002 x313003 x313004 x313005 x313006 x313007 bt326.1 bt326.2.1 bt326.2.2.1 bt326.2.2.2.1 bt326.2.2.2.2.1 bt326.2.2.2.2.2.1 bt326.2.2.2.2.2.2.1 bt326.2.2.2.2.2.2.2).bind fun t336 => (if t336 = true then ((laws_markCaller.f k x313000 x313001 x313002 x313003 x313004 x313005 x313006 x313007 1).bind fun bt337 => (if bt337.1 < 0 then (laws_FnExactGiveUp.j1 k x5 true x279000 x279001 x279002 x279003 x279004 x279005 x279006 x279007 x302000 x302001 x302002 x302003 x302004 x302005 x302006 x302007 x325000 x325001 x325002 x325003 x325004 x325005 x325006 x325007) else ((laws_eqCaller.f k x325000 x325001 x325002 x325003 x325004 x325005 x325006 x325007 x302000 x302001 x302002 x302003 x302004 x302005 x302006 x302007).bind fun t339 => (if t339 = true then (laws_FnExactGiveUp.j1 k x5 (x8 != x5) x279000 x279001 x279002 x279003 x279004 x279005 x279006 x279007 x302000 x302001 x302002 x302003 x302004 x302005 x302006 x302007 x325000 x325001 x325002 x325003 x325004 x325005 x325006 x325007) else (laws_FnExactGiveUp.j1 k x5 true x279000 x279001 x279002 x279003 x279004 x279005 x279006 x279007 x302000 x302001 x302002 x302003 x302004 x302005 x302006 x302007 x325000 x325001 x325002 x325003 x325004 x325005 x325006 x325007))))) else (some false))))
def laws_FnExactGiveUp.j1 : Nat → Bool → Bool → List (S74) → Int → Bool → Int → ByteArray → Int → Int → Int → List (S35) → Int → Bool → Int → ByteArray → Int → Int → Int → List (S35) → Int → Bool → Int → ByteArray → Int → Int → Int → Option (Bool)
 | 0, _, _, _, _, _, _, _, _, _, _, _, _, _, _, _, _, _, _, _, _, _, _, _, _, _, _ => none
 | k + 1, x5, x61, x279000, x279001, x279002, x279003, x279004, x279005, x279006, x279007, x302000, x302001, x302002, x302003, x302004, x302005, x302006, x302007, x325000, x325001, x325002, x325003, x325004, x325005, x325006, x325007 => if x61 = true then (some false) else ((laws_markCaller.f k x325000 x325001 x325002 x325003 x325004 x325005 x325006 x325007 1).bind fun bt340 => ((laws_heldCaller.f k bt340.2 x325001 x325002 x325003 x325004 x325005 x325006 x325007 1).bind fun t342 => (if t342 < 0 then (some false) else (if t342 = bt340.1 then ((laws_toCaller.f k x279000 x279001 x279002 x279003 x279004 x279005 x279006 x279007).bind fun bt343 => ((impl_GiveUp.f k bt343.1 bt343.2.1 bt343.2.2.1 bt343.2.2.2.1 bt343.2.2.2.2.1 bt343.2.2.2.2.2.1 bt343.2.2.2.2.2.2.1 bt343.2.2.2.2.2.2.2).bind fun bt353 => ((laws_eqCaller.f k bt353.1 bt353.2.1 bt353.2.2.1 bt353.2.2.2.1 bt353.2.2.2.2.1 bt353.2.2.2.2.2.1 bt353.2.2.2.2.2.2.1 bt353.2.2.2.2.2.2.2.1 x302000 x302001 x302002 x302003 x302004 x302005 x302006 x302007).bind fun t365 => (if t365 = true then (laws_FnExactGiveUp.j2 k bt340.1 (bt353.2.2.2.2.2.2.2.2 != x5) bt340.2 x325001 x325002 x325003 x325004 x325005 x325006 x325007) else (laws_FnExactGiveUp.j2 k bt340.1 true bt340.2 x325001 x325002 x325003 x325004 x325005 x325006 x325007))))) else (some false)))))
def laws_FnExactGiveUp.j2 : Nat → Int → Bool → List (S35) → Int → Bool → Int → ByteArray → Int → Int → Int → Option (Bool)
 | 0, _, _, _, _, _, _, _, _, _, _ => none
 | k + 1, x10, x87, x325000, x325001, x325002, x325003, x325004, x325005, x325006, x325007 => if x87 = true then (some false) else ((laws_heldCaller.f k x325000 x325001 x325002 x325003 x325004 x325005 x325006 x325007 1).bind fun t366 => (if t366 < 0 then (some false) else (if t366 = x10 then (some true) else (some false))))
end
def laws_FnExactGiveUp.f (k : Nat) (l0_0 : List (S74)) (a0_1 : Int) (a0_2 : Bool) (a0_3 : Int) (a0_4 : ByteArray) (a0_5 : Int) (a0_6 : Int) (a0_7 : Int) : Option (Bool) := (laws_szCaller.f k l0_0 a0_1 a0_2 a0_3 a0_4 a0_5 a0_6 a0_7 1048576).bind fun t279 => (if t279 < 0 then (some true) else ((laws_toCaller.f k l0_0 a0_1 a0_2 a0_3 a0_4 a0_5 a0_6 a0_7).bind fun bt280 => ((spec_GiveUp.f k bt280.1 bt280.2.1 bt280.2.2.1 bt280.2.2.2.1 bt280.2.2.2.2.1 bt280.2.2.2.2.2.1 bt280.2.2.2.2.2.2.1 bt280.2.2.2.2.2.2.2).bind fun bt290 => ((laws_toCaller.f k l0_0 a0_1 a0_2 a0_3 a0_4 a0_5 a0_6 a0_7).bind fun bt302 => ((impl_GiveUp.f k bt302.1 bt302.2.1 bt302.2.2.1 bt302.2.2.2.1 bt302.2.2.2.2.1 bt302.2.2.2.2.2.1 bt302.2.2.2.2.2.2.1 bt302.2.2.2.2.2.2.2).bind fun bt313 => ((laws_eqCaller.f k bt313.1 bt313.2.1 bt313.2.2.1 bt313.2.2.2.1 bt313.2.2.2.2.1 bt313.2.2.2.2.2.1 bt313.2.2.2.2.2.2.1 bt313.2.2.2.2.2.2.2.1 bt290.1 bt290.2.1 bt290.2.2.1 bt290.2.2.2.1 bt290.2.2.2.2.1 bt290.2.2.2.2.2.1 bt290.2.2.2.2.2.2.1 bt290.2.2.2.2.2.2.2.1).bind fun t325 => (if t325 = true then (laws_FnExactGiveUp.j0 k bt290.2.2.2.2.2.2.2.2 bt313.2.2.2.2.2.2.2.2 (bt313.2.2.2.2.2.2.2.2 != bt290.2.2.2.2.2.2.2.2) l0_0 a0_1 a0_2 a0_3 a0_4 a0_5 a0_6 a0_7 bt290.1 bt290.2.1 bt290.2.2.1 bt290.2.2.2.1 bt290.2.2.2.2.1 bt290.2.2.2.2.2.1 bt290.2.2.2.2.2.2.1 bt290.2.2.2.2.2.2.2.1 bt302.1 bt302.2.1 bt302.2.2.1 bt302.2.2.2.1 bt302.2.2.2.2.1 bt302.2.2.2.2.2.1 bt302.2.2.2.2.2.2.1 bt302.2.2.2.2.2.2.2 bt313.1 bt313.2.1 bt313.2.2.1 bt313.2.2.2.1 bt313.2.2.2.2.1 bt313.2.2.2.2.2.1 bt313.2.2.2.2.2.2.1 bt313.2.2.2.2.2.2.2.1) else (laws_FnExactGiveUp.j0 k bt290.2.2.2.2.2.2.2.2 bt313.2.2.2.2.2.2.2.2 true l0_0 a0_1 a0_2 a0_3 a0_4 a0_5 a0_6 a0_7 bt290.1 bt290.2.1 bt290.2.2.1 bt290.2.2.2.1 bt290.2.2.2.2.1 bt290.2.2.2.2.2.1 bt290.2.2.2.2.2.2.1 bt290.2.2.2.2.2.2.2.1 bt302.1 bt302.2.1 bt302.2.2.1 bt302.2.2.2.1 bt302.2.2.2.2.1 bt302.2.2.2.2.2.1 bt302.2.2.2.2.2.2.1 bt302.2.2.2.2.2.2.2 bt313.1 bt313.2.1 bt313.2.2.1 bt313.2.2.2.1 bt313.2.2.2.2.1 bt313.2.2.2.2.2.1 bt313.2.2.2.2.2.2.1 bt313.2.2.2.2.2.2.2.1))))))))
theorem laws_FnExactGiveUp.mono_l : ∀ k, (∀ y0 y1 y2 y3 y4 y5 y6 y7 y8 y9 y10 y11 y12 y13 y14 y15 y16 y17 y18 y19 y20 y21 y22 y23 y24 y25 y26 y27 y28 y29 y30 y31 y32 y33 y34, LeO (laws_FnExactGiveUp.j0 k y0 y1 y2 y3 y4 y5 y6 y7 y8 y9 y10 y11 y12 y13 y14 y15 y16 y17 y18 y19 y20 y21 y22 y23 y24 y25 y26 y27 y28 y29 y30 y31 y32 y33 y34) (laws_FnExactGiveUp.j0 (k + 1) y0 y1 y2 y3 y4 y5 y6 y7 y8 y9 y10 y11 y12 y13 y14 y15 y16 y17 y18 y19 y20 y21 y22 y23 y24 y25 y26 y27 y28 y29 y30 y31 y32 y33 y34)) ∧ (∀ y0 y1 y2 y3 y4 y5 y6 y7 y8 y9 y10 y11 y12 y13 y14 y15 y16 y17 y18 y19 y20 y21 y22 y23 y24 y25, LeO (laws_FnExactGiveUp.j1 k y0 y1 y2 y3 y4 y5 y6 y7 y8 y9 y10 y11 y12 y13 y14 y15 y16 y17 y18 y19 y20 y21 y22 y23 y24 y25) (laws_FnExactGiveUp.j1 (k + 1) y0 y1 y2 y3 y4 y5 y6 y7 y8 y9 y10 y11 y12 y13 y14 y15 y16 y17 y18 y19 y20 y21 y22 y23 y24 y25)) ∧ (∀ y0 y1 y2 y3 y4 y5 y6 y7 y8 y9, LeO (laws_FnExactGiveUp.j2 k y0 y1 y2 y3 y4 y5 y6 y7 y8 y9) (laws_FnExactGiveUp.j2 (k + 1) y0 y1 y2 y3 y4 y5 y6 y7 y8 y9))
 | 0 => ⟨fun _ _ _ _ _ _ _ _ _ _ _ _ _ _ _ _ _ _ _ _ _ _ _ _ _ _ _ _ _ _ _ _ _ _ _ r h => by simp [laws_FnExactGiveUp.j0] at h, fun _ _ _ _ _ _ _ _ _ _ _ _ _ _ _ _ _ _ _ _ _ _ _ _ _ _ r h => by simp [laws_FnExactGiveUp.j1] at h, fun _ _ _ _ _ _ _ _ _ _ r h => by simp [laws_FnExactGiveUp.j2] at h⟩
 | k + 1 => by
  obtain ⟨ih0, ih1, ih2⟩ := laws_FnExactGiveUp.mono_l k
  refine ⟨?_, ?_, ?_⟩
  ·
   intro y0 y1 y2 y3 y4 y5 y6 y7 y8 y9 y10 y11 y12 y13 y14 y15 y16 y17 y18 y19 y20 y21 y22 y23 y24 y25 y26 y27 y28 y29 y30 y31 y32 y33 y34
   unfold laws_FnExactGiveUp.j0
   repeat' first
   | (with_reducible exact ih0 _ _ _ _ _ _ _ _ _ _ _ _ _ _ _ _ _ _ _ _ _ _ _ _ _ _ _ _ _ _ _ _ _ _ _)
   | (with_reducible exact ih1 _ _ _ _ _ _ _ _ _ _ _ _ _ _ _ _ _ _ _ _ _ _ _ _ _ _)
   | (with_reducible exact ih2 _ _ _ _ _ _ _ _ _ _)
   | (with_reducible exact impl_GiveUp.mono _ _ _ _ _ _ _ _ _)
   | (with_reducible exact laws_eqCaller.mono _ _ _ _ _ _ _ _ _ _ _ _ _ _ _ _ _)
   | (with_reducible exact laws_heldCaller.mono _ _ _ _ _ _ _ _ _ _)
   | (with_reducible exact laws_markCaller.mono _ _ _ _ _ _ _ _ _ _)
   | (with_reducible exact laws_szCaller.mono _ _ _ _ _ _ _ _ _ _)
   | (with_reducible exact laws_toCaller.mono _ _ _ _ _ _ _ _ _)
   | (with_reducible exact spec_GiveUp.mono _ _ _ _ _ _ _ _ _)
   | (with_reducible exact LeO.refl _)
   | (with_reducible exact LeO.none _)
   | (with_reducible refine LeO.ite ?_ ?_)
   | (with_reducible refine LeO.bind ?_ (fun _ => ?_))
   | exact ih0 _ _ _ _ _ _ _ _ _ _ _ _ _ _ _ _ _ _ _ _ _ _ _ _ _ _ _ _ _ _ _ _ _ _ _
   | exact ih1 _ _ _ _ _ _ _ _ _ _ _ _ _ _ _ _ _ _ _ _ _ _ _ _ _ _
   | exact ih2 _ _ _ _ _ _ _ _ _ _
   | exact impl_GiveUp.mono _ _ _ _ _ _ _ _ _
   | exact laws_eqCaller.mono _ _ _ _ _ _ _ _ _ _ _ _ _ _ _ _ _
   | exact laws_heldCaller.mono _ _ _ _ _ _ _ _ _ _
   | exact laws_markCaller.mono _ _ _ _ _ _ _ _ _ _
   | exact laws_szCaller.mono _ _ _ _ _ _ _ _ _ _
   | exact laws_toCaller.mono _ _ _ _ _ _ _ _ _
   | exact spec_GiveUp.mono _ _ _ _ _ _ _ _ _
   | exact LeO.none _
   | refine LeO.ite ?_ ?_
   | refine LeO.bind ?_ (fun _ => ?_)
  ·
   intro y0 y1 y2 y3 y4 y5 y6 y7 y8 y9 y10 y11 y12 y13 y14 y15 y16 y17 y18 y19 y20 y21 y22 y23 y24 y25
   unfold laws_FnExactGiveUp.j1
   repeat' first
   | (with_reducible exact ih0 _ _ _ _ _ _ _ _ _ _ _ _ _ _ _ _ _ _ _ _ _ _ _ _ _ _ _ _ _ _ _ _ _ _ _)
   | (with_reducible exact ih1 _ _ _ _ _ _ _ _ _ _ _ _ _ _ _ _ _ _ _ _ _ _ _ _ _ _)
   | (with_reducible exact ih2 _ _ _ _ _ _ _ _ _ _)
   | (with_reducible exact impl_GiveUp.mono _ _ _ _ _ _ _ _ _)
   | (with_reducible exact laws_eqCaller.mono _ _ _ _ _ _ _ _ _ _ _ _ _ _ _ _ _)
   | (with_reducible exact laws_heldCaller.mono _ _ _ _ _ _ _ _ _ _)
   | (with_reducible exact laws_markCaller.mono _ _ _ _ _ _ _ _ _ _)
   | (with_reducible exact laws_szCaller.mono _ _ _ _ _ _ _ _ _ _)
   | (with_reducible exact laws_toCaller.mono _ _ _ _ _ _ _ _ _)
   | (with_reducible exact spec_GiveUp.mono _ _ _ _ _ _ _ _ _)
   | (with_reducible exact LeO.refl _)
   | (with_reducible exact LeO.none _)
   | (with_reducible refine LeO.ite ?_ ?_)
   | (with_reducible refine LeO.bind ?_ (fun _ => ?_))
   | exact ih0 _ _ _ _ _ _ _ _ _ _ _ _ _ _ _ _ _ _ _ _ _ _ _ _ _ _ _ _ _ _ _ _ _ _ _
   | exact ih1 _ _ _ _ _ _ _ _ _ _ _ _ _ _ _ _ _ _ _ _ _ _ _ _ _ _
   | exact ih2 _ _ _ _ _ _ _ _ _ _
   | exact impl_GiveUp.mono _ _ _ _ _ _ _ _ _
   | exact laws_eqCaller.mono _ _ _ _ _ _ _ _ _ _ _ _ _ _ _ _ _
   | exact laws_heldCaller.mono _ _ _ _ _ _ _ _ _ _
   | exact laws_markCaller.mono _ _ _ _ _ _ _ _ _ _
   | exact laws_szCaller.mono _ _ _ _ _ _ _ _ _ _
   | exact laws_toCaller.mono _ _ _ _ _ _ _ _ _
   | exact spec_GiveUp.mono _ _ _ _ _ _ _ _ _
   | exact LeO.none _
   | refine LeO.ite ?_ ?_
   | refine LeO.bind ?_ (fun _ => ?_)
  ·
   intro y0 y1 y2 y3 y4 y5 y6 y7 y8 y9
   unfold laws_FnExactGiveUp.j2
   repeat' first
   | (with_reducible exact ih0 _ _ _ _ _ _ _ _ _ _ _ _ _ _ _ _ _ _ _ _ _ _ _ _ _ _ _ _ _ _ _ _ _ _ _)
   | (with_reducible exact ih1 _ _ _ _ _ _ _ _ _ _ _ _ _ _ _ _ _ _ _ _ _ _ _ _ _ _)
   | (with_reducible exact ih2 _ _ _ _ _ _ _ _ _ _)
   | (with_reducible exact impl_GiveUp.mono _ _ _ _ _ _ _ _ _)
   | (with_reducible exact laws_eqCaller.mono _ _ _ _ _ _ _ _ _ _ _ _ _ _ _ _ _)
   | (with_reducible exact laws_heldCaller.mono _ _ _ _ _ _ _ _ _ _)
   | (with_reducible exact laws_markCaller.mono _ _ _ _ _ _ _ _ _ _)
   | (with_reducible exact laws_szCaller.mono _ _ _ _ _ _ _ _ _ _)
   | (with_reducible exact laws_toCaller.mono _ _ _ _ _ _ _ _ _)
   | (with_reducible exact spec_GiveUp.mono _ _ _ _ _ _ _ _ _)
   | (with_reducible exact LeO.refl _)
   | (with_reducible exact LeO.none _)
   | (with_reducible refine LeO.ite ?_ ?_)
   | (with_reducible refine LeO.bind ?_ (fun _ => ?_))
   | exact ih0 _ _ _ _ _ _ _ _ _ _ _ _ _ _ _ _ _ _ _ _ _ _ _ _ _ _ _ _ _ _ _ _ _ _ _
   | exact ih1 _ _ _ _ _ _ _ _ _ _ _ _ _ _ _ _ _ _ _ _ _ _ _ _ _ _
   | exact ih2 _ _ _ _ _ _ _ _ _ _
   | exact impl_GiveUp.mono _ _ _ _ _ _ _ _ _
   | exact laws_eqCaller.mono _ _ _ _ _ _ _ _ _ _ _ _ _ _ _ _ _
   | exact laws_heldCaller.mono _ _ _ _ _ _ _ _ _ _
   | exact laws_markCaller.mono _ _ _ _ _ _ _ _ _ _
   | exact laws_szCaller.mono _ _ _ _ _ _ _ _ _ _
   | exact laws_toCaller.mono _ _ _ _ _ _ _ _ _
   | exact spec_GiveUp.mono _ _ _ _ _ _ _ _ _
   | exact LeO.none _
   | refine LeO.ite ?_ ?_
   | refine LeO.bind ?_ (fun _ => ?_)
theorem laws_FnExactGiveUp.mono : ∀ a0 a1 a2 a3 a4 a5 a6 a7 k, LeO (laws_FnExactGiveUp.f k a0 a1 a2 a3 a4 a5 a6 a7) (laws_FnExactGiveUp.f (k + 1) a0 a1 a2 a3 a4 a5 a6 a7) := by
 intro a0 a1 a2 a3 a4 a5 a6 a7 k
 obtain ⟨ih0, ih1, ih2⟩ := laws_FnExactGiveUp.mono_l k
 unfold laws_FnExactGiveUp.f
 repeat' first
   | (with_reducible exact ih0 _ _ _ _ _ _ _ _ _ _ _ _ _ _ _ _ _ _ _ _ _ _ _ _ _ _ _ _ _ _ _ _ _ _ _)
   | (with_reducible exact ih1 _ _ _ _ _ _ _ _ _ _ _ _ _ _ _ _ _ _ _ _ _ _ _ _ _ _)
   | (with_reducible exact ih2 _ _ _ _ _ _ _ _ _ _)
   | (with_reducible exact impl_GiveUp.mono _ _ _ _ _ _ _ _ _)
   | (with_reducible exact laws_eqCaller.mono _ _ _ _ _ _ _ _ _ _ _ _ _ _ _ _ _)
   | (with_reducible exact laws_heldCaller.mono _ _ _ _ _ _ _ _ _ _)
   | (with_reducible exact laws_markCaller.mono _ _ _ _ _ _ _ _ _ _)
   | (with_reducible exact laws_szCaller.mono _ _ _ _ _ _ _ _ _ _)
   | (with_reducible exact laws_toCaller.mono _ _ _ _ _ _ _ _ _)
   | (with_reducible exact spec_GiveUp.mono _ _ _ _ _ _ _ _ _)
   | (with_reducible exact LeO.refl _)
   | (with_reducible exact LeO.none _)
   | (with_reducible refine LeO.ite ?_ ?_)
   | (with_reducible refine LeO.bind ?_ (fun _ => ?_))
   | exact ih0 _ _ _ _ _ _ _ _ _ _ _ _ _ _ _ _ _ _ _ _ _ _ _ _ _ _ _ _ _ _ _ _ _ _ _
   | exact ih1 _ _ _ _ _ _ _ _ _ _ _ _ _ _ _ _ _ _ _ _ _ _ _ _ _ _
   | exact ih2 _ _ _ _ _ _ _ _ _ _
   | exact impl_GiveUp.mono _ _ _ _ _ _ _ _ _
   | exact laws_eqCaller.mono _ _ _ _ _ _ _ _ _ _ _ _ _ _ _ _ _
   | exact laws_heldCaller.mono _ _ _ _ _ _ _ _ _ _
   | exact laws_markCaller.mono _ _ _ _ _ _ _ _ _ _
   | exact laws_szCaller.mono _ _ _ _ _ _ _ _ _ _
   | exact laws_toCaller.mono _ _ _ _ _ _ _ _ _
   | exact spec_GiveUp.mono _ _ _ _ _ _ _ _ _
   | exact LeO.none _
   | refine LeO.ite ?_ ?_
   | refine LeO.bind ?_ (fun _ => ?_)
set_option maxHeartbeats 8000000 in
set_option maxRecDepth 100000 in
theorem laws_FnExactGiveUp.calls (k : Nat) (A0_0 : Option Addr) (c0_0 : Nat) (l0_0 : List (S74)) (a0_1 : Int) (a0_2 : Bool) (a0_3 : Int) (a0_4 : ByteArray) (a0_5 : Int) (a0_6 : Int) (a0_7 : Int) (r : Bool) (w : World) (hr0_0 : Kd.C k74 w A0_0 l0_0.length l0_0) (hc0_0 : l0_0.length ≤ c0_0) (h : laws_FnExactGiveUp.f k l0_0 a0_1 a0_2 a0_3 a0_4 a0_5 a0_6 a0_7 = some r) :
  Calls Try.prog 7 #[.agg #[.slice A0_0 l0_0.length c0_0, .int .i64 a0_1, .bool a0_2, .int .i64 a0_3, .string a0_4, .int .i64 a0_5, .int .i64 a0_6, .int .i64 a0_7]] w fun e w' => e = .returned (.bool r) ∧ Below w.heap.size w w' := by
 have hu60 := Try.underlying60
 have hu41 := Try.underlying41
 have HR0_0 := Aside0.mk hr0_0
 have HC0_0 := Aside0.mk hc0_0
 clear hr0_0 hc0_0
 have HB := Aside0.mk (Below.refl w.heap.size w)
 have H : ((laws_szCaller.f k l0_0 a0_1 a0_2 a0_3 a0_4 a0_5 a0_6 a0_7 1048576).bind fun t279 => (if t279 < 0 then (some true) else ((laws_toCaller.f k l0_0 a0_1 a0_2 a0_3 a0_4 a0_5 a0_6 a0_7).bind fun bt280 => ((spec_GiveUp.f k bt280.1 bt280.2.1 bt280.2.2.1 bt280.2.2.2.1 bt280.2.2.2.2.1 bt280.2.2.2.2.2.1 bt280.2.2.2.2.2.2.1 bt280.2.2.2.2.2.2.2).bind fun bt290 => ((laws_toCaller.f k l0_0 a0_1 a0_2 a0_3 a0_4 a0_5 a0_6 a0_7).bind fun bt302 => ((impl_GiveUp.f k bt302.1 bt302.2.1 bt302.2.2.1 bt302.2.2.2.1 bt302.2.2.2.2.1 bt302.2.2.2.2.2.1 bt302.2.2.2.2.2.2.1 bt302.2.2.2.2.2.2.2).bind fun bt313 => ((laws_eqCaller.f k bt313.1 bt313.2.1 bt313.2.2.1 bt313.2.2.2.1 bt313.2.2.2.2.1 bt313.2.2.2.2.2.1 bt313.2.2.2.2.2.2.1 bt313.2.2.2.2.2.2.2.1 bt290.1 bt290.2.1 bt290.2.2.1 bt290.2.2.2.1 bt290.2.2.2.2.1 bt290.2.2.2.2.2.1 bt290.2.2.2.2.2.2.1 bt290.2.2.2.2.2.2.2.1).bind fun t325 => (if t325 = true then (laws_FnExactGiveUp.j0 k bt290.2.2.2.2.2.2.2.2 bt313.2.2.2.2.2.2.2.2 (bt313.2.2.2.2.2.2.2.2 != bt290.2.2.2.2.2.2.2.2) l0_0 a0_1 a0_2 a0_3 a0_4 a0_5 a0_6 a0_7 bt290.1 bt290.2.1 bt290.2.2.1 bt290.2.2.2.1 bt290.2.2.2.2.1 bt290.2.2.2.2.2.1 bt290.2.2.2.2.2.2.1 bt290.2.2.2.2.2.2.2.1 bt302.1 bt302.2.1 bt302.2.2.1 bt302.2.2.2.1 bt302.2.2.2.2.1 bt302.2.2.2.2.2.1 bt302.2.2.2.2.2.2.1 bt302.2.2.2.2.2.2.2 bt313.1 bt313.2.1 bt313.2.2.1 bt313.2.2.2.1 bt313.2.2.2.2.1 bt313.2.2.2.2.2.1 bt313.2.2.2.2.2.2.1 bt313.2.2.2.2.2.2.2.1) else (laws_FnExactGiveUp.j0 k bt290.2.2.2.2.2.2.2.2 bt313.2.2.2.2.2.2.2.2 true l0_0 a0_1 a0_2 a0_3 a0_4 a0_5 a0_6 a0_7 bt290.1 bt290.2.1 bt290.2.2.1 bt290.2.2.2.1 bt290.2.2.2.2.1 bt290.2.2.2.2.2.1 bt290.2.2.2.2.2.2.1 bt290.2.2.2.2.2.2.2.1 bt302.1 bt302.2.1 bt302.2.2.1 bt302.2.2.2.1 bt302.2.2.2.2.1 bt302.2.2.2.2.2.1 bt302.2.2.2.2.2.2.1 bt302.2.2.2.2.2.2.2 bt313.1 bt313.2.1 bt313.2.2.1 bt313.2.2.2.1 bt313.2.2.2.2.1 bt313.2.2.2.2.2.1 bt313.2.2.2.2.2.2.1 bt313.2.2.2.2.2.2.2.1))))))))) = some r := h
 clear h
 replace H := Option.bind_eq_some_iff.mp H
 obtain ⟨t279, A20, H⟩ := H
 try dsimp only at H
 have A2 := Aside0.mk A20
 clear A20
 by_cases c3 : t279 < 0
 ·
  rw [if_pos c3] at H
  have c3b0 : decide (t279 < 0) = true := decide_eq_true c3
  clear c3
  obtain rfl := Option.some.inj H
  go_enter Try.func7, Try.ntmps7
  go_wp2_with (first | ((with_reducible refine gate_dst (N := 1) rfl ?_); refine box_event ?hg (N := 1) ?hd (cs := #[.slice A0_0 l0_0.length c0_0, .int .i64 a0_1, .bool a0_2, .int .i64 a0_3, .string a0_4, .int .i64 a0_5, .int .i64 a0_6, .int .i64 a0_7]) (t := 60) ?hr ?_; (case hd => rfl); (case hg => rfl); (case hr => first | (go_simp; done) | (go_simp; rfl)); intro gb278 hg w4 hbox hb; have n0_ := Aside0.mk (below_step (bz) hb); have n1_ := Aside0.mk (hbox); have n2_ : Aside0 (w.heap.size ≤ gb278) := bsg hg; have n3_ : Aside0 (w.heap.size ≤ gb278) := bsg hg; clear HB; have HB := n0_; have BK278 := n1_; have GW278 := n2_; have GE278 := n3_; clear n0_ n1_ n2_ n3_; clear hb hbox hg; have hcz5_0 : w4.cell? ⟨gb278, 0, none⟩ = some (.slice A0_0 l0_0.length c0_0) := (blk_cell BK278.out 0).trans rfl; have hcz5_1 : w4.cell? ⟨gb278, 1, none⟩ = some (.int .i64 a0_1) := (blk_cell BK278.out 1).trans rfl; have hcz5_2 : w4.cell? ⟨gb278, 2, none⟩ = some (.bool a0_2) := (blk_cell BK278.out 2).trans rfl; have hcz5_3 : w4.cell? ⟨gb278, 3, none⟩ = some (.int .i64 a0_3) := (blk_cell BK278.out 3).trans rfl; have hcz5_4 : w4.cell? ⟨gb278, 4, none⟩ = some (.string a0_4) := (blk_cell BK278.out 4).trans rfl; have hcz5_5 : w4.cell? ⟨gb278, 5, none⟩ = some (.int .i64 a0_5) := (blk_cell BK278.out 5).trans rfl; have hcz5_6 : w4.cell? ⟨gb278, 6, none⟩ = some (.int .i64 a0_6) := (blk_cell BK278.out 6).trans rfl; have hcz5_7 : w4.cell? ⟨gb278, 7, none⟩ = some (.int .i64 a0_7) := (blk_cell BK278.out 7).trans rfl; have hfz5_0 := blk_frozen BK278.out 0; have hfz5_1 := blk_frozen BK278.out 1; have hfz5_2 := blk_frozen BK278.out 2; have hfz5_3 := blk_frozen BK278.out 3; have hfz5_4 := blk_frozen BK278.out 4; have hfz5_5 := blk_frozen BK278.out 5; have hfz5_6 := blk_frozen BK278.out 6; have hfz5_7 := blk_frozen BK278.out 7) | ((with_reducible refine gate_callee (f := 35) rfl ?_); refine goesL_ (some 16) rfl rfl Try.func35 (by kernel_rfl) rfl #[.agg #[.slice A0_0 l0_0.length c0_0, .int .i64 a0_1, .bool a0_2, .int .i64 a0_3, .string a0_4, .int .i64 a0_5, .int .i64 a0_6, .int .i64 a0_7], .int .i64 1048576] rfl (by (try simp only [List.map_toArray, List.map_cons, List.map_nil]); first | done | rfl | (simp only [List.length_drop, List.length_take]; rfl)) ?_; (with_reducible refine (laws_szCaller.calls k _ _ l0_0 a0_1 a0_2 a0_3 a0_4 a0_5 a0_6 a0_7 1048576 t279 _ ?side1 ?side2 A2.out).mono ?_); (case side1 => repeat (first | exact (Kd.C_below HR0_0.out HB.out) | (with_reducible refine Kd.C_alloc ?_ _) | (with_reducible refine Kd.C_drewN ?_ _) | (with_reducible refine Kd.C_drew ?_))); (case side2 => exact HC0_0.out); rintro e w6 ⟨rfl, hb⟩; refine ⟨_, rfl, ?_⟩; have n0_ := bkb BK278 hb; have n1_ := Aside0.mk (below_step (bz) hb); clear BK278; clear HB; have BK278 := n0_; have HB := n1_; clear n0_ n1_; (try clear hb); (try clear hb2); (try clear hk); (try clear hi)))
  go_ret
  exact ⟨by first | rfl | (simp only [u8w, w64m]; rfl) | (simp [errW_none, errW_some] <;> rfl) | (simp [*, errW_none, errW_some] <;> rfl), bz⟩
 ·
  rw [if_neg c3] at H
  have c3b0 : decide (t279 < 0) = false := decide_eq_false c3
  clear c3
  replace H := Option.bind_eq_some_iff.mp H
  obtain ⟨⟨t280, t283, t284, t285, t286, t287, t288, t289⟩, A70, H⟩ := H
  try dsimp only at H
  have A7 := Aside0.mk A70
  clear A70
  replace H := Option.bind_eq_some_iff.mp H
  obtain ⟨⟨t290, t293, t294, t295, t296, t297, t298, t299, t300⟩, A80, H⟩ := H
  try dsimp only at H
  have A8 := Aside0.mk A80
  clear A80
  replace H := Option.bind_eq_some_iff.mp H
  obtain ⟨⟨t302, t305, t306, t307, t308, t309, t310, t311⟩, A90, H⟩ := H
  try dsimp only at H
  have A9 := Aside0.mk A90
  clear A90
  replace H := Option.bind_eq_some_iff.mp H
  obtain ⟨⟨t313, t316, t317, t318, t319, t320, t321, t322, t323⟩, A100, H⟩ := H
  try dsimp only at H
  have A10 := Aside0.mk A100
  clear A100
  have HC11 := Aside0.mk H
  clear H
  go_enter Try.func7, Try.ntmps7
  go_upto_region 8 with (first | ((with_reducible refine gate_dst (N := 1) rfl ?_); refine box_event ?hg (N := 1) ?hd (cs := #[.slice A0_0 l0_0.length c0_0, .int .i64 a0_1, .bool a0_2, .int .i64 a0_3, .string a0_4, .int .i64 a0_5, .int .i64 a0_6, .int .i64 a0_7]) (t := 60) ?hr ?_; (case hd => rfl); (case hg => rfl); (case hr => first | (go_simp; done) | (go_simp; rfl)); intro gb278 hg w12 hbox hb; have n0_ := Aside0.mk (below_step (bz) hb); have n1_ := Aside0.mk (hbox); have n2_ : Aside0 (w.heap.size ≤ gb278) := bsg hg; have n3_ : Aside0 (w.heap.size ≤ gb278) := bsg hg; clear HB; have HB := n0_; have BK278 := n1_; have GW278 := n2_; have GE278 := n3_; clear n0_ n1_ n2_ n3_; clear hb hbox hg; have hcz13_0 : w12.cell? ⟨gb278, 0, none⟩ = some (.slice A0_0 l0_0.length c0_0) := (blk_cell BK278.out 0).trans rfl; have hcz13_1 : w12.cell? ⟨gb278, 1, none⟩ = some (.int .i64 a0_1) := (blk_cell BK278.out 1).trans rfl; have hcz13_2 : w12.cell? ⟨gb278, 2, none⟩ = some (.bool a0_2) := (blk_cell BK278.out 2).trans rfl; have hcz13_3 : w12.cell? ⟨gb278, 3, none⟩ = some (.int .i64 a0_3) := (blk_cell BK278.out 3).trans rfl; have hcz13_4 : w12.cell? ⟨gb278, 4, none⟩ = some (.string a0_4) := (blk_cell BK278.out 4).trans rfl; have hcz13_5 : w12.cell? ⟨gb278, 5, none⟩ = some (.int .i64 a0_5) := (blk_cell BK278.out 5).trans rfl; have hcz13_6 : w12.cell? ⟨gb278, 6, none⟩ = some (.int .i64 a0_6) := (blk_cell BK278.out 6).trans rfl; have hcz13_7 : w12.cell? ⟨gb278, 7, none⟩ = some (.int .i64 a0_7) := (blk_cell BK278.out 7).trans rfl; have hfz13_0 := blk_frozen BK278.out 0; have hfz13_1 := blk_frozen BK278.out 1; have hfz13_2 := blk_frozen BK278.out 2; have hfz13_3 := blk_frozen BK278.out 3; have hfz13_4 := blk_frozen BK278.out 4; have hfz13_5 := blk_frozen BK278.out 5; have hfz13_6 := blk_frozen BK278.out 6; have hfz13_7 := blk_frozen BK278.out 7) | ((with_reducible refine gate_callee (f := 35) rfl ?_); refine goesL_ (some 16) rfl rfl Try.func35 (by kernel_rfl) rfl #[.agg #[.slice A0_0 l0_0.length c0_0, .int .i64 a0_1, .bool a0_2, .int .i64 a0_3, .string a0_4, .int .i64 a0_5, .int .i64 a0_6, .int .i64 a0_7], .int .i64 1048576] rfl (by (try simp only [List.map_toArray, List.map_cons, List.map_nil]); first | done | rfl | (simp only [List.length_drop, List.length_take]; rfl)) ?_; (with_reducible refine (laws_szCaller.calls k _ _ l0_0 a0_1 a0_2 a0_3 a0_4 a0_5 a0_6 a0_7 1048576 t279 _ ?side1 ?side2 A2.out).mono ?_); (case side1 => repeat (first | exact (Kd.C_below HR0_0.out HB.out) | (with_reducible refine Kd.C_alloc ?_ _) | (with_reducible refine Kd.C_drewN ?_ _) | (with_reducible refine Kd.C_drew ?_))); (case side2 => exact HC0_0.out); rintro e w14 ⟨rfl, hb⟩; refine ⟨_, rfl, ?_⟩; have n0_ := bkb BK278 hb; have n1_ := Aside0.mk (below_step (bz) hb); clear BK278; clear HB; have BK278 := n0_; have HB := n1_; clear n0_ n1_; (try clear hb); (try clear hb2); (try clear hk); (try clear hi); have hcz15_0 : w14.cell? ⟨gb278, 0, none⟩ = some (.slice A0_0 l0_0.length c0_0) := (blk_cell BK278.out 0).trans rfl; have hcz15_1 : w14.cell? ⟨gb278, 1, none⟩ = some (.int .i64 a0_1) := (blk_cell BK278.out 1).trans rfl; have hcz15_2 : w14.cell? ⟨gb278, 2, none⟩ = some (.bool a0_2) := (blk_cell BK278.out 2).trans rfl; have hcz15_3 : w14.cell? ⟨gb278, 3, none⟩ = some (.int .i64 a0_3) := (blk_cell BK278.out 3).trans rfl; have hcz15_4 : w14.cell? ⟨gb278, 4, none⟩ = some (.string a0_4) := (blk_cell BK278.out 4).trans rfl; have hcz15_5 : w14.cell? ⟨gb278, 5, none⟩ = some (.int .i64 a0_5) := (blk_cell BK278.out 5).trans rfl; have hcz15_6 : w14.cell? ⟨gb278, 6, none⟩ = some (.int .i64 a0_6) := (blk_cell BK278.out 6).trans rfl; have hcz15_7 : w14.cell? ⟨gb278, 7, none⟩ = some (.int .i64 a0_7) := (blk_cell BK278.out 7).trans rfl; have hfz15_0 := blk_frozen BK278.out 0; have hfz15_1 := blk_frozen BK278.out 1; have hfz15_2 := blk_frozen BK278.out 2; have hfz15_3 := blk_frozen BK278.out 3; have hfz15_4 := blk_frozen BK278.out 4; have hfz15_5 := blk_frozen BK278.out 5; have hfz15_6 := blk_frozen BK278.out 6; have hfz15_7 := blk_frozen BK278.out 7) | ((with_reducible refine gate_callee (f := 37) rfl ?_); refine goesL_ (some 21) rfl rfl Try.func37 (by kernel_rfl) rfl #[.agg #[.slice A0_0 l0_0.length c0_0, .int .i64 a0_1, .bool a0_2, .int .i64 a0_3, .string a0_4, .int .i64 a0_5, .int .i64 a0_6, .int .i64 a0_7]] rfl (by (try simp only [List.map_toArray, List.map_cons, List.map_nil]); first | done | rfl | (simp only [List.length_drop, List.length_take]; rfl)) ?_; (with_reducible refine (laws_toCaller.calls k _ _ l0_0 a0_1 a0_2 a0_3 a0_4 a0_5 a0_6 a0_7 t280 t283 t284 t285 t286 t287 t288 t289 _ ?side1 ?side2 A7.out).mono ?_); (case side1 => repeat (first | exact (Kd.C_below HR0_0.out HB.out) | (with_reducible refine Kd.C_alloc ?_ _) | (with_reducible refine Kd.C_drewN ?_ _) | (with_reducible refine Kd.C_drew ?_))); (case side2 => exact HC0_0.out); rintro e w16 ⟨v281, rfl, ho0, hb⟩; refine ⟨_, rfl, ?_⟩; have n0_ := Aside0.mk (Kd.R_lower ho0 (below_size (bz))); have n1_ := bkb BK278 hb; have n2_ := Aside0.mk (below_step (bz) hb); clear BK278; clear HB; have HO282 := n0_; have BK278 := n1_; have HB := n2_; clear n0_ n1_ n2_; (try clear hb); (try clear hb2); (try clear hk); (try clear hi); (try clear ho0); obtain ⟨Ao17, co17, eo17⟩ := Kd.R_slice HO282.out; subst eo17) | ((with_reducible refine gate_callee (f := 36) rfl ?_); refine goesL_ (some 22) rfl rfl Try.func36 (by kernel_rfl) rfl #[.agg #[.slice Ao17 t280.length co17, .int .i64 t283, .bool t284, .int .i64 t285, .string t286, .int .i64 t287, .int .i64 t288, .int .i64 t289]] rfl (by (try simp only [List.map_toArray, List.map_cons, List.map_nil]); first | done | rfl | (simp only [List.length_drop, List.length_take]; rfl)) ?_; (with_reducible refine (spec_GiveUp.calls k _ _ t280 t283 t284 t285 t286 t287 t288 t289 t290 t293 t294 t295 t296 t297 t298 t299 t300 _ ?side1 ?side2 A8.out).mono ?_); (case side1 => repeat (first | exact (Kd.R_reads' HO282.out).2.2 | (with_reducible refine Kd.C_alloc ?_ _) | (with_reducible refine Kd.C_drewN ?_ _) | (with_reducible refine Kd.C_drew ?_))); (case side2 => exact (Kd.R_reads' HO282.out).2.1); rintro e w18 ⟨v291, rfl, ho0, hb⟩; refine ⟨_, rfl, ?_⟩; have n0_ := Aside0.mk (Kd.R_elder' (by (with_reducible repeat (first | apply Kd.R_alloc | apply Kd.R_drewN | apply Kd.R_drew)); exact HO282.out) (Kd.R_base ho0) hb); have n1_ := Aside0.mk (Kd.R_lower (Kd.R_new' ho0 (Kd.R_lt (by (with_reducible repeat (first | apply Kd.R_alloc | apply Kd.R_drewN | apply Kd.R_drew)); exact HO282.out))) (below_size (bz))); have n2_ := bkb BK278 hb; have n3_ := Aside0.mk (below_step (bz) hb); clear HO282; clear BK278; clear HB; have HO282 := n0_; have HO292 := n1_; have BK278 := n2_; have HB := n3_; clear n0_ n1_ n2_ n3_; (try clear hb); (try clear hb2); (try clear hk); (try clear hi); (try clear ho0)) | ((with_reducible refine gate_dst (N := 4) rfl ?_); refine box_event ?hg (N := 4) ?hd (cs := #[.slice none 0 0, .int .i64 0, .bool false, .int .i64 0, .string (⟨#[]⟩ : ByteArray), .int .i64 0, .int .i64 0, .int .i64 0]) (t := 41) ?hr ?_; (case hd => rfl); (case hg => rfl); (case hr => first | (go_simp; done) | (go_simp; rfl)); intro gb301 hg w19 hbox hb; have n0_ := Aside0.mk (Kd.R_below (by (with_reducible repeat (first | apply Kd.R_alloc | apply Kd.R_drewN | apply Kd.R_drew)); exact HO282.out) hb); have n1_ := Aside0.mk (Kd.R_below (by (with_reducible repeat (first | apply Kd.R_alloc | apply Kd.R_drewN | apply Kd.R_drew)); exact HO292.out) hb); have n2_ := bkb BK278 hb; have n3_ := Aside0.mk (below_step (bz) hb); have n4_ := Aside0.mk (hbox); have n5_ : Aside0 (w.heap.size ≤ gb301) := bsg hg; have n6_ : Aside0 (w.heap.size ≤ gb301) := bsg hg; have n7_ := nlt hg BK278; have n8_ := ngt hg BK278; clear HO282; clear HO292; clear BK278; clear HB; have HO282 := n0_; have HO292 := n1_; have BK278 := n2_; have HB := n3_; have BK301 := n4_; have GW301 := n5_; have GE301 := n6_; have NB278_301 := n7_; have NB301_278 := n8_; clear n0_ n1_ n2_ n3_ n4_ n5_ n6_ n7_ n8_; clear hb hbox hg; obtain ⟨Ao20, co20, eo20⟩ := Kd.R_slice HO292.out; subst eo20; have hnb21 := NB301_278.out; have hnc21 := NB278_301.out; have hcz22_0 : w19.cell? ⟨gb301, 0, none⟩ = some (.slice none 0 0) := (blk_cell BK301.out 0).trans rfl; have hcz22_1 : w19.cell? ⟨gb301, 1, none⟩ = some (.int .i64 0) := (blk_cell BK301.out 1).trans rfl; have hcz22_2 : w19.cell? ⟨gb301, 2, none⟩ = some (.bool false) := (blk_cell BK301.out 2).trans rfl; have hcz22_3 : w19.cell? ⟨gb301, 3, none⟩ = some (.int .i64 0) := (blk_cell BK301.out 3).trans rfl; have hcz22_4 : w19.cell? ⟨gb301, 4, none⟩ = some (.string (⟨#[]⟩ : ByteArray)) := (blk_cell BK301.out 4).trans rfl; have hcz22_5 : w19.cell? ⟨gb301, 5, none⟩ = some (.int .i64 0) := (blk_cell BK301.out 5).trans rfl; have hcz22_6 : w19.cell? ⟨gb301, 6, none⟩ = some (.int .i64 0) := (blk_cell BK301.out 6).trans rfl; have hcz22_7 : w19.cell? ⟨gb301, 7, none⟩ = some (.int .i64 0) := (blk_cell BK301.out 7).trans rfl; have hfz22_0 := blk_frozen BK301.out 0; have hfz22_1 := blk_frozen BK301.out 1; have hfz22_2 := blk_frozen BK301.out 2; have hfz22_3 := blk_frozen BK301.out 3; have hfz22_4 := blk_frozen BK301.out 4; have hfz22_5 := blk_frozen BK301.out 5; have hfz22_6 := blk_frozen BK301.out 6; have hfz22_7 := blk_frozen BK301.out 7; have hcz23_0 : w19.cell? ⟨gb278, 0, none⟩ = some (.slice A0_0 l0_0.length c0_0) := (blk_cell BK278.out 0).trans rfl; have hcz23_1 : w19.cell? ⟨gb278, 1, none⟩ = some (.int .i64 a0_1) := (blk_cell BK278.out 1).trans rfl; have hcz23_2 : w19.cell? ⟨gb278, 2, none⟩ = some (.bool a0_2) := (blk_cell BK278.out 2).trans rfl; have hcz23_3 : w19.cell? ⟨gb278, 3, none⟩ = some (.int .i64 a0_3) := (blk_cell BK278.out 3).trans rfl; have hcz23_4 : w19.cell? ⟨gb278, 4, none⟩ = some (.string a0_4) := (blk_cell BK278.out 4).trans rfl; have hcz23_5 : w19.cell? ⟨gb278, 5, none⟩ = some (.int .i64 a0_5) := (blk_cell BK278.out 5).trans rfl; have hcz23_6 : w19.cell? ⟨gb278, 6, none⟩ = some (.int .i64 a0_6) := (blk_cell BK278.out 6).trans rfl; have hcz23_7 : w19.cell? ⟨gb278, 7, none⟩ = some (.int .i64 a0_7) := (blk_cell BK278.out 7).trans rfl; have hfz23_0 := blk_frozen BK278.out 0; have hfz23_1 := blk_frozen BK278.out 1; have hfz23_2 := blk_frozen BK278.out 2; have hfz23_3 := blk_frozen BK278.out 3; have hfz23_4 := blk_frozen BK278.out 4; have hfz23_5 := blk_frozen BK278.out 5; have hfz23_6 := blk_frozen BK278.out 6; have hfz23_7 := blk_frozen BK278.out 7) | ((with_reducible refine gate_callee (f := 37) rfl ?_); refine goesL_ (some 26) rfl rfl Try.func37 (by kernel_rfl) rfl #[.agg #[.slice A0_0 l0_0.length c0_0, .int .i64 a0_1, .bool a0_2, .int .i64 a0_3, .string a0_4, .int .i64 a0_5, .int .i64 a0_6, .int .i64 a0_7]] rfl (by (try simp only [List.map_toArray, List.map_cons, List.map_nil]); first | done | rfl | (simp only [List.length_drop, List.length_take]; rfl)) ?_; (with_reducible refine (laws_toCaller.calls k _ _ l0_0 a0_1 a0_2 a0_3 a0_4 a0_5 a0_6 a0_7 t302 t305 t306 t307 t308 t309 t310 t311 _ ?side1 ?side2 A9.out).mono ?_); (case side1 => exact Kd.C_below HR0_0.out (bz)); (case side2 => exact HC0_0.out); rintro e w24 ⟨v303, rfl, ho0, hb⟩; refine ⟨_, rfl, ?_⟩; have n0_ := Aside0.mk (Kd.R_elder' (by (with_reducible repeat (first | apply Kd.R_alloc | apply Kd.R_drewN | apply Kd.R_drew)); exact (Kd.R_mono (Kd.R_far (p := ⟨gb301, 7, none⟩) (Kd.R_far (p := ⟨gb301, 6, none⟩) (Kd.R_far (p := ⟨gb301, 5, none⟩) (Kd.R_far (p := ⟨gb301, 4, none⟩) (Kd.R_far (p := ⟨gb301, 3, none⟩) (Kd.R_far (p := ⟨gb301, 2, none⟩) (Kd.R_far (p := ⟨gb301, 1, none⟩) (Kd.R_far (p := ⟨gb301, 0, none⟩) (Kd.R_types HO282.out BK301.out (by decide)) (fun _ hk => hk.2) (.slice Ao20 t290.length co20)) (fun _ hk => hk.2) (.int .i64 t293)) (fun _ hk => hk.2) (.bool t294)) (fun _ hk => hk.2) (.int .i64 t295)) (fun _ hk => hk.2) (.string t296)) (fun _ hk => hk.2) (.int .i64 t297)) (fun _ hk => hk.2) (.int .i64 t298)) (fun _ hk => hk.2) (.int .i64 t299)) (fun _ h_ => h_.1))) (Kd.R_base ho0) hb); have n1_ := Aside0.mk (Kd.R_elder' (by (with_reducible repeat (first | apply Kd.R_alloc | apply Kd.R_drewN | apply Kd.R_drew)); exact (Kd.R_mono (Kd.R_far (p := ⟨gb301, 7, none⟩) (Kd.R_far (p := ⟨gb301, 6, none⟩) (Kd.R_far (p := ⟨gb301, 5, none⟩) (Kd.R_far (p := ⟨gb301, 4, none⟩) (Kd.R_far (p := ⟨gb301, 3, none⟩) (Kd.R_far (p := ⟨gb301, 2, none⟩) (Kd.R_far (p := ⟨gb301, 1, none⟩) (Kd.R_far (p := ⟨gb301, 0, none⟩) (Kd.R_types HO292.out BK301.out (by decide)) (fun _ hk => hk.2) (.slice Ao20 t290.length co20)) (fun _ hk => hk.2) (.int .i64 t293)) (fun _ hk => hk.2) (.bool t294)) (fun _ hk => hk.2) (.int .i64 t295)) (fun _ hk => hk.2) (.string t296)) (fun _ hk => hk.2) (.int .i64 t297)) (fun _ hk => hk.2) (.int .i64 t298)) (fun _ hk => hk.2) (.int .i64 t299)) (fun _ h_ => h_.1))) (Kd.R_base ho0) hb); have n2_ := Aside0.mk (Kd.R_lower (Kd.R_new' (Kd.R_new' ho0 (Kd.R_lt (by (with_reducible repeat (first | apply Kd.R_alloc | apply Kd.R_drewN | apply Kd.R_drew)); exact (Kd.R_mono (Kd.R_far (p := ⟨gb301, 7, none⟩) (Kd.R_far (p := ⟨gb301, 6, none⟩) (Kd.R_far (p := ⟨gb301, 5, none⟩) (Kd.R_far (p := ⟨gb301, 4, none⟩) (Kd.R_far (p := ⟨gb301, 3, none⟩) (Kd.R_far (p := ⟨gb301, 2, none⟩) (Kd.R_far (p := ⟨gb301, 1, none⟩) (Kd.R_far (p := ⟨gb301, 0, none⟩) (Kd.R_types HO282.out BK301.out (by decide)) (fun _ hk => hk.2) (.slice Ao20 t290.length co20)) (fun _ hk => hk.2) (.int .i64 t293)) (fun _ hk => hk.2) (.bool t294)) (fun _ hk => hk.2) (.int .i64 t295)) (fun _ hk => hk.2) (.string t296)) (fun _ hk => hk.2) (.int .i64 t297)) (fun _ hk => hk.2) (.int .i64 t298)) (fun _ hk => hk.2) (.int .i64 t299)) (fun _ h_ => h_.1))))) (Kd.R_lt (by (with_reducible repeat (first | apply Kd.R_alloc | apply Kd.R_drewN | apply Kd.R_drew)); exact (Kd.R_mono (Kd.R_far (p := ⟨gb301, 7, none⟩) (Kd.R_far (p := ⟨gb301, 6, none⟩) (Kd.R_far (p := ⟨gb301, 5, none⟩) (Kd.R_far (p := ⟨gb301, 4, none⟩) (Kd.R_far (p := ⟨gb301, 3, none⟩) (Kd.R_far (p := ⟨gb301, 2, none⟩) (Kd.R_far (p := ⟨gb301, 1, none⟩) (Kd.R_far (p := ⟨gb301, 0, none⟩) (Kd.R_types HO292.out BK301.out (by decide)) (fun _ hk => hk.2) (.slice Ao20 t290.length co20)) (fun _ hk => hk.2) (.int .i64 t293)) (fun _ hk => hk.2) (.bool t294)) (fun _ hk => hk.2) (.int .i64 t295)) (fun _ hk => hk.2) (.string t296)) (fun _ hk => hk.2) (.int .i64 t297)) (fun _ hk => hk.2) (.int .i64 t298)) (fun _ hk => hk.2) (.int .i64 t299)) (fun _ h_ => h_.1))))) (below_size (bz))); have n3_ := Aside0.mk (blk_below (g := gb278) (o := .cells #[.slice A0_0 l0_0.length c0_0, .int .i64 a0_1, .bool a0_2, .int .i64 a0_3, .string a0_4, .int .i64 a0_5, .int .i64 a0_6, .int .i64 a0_7] 60 (0, 0)) (by (with_reducible repeat (first | refine blk_drewN ?_ _ | refine blk_drew ?_ | refine blk_alloc ?_ _)); refine blk_far ?_ NB278_301.out _; (with_reducible repeat (first | refine blk_drewN ?_ _ | refine blk_drew ?_ | refine blk_alloc ?_ _)); refine blk_far ?_ NB278_301.out _; (with_reducible repeat (first | refine blk_drewN ?_ _ | refine blk_drew ?_ | refine blk_alloc ?_ _)); refine blk_far ?_ NB278_301.out _; (with_reducible repeat (first | refine blk_drewN ?_ _ | refine blk_drew ?_ | refine blk_alloc ?_ _)); refine blk_far ?_ NB278_301.out _; (with_reducible repeat (first | refine blk_drewN ?_ _ | refine blk_drew ?_ | refine blk_alloc ?_ _)); refine blk_far ?_ NB278_301.out _; (with_reducible repeat (first | refine blk_drewN ?_ _ | refine blk_drew ?_ | refine blk_alloc ?_ _)); refine blk_far ?_ NB278_301.out _; (with_reducible repeat (first | refine blk_drewN ?_ _ | refine blk_drew ?_ | refine blk_alloc ?_ _)); refine blk_far ?_ NB278_301.out _; (with_reducible repeat (first | refine blk_drewN ?_ _ | refine blk_drew ?_ | refine blk_alloc ?_ _)); refine blk_far ?_ NB278_301.out _; (with_reducible repeat (first | refine blk_drewN ?_ _ | refine blk_drew ?_ | refine blk_alloc ?_ _)); exact BK278.out) hb); have n4_ := Aside0.mk (blk_below (g := gb301) (o := .cells #[.slice Ao20 t290.length co20, .int .i64 t293, .bool t294, .int .i64 t295, .string t296, .int .i64 t297, .int .i64 t298, .int .i64 t299] 41 (0, 0)) (by (with_reducible repeat (first | refine blk_drewN ?_ _ | refine blk_drew ?_ | refine blk_alloc ?_ _)); refine blk_put (cs := #[.slice Ao20 t290.length co20, .int .i64 t293, .bool t294, .int .i64 t295, .string t296, .int .i64 t297, .int .i64 t298, .int .i64 0]) ?_ 7 _ rfl; (with_reducible repeat (first | refine blk_drewN ?_ _ | refine blk_drew ?_ | refine blk_alloc ?_ _)); refine blk_put (cs := #[.slice Ao20 t290.length co20, .int .i64 t293, .bool t294, .int .i64 t295, .string t296, .int .i64 t297, .int .i64 0, .int .i64 0]) ?_ 6 _ rfl; (with_reducible repeat (first | refine blk_drewN ?_ _ | refine blk_drew ?_ | refine blk_alloc ?_ _)); refine blk_put (cs := #[.slice Ao20 t290.length co20, .int .i64 t293, .bool t294, .int .i64 t295, .string t296, .int .i64 0, .int .i64 0, .int .i64 0]) ?_ 5 _ rfl; (with_reducible repeat (first | refine blk_drewN ?_ _ | refine blk_drew ?_ | refine blk_alloc ?_ _)); refine blk_put (cs := #[.slice Ao20 t290.length co20, .int .i64 t293, .bool t294, .int .i64 t295, .string (⟨#[]⟩ : ByteArray), .int .i64 0, .int .i64 0, .int .i64 0]) ?_ 4 _ rfl; (with_reducible repeat (first | refine blk_drewN ?_ _ | refine blk_drew ?_ | refine blk_alloc ?_ _)); refine blk_put (cs := #[.slice Ao20 t290.length co20, .int .i64 t293, .bool t294, .int .i64 0, .string (⟨#[]⟩ : ByteArray), .int .i64 0, .int .i64 0, .int .i64 0]) ?_ 3 _ rfl; (with_reducible repeat (first | refine blk_drewN ?_ _ | refine blk_drew ?_ | refine blk_alloc ?_ _)); refine blk_put (cs := #[.slice Ao20 t290.length co20, .int .i64 t293, .bool false, .int .i64 0, .string (⟨#[]⟩ : ByteArray), .int .i64 0, .int .i64 0, .int .i64 0]) ?_ 2 _ rfl; (with_reducible repeat (first | refine blk_drewN ?_ _ | refine blk_drew ?_ | refine blk_alloc ?_ _)); refine blk_put (cs := #[.slice Ao20 t290.length co20, .int .i64 0, .bool false, .int .i64 0, .string (⟨#[]⟩ : ByteArray), .int .i64 0, .int .i64 0, .int .i64 0]) ?_ 1 _ rfl; (with_reducible repeat (first | refine blk_drewN ?_ _ | refine blk_drew ?_ | refine blk_alloc ?_ _)); refine blk_put (cs := #[.slice none 0 0, .int .i64 0, .bool false, .int .i64 0, .string (⟨#[]⟩ : ByteArray), .int .i64 0, .int .i64 0, .int .i64 0]) ?_ 0 _ rfl; (with_reducible repeat (first | refine blk_drewN ?_ _ | refine blk_drew ?_ | refine blk_alloc ?_ _)); exact BK301.out) hb); have n5_ := Aside0.mk (below_step (bz) hb); clear HO282; clear HO292; clear BK278; clear BK301; clear HB; have HO282 := n0_; have HO292 := n1_; have HO304 := n2_; have BK278 := n3_; have BK301 := n4_; have HB := n5_; clear n0_ n1_ n2_ n3_ n4_ n5_; (try clear hb); (try clear hb2); (try clear hk); (try clear hi); (try clear ho0)) | ((with_reducible refine gate_dst (N := 6) rfl ?_); refine box_event ?hg (N := 6) ?hd (cs := #[.slice none 0 0, .int .i64 0, .bool false, .int .i64 0, .string (⟨#[]⟩ : ByteArray), .int .i64 0, .int .i64 0, .int .i64 0]) (t := 41) ?hr ?_; (case hd => rfl); (case hg => rfl); (case hr => first | (go_simp; done) | (go_simp; rfl)); intro gb312 hg w25 hbox hb; have n0_ := Aside0.mk (Kd.R_below (by (with_reducible repeat (first | apply Kd.R_alloc | apply Kd.R_drewN | apply Kd.R_drew)); exact HO282.out) hb); have n1_ := Aside0.mk (Kd.R_below (by (with_reducible repeat (first | apply Kd.R_alloc | apply Kd.R_drewN | apply Kd.R_drew)); exact HO292.out) hb); have n2_ := Aside0.mk (Kd.R_below (by (with_reducible repeat (first | apply Kd.R_alloc | apply Kd.R_drewN | apply Kd.R_drew)); exact HO304.out) hb); have n3_ := bkb BK278 hb; have n4_ := bkb BK301 hb; have n5_ := Aside0.mk (below_step (bz) hb); have n6_ := Aside0.mk (hbox); have n7_ : Aside0 (w.heap.size ≤ gb312) := bsg hg; have n8_ : Aside0 (w.heap.size ≤ gb312) := bsg hg; have n9_ := nlt hg BK278; have n10_ := ngt hg BK278; have n11_ := nlt hg BK301; have n12_ := ngt hg BK301; clear HO282; clear HO292; clear HO304; clear BK278; clear BK301; clear HB; have HO282 := n0_; have HO292 := n1_; have HO304 := n2_; have BK278 := n3_; have BK301 := n4_; have HB := n5_; have BK312 := n6_; have GW312 := n7_; have GE312 := n8_; have NB278_312 := n9_; have NB312_278 := n10_; have NB301_312 := n11_; have NB312_301 := n12_; clear n0_ n1_ n2_ n3_ n4_ n5_ n6_ n7_ n8_ n9_ n10_ n11_ n12_; clear hb hbox hg; obtain ⟨Ao26, co26, eo26⟩ := Kd.R_slice HO304.out; subst eo26; have hnb27 := NB312_278.out; have hnc27 := NB278_312.out; have hnb28 := NB312_301.out; have hnc28 := NB301_312.out; have hcz29_0 : w25.cell? ⟨gb312, 0, none⟩ = some (.slice none 0 0) := (blk_cell BK312.out 0).trans rfl; have hcz29_1 : w25.cell? ⟨gb312, 1, none⟩ = some (.int .i64 0) := (blk_cell BK312.out 1).trans rfl; have hcz29_2 : w25.cell? ⟨gb312, 2, none⟩ = some (.bool false) := (blk_cell BK312.out 2).trans rfl; have hcz29_3 : w25.cell? ⟨gb312, 3, none⟩ = some (.int .i64 0) := (blk_cell BK312.out 3).trans rfl; have hcz29_4 : w25.cell? ⟨gb312, 4, none⟩ = some (.string (⟨#[]⟩ : ByteArray)) := (blk_cell BK312.out 4).trans rfl; have hcz29_5 : w25.cell? ⟨gb312, 5, none⟩ = some (.int .i64 0) := (blk_cell BK312.out 5).trans rfl; have hcz29_6 : w25.cell? ⟨gb312, 6, none⟩ = some (.int .i64 0) := (blk_cell BK312.out 6).trans rfl; have hcz29_7 : w25.cell? ⟨gb312, 7, none⟩ = some (.int .i64 0) := (blk_cell BK312.out 7).trans rfl; have hfz29_0 := blk_frozen BK312.out 0; have hfz29_1 := blk_frozen BK312.out 1; have hfz29_2 := blk_frozen BK312.out 2; have hfz29_3 := blk_frozen BK312.out 3; have hfz29_4 := blk_frozen BK312.out 4; have hfz29_5 := blk_frozen BK312.out 5; have hfz29_6 := blk_frozen BK312.out 6; have hfz29_7 := blk_frozen BK312.out 7) | ((with_reducible refine gate_callee (f := 38) rfl ?_); refine goesL_ (some 29) rfl rfl Try.func38 (by kernel_rfl) rfl #[.agg #[.slice Ao26 t302.length co26, .int .i64 t305, .bool t306, .int .i64 t307, .string t308, .int .i64 t309, .int .i64 t310, .int .i64 t311]] rfl (by (try simp only [List.map_toArray, List.map_cons, List.map_nil]); first | done | rfl | (simp only [List.length_drop, List.length_take]; rfl)) ?_; (with_reducible refine (impl_GiveUp.calls k _ _ t302 t305 t306 t307 t308 t309 t310 t311 t313 t316 t317 t318 t319 t320 t321 t322 t323 _ ?side1 ?side2 A10.out).mono ?_); (case side1 => refine (Kd.R_reads' (e := 35) (base := w.heap.size) (ok := fun k_ => ((True ∧ some k_ ≠ (.slice Ao17 t280.length co17 : Value).ownBlock) ∧ some k_ ≠ (.slice Ao20 t290.length co20 : Value).ownBlock)) (n := t302.length) (c := co26) ?_).2.2; exact (by (with_reducible repeat (first | apply Kd.R_alloc | apply Kd.R_drewN | apply Kd.R_drew)); exact (Kd.R_mono (Kd.R_far (p := ⟨gb312, 7, none⟩) (Kd.R_far (p := ⟨gb312, 6, none⟩) (Kd.R_far (p := ⟨gb312, 5, none⟩) (Kd.R_far (p := ⟨gb312, 4, none⟩) (Kd.R_far (p := ⟨gb312, 3, none⟩) (Kd.R_far (p := ⟨gb312, 2, none⟩) (Kd.R_far (p := ⟨gb312, 1, none⟩) (Kd.R_far (p := ⟨gb312, 0, none⟩) (Kd.R_types HO304.out BK312.out (by decide)) (fun _ hk => hk.2) (.slice Ao26 t302.length co26)) (fun _ hk => hk.2) (.int .i64 t305)) (fun _ hk => hk.2) (.bool t306)) (fun _ hk => hk.2) (.int .i64 t307)) (fun _ hk => hk.2) (.string t308)) (fun _ hk => hk.2) (.int .i64 t309)) (fun _ hk => hk.2) (.int .i64 t310)) (fun _ hk => hk.2) (.int .i64 t311)) (fun _ h_ => h_.1)))); (case side2 => exact (Kd.R_reads' HO304.out).2.1); rintro e w30 ⟨v314, rfl, ho0, hb⟩; refine ⟨_, rfl, ?_⟩; have n0_ := Aside0.mk (Kd.R_elder' (by (with_reducible repeat (first | apply Kd.R_alloc | apply Kd.R_drewN | apply Kd.R_drew)); exact (Kd.R_mono (Kd.R_far (p := ⟨gb312, 7, none⟩) (Kd.R_far (p := ⟨gb312, 6, none⟩) (Kd.R_far (p := ⟨gb312, 5, none⟩) (Kd.R_far (p := ⟨gb312, 4, none⟩) (Kd.R_far (p := ⟨gb312, 3, none⟩) (Kd.R_far (p := ⟨gb312, 2, none⟩) (Kd.R_far (p := ⟨gb312, 1, none⟩) (Kd.R_far (p := ⟨gb312, 0, none⟩) (Kd.R_types HO282.out BK312.out (by decide)) (fun _ hk => hk.2) (.slice Ao26 t302.length co26)) (fun _ hk => hk.2) (.int .i64 t305)) (fun _ hk => hk.2) (.bool t306)) (fun _ hk => hk.2) (.int .i64 t307)) (fun _ hk => hk.2) (.string t308)) (fun _ hk => hk.2) (.int .i64 t309)) (fun _ hk => hk.2) (.int .i64 t310)) (fun _ hk => hk.2) (.int .i64 t311)) (fun _ h_ => h_.1))) (Kd.R_base ho0) hb); have n1_ := Aside0.mk (Kd.R_elder' (by (with_reducible repeat (first | apply Kd.R_alloc | apply Kd.R_drewN | apply Kd.R_drew)); exact (Kd.R_mono (Kd.R_far (p := ⟨gb312, 7, none⟩) (Kd.R_far (p := ⟨gb312, 6, none⟩) (Kd.R_far (p := ⟨gb312, 5, none⟩) (Kd.R_far (p := ⟨gb312, 4, none⟩) (Kd.R_far (p := ⟨gb312, 3, none⟩) (Kd.R_far (p := ⟨gb312, 2, none⟩) (Kd.R_far (p := ⟨gb312, 1, none⟩) (Kd.R_far (p := ⟨gb312, 0, none⟩) (Kd.R_types HO292.out BK312.out (by decide)) (fun _ hk => hk.2) (.slice Ao26 t302.length co26)) (fun _ hk => hk.2) (.int .i64 t305)) (fun _ hk => hk.2) (.bool t306)) (fun _ hk => hk.2) (.int .i64 t307)) (fun _ hk => hk.2) (.string t308)) (fun _ hk => hk.2) (.int .i64 t309)) (fun _ hk => hk.2) (.int .i64 t310)) (fun _ hk => hk.2) (.int .i64 t311)) (fun _ h_ => h_.1))) (Kd.R_base ho0) hb); have n2_ := Aside0.mk (Kd.R_elder' (by (with_reducible repeat (first | apply Kd.R_alloc | apply Kd.R_drewN | apply Kd.R_drew)); exact (Kd.R_mono (Kd.R_far (p := ⟨gb312, 7, none⟩) (Kd.R_far (p := ⟨gb312, 6, none⟩) (Kd.R_far (p := ⟨gb312, 5, none⟩) (Kd.R_far (p := ⟨gb312, 4, none⟩) (Kd.R_far (p := ⟨gb312, 3, none⟩) (Kd.R_far (p := ⟨gb312, 2, none⟩) (Kd.R_far (p := ⟨gb312, 1, none⟩) (Kd.R_far (p := ⟨gb312, 0, none⟩) (Kd.R_types HO304.out BK312.out (by decide)) (fun _ hk => hk.2) (.slice Ao26 t302.length co26)) (fun _ hk => hk.2) (.int .i64 t305)) (fun _ hk => hk.2) (.bool t306)) (fun _ hk => hk.2) (.int .i64 t307)) (fun _ hk => hk.2) (.string t308)) (fun _ hk => hk.2) (.int .i64 t309)) (fun _ hk => hk.2) (.int .i64 t310)) (fun _ hk => hk.2) (.int .i64 t311)) (fun _ h_ => h_.1))) (Kd.R_base ho0) hb); have n3_ := Aside0.mk (Kd.R_lower (Kd.R_new' (Kd.R_new' (Kd.R_new' ho0 (Kd.R_lt (by (with_reducible repeat (first | apply Kd.R_alloc | apply Kd.R_drewN | apply Kd.R_drew)); exact (Kd.R_mono (Kd.R_far (p := ⟨gb312, 7, none⟩) (Kd.R_far (p := ⟨gb312, 6, none⟩) (Kd.R_far (p := ⟨gb312, 5, none⟩) (Kd.R_far (p := ⟨gb312, 4, none⟩) (Kd.R_far (p := ⟨gb312, 3, none⟩) (Kd.R_far (p := ⟨gb312, 2, none⟩) (Kd.R_far (p := ⟨gb312, 1, none⟩) (Kd.R_far (p := ⟨gb312, 0, none⟩) (Kd.R_types HO282.out BK312.out (by decide)) (fun _ hk => hk.2) (.slice Ao26 t302.length co26)) (fun _ hk => hk.2) (.int .i64 t305)) (fun _ hk => hk.2) (.bool t306)) (fun _ hk => hk.2) (.int .i64 t307)) (fun _ hk => hk.2) (.string t308)) (fun _ hk => hk.2) (.int .i64 t309)) (fun _ hk => hk.2) (.int .i64 t310)) (fun _ hk => hk.2) (.int .i64 t311)) (fun _ h_ => h_.1))))) (Kd.R_lt (by (with_reducible repeat (first | apply Kd.R_alloc | apply Kd.R_drewN | apply Kd.R_drew)); exact (Kd.R_mono (Kd.R_far (p := ⟨gb312, 7, none⟩) (Kd.R_far (p := ⟨gb312, 6, none⟩) (Kd.R_far (p := ⟨gb312, 5, none⟩) (Kd.R_far (p := ⟨gb312, 4, none⟩) (Kd.R_far (p := ⟨gb312, 3, none⟩) (Kd.R_far (p := ⟨gb312, 2, none⟩) (Kd.R_far (p := ⟨gb312, 1, none⟩) (Kd.R_far (p := ⟨gb312, 0, none⟩) (Kd.R_types HO292.out BK312.out (by decide)) (fun _ hk => hk.2) (.slice Ao26 t302.length co26)) (fun _ hk => hk.2) (.int .i64 t305)) (fun _ hk => hk.2) (.bool t306)) (fun _ hk => hk.2) (.int .i64 t307)) (fun _ hk => hk.2) (.string t308)) (fun _ hk => hk.2) (.int .i64 t309)) (fun _ hk => hk.2) (.int .i64 t310)) (fun _ hk => hk.2) (.int .i64 t311)) (fun _ h_ => h_.1))))) (Kd.R_lt (by (with_reducible repeat (first | apply Kd.R_alloc | apply Kd.R_drewN | apply Kd.R_drew)); exact (Kd.R_mono (Kd.R_far (p := ⟨gb312, 7, none⟩) (Kd.R_far (p := ⟨gb312, 6, none⟩) (Kd.R_far (p := ⟨gb312, 5, none⟩) (Kd.R_far (p := ⟨gb312, 4, none⟩) (Kd.R_far (p := ⟨gb312, 3, none⟩) (Kd.R_far (p := ⟨gb312, 2, none⟩) (Kd.R_far (p := ⟨gb312, 1, none⟩) (Kd.R_far (p := ⟨gb312, 0, none⟩) (Kd.R_types HO304.out BK312.out (by decide)) (fun _ hk => hk.2) (.slice Ao26 t302.length co26)) (fun _ hk => hk.2) (.int .i64 t305)) (fun _ hk => hk.2) (.bool t306)) (fun _ hk => hk.2) (.int .i64 t307)) (fun _ hk => hk.2) (.string t308)) (fun _ hk => hk.2) (.int .i64 t309)) (fun _ hk => hk.2) (.int .i64 t310)) (fun _ hk => hk.2) (.int .i64 t311)) (fun _ h_ => h_.1))))) (below_size (bz))); have n4_ := Aside0.mk (blk_below (g := gb278) (o := .cells #[.slice A0_0 l0_0.length c0_0, .int .i64 a0_1, .bool a0_2, .int .i64 a0_3, .string a0_4, .int .i64 a0_5, .int .i64 a0_6, .int .i64 a0_7] 60 (0, 0)) (by (with_reducible repeat (first | refine blk_drewN ?_ _ | refine blk_drew ?_ | refine blk_alloc ?_ _)); refine blk_far ?_ NB278_312.out _; (with_reducible repeat (first | refine blk_drewN ?_ _ | refine blk_drew ?_ | refine blk_alloc ?_ _)); refine blk_far ?_ NB278_312.out _; (with_reducible repeat (first | refine blk_drewN ?_ _ | refine blk_drew ?_ | refine blk_alloc ?_ _)); refine blk_far ?_ NB278_312.out _; (with_reducible repeat (first | refine blk_drewN ?_ _ | refine blk_drew ?_ | refine blk_alloc ?_ _)); refine blk_far ?_ NB278_312.out _; (with_reducible repeat (first | refine blk_drewN ?_ _ | refine blk_drew ?_ | refine blk_alloc ?_ _)); refine blk_far ?_ NB278_312.out _; (with_reducible repeat (first | refine blk_drewN ?_ _ | refine blk_drew ?_ | refine blk_alloc ?_ _)); refine blk_far ?_ NB278_312.out _; (with_reducible repeat (first | refine blk_drewN ?_ _ | refine blk_drew ?_ | refine blk_alloc ?_ _)); refine blk_far ?_ NB278_312.out _; (with_reducible repeat (first | refine blk_drewN ?_ _ | refine blk_drew ?_ | refine blk_alloc ?_ _)); refine blk_far ?_ NB278_312.out _; (with_reducible repeat (first | refine blk_drewN ?_ _ | refine blk_drew ?_ | refine blk_alloc ?_ _)); exact BK278.out) hb); have n5_ := Aside0.mk (blk_below (g := gb301) (o := .cells #[.slice Ao20 t290.length co20, .int .i64 t293, .bool t294, .int .i64 t295, .string t296, .int .i64 t297, .int .i64 t298, .int .i64 t299] 41 (0, 0)) (by (with_reducible repeat (first | refine blk_drewN ?_ _ | refine blk_drew ?_ | refine blk_alloc ?_ _)); refine blk_far ?_ NB301_312.out _; (with_reducible repeat (first | refine blk_drewN ?_ _ | refine blk_drew ?_ | refine blk_alloc ?_ _)); refine blk_far ?_ NB301_312.out _; (with_reducible repeat (first | refine blk_drewN ?_ _ | refine blk_drew ?_ | refine blk_alloc ?_ _)); refine blk_far ?_ NB301_312.out _; (with_reducible repeat (first | refine blk_drewN ?_ _ | refine blk_drew ?_ | refine blk_alloc ?_ _)); refine blk_far ?_ NB301_312.out _; (with_reducible repeat (first | refine blk_drewN ?_ _ | refine blk_drew ?_ | refine blk_alloc ?_ _)); refine blk_far ?_ NB301_312.out _; (with_reducible repeat (first | refine blk_drewN ?_ _ | refine blk_drew ?_ | refine blk_alloc ?_ _)); refine blk_far ?_ NB301_312.out _; (with_reducible repeat (first | refine blk_drewN ?_ _ | refine blk_drew ?_ | refine blk_alloc ?_ _)); refine blk_far ?_ NB301_312.out _; (with_reducible repeat (first | refine blk_drewN ?_ _ | refine blk_drew ?_ | refine blk_alloc ?_ _)); refine blk_far ?_ NB301_312.out _; (with_reducible repeat (first | refine blk_drewN ?_ _ | refine blk_drew ?_ | refine blk_alloc ?_ _)); exact BK301.out) hb); have n6_ := Aside0.mk (blk_below (g := gb312) (o := .cells #[.slice Ao26 t302.length co26, .int .i64 t305, .bool t306, .int .i64 t307, .string t308, .int .i64 t309, .int .i64 t310, .int .i64 t311] 41 (0, 0)) (by (with_reducible repeat (first | refine blk_drewN ?_ _ | refine blk_drew ?_ | refine blk_alloc ?_ _)); refine blk_put (cs := #[.slice Ao26 t302.length co26, .int .i64 t305, .bool t306, .int .i64 t307, .string t308, .int .i64 t309, .int .i64 t310, .int .i64 0]) ?_ 7 _ rfl; (with_reducible repeat (first | refine blk_drewN ?_ _ | refine blk_drew ?_ | refine blk_alloc ?_ _)); refine blk_put (cs := #[.slice Ao26 t302.length co26, .int .i64 t305, .bool t306, .int .i64 t307, .string t308, .int .i64 t309, .int .i64 0, .int .i64 0]) ?_ 6 _ rfl; (with_reducible repeat (first | refine blk_drewN ?_ _ | refine blk_drew ?_ | refine blk_alloc ?_ _)); refine blk_put (cs := #[.slice Ao26 t302.length co26, .int .i64 t305, .bool t306, .int .i64 t307, .string t308, .int .i64 0, .int .i64 0, .int .i64 0]) ?_ 5 _ rfl; (with_reducible repeat (first | refine blk_drewN ?_ _ | refine blk_drew ?_ | refine blk_alloc ?_ _)); refine blk_put (cs := #[.slice Ao26 t302.length co26, .int .i64 t305, .bool t306, .int .i64 t307, .string (⟨#[]⟩ : ByteArray), .int .i64 0, .int .i64 0, .int .i64 0]) ?_ 4 _ rfl; (with_reducible repeat (first | refine blk_drewN ?_ _ | refine blk_drew ?_ | refine blk_alloc ?_ _)); refine blk_put (cs := #[.slice Ao26 t302.length co26, .int .i64 t305, .bool t306, .int .i64 0, .string (⟨#[]⟩ : ByteArray), .int .i64 0, .int .i64 0, .int .i64 0]) ?_ 3 _ rfl; (with_reducible repeat (first | refine blk_drewN ?_ _ | refine blk_drew ?_ | refine blk_alloc ?_ _)); refine blk_put (cs := #[.slice Ao26 t302.length co26, .int .i64 t305, .bool false, .int .i64 0, .string (⟨#[]⟩ : ByteArray), .int .i64 0, .int .i64 0, .int .i64 0]) ?_ 2 _ rfl; (with_reducible repeat (first | refine blk_drewN ?_ _ | refine blk_drew ?_ | refine blk_alloc ?_ _)); refine blk_put (cs := #[.slice Ao26 t302.length co26, .int .i64 0, .bool false, .int .i64 0, .string (⟨#[]⟩ : ByteArray), .int .i64 0, .int .i64 0, .int .i64 0]) ?_ 1 _ rfl; (with_reducible repeat (first | refine blk_drewN ?_ _ | refine blk_drew ?_ | refine blk_alloc ?_ _)); refine blk_put (cs := #[.slice none 0 0, .int .i64 0, .bool false, .int .i64 0, .string (⟨#[]⟩ : ByteArray), .int .i64 0, .int .i64 0, .int .i64 0]) ?_ 0 _ rfl; (with_reducible repeat (first | refine blk_drewN ?_ _ | refine blk_drew ?_ | refine blk_alloc ?_ _)); exact BK312.out) hb); have n7_ := Aside0.mk (below_step (bz) hb); clear HO282; clear HO292; clear HO304; clear BK278; clear BK301; clear BK312; clear HB; have HO282 := n0_; have HO292 := n1_; have HO304 := n2_; have HO315 := n3_; have BK278 := n4_; have BK301 := n5_; have BK312 := n6_; have HB := n7_; clear n0_ n1_ n2_ n3_ n4_ n5_ n6_ n7_; (try clear hb); (try clear hb2); (try clear hk); (try clear hi); (try clear ho0)) | ((with_reducible refine gate_dst (N := 7) rfl ?_); refine box_event ?hg (N := 7) ?hd (cs := #[.slice none 0 0, .int .i64 0, .bool false, .int .i64 0, .string (⟨#[]⟩ : ByteArray), .int .i64 0, .int .i64 0, .int .i64 0]) (t := 41) ?hr ?_; (case hd => rfl); (case hg => rfl); (case hr => first | (go_simp; done) | (go_simp; rfl)); intro gb324 hg w31 hbox hb; have n0_ := Aside0.mk (Kd.R_below (by (with_reducible repeat (first | apply Kd.R_alloc | apply Kd.R_drewN | apply Kd.R_drew)); exact HO282.out) hb); have n1_ := Aside0.mk (Kd.R_below (by (with_reducible repeat (first | apply Kd.R_alloc | apply Kd.R_drewN | apply Kd.R_drew)); exact HO292.out) hb); have n2_ := Aside0.mk (Kd.R_below (by (with_reducible repeat (first | apply Kd.R_alloc | apply Kd.R_drewN | apply Kd.R_drew)); exact HO304.out) hb); have n3_ := Aside0.mk (Kd.R_below (by (with_reducible repeat (first | apply Kd.R_alloc | apply Kd.R_drewN | apply Kd.R_drew)); exact HO315.out) hb); have n4_ := bkb BK278 hb; have n5_ := bkb BK301 hb; have n6_ := bkb BK312 hb; have n7_ := Aside0.mk (below_step (bz) hb); have n8_ := Aside0.mk (hbox); have n9_ : Aside0 (w.heap.size ≤ gb324) := bsg hg; have n10_ : Aside0 (w.heap.size ≤ gb324) := bsg hg; have n11_ := nlt hg BK278; have n12_ := ngt hg BK278; have n13_ := nlt hg BK301; have n14_ := ngt hg BK301; have n15_ := nlt hg BK312; have n16_ := ngt hg BK312; clear HO282; clear HO292; clear HO304; clear HO315; clear BK278; clear BK301; clear BK312; clear HB; have HO282 := n0_; have HO292 := n1_; have HO304 := n2_; have HO315 := n3_; have BK278 := n4_; have BK301 := n5_; have BK312 := n6_; have HB := n7_; have BK324 := n8_; have GW324 := n9_; have GE324 := n10_; have NB278_324 := n11_; have NB324_278 := n12_; have NB301_324 := n13_; have NB324_301 := n14_; have NB312_324 := n15_; have NB324_312 := n16_; clear n0_ n1_ n2_ n3_ n4_ n5_ n6_ n7_ n8_ n9_ n10_ n11_ n12_ n13_ n14_ n15_ n16_; clear hb hbox hg; obtain ⟨Ao32, co32, eo32⟩ := Kd.R_slice HO315.out; subst eo32; have hnb33 := NB324_278.out; have hnc33 := NB278_324.out; have hnb34 := NB324_301.out; have hnc34 := NB301_324.out; have hnb35 := NB324_312.out; have hnc35 := NB312_324.out; have hcz36_0 : w31.cell? ⟨gb324, 0, none⟩ = some (.slice none 0 0) := (blk_cell BK324.out 0).trans rfl; have hcz36_1 : w31.cell? ⟨gb324, 1, none⟩ = some (.int .i64 0) := (blk_cell BK324.out 1).trans rfl; have hcz36_2 : w31.cell? ⟨gb324, 2, none⟩ = some (.bool false) := (blk_cell BK324.out 2).trans rfl; have hcz36_3 : w31.cell? ⟨gb324, 3, none⟩ = some (.int .i64 0) := (blk_cell BK324.out 3).trans rfl; have hcz36_4 : w31.cell? ⟨gb324, 4, none⟩ = some (.string (⟨#[]⟩ : ByteArray)) := (blk_cell BK324.out 4).trans rfl; have hcz36_5 : w31.cell? ⟨gb324, 5, none⟩ = some (.int .i64 0) := (blk_cell BK324.out 5).trans rfl; have hcz36_6 : w31.cell? ⟨gb324, 6, none⟩ = some (.int .i64 0) := (blk_cell BK324.out 6).trans rfl; have hcz36_7 : w31.cell? ⟨gb324, 7, none⟩ = some (.int .i64 0) := (blk_cell BK324.out 7).trans rfl; have hfz36_0 := blk_frozen BK324.out 0; have hfz36_1 := blk_frozen BK324.out 1; have hfz36_2 := blk_frozen BK324.out 2; have hfz36_3 := blk_frozen BK324.out 3; have hfz36_4 := blk_frozen BK324.out 4; have hfz36_5 := blk_frozen BK324.out 5; have hfz36_6 := blk_frozen BK324.out 6; have hfz36_7 := blk_frozen BK324.out 7))
  (try simp only [Act.put, List.setIfInBounds_toArray, List.set_cons_zero, List.set_cons_succ])
  go_cut [40] (fun v40 wc => ∃ (kq : Nat) (x40_10 : Bool), v40 = .bool x40_10 ∧ Aside0 (laws_FnExactGiveUp.j0 kq t300 t323 x40_10 l0_0 a0_1 a0_2 a0_3 a0_4 a0_5 a0_6 a0_7 t290 t293 t294 t295 t296 t297 t298 t299 t302 t305 t306 t307 t308 t309 t310 t311 t313 t316 t317 t318 t319 t320 t321 t322 = some r) ∧ Aside0 (kq ≤ k) ∧ Aside0 (Kd.R k35 35 wc w.heap.size (fun k_ => some k_ ≠ ((.slice Ao26 t302.length co26) : Value).ownBlock ∧ some k_ ≠ ((.slice Ao32 t313.length co32) : Value).ownBlock) (.slice Ao20 t290.length co20) t290) ∧ Aside0 (Kd.R k35 35 wc w.heap.size (fun k_ => some k_ ≠ ((.slice Ao20 t290.length co20) : Value).ownBlock ∧ some k_ ≠ ((.slice Ao32 t313.length co32) : Value).ownBlock) (.slice Ao26 t302.length co26) t302) ∧ Aside0 (Kd.R k35 35 wc w.heap.size (fun k_ => some k_ ≠ ((.slice Ao20 t290.length co20) : Value).ownBlock ∧ some k_ ≠ ((.slice Ao26 t302.length co26) : Value).ownBlock) (.slice Ao32 t313.length co32) t313) ∧ Aside0 (wc.heap[gb278]? = some (.cells #[(.slice A0_0 l0_0.length c0_0), .int .i64 a0_1, .bool a0_2, .int .i64 a0_3, .string a0_4, .int .i64 a0_5, .int .i64 a0_6, .int .i64 a0_7] 60 (0, 0))) ∧ Aside0 (wc.heap[gb301]? = some (.cells #[(.slice Ao20 t290.length co20), .int .i64 t293, .bool t294, .int .i64 t295, .string t296, .int .i64 t297, .int .i64 t298, .int .i64 t299] 41 (0, 0))) ∧ Aside0 (wc.heap[gb312]? = some (.cells #[(.slice Ao26 t302.length co26), .int .i64 t305, .bool t306, .int .i64 t307, .string t308, .int .i64 t309, .int .i64 t310, .int .i64 t311] 41 (0, 0))) ∧ Aside0 (wc.heap[gb324]? = some (.cells #[(.slice Ao32 t313.length co32), .int .i64 t316, .bool t317, .int .i64 t318, .string t319, .int .i64 t320, .int .i64 t321, .int .i64 t322] 41 (0, 0))) ∧ Aside0 (Below w.heap.size w wc))
  case first =>
   have H := HC11.out
   clear HC11
   replace H := Option.bind_eq_some_iff.mp H
   obtain ⟨t325, A370, H⟩ := H
   try dsimp only at H
   have A37 := Aside0.mk A370
   clear A370
   by_cases c38 : t325 = true
   ·
    subst c38
    rw [if_pos rfl] at H
    have H' := Aside0.mk H
    clear H
    have hnb39 := NB324_278.out
    have hnc39 := NB278_324.out
    have hnb40 := NB324_301.out
    have hnc40 := NB301_324.out
    have hnb41 := NB324_312.out
    have hnc41 := NB312_324.out
    have hcz42_0 : w31.cell? ⟨gb324, 0, none⟩ = some (.slice none 0 0) := (blk_cell BK324.out 0).trans rfl
    have hcz42_1 : w31.cell? ⟨gb324, 1, none⟩ = some (.int .i64 0) := (blk_cell BK324.out 1).trans rfl
    have hcz42_2 : w31.cell? ⟨gb324, 2, none⟩ = some (.bool false) := (blk_cell BK324.out 2).trans rfl
    have hcz42_3 : w31.cell? ⟨gb324, 3, none⟩ = some (.int .i64 0) := (blk_cell BK324.out 3).trans rfl
    have hcz42_4 : w31.cell? ⟨gb324, 4, none⟩ = some (.string (⟨#[]⟩ : ByteArray)) := (blk_cell BK324.out 4).trans rfl
    have hcz42_5 : w31.cell? ⟨gb324, 5, none⟩ = some (.int .i64 0) := (blk_cell BK324.out 5).trans rfl
    have hcz42_6 : w31.cell? ⟨gb324, 6, none⟩ = some (.int .i64 0) := (blk_cell BK324.out 6).trans rfl
    have hcz42_7 : w31.cell? ⟨gb324, 7, none⟩ = some (.int .i64 0) := (blk_cell BK324.out 7).trans rfl
    have hfz42_0 := blk_frozen BK324.out 0
    have hfz42_1 := blk_frozen BK324.out 1
    have hfz42_2 := blk_frozen BK324.out 2
    have hfz42_3 := blk_frozen BK324.out 3
    have hfz42_4 := blk_frozen BK324.out 4
    have hfz42_5 := blk_frozen BK324.out 5
    have hfz42_6 := blk_frozen BK324.out 6
    have hfz42_7 := blk_frozen BK324.out 7
    have hnb43 := NB301_278.out
    have hnc43 := NB278_301.out
    have hnb44 := NB301_312.out
    have hnc44 := NB312_301.out
    have hcz45_0 : w31.cell? ⟨gb301, 0, none⟩ = some (.slice Ao20 t290.length co20) := (blk_cell BK301.out 0).trans rfl
    have hcz45_1 : w31.cell? ⟨gb301, 1, none⟩ = some (.int .i64 t293) := (blk_cell BK301.out 1).trans rfl
    have hcz45_2 : w31.cell? ⟨gb301, 2, none⟩ = some (.bool t294) := (blk_cell BK301.out 2).trans rfl
    have hcz45_3 : w31.cell? ⟨gb301, 3, none⟩ = some (.int .i64 t295) := (blk_cell BK301.out 3).trans rfl
    have hcz45_4 : w31.cell? ⟨gb301, 4, none⟩ = some (.string t296) := (blk_cell BK301.out 4).trans rfl
    have hcz45_5 : w31.cell? ⟨gb301, 5, none⟩ = some (.int .i64 t297) := (blk_cell BK301.out 5).trans rfl
    have hcz45_6 : w31.cell? ⟨gb301, 6, none⟩ = some (.int .i64 t298) := (blk_cell BK301.out 6).trans rfl
    have hcz45_7 : w31.cell? ⟨gb301, 7, none⟩ = some (.int .i64 t299) := (blk_cell BK301.out 7).trans rfl
    have hfz45_0 := blk_frozen BK301.out 0
    have hfz45_1 := blk_frozen BK301.out 1
    have hfz45_2 := blk_frozen BK301.out 2
    have hfz45_3 := blk_frozen BK301.out 3
    have hfz45_4 := blk_frozen BK301.out 4
    have hfz45_5 := blk_frozen BK301.out 5
    have hfz45_6 := blk_frozen BK301.out 6
    have hfz45_7 := blk_frozen BK301.out 7
    go_wp2_with (first | ((with_reducible refine gate_callee (f := 39) rfl ?_); refine goesL_ (some 34) rfl rfl Try.func39 (by kernel_rfl) rfl #[.agg #[.slice Ao32 t313.length co32, .int .i64 t316, .bool t317, .int .i64 t318, .string t319, .int .i64 t320, .int .i64 t321, .int .i64 t322], .agg #[.slice Ao20 t290.length co20, .int .i64 t293, .bool t294, .int .i64 t295, .string t296, .int .i64 t297, .int .i64 t298, .int .i64 t299]] rfl (by (try simp only [List.map_toArray, List.map_cons, List.map_nil]); first | done | rfl | (simp only [List.length_drop, List.length_take]; rfl)) ?_; (with_reducible refine (laws_eqCaller.calls k _ _ t313 t316 t317 t318 t319 t320 t321 t322 _ _ t290 t293 t294 t295 t296 t297 t298 t299 true _ ?side1 ?side2 ?side3 ?side4 A37.out).mono ?_); (case side1 => refine (Kd.R_reads' (e := 35) (base := w.heap.size) (ok := fun k_ => (((True ∧ some k_ ≠ (.slice Ao17 t280.length co17 : Value).ownBlock) ∧ some k_ ≠ (.slice Ao20 t290.length co20 : Value).ownBlock) ∧ some k_ ≠ (.slice Ao26 t302.length co26 : Value).ownBlock)) (n := t313.length) (c := co32) ?_).2.2; exact (by (with_reducible repeat (first | apply Kd.R_alloc | apply Kd.R_drewN | apply Kd.R_drew)); exact (Kd.R_mono (Kd.R_far (p := ⟨gb324, 7, none⟩) (Kd.R_far (p := ⟨gb324, 6, none⟩) (Kd.R_far (p := ⟨gb324, 5, none⟩) (Kd.R_far (p := ⟨gb324, 4, none⟩) (Kd.R_far (p := ⟨gb324, 3, none⟩) (Kd.R_far (p := ⟨gb324, 2, none⟩) (Kd.R_far (p := ⟨gb324, 1, none⟩) (Kd.R_far (p := ⟨gb324, 0, none⟩) (Kd.R_types HO315.out BK324.out (by decide)) (fun _ hk => hk.2) (.slice Ao32 t313.length co32)) (fun _ hk => hk.2) (.int .i64 t316)) (fun _ hk => hk.2) (.bool t317)) (fun _ hk => hk.2) (.int .i64 t318)) (fun _ hk => hk.2) (.string t319)) (fun _ hk => hk.2) (.int .i64 t320)) (fun _ hk => hk.2) (.int .i64 t321)) (fun _ hk => hk.2) (.int .i64 t322)) (fun _ h_ => h_.1)))); (case side2 => exact (Kd.R_reads' HO315.out).2.1); (case side3 => refine (Kd.R_reads' (e := 35) (base := w.heap.size) (ok := fun k_ => (((True ∧ some k_ ≠ (.slice Ao17 t280.length co17 : Value).ownBlock) ∧ some k_ ≠ (.slice Ao26 t302.length co26 : Value).ownBlock) ∧ some k_ ≠ (.slice Ao32 t313.length co32 : Value).ownBlock)) (n := t290.length) (c := co20) ?_).2.2; exact (by (with_reducible repeat (first | apply Kd.R_alloc | apply Kd.R_drewN | apply Kd.R_drew)); exact (Kd.R_mono (Kd.R_far (p := ⟨gb324, 7, none⟩) (Kd.R_far (p := ⟨gb324, 6, none⟩) (Kd.R_far (p := ⟨gb324, 5, none⟩) (Kd.R_far (p := ⟨gb324, 4, none⟩) (Kd.R_far (p := ⟨gb324, 3, none⟩) (Kd.R_far (p := ⟨gb324, 2, none⟩) (Kd.R_far (p := ⟨gb324, 1, none⟩) (Kd.R_far (p := ⟨gb324, 0, none⟩) (Kd.R_types HO292.out BK324.out (by decide)) (fun _ hk => hk.2) (.slice Ao32 t313.length co32)) (fun _ hk => hk.2) (.int .i64 t316)) (fun _ hk => hk.2) (.bool t317)) (fun _ hk => hk.2) (.int .i64 t318)) (fun _ hk => hk.2) (.string t319)) (fun _ hk => hk.2) (.int .i64 t320)) (fun _ hk => hk.2) (.int .i64 t321)) (fun _ hk => hk.2) (.int .i64 t322)) (fun _ h_ => h_.1)))); (case side4 => exact (Kd.R_reads' HO292.out).2.1); rintro e w46 ⟨rfl, hb⟩; refine ⟨_, rfl, ?_⟩; have n0_ := Aside0.mk (Kd.R_below (by (with_reducible repeat (first | apply Kd.R_alloc | apply Kd.R_drewN | apply Kd.R_drew)); exact (Kd.R_mono (Kd.R_far (p := ⟨gb324, 7, none⟩) (Kd.R_far (p := ⟨gb324, 6, none⟩) (Kd.R_far (p := ⟨gb324, 5, none⟩) (Kd.R_far (p := ⟨gb324, 4, none⟩) (Kd.R_far (p := ⟨gb324, 3, none⟩) (Kd.R_far (p := ⟨gb324, 2, none⟩) (Kd.R_far (p := ⟨gb324, 1, none⟩) (Kd.R_far (p := ⟨gb324, 0, none⟩) (Kd.R_types HO282.out BK324.out (by decide)) (fun _ hk => hk.2) (.slice Ao32 t313.length co32)) (fun _ hk => hk.2) (.int .i64 t316)) (fun _ hk => hk.2) (.bool t317)) (fun _ hk => hk.2) (.int .i64 t318)) (fun _ hk => hk.2) (.string t319)) (fun _ hk => hk.2) (.int .i64 t320)) (fun _ hk => hk.2) (.int .i64 t321)) (fun _ hk => hk.2) (.int .i64 t322)) (fun _ h_ => h_.1))) hb); have n1_ := Aside0.mk (Kd.R_below (by (with_reducible repeat (first | apply Kd.R_alloc | apply Kd.R_drewN | apply Kd.R_drew)); exact (Kd.R_mono (Kd.R_far (p := ⟨gb324, 7, none⟩) (Kd.R_far (p := ⟨gb324, 6, none⟩) (Kd.R_far (p := ⟨gb324, 5, none⟩) (Kd.R_far (p := ⟨gb324, 4, none⟩) (Kd.R_far (p := ⟨gb324, 3, none⟩) (Kd.R_far (p := ⟨gb324, 2, none⟩) (Kd.R_far (p := ⟨gb324, 1, none⟩) (Kd.R_far (p := ⟨gb324, 0, none⟩) (Kd.R_types HO292.out BK324.out (by decide)) (fun _ hk => hk.2) (.slice Ao32 t313.length co32)) (fun _ hk => hk.2) (.int .i64 t316)) (fun _ hk => hk.2) (.bool t317)) (fun _ hk => hk.2) (.int .i64 t318)) (fun _ hk => hk.2) (.string t319)) (fun _ hk => hk.2) (.int .i64 t320)) (fun _ hk => hk.2) (.int .i64 t321)) (fun _ hk => hk.2) (.int .i64 t322)) (fun _ h_ => h_.1))) hb); have n2_ := Aside0.mk (Kd.R_below (by (with_reducible repeat (first | apply Kd.R_alloc | apply Kd.R_drewN | apply Kd.R_drew)); exact (Kd.R_mono (Kd.R_far (p := ⟨gb324, 7, none⟩) (Kd.R_far (p := ⟨gb324, 6, none⟩) (Kd.R_far (p := ⟨gb324, 5, none⟩) (Kd.R_far (p := ⟨gb324, 4, none⟩) (Kd.R_far (p := ⟨gb324, 3, none⟩) (Kd.R_far (p := ⟨gb324, 2, none⟩) (Kd.R_far (p := ⟨gb324, 1, none⟩) (Kd.R_far (p := ⟨gb324, 0, none⟩) (Kd.R_types HO304.out BK324.out (by decide)) (fun _ hk => hk.2) (.slice Ao32 t313.length co32)) (fun _ hk => hk.2) (.int .i64 t316)) (fun _ hk => hk.2) (.bool t317)) (fun _ hk => hk.2) (.int .i64 t318)) (fun _ hk => hk.2) (.string t319)) (fun _ hk => hk.2) (.int .i64 t320)) (fun _ hk => hk.2) (.int .i64 t321)) (fun _ hk => hk.2) (.int .i64 t322)) (fun _ h_ => h_.1))) hb); have n3_ := Aside0.mk (Kd.R_below (by (with_reducible repeat (first | apply Kd.R_alloc | apply Kd.R_drewN | apply Kd.R_drew)); exact (Kd.R_mono (Kd.R_far (p := ⟨gb324, 7, none⟩) (Kd.R_far (p := ⟨gb324, 6, none⟩) (Kd.R_far (p := ⟨gb324, 5, none⟩) (Kd.R_far (p := ⟨gb324, 4, none⟩) (Kd.R_far (p := ⟨gb324, 3, none⟩) (Kd.R_far (p := ⟨gb324, 2, none⟩) (Kd.R_far (p := ⟨gb324, 1, none⟩) (Kd.R_far (p := ⟨gb324, 0, none⟩) (Kd.R_types HO315.out BK324.out (by decide)) (fun _ hk => hk.2) (.slice Ao32 t313.length co32)) (fun _ hk => hk.2) (.int .i64 t316)) (fun _ hk => hk.2) (.bool t317)) (fun _ hk => hk.2) (.int .i64 t318)) (fun _ hk => hk.2) (.string t319)) (fun _ hk => hk.2) (.int .i64 t320)) (fun _ hk => hk.2) (.int .i64 t321)) (fun _ hk => hk.2) (.int .i64 t322)) (fun _ h_ => h_.1))) hb); have n4_ := Aside0.mk (blk_below (g := gb278) (o := .cells #[.slice A0_0 l0_0.length c0_0, .int .i64 a0_1, .bool a0_2, .int .i64 a0_3, .string a0_4, .int .i64 a0_5, .int .i64 a0_6, .int .i64 a0_7] 60 (0, 0)) (by (with_reducible repeat (first | refine blk_drewN ?_ _ | refine blk_drew ?_ | refine blk_alloc ?_ _)); refine blk_far ?_ NB278_324.out _; (with_reducible repeat (first | refine blk_drewN ?_ _ | refine blk_drew ?_ | refine blk_alloc ?_ _)); refine blk_far ?_ NB278_324.out _; (with_reducible repeat (first | refine blk_drewN ?_ _ | refine blk_drew ?_ | refine blk_alloc ?_ _)); refine blk_far ?_ NB278_324.out _; (with_reducible repeat (first | refine blk_drewN ?_ _ | refine blk_drew ?_ | refine blk_alloc ?_ _)); refine blk_far ?_ NB278_324.out _; (with_reducible repeat (first | refine blk_drewN ?_ _ | refine blk_drew ?_ | refine blk_alloc ?_ _)); refine blk_far ?_ NB278_324.out _; (with_reducible repeat (first | refine blk_drewN ?_ _ | refine blk_drew ?_ | refine blk_alloc ?_ _)); refine blk_far ?_ NB278_324.out _; (with_reducible repeat (first | refine blk_drewN ?_ _ | refine blk_drew ?_ | refine blk_alloc ?_ _)); refine blk_far ?_ NB278_324.out _; (with_reducible repeat (first | refine blk_drewN ?_ _ | refine blk_drew ?_ | refine blk_alloc ?_ _)); refine blk_far ?_ NB278_324.out _; (with_reducible repeat (first | refine blk_drewN ?_ _ | refine blk_drew ?_ | refine blk_alloc ?_ _)); exact BK278.out) hb); have n5_ := Aside0.mk (blk_below (g := gb301) (o := .cells #[.slice Ao20 t290.length co20, .int .i64 t293, .bool t294, .int .i64 t295, .string t296, .int .i64 t297, .int .i64 t298, .int .i64 t299] 41 (0, 0)) (by (with_reducible repeat (first | refine blk_drewN ?_ _ | refine blk_drew ?_ | refine blk_alloc ?_ _)); refine blk_far ?_ NB301_324.out _; (with_reducible repeat (first | refine blk_drewN ?_ _ | refine blk_drew ?_ | refine blk_alloc ?_ _)); refine blk_far ?_ NB301_324.out _; (with_reducible repeat (first | refine blk_drewN ?_ _ | refine blk_drew ?_ | refine blk_alloc ?_ _)); refine blk_far ?_ NB301_324.out _; (with_reducible repeat (first | refine blk_drewN ?_ _ | refine blk_drew ?_ | refine blk_alloc ?_ _)); refine blk_far ?_ NB301_324.out _; (with_reducible repeat (first | refine blk_drewN ?_ _ | refine blk_drew ?_ | refine blk_alloc ?_ _)); refine blk_far ?_ NB301_324.out _; (with_reducible repeat (first | refine blk_drewN ?_ _ | refine blk_drew ?_ | refine blk_alloc ?_ _)); refine blk_far ?_ NB301_324.out _; (with_reducible repeat (first | refine blk_drewN ?_ _ | refine blk_drew ?_ | refine blk_alloc ?_ _)); refine blk_far ?_ NB301_324.out _; (with_reducible repeat (first | refine blk_drewN ?_ _ | refine blk_drew ?_ | refine blk_alloc ?_ _)); refine blk_far ?_ NB301_324.out _; (with_reducible repeat (first | refine blk_drewN ?_ _ | refine blk_drew ?_ | refine blk_alloc ?_ _)); exact BK301.out) hb); have n6_ := Aside0.mk (blk_below (g := gb312) (o := .cells #[.slice Ao26 t302.length co26, .int .i64 t305, .bool t306, .int .i64 t307, .string t308, .int .i64 t309, .int .i64 t310, .int .i64 t311] 41 (0, 0)) (by (with_reducible repeat (first | refine blk_drewN ?_ _ | refine blk_drew ?_ | refine blk_alloc ?_ _)); refine blk_far ?_ NB312_324.out _; (with_reducible repeat (first | refine blk_drewN ?_ _ | refine blk_drew ?_ | refine blk_alloc ?_ _)); refine blk_far ?_ NB312_324.out _; (with_reducible repeat (first | refine blk_drewN ?_ _ | refine blk_drew ?_ | refine blk_alloc ?_ _)); refine blk_far ?_ NB312_324.out _; (with_reducible repeat (first | refine blk_drewN ?_ _ | refine blk_drew ?_ | refine blk_alloc ?_ _)); refine blk_far ?_ NB312_324.out _; (with_reducible repeat (first | refine blk_drewN ?_ _ | refine blk_drew ?_ | refine blk_alloc ?_ _)); refine blk_far ?_ NB312_324.out _; (with_reducible repeat (first | refine blk_drewN ?_ _ | refine blk_drew ?_ | refine blk_alloc ?_ _)); refine blk_far ?_ NB312_324.out _; (with_reducible repeat (first | refine blk_drewN ?_ _ | refine blk_drew ?_ | refine blk_alloc ?_ _)); refine blk_far ?_ NB312_324.out _; (with_reducible repeat (first | refine blk_drewN ?_ _ | refine blk_drew ?_ | refine blk_alloc ?_ _)); refine blk_far ?_ NB312_324.out _; (with_reducible repeat (first | refine blk_drewN ?_ _ | refine blk_drew ?_ | refine blk_alloc ?_ _)); exact BK312.out) hb); have n7_ := Aside0.mk (blk_below (g := gb324) (o := .cells #[.slice Ao32 t313.length co32, .int .i64 t316, .bool t317, .int .i64 t318, .string t319, .int .i64 t320, .int .i64 t321, .int .i64 t322] 41 (0, 0)) (by (with_reducible repeat (first | refine blk_drewN ?_ _ | refine blk_drew ?_ | refine blk_alloc ?_ _)); refine blk_put (cs := #[.slice Ao32 t313.length co32, .int .i64 t316, .bool t317, .int .i64 t318, .string t319, .int .i64 t320, .int .i64 t321, .int .i64 0]) ?_ 7 _ rfl; (with_reducible repeat (first | refine blk_drewN ?_ _ | refine blk_drew ?_ | refine blk_alloc ?_ _)); refine blk_put (cs := #[.slice Ao32 t313.length co32, .int .i64 t316, .bool t317, .int .i64 t318, .string t319, .int .i64 t320, .int .i64 0, .int .i64 0]) ?_ 6 _ rfl; (with_reducible repeat (first | refine blk_drewN ?_ _ | refine blk_drew ?_ | refine blk_alloc ?_ _)); refine blk_put (cs := #[.slice Ao32 t313.length co32, .int .i64 t316, .bool t317, .int .i64 t318, .string t319, .int .i64 0, .int .i64 0, .int .i64 0]) ?_ 5 _ rfl; (with_reducible repeat (first | refine blk_drewN ?_ _ | refine blk_drew ?_ | refine blk_alloc ?_ _)); refine blk_put (cs := #[.slice Ao32 t313.length co32, .int .i64 t316, .bool t317, .int .i64 t318, .string (⟨#[]⟩ : ByteArray), .int .i64 0, .int .i64 0, .int .i64 0]) ?_ 4 _ rfl; (with_reducible repeat (first | refine blk_drewN ?_ _ | refine blk_drew ?_ | refine blk_alloc ?_ _)); refine blk_put (cs := #[.slice Ao32 t313.length co32, .int .i64 t316, .bool t317, .int .i64 0, .string (⟨#[]⟩ : ByteArray), .int .i64 0, .int .i64 0, .int .i64 0]) ?_ 3 _ rfl; (with_reducible repeat (first | refine blk_drewN ?_ _ | refine blk_drew ?_ | refine blk_alloc ?_ _)); refine blk_put (cs := #[.slice Ao32 t313.length co32, .int .i64 t316, .bool false, .int .i64 0, .string (⟨#[]⟩ : ByteArray), .int .i64 0, .int .i64 0, .int .i64 0]) ?_ 2 _ rfl; (with_reducible repeat (first | refine blk_drewN ?_ _ | refine blk_drew ?_ | refine blk_alloc ?_ _)); refine blk_put (cs := #[.slice Ao32 t313.length co32, .int .i64 0, .bool false, .int .i64 0, .string (⟨#[]⟩ : ByteArray), .int .i64 0, .int .i64 0, .int .i64 0]) ?_ 1 _ rfl; (with_reducible repeat (first | refine blk_drewN ?_ _ | refine blk_drew ?_ | refine blk_alloc ?_ _)); refine blk_put (cs := #[.slice none 0 0, .int .i64 0, .bool false, .int .i64 0, .string (⟨#[]⟩ : ByteArray), .int .i64 0, .int .i64 0, .int .i64 0]) ?_ 0 _ rfl; (with_reducible repeat (first | refine blk_drewN ?_ _ | refine blk_drew ?_ | refine blk_alloc ?_ _)); exact BK324.out) hb); have n8_ := Aside0.mk (below_step (bz) hb); clear HO282; clear HO292; clear HO304; clear HO315; clear BK278; clear BK301; clear BK312; clear BK324; clear HB; have HO282 := n0_; have HO292 := n1_; have HO304 := n2_; have HO315 := n3_; have BK278 := n4_; have BK301 := n5_; have BK312 := n6_; have BK324 := n7_; have HB := n8_; clear n0_ n1_ n2_ n3_ n4_ n5_ n6_ n7_ n8_; (try clear hb); (try clear hb2); (try clear hk); (try clear hi)))
    go_meet
    case rel => exact ⟨_, ((t323 != t300)), (by first | rfl | (simp; done) | exact congrArg Value.bool (ne_nil_b _) | exact congrArg Value.bool (eq_nil_b _) | (simp [*]; done)), H', ⟨by first | omega | exact Nat.le_refl _⟩, ⟨by (with_reducible repeat (first | apply Kd.R_alloc | apply Kd.R_drewN | apply Kd.R_drew)); exact Kd.R_mono HO292.out (fun _ hk => ⟨hk.1.2, hk.2⟩)⟩, ⟨by (with_reducible repeat (first | apply Kd.R_alloc | apply Kd.R_drewN | apply Kd.R_drew)); exact Kd.R_mono HO304.out (fun _ hk => ⟨hk.1.2, hk.2⟩)⟩, ⟨by (with_reducible repeat (first | apply Kd.R_alloc | apply Kd.R_drewN | apply Kd.R_drew)); exact Kd.R_mono HO315.out (fun _ hk => ⟨hk.1.2, hk.2⟩)⟩, ⟨by (with_reducible repeat (first | refine blk_drewN ?_ _ | refine blk_drew ?_ | refine blk_alloc ?_ _)); exact BK278.out⟩, ⟨by (with_reducible repeat (first | refine blk_drewN ?_ _ | refine blk_drew ?_ | refine blk_alloc ?_ _)); exact BK301.out⟩, ⟨by (with_reducible repeat (first | refine blk_drewN ?_ _ | refine blk_drew ?_ | refine blk_alloc ?_ _)); exact BK312.out⟩, ⟨by (with_reducible repeat (first | refine blk_drewN ?_ _ | refine blk_drew ?_ | refine blk_alloc ?_ _)); exact BK324.out⟩, ⟨bz⟩⟩
   ·
    replace c38 := Bool.eq_false_iff.mpr c38
    subst c38
    rw [if_neg (show ¬ (false = true) by decide)] at H
    have H' := Aside0.mk H
    clear H
    have hnb47 := NB324_278.out
    have hnc47 := NB278_324.out
    have hnb48 := NB324_301.out
    have hnc48 := NB301_324.out
    have hnb49 := NB324_312.out
    have hnc49 := NB312_324.out
    have hcz50_0 : w31.cell? ⟨gb324, 0, none⟩ = some (.slice none 0 0) := (blk_cell BK324.out 0).trans rfl
    have hcz50_1 : w31.cell? ⟨gb324, 1, none⟩ = some (.int .i64 0) := (blk_cell BK324.out 1).trans rfl
    have hcz50_2 : w31.cell? ⟨gb324, 2, none⟩ = some (.bool false) := (blk_cell BK324.out 2).trans rfl
    have hcz50_3 : w31.cell? ⟨gb324, 3, none⟩ = some (.int .i64 0) := (blk_cell BK324.out 3).trans rfl
    have hcz50_4 : w31.cell? ⟨gb324, 4, none⟩ = some (.string (⟨#[]⟩ : ByteArray)) := (blk_cell BK324.out 4).trans rfl
    have hcz50_5 : w31.cell? ⟨gb324, 5, none⟩ = some (.int .i64 0) := (blk_cell BK324.out 5).trans rfl
    have hcz50_6 : w31.cell? ⟨gb324, 6, none⟩ = some (.int .i64 0) := (blk_cell BK324.out 6).trans rfl
    have hcz50_7 : w31.cell? ⟨gb324, 7, none⟩ = some (.int .i64 0) := (blk_cell BK324.out 7).trans rfl
    have hfz50_0 := blk_frozen BK324.out 0
    have hfz50_1 := blk_frozen BK324.out 1
    have hfz50_2 := blk_frozen BK324.out 2
    have hfz50_3 := blk_frozen BK324.out 3
    have hfz50_4 := blk_frozen BK324.out 4
    have hfz50_5 := blk_frozen BK324.out 5
    have hfz50_6 := blk_frozen BK324.out 6
    have hfz50_7 := blk_frozen BK324.out 7
    have hnb51 := NB301_278.out
    have hnc51 := NB278_301.out
    have hnb52 := NB301_312.out
    have hnc52 := NB312_301.out
    have hcz53_0 : w31.cell? ⟨gb301, 0, none⟩ = some (.slice Ao20 t290.length co20) := (blk_cell BK301.out 0).trans rfl
    have hcz53_1 : w31.cell? ⟨gb301, 1, none⟩ = some (.int .i64 t293) := (blk_cell BK301.out 1).trans rfl
    have hcz53_2 : w31.cell? ⟨gb301, 2, none⟩ = some (.bool t294) := (blk_cell BK301.out 2).trans rfl
    have hcz53_3 : w31.cell? ⟨gb301, 3, none⟩ = some (.int .i64 t295) := (blk_cell BK301.out 3).trans rfl
    have hcz53_4 : w31.cell? ⟨gb301, 4, none⟩ = some (.string t296) := (blk_cell BK301.out 4).trans rfl
    have hcz53_5 : w31.cell? ⟨gb301, 5, none⟩ = some (.int .i64 t297) := (blk_cell BK301.out 5).trans rfl
    have hcz53_6 : w31.cell? ⟨gb301, 6, none⟩ = some (.int .i64 t298) := (blk_cell BK301.out 6).trans rfl
    have hcz53_7 : w31.cell? ⟨gb301, 7, none⟩ = some (.int .i64 t299) := (blk_cell BK301.out 7).trans rfl
    have hfz53_0 := blk_frozen BK301.out 0
    have hfz53_1 := blk_frozen BK301.out 1
    have hfz53_2 := blk_frozen BK301.out 2
    have hfz53_3 := blk_frozen BK301.out 3
    have hfz53_4 := blk_frozen BK301.out 4
    have hfz53_5 := blk_frozen BK301.out 5
    have hfz53_6 := blk_frozen BK301.out 6
    have hfz53_7 := blk_frozen BK301.out 7
    go_wp2_with (first | ((with_reducible refine gate_callee (f := 39) rfl ?_); refine goesL_ (some 34) rfl rfl Try.func39 (by kernel_rfl) rfl #[.agg #[.slice Ao32 t313.length co32, .int .i64 t316, .bool t317, .int .i64 t318, .string t319, .int .i64 t320, .int .i64 t321, .int .i64 t322], .agg #[.slice Ao20 t290.length co20, .int .i64 t293, .bool t294, .int .i64 t295, .string t296, .int .i64 t297, .int .i64 t298, .int .i64 t299]] rfl (by (try simp only [List.map_toArray, List.map_cons, List.map_nil]); first | done | rfl | (simp only [List.length_drop, List.length_take]; rfl)) ?_; (with_reducible refine (laws_eqCaller.calls k _ _ t313 t316 t317 t318 t319 t320 t321 t322 _ _ t290 t293 t294 t295 t296 t297 t298 t299 false _ ?side1 ?side2 ?side3 ?side4 A37.out).mono ?_); (case side1 => refine (Kd.R_reads' (e := 35) (base := w.heap.size) (ok := fun k_ => (((True ∧ some k_ ≠ (.slice Ao17 t280.length co17 : Value).ownBlock) ∧ some k_ ≠ (.slice Ao20 t290.length co20 : Value).ownBlock) ∧ some k_ ≠ (.slice Ao26 t302.length co26 : Value).ownBlock)) (n := t313.length) (c := co32) ?_).2.2; exact (by (with_reducible repeat (first | apply Kd.R_alloc | apply Kd.R_drewN | apply Kd.R_drew)); exact (Kd.R_mono (Kd.R_far (p := ⟨gb324, 7, none⟩) (Kd.R_far (p := ⟨gb324, 6, none⟩) (Kd.R_far (p := ⟨gb324, 5, none⟩) (Kd.R_far (p := ⟨gb324, 4, none⟩) (Kd.R_far (p := ⟨gb324, 3, none⟩) (Kd.R_far (p := ⟨gb324, 2, none⟩) (Kd.R_far (p := ⟨gb324, 1, none⟩) (Kd.R_far (p := ⟨gb324, 0, none⟩) (Kd.R_types HO315.out BK324.out (by decide)) (fun _ hk => hk.2) (.slice Ao32 t313.length co32)) (fun _ hk => hk.2) (.int .i64 t316)) (fun _ hk => hk.2) (.bool t317)) (fun _ hk => hk.2) (.int .i64 t318)) (fun _ hk => hk.2) (.string t319)) (fun _ hk => hk.2) (.int .i64 t320)) (fun _ hk => hk.2) (.int .i64 t321)) (fun _ hk => hk.2) (.int .i64 t322)) (fun _ h_ => h_.1)))); (case side2 => exact (Kd.R_reads' HO315.out).2.1); (case side3 => refine (Kd.R_reads' (e := 35) (base := w.heap.size) (ok := fun k_ => (((True ∧ some k_ ≠ (.slice Ao17 t280.length co17 : Value).ownBlock) ∧ some k_ ≠ (.slice Ao26 t302.length co26 : Value).ownBlock) ∧ some k_ ≠ (.slice Ao32 t313.length co32 : Value).ownBlock)) (n := t290.length) (c := co20) ?_).2.2; exact (by (with_reducible repeat (first | apply Kd.R_alloc | apply Kd.R_drewN | apply Kd.R_drew)); exact (Kd.R_mono (Kd.R_far (p := ⟨gb324, 7, none⟩) (Kd.R_far (p := ⟨gb324, 6, none⟩) (Kd.R_far (p := ⟨gb324, 5, none⟩) (Kd.R_far (p := ⟨gb324, 4, none⟩) (Kd.R_far (p := ⟨gb324, 3, none⟩) (Kd.R_far (p := ⟨gb324, 2, none⟩) (Kd.R_far (p := ⟨gb324, 1, none⟩) (Kd.R_far (p := ⟨gb324, 0, none⟩) (Kd.R_types HO292.out BK324.out (by decide)) (fun _ hk => hk.2) (.slice Ao32 t313.length co32)) (fun _ hk => hk.2) (.int .i64 t316)) (fun _ hk => hk.2) (.bool t317)) (fun _ hk => hk.2) (.int .i64 t318)) (fun _ hk => hk.2) (.string t319)) (fun _ hk => hk.2) (.int .i64 t320)) (fun _ hk => hk.2) (.int .i64 t321)) (fun _ hk => hk.2) (.int .i64 t322)) (fun _ h_ => h_.1)))); (case side4 => exact (Kd.R_reads' HO292.out).2.1); rintro e w54 ⟨rfl, hb⟩; refine ⟨_, rfl, ?_⟩; have n0_ := Aside0.mk (Kd.R_below (by (with_reducible repeat (first | apply Kd.R_alloc | apply Kd.R_drewN | apply Kd.R_drew)); exact (Kd.R_mono (Kd.R_far (p := ⟨gb324, 7, none⟩) (Kd.R_far (p := ⟨gb324, 6, none⟩) (Kd.R_far (p := ⟨gb324, 5, none⟩) (Kd.R_far (p := ⟨gb324, 4, none⟩) (Kd.R_far (p := ⟨gb324, 3, none⟩) (Kd.R_far (p := ⟨gb324, 2, none⟩) (Kd.R_far (p := ⟨gb324, 1, none⟩) (Kd.R_far (p := ⟨gb324, 0, none⟩) (Kd.R_types HO282.out BK324.out (by decide)) (fun _ hk => hk.2) (.slice Ao32 t313.length co32)) (fun _ hk => hk.2) (.int .i64 t316)) (fun _ hk => hk.2) (.bool t317)) (fun _ hk => hk.2) (.int .i64 t318)) (fun _ hk => hk.2) (.string t319)) (fun _ hk => hk.2) (.int .i64 t320)) (fun _ hk => hk.2) (.int .i64 t321)) (fun _ hk => hk.2) (.int .i64 t322)) (fun _ h_ => h_.1))) hb); have n1_ := Aside0.mk (Kd.R_below (by (with_reducible repeat (first | apply Kd.R_alloc | apply Kd.R_drewN | apply Kd.R_drew)); exact (Kd.R_mono (Kd.R_far (p := ⟨gb324, 7, none⟩) (Kd.R_far (p := ⟨gb324, 6, none⟩) (Kd.R_far (p := ⟨gb324, 5, none⟩) (Kd.R_far (p := ⟨gb324, 4, none⟩) (Kd.R_far (p := ⟨gb324, 3, none⟩) (Kd.R_far (p := ⟨gb324, 2, none⟩) (Kd.R_far (p := ⟨gb324, 1, none⟩) (Kd.R_far (p := ⟨gb324, 0, none⟩) (Kd.R_types HO292.out BK324.out (by decide)) (fun _ hk => hk.2) (.slice Ao32 t313.length co32)) (fun _ hk => hk.2) (.int .i64 t316)) (fun _ hk => hk.2) (.bool t317)) (fun _ hk => hk.2) (.int .i64 t318)) (fun _ hk => hk.2) (.string t319)) (fun _ hk => hk.2) (.int .i64 t320)) (fun _ hk => hk.2) (.int .i64 t321)) (fun _ hk => hk.2) (.int .i64 t322)) (fun _ h_ => h_.1))) hb); have n2_ := Aside0.mk (Kd.R_below (by (with_reducible repeat (first | apply Kd.R_alloc | apply Kd.R_drewN | apply Kd.R_drew)); exact (Kd.R_mono (Kd.R_far (p := ⟨gb324, 7, none⟩) (Kd.R_far (p := ⟨gb324, 6, none⟩) (Kd.R_far (p := ⟨gb324, 5, none⟩) (Kd.R_far (p := ⟨gb324, 4, none⟩) (Kd.R_far (p := ⟨gb324, 3, none⟩) (Kd.R_far (p := ⟨gb324, 2, none⟩) (Kd.R_far (p := ⟨gb324, 1, none⟩) (Kd.R_far (p := ⟨gb324, 0, none⟩) (Kd.R_types HO304.out BK324.out (by decide)) (fun _ hk => hk.2) (.slice Ao32 t313.length co32)) (fun _ hk => hk.2) (.int .i64 t316)) (fun _ hk => hk.2) (.bool t317)) (fun _ hk => hk.2) (.int .i64 t318)) (fun _ hk => hk.2) (.string t319)) (fun _ hk => hk.2) (.int .i64 t320)) (fun _ hk => hk.2) (.int .i64 t321)) (fun _ hk => hk.2) (.int .i64 t322)) (fun _ h_ => h_.1))) hb); have n3_ := Aside0.mk (Kd.R_below (by (with_reducible repeat (first | apply Kd.R_alloc | apply Kd.R_drewN | apply Kd.R_drew)); exact (Kd.R_mono (Kd.R_far (p := ⟨gb324, 7, none⟩) (Kd.R_far (p := ⟨gb324, 6, none⟩) (Kd.R_far (p := ⟨gb324, 5, none⟩) (Kd.R_far (p := ⟨gb324, 4, none⟩) (Kd.R_far (p := ⟨gb324, 3, none⟩) (Kd.R_far (p := ⟨gb324, 2, none⟩) (Kd.R_far (p := ⟨gb324, 1, none⟩) (Kd.R_far (p := ⟨gb324, 0, none⟩) (Kd.R_types HO315.out BK324.out (by decide)) (fun _ hk => hk.2) (.slice Ao32 t313.length co32)) (fun _ hk => hk.2) (.int .i64 t316)) (fun _ hk => hk.2) (.bool t317)) (fun _ hk => hk.2) (.int .i64 t318)) (fun _ hk => hk.2) (.string t319)) (fun _ hk => hk.2) (.int .i64 t320)) (fun _ hk => hk.2) (.int .i64 t321)) (fun _ hk => hk.2) (.int .i64 t322)) (fun _ h_ => h_.1))) hb); have n4_ := Aside0.mk (blk_below (g := gb278) (o := .cells #[.slice A0_0 l0_0.length c0_0, .int .i64 a0_1, .bool a0_2, .int .i64 a0_3, .string a0_4, .int .i64 a0_5, .int .i64 a0_6, .int .i64 a0_7] 60 (0, 0)) (by (with_reducible repeat (first | refine blk_drewN ?_ _ | refine blk_drew ?_ | refine blk_alloc ?_ _)); refine blk_far ?_ NB278_324.out _; (with_reducible repeat (first | refine blk_drewN ?_ _ | refine blk_drew ?_ | refine blk_alloc ?_ _)); refine blk_far ?_ NB278_324.out _; (with_reducible repeat (first | refine blk_drewN ?_ _ | refine blk_drew ?_ | refine blk_alloc ?_ _)); refine blk_far ?_ NB278_324.out _; (with_reducible repeat (first | refine blk_drewN ?_ _ | refine blk_drew ?_ | refine blk_alloc ?_ _)); refine blk_far ?_ NB278_324.out _; (with_reducible repeat (first | refine blk_drewN ?_ _ | refine blk_drew ?_ | refine blk_alloc ?_ _)); refine blk_far ?_ NB278_324.out _; (with_reducible repeat (first | refine blk_drewN ?_ _ | refine blk_drew ?_ | refine blk_alloc ?_ _)); refine blk_far ?_ NB278_324.out _; (with_reducible repeat (first | refine blk_drewN ?_ _ | refine blk_drew ?_ | refine blk_alloc ?_ _)); refine blk_far ?_ NB278_324.out _; (with_reducible repeat (first | refine blk_drewN ?_ _ | refine blk_drew ?_ | refine blk_alloc ?_ _)); refine blk_far ?_ NB278_324.out _; (with_reducible repeat (first | refine blk_drewN ?_ _ | refine blk_drew ?_ | refine blk_alloc ?_ _)); exact BK278.out) hb); have n5_ := Aside0.mk (blk_below (g := gb301) (o := .cells #[.slice Ao20 t290.length co20, .int .i64 t293, .bool t294, .int .i64 t295, .string t296, .int .i64 t297, .int .i64 t298, .int .i64 t299] 41 (0, 0)) (by (with_reducible repeat (first | refine blk_drewN ?_ _ | refine blk_drew ?_ | refine blk_alloc ?_ _)); refine blk_far ?_ NB301_324.out _; (with_reducible repeat (first | refine blk_drewN ?_ _ | refine blk_drew ?_ | refine blk_alloc ?_ _)); refine blk_far ?_ NB301_324.out _; (with_reducible repeat (first | refine blk_drewN ?_ _ | refine blk_drew ?_ | refine blk_alloc ?_ _)); refine blk_far ?_ NB301_324.out _; (with_reducible repeat (first | refine blk_drewN ?_ _ | refine blk_drew ?_ | refine blk_alloc ?_ _)); refine blk_far ?_ NB301_324.out _; (with_reducible repeat (first | refine blk_drewN ?_ _ | refine blk_drew ?_ | refine blk_alloc ?_ _)); refine blk_far ?_ NB301_324.out _; (with_reducible repeat (first | refine blk_drewN ?_ _ | refine blk_drew ?_ | refine blk_alloc ?_ _)); refine blk_far ?_ NB301_324.out _; (with_reducible repeat (first | refine blk_drewN ?_ _ | refine blk_drew ?_ | refine blk_alloc ?_ _)); refine blk_far ?_ NB301_324.out _; (with_reducible repeat (first | refine blk_drewN ?_ _ | refine blk_drew ?_ | refine blk_alloc ?_ _)); refine blk_far ?_ NB301_324.out _; (with_reducible repeat (first | refine blk_drewN ?_ _ | refine blk_drew ?_ | refine blk_alloc ?_ _)); exact BK301.out) hb); have n6_ := Aside0.mk (blk_below (g := gb312) (o := .cells #[.slice Ao26 t302.length co26, .int .i64 t305, .bool t306, .int .i64 t307, .string t308, .int .i64 t309, .int .i64 t310, .int .i64 t311] 41 (0, 0)) (by (with_reducible repeat (first | refine blk_drewN ?_ _ | refine blk_drew ?_ | refine blk_alloc ?_ _)); refine blk_far ?_ NB312_324.out _; (with_reducible repeat (first | refine blk_drewN ?_ _ | refine blk_drew ?_ | refine blk_alloc ?_ _)); refine blk_far ?_ NB312_324.out _; (with_reducible repeat (first | refine blk_drewN ?_ _ | refine blk_drew ?_ | refine blk_alloc ?_ _)); refine blk_far ?_ NB312_324.out _; (with_reducible repeat (first | refine blk_drewN ?_ _ | refine blk_drew ?_ | refine blk_alloc ?_ _)); refine blk_far ?_ NB312_324.out _; (with_reducible repeat (first | refine blk_drewN ?_ _ | refine blk_drew ?_ | refine blk_alloc ?_ _)); refine blk_far ?_ NB312_324.out _; (with_reducible repeat (first | refine blk_drewN ?_ _ | refine blk_drew ?_ | refine blk_alloc ?_ _)); refine blk_far ?_ NB312_324.out _; (with_reducible repeat (first | refine blk_drewN ?_ _ | refine blk_drew ?_ | refine blk_alloc ?_ _)); refine blk_far ?_ NB312_324.out _; (with_reducible repeat (first | refine blk_drewN ?_ _ | refine blk_drew ?_ | refine blk_alloc ?_ _)); refine blk_far ?_ NB312_324.out _; (with_reducible repeat (first | refine blk_drewN ?_ _ | refine blk_drew ?_ | refine blk_alloc ?_ _)); exact BK312.out) hb); have n7_ := Aside0.mk (blk_below (g := gb324) (o := .cells #[.slice Ao32 t313.length co32, .int .i64 t316, .bool t317, .int .i64 t318, .string t319, .int .i64 t320, .int .i64 t321, .int .i64 t322] 41 (0, 0)) (by (with_reducible repeat (first | refine blk_drewN ?_ _ | refine blk_drew ?_ | refine blk_alloc ?_ _)); refine blk_put (cs := #[.slice Ao32 t313.length co32, .int .i64 t316, .bool t317, .int .i64 t318, .string t319, .int .i64 t320, .int .i64 t321, .int .i64 0]) ?_ 7 _ rfl; (with_reducible repeat (first | refine blk_drewN ?_ _ | refine blk_drew ?_ | refine blk_alloc ?_ _)); refine blk_put (cs := #[.slice Ao32 t313.length co32, .int .i64 t316, .bool t317, .int .i64 t318, .string t319, .int .i64 t320, .int .i64 0, .int .i64 0]) ?_ 6 _ rfl; (with_reducible repeat (first | refine blk_drewN ?_ _ | refine blk_drew ?_ | refine blk_alloc ?_ _)); refine blk_put (cs := #[.slice Ao32 t313.length co32, .int .i64 t316, .bool t317, .int .i64 t318, .string t319, .int .i64 0, .int .i64 0, .int .i64 0]) ?_ 5 _ rfl; (with_reducible repeat (first | refine blk_drewN ?_ _ | refine blk_drew ?_ | refine blk_alloc ?_ _)); refine blk_put (cs := #[.slice Ao32 t313.length co32, .int .i64 t316, .bool t317, .int .i64 t318, .string (⟨#[]⟩ : ByteArray), .int .i64 0, .int .i64 0, .int .i64 0]) ?_ 4 _ rfl; (with_reducible repeat (first | refine blk_drewN ?_ _ | refine blk_drew ?_ | refine blk_alloc ?_ _)); refine blk_put (cs := #[.slice Ao32 t313.length co32, .int .i64 t316, .bool t317, .int .i64 0, .string (⟨#[]⟩ : ByteArray), .int .i64 0, .int .i64 0, .int .i64 0]) ?_ 3 _ rfl; (with_reducible repeat (first | refine blk_drewN ?_ _ | refine blk_drew ?_ | refine blk_alloc ?_ _)); refine blk_put (cs := #[.slice Ao32 t313.length co32, .int .i64 t316, .bool false, .int .i64 0, .string (⟨#[]⟩ : ByteArray), .int .i64 0, .int .i64 0, .int .i64 0]) ?_ 2 _ rfl; (with_reducible repeat (first | refine blk_drewN ?_ _ | refine blk_drew ?_ | refine blk_alloc ?_ _)); refine blk_put (cs := #[.slice Ao32 t313.length co32, .int .i64 0, .bool false, .int .i64 0, .string (⟨#[]⟩ : ByteArray), .int .i64 0, .int .i64 0, .int .i64 0]) ?_ 1 _ rfl; (with_reducible repeat (first | refine blk_drewN ?_ _ | refine blk_drew ?_ | refine blk_alloc ?_ _)); refine blk_put (cs := #[.slice none 0 0, .int .i64 0, .bool false, .int .i64 0, .string (⟨#[]⟩ : ByteArray), .int .i64 0, .int .i64 0, .int .i64 0]) ?_ 0 _ rfl; (with_reducible repeat (first | refine blk_drewN ?_ _ | refine blk_drew ?_ | refine blk_alloc ?_ _)); exact BK324.out) hb); have n8_ := Aside0.mk (below_step (bz) hb); clear HO282; clear HO292; clear HO304; clear HO315; clear BK278; clear BK301; clear BK312; clear BK324; clear HB; have HO282 := n0_; have HO292 := n1_; have HO304 := n2_; have HO315 := n3_; have BK278 := n4_; have BK301 := n5_; have BK312 := n6_; have BK324 := n7_; have HB := n8_; clear n0_ n1_ n2_ n3_ n4_ n5_ n6_ n7_ n8_; (try clear hb); (try clear hb2); (try clear hk); (try clear hi)))
    go_meet
    case rel => exact ⟨_, (true), (by first | rfl | (simp; done) | exact congrArg Value.bool (ne_nil_b _) | exact congrArg Value.bool (eq_nil_b _) | (simp [*]; done)), H', ⟨by first | omega | exact Nat.le_refl _⟩, ⟨by (with_reducible repeat (first | apply Kd.R_alloc | apply Kd.R_drewN | apply Kd.R_drew)); exact Kd.R_mono HO292.out (fun _ hk => ⟨hk.1.2, hk.2⟩)⟩, ⟨by (with_reducible repeat (first | apply Kd.R_alloc | apply Kd.R_drewN | apply Kd.R_drew)); exact Kd.R_mono HO304.out (fun _ hk => ⟨hk.1.2, hk.2⟩)⟩, ⟨by (with_reducible repeat (first | apply Kd.R_alloc | apply Kd.R_drewN | apply Kd.R_drew)); exact Kd.R_mono HO315.out (fun _ hk => ⟨hk.1.2, hk.2⟩)⟩, ⟨by (with_reducible repeat (first | refine blk_drewN ?_ _ | refine blk_drew ?_ | refine blk_alloc ?_ _)); exact BK278.out⟩, ⟨by (with_reducible repeat (first | refine blk_drewN ?_ _ | refine blk_drew ?_ | refine blk_alloc ?_ _)); exact BK301.out⟩, ⟨by (with_reducible repeat (first | refine blk_drewN ?_ _ | refine blk_drew ?_ | refine blk_alloc ?_ _)); exact BK312.out⟩, ⟨by (with_reducible repeat (first | refine blk_drewN ?_ _ | refine blk_drew ?_ | refine blk_alloc ?_ _)); exact BK324.out⟩, ⟨bz⟩⟩
  case rest =>
   clear HC11
   try clear c2
   try clear p2
   try clear c3
   try clear c3b0
   try clear c4
   try clear c5
   try clear c7
   try clear c21
   try clear c27
   try clear c28
   try clear c33
   try clear c34
   try clear c35
   try clear c36
   try clear c37
   try clear c38
   try clear c39
   try clear c40
   try clear c41
   try clear c43
   try clear c44
   try clear c47
   try clear c48
   try clear c49
   try clear c51
   try clear c52
   try clear hcz13_0
   try clear hcz13_1
   try clear hcz13_2
   try clear hcz13_3
   try clear hcz13_4
   try clear hcz13_5
   try clear hcz13_6
   try clear hcz13_7
   try clear hcz15_0
   try clear hcz15_1
   try clear hcz15_2
   try clear hcz15_3
   try clear hcz15_4
   try clear hcz15_5
   try clear hcz15_6
   try clear hcz15_7
   try clear hcz22_0
   try clear hcz22_1
   try clear hcz22_2
   try clear hcz22_3
   try clear hcz22_4
   try clear hcz22_5
   try clear hcz22_6
   try clear hcz22_7
   try clear hcz23_0
   try clear hcz23_1
   try clear hcz23_2
   try clear hcz23_3
   try clear hcz23_4
   try clear hcz23_5
   try clear hcz23_6
   try clear hcz23_7
   try clear hcz29_0
   try clear hcz29_1
   try clear hcz29_2
   try clear hcz29_3
   try clear hcz29_4
   try clear hcz29_5
   try clear hcz29_6
   try clear hcz29_7
   try clear hcz36_0
   try clear hcz36_1
   try clear hcz36_2
   try clear hcz36_3
   try clear hcz36_4
   try clear hcz36_5
   try clear hcz36_6
   try clear hcz36_7
   try clear hcz42_0
   try clear hcz42_1
   try clear hcz42_2
   try clear hcz42_3
   try clear hcz42_4
   try clear hcz42_5
   try clear hcz42_6
   try clear hcz42_7
   try clear hcz45_0
   try clear hcz45_1
   try clear hcz45_2
   try clear hcz45_3
   try clear hcz45_4
   try clear hcz45_5
   try clear hcz45_6
   try clear hcz45_7
   try clear hcz50_0
   try clear hcz50_1
   try clear hcz50_2
   try clear hcz50_3
   try clear hcz50_4
   try clear hcz50_5
   try clear hcz50_6
   try clear hcz50_7
   try clear hcz53_0
   try clear hcz53_1
   try clear hcz53_2
   try clear hcz53_3
   try clear hcz53_4
   try clear hcz53_5
   try clear hcz53_6
   try clear hcz53_7
   try clear hcz5_0
   try clear hcz5_1
   try clear hcz5_2
   try clear hcz5_3
   try clear hcz5_4
   try clear hcz5_5
   try clear hcz5_6
   try clear hcz5_7
   try clear hfz13_0
   try clear hfz13_1
   try clear hfz13_2
   try clear hfz13_3
   try clear hfz13_4
   try clear hfz13_5
   try clear hfz13_6
   try clear hfz13_7
   try clear hfz15_0
   try clear hfz15_1
   try clear hfz15_2
   try clear hfz15_3
   try clear hfz15_4
   try clear hfz15_5
   try clear hfz15_6
   try clear hfz15_7
   try clear hfz22_0
   try clear hfz22_1
   try clear hfz22_2
   try clear hfz22_3
   try clear hfz22_4
   try clear hfz22_5
   try clear hfz22_6
   try clear hfz22_7
   try clear hfz23_0
   try clear hfz23_1
   try clear hfz23_2
   try clear hfz23_3
   try clear hfz23_4
   try clear hfz23_5
   try clear hfz23_6
   try clear hfz23_7
   try clear hfz29_0
   try clear hfz29_1
   try clear hfz29_2
   try clear hfz29_3
   try clear hfz29_4
   try clear hfz29_5
   try clear hfz29_6
   try clear hfz29_7
   try clear hfz36_0
   try clear hfz36_1
   try clear hfz36_2
   try clear hfz36_3
   try clear hfz36_4
   try clear hfz36_5
   try clear hfz36_6
   try clear hfz36_7
   try clear hfz42_0
   try clear hfz42_1
   try clear hfz42_2
   try clear hfz42_3
   try clear hfz42_4
   try clear hfz42_5
   try clear hfz42_6
   try clear hfz42_7
   try clear hfz45_0
   try clear hfz45_1
   try clear hfz45_2
   try clear hfz45_3
   try clear hfz45_4
   try clear hfz45_5
   try clear hfz45_6
   try clear hfz45_7
   try clear hfz50_0
   try clear hfz50_1
   try clear hfz50_2
   try clear hfz50_3
   try clear hfz50_4
   try clear hfz50_5
   try clear hfz50_6
   try clear hfz50_7
   try clear hfz53_0
   try clear hfz53_1
   try clear hfz53_2
   try clear hfz53_3
   try clear hfz53_4
   try clear hfz53_5
   try clear hfz53_6
   try clear hfz53_7
   try clear hfz5_0
   try clear hfz5_1
   try clear hfz5_2
   try clear hfz5_3
   try clear hfz5_4
   try clear hfz5_5
   try clear hfz5_6
   try clear hfz5_7
   obtain ⟨kq, x40_10, rfl, HA, HJ10, HO_302000, HO_313000, HO_325000, BK278, BK301, BK312, BK324, HB⟩ := hcut
   cases kq with
   | zero => exact absurd HA.out (by simp [laws_FnExactGiveUp.j0])
   | succ kj10 =>
    have H := HA.out
    clear HA
    simp only [laws_FnExactGiveUp.j0] at H
    by_cases c55 : x40_10 = true
    ·
     subst c55
     rw [if_pos rfl] at H
     obtain rfl := Option.some.inj H
     go_wp2
     go_ret
     exact ⟨by first | rfl | (simp only [u8w, w64m]; rfl) | (simp [errW_none, errW_some] <;> rfl) | (simp [*, errW_none, errW_some] <;> rfl), bz⟩
    ·
     replace c55 := Bool.eq_false_iff.mpr c55
     subst c55
     rw [if_neg (show ¬ (false = true) by decide)] at H
     replace H := Option.bind_eq_some_iff.mp H
     obtain ⟨⟨t326, t329, t330, t331, t332, t333, t334, t335⟩, A560, H⟩ := H
     try dsimp only at H
     have A56 := Aside0.mk A560
     clear A560
     replace H := Option.bind_eq_some_iff.mp H
     obtain ⟨t336, A570, H⟩ := H
     try dsimp only at H
     have A57 := Aside0.mk A570
     clear A570
     by_cases c58 : t336 = true
     ·
      subst c58
      rw [if_pos rfl] at H
      replace H := Option.bind_eq_some_iff.mp H
      obtain ⟨⟨t337, t338⟩, A590, H⟩ := H
      try dsimp only at H
      have A59 := Aside0.mk A590
      clear A590
      have HC60 := Aside0.mk H
      clear H
      try go_wp2
      have n0_ := Aside0.mk (Kd.R_drew HO_302000.out)
      have n1_ := Aside0.mk (Kd.R_drew HO_313000.out)
      have n2_ := Aside0.mk (Kd.R_drew HO_325000.out)
      have n3_ := Aside0.mk (blk_drew BK278.out)
      have n4_ := Aside0.mk (blk_drew BK301.out)
      have n5_ := Aside0.mk (blk_drew BK312.out)
      have n6_ := Aside0.mk (blk_drew BK324.out)
      have n7_ := Aside0.mk (below_drew1 HB.out)
      clear HO_302000
      clear HO_313000
      clear HO_325000
      clear BK278
      clear BK301
      clear BK312
      clear BK324
      clear HB
      have HO_302000 := n0_
      have HO_313000 := n1_
      have HO_325000 := n2_
      have BK278 := n3_
      have BK301 := n4_
      have BK312 := n5_
      have BK324 := n6_
      have HB := n7_
      clear n0_ n1_ n2_ n3_ n4_ n5_ n6_ n7_
      refine start_ (n := 5) (S := fun w' => w'.cell? ⟨gb312, 0, none⟩ = some (.slice Ao26 t302.length co26) ∧ w'.cell? ⟨gb312, 1, none⟩ = some (.int .i64 t305) ∧ w'.cell? ⟨gb312, 2, none⟩ = some (.bool t306) ∧ w'.cell? ⟨gb312, 3, none⟩ = some (.int .i64 t307) ∧ w'.cell? ⟨gb312, 4, none⟩ = some (.string t308) ∧ w'.cell? ⟨gb312, 5, none⟩ = some (.int .i64 t309) ∧ w'.cell? ⟨gb312, 6, none⟩ = some (.int .i64 t310) ∧ w'.cell? ⟨gb312, 7, none⟩ = some (.int .i64 t311) ∧ w'.cell? ⟨gb278, 0, none⟩ = some (.slice A0_0 l0_0.length c0_0) ∧ w'.cell? ⟨gb278, 1, none⟩ = some (.int .i64 a0_1) ∧ w'.cell? ⟨gb278, 2, none⟩ = some (.bool a0_2) ∧ w'.cell? ⟨gb278, 3, none⟩ = some (.int .i64 a0_3) ∧ w'.cell? ⟨gb278, 4, none⟩ = some (.string a0_4) ∧ w'.cell? ⟨gb278, 5, none⟩ = some (.int .i64 a0_5) ∧ w'.cell? ⟨gb278, 6, none⟩ = some (.int .i64 a0_6) ∧ w'.cell? ⟨gb278, 7, none⟩ = some (.int .i64 a0_7)) (ds := []) #[false, false, false, false, false] (by kernel_rfl) rfl rfl ⟨(blk_cell BK312.out 0).trans rfl, (blk_cell BK312.out 1).trans rfl, (blk_cell BK312.out 2).trans rfl, (blk_cell BK312.out 3).trans rfl, (blk_cell BK312.out 4).trans rfl, (blk_cell BK312.out 5).trans rfl, (blk_cell BK312.out 6).trans rfl, (blk_cell BK312.out 7).trans rfl, (blk_cell BK278.out 0).trans rfl, (blk_cell BK278.out 1).trans rfl, (blk_cell BK278.out 2).trans rfl, (blk_cell BK278.out 3).trans rfl, (blk_cell BK278.out 4).trans rfl, (blk_cell BK278.out 5).trans rfl, (blk_cell BK278.out 6).trans rfl, (blk_cell BK278.out 7).trans rfl⟩ (fun hHeld => ?_)
      generalize wc.drew = w61 at HO_302000 HO_313000 HO_325000 BK278 BK301 BK312 BK324 HB hHeld ⊢
      refine take_ (i := 0) (N := some 41) (v := ?_) (a' := ?_) #[true, false, false, false, false] rfl rfl (by kernel_rfl) (fun _ _ _ h => h) (Or.inl ⟨by rfl, ?_⟩) hHeld ?_ ?_
      rotate_left
      ·
       rintro w' ⟨s0, s1, s2, s3, s4, s5, s6, s7, s8, s9, s10, s11, s12, s13, s14, s15⟩
       go_simp
       with_reducible rfl
      rotate_left
      ·
       simp only [Act.put, List.setIfInBounds_toArray, List.set_cons_zero, List.set_cons_succ, i64_w, i32_w]
       rfl
      refine take_ (i := 1) (N := some 42) (v := ?_) (a' := ?_) #[true, true, false, false, false] rfl rfl (by kernel_rfl) (fun _ _ _ h => h) (Or.inl ⟨by rfl, ?_⟩) hHeld ?_ ?_
      rotate_left
      ·
       rintro w' ⟨s0, s1, s2, s3, s4, s5, s6, s7, s8, s9, s10, s11, s12, s13, s14, s15⟩
       go_simp
       with_reducible rfl
      rotate_left
      ·
       simp only [Act.put, List.setIfInBounds_toArray, List.set_cons_zero, List.set_cons_succ, i64_w, i32_w]
       rfl
      refine one_ (i := 2) (N := some 43) #[true, true, true, false, false] rfl rfl (by kernel_rfl) (by decide) (fun K hK => ?_)
      refine goes_ Try.func37 (by kernel_rfl) rfl #[.agg #[.slice A0_0 l0_0.length c0_0, .int .i64 a0_1, .bool a0_2, .int .i64 a0_3, .string a0_4, .int .i64 a0_5, .int .i64 a0_6, .int .i64 a0_7]] (by rfl) rfl rfl (by (try simp only [List.map_toArray, List.map_cons, List.map_nil]); first | done | rfl | (simp only [List.length_drop, List.length_take]; rfl)) ?_
      with_reducible refine (laws_toCaller.calls kj10 _ _ l0_0 a0_1 a0_2 a0_3 a0_4 a0_5 a0_6 a0_7 t326 t329 t330 t331 t332 t333 t334 t335 _ ?side1 ?side2 A56.out).mono ?_
      (case side1 => repeat (first | exact (Kd.C_below HR0_0.out HB.out) | (with_reducible refine Kd.C_alloc ?_ _) | (with_reducible refine Kd.C_drewN ?_ _) | (with_reducible refine Kd.C_drew ?_)))
      (case side2 => exact HC0_0.out)
      rintro e w62 ⟨v327, rfl, ho0, hb⟩
      refine ⟨_, rfl, ?_⟩
      have n0_ := Aside0.mk (Kd.R_elder' (by (with_reducible repeat (first | apply Kd.R_alloc | apply Kd.R_drewN | apply Kd.R_drew)); exact HO_302000.out) (Kd.R_base ho0) hb)
      have n1_ := Aside0.mk (Kd.R_elder' (by (with_reducible repeat (first | apply Kd.R_alloc | apply Kd.R_drewN | apply Kd.R_drew)); exact HO_313000.out) (Kd.R_base ho0) hb)
      have n2_ := Aside0.mk (Kd.R_elder' (by (with_reducible repeat (first | apply Kd.R_alloc | apply Kd.R_drewN | apply Kd.R_drew)); exact HO_325000.out) (Kd.R_base ho0) hb)
      have n3_ := Aside0.mk (Kd.R_lower (Kd.R_new' (Kd.R_new' (Kd.R_new' ho0 (Kd.R_lt (by (with_reducible repeat (first | apply Kd.R_alloc | apply Kd.R_drewN | apply Kd.R_drew)); exact HO_302000.out))) (Kd.R_lt (by (with_reducible repeat (first | apply Kd.R_alloc | apply Kd.R_drewN | apply Kd.R_drew)); exact HO_313000.out))) (Kd.R_lt (by (with_reducible repeat (first | apply Kd.R_alloc | apply Kd.R_drewN | apply Kd.R_drew)); exact HO_325000.out))) (below_size (bz)))
      have n4_ := bkb BK278 hb
      have n5_ := bkb BK301 hb
      have n6_ := bkb BK312 hb
      have n7_ := bkb BK324 hb
      have n8_ := Aside0.mk (below_step (bz) hb)
      clear HO_302000
      clear HO_313000
      clear HO_325000
      clear BK278
      clear BK301
      clear BK312
      clear BK324
      clear HB
      have HO_302000 := n0_
      have HO_313000 := n1_
      have HO_325000 := n2_
      have HO328 := n3_
      have BK278 := n4_
      have BK301 := n5_
      have BK312 := n6_
      have BK324 := n7_
      have HB := n8_
      clear n0_ n1_ n2_ n3_ n4_ n5_ n6_ n7_ n8_
      (try clear hb)
      (try clear hb2)
      (try clear hk)
      (try clear hi)
      (try clear ho0)
      obtain ⟨Ao63, co63, eo63⟩ := Kd.R_slice HO328.out
      (first | subst eo63 | (injection eo63 with f1_ f2_ f3_; have f4_ := f1_.symm; have f5_ := f3_.symm; clear f1_ f2_ f3_; subst f4_; subst f5_))
      refine hK.out _ _ ⟨(blk_cell BK312.out 0).trans rfl, (blk_cell BK312.out 1).trans rfl, (blk_cell BK312.out 2).trans rfl, (blk_cell BK312.out 3).trans rfl, (blk_cell BK312.out 4).trans rfl, (blk_cell BK312.out 5).trans rfl, (blk_cell BK312.out 6).trans rfl, (blk_cell BK312.out 7).trans rfl, (blk_cell BK278.out 0).trans rfl, (blk_cell BK278.out 1).trans rfl, (blk_cell BK278.out 2).trans rfl, (blk_cell BK278.out 3).trans rfl, (blk_cell BK278.out 4).trans rfl, (blk_cell BK278.out 5).trans rfl, (blk_cell BK278.out 6).trans rfl, (blk_cell BK278.out 7).trans rfl⟩ (fun hHeld => ?_)
      clear hK K
      refine norm_ (a' := ?_) ?_ ?_
      rotate_left
      ·
       show Act.put _ (some 43) _ = _
       simp only [Act.put, List.setIfInBounds_toArray, List.set_cons_zero, List.set_cons_succ, i64_w, i32_w]
       rfl
      refine one_ (i := 3) (N := some 44) #[true, true, true, true, false] rfl rfl (by kernel_rfl) (by decide) (fun K hK => ?_)
      refine goes_ Try.func39 (by kernel_rfl) rfl #[.agg #[.slice Ao26 t302.length co26, .int .i64 t305, .bool t306, .int .i64 t307, .string t308, .int .i64 t309, .int .i64 t310, .int .i64 t311], .agg #[.slice Ao63 t326.length co63, .int .i64 t329, .bool t330, .int .i64 t331, .string t332, .int .i64 t333, .int .i64 t334, .int .i64 t335]] (by rfl) rfl rfl (by (try simp only [List.map_toArray, List.map_cons, List.map_nil]); first | done | rfl | (simp only [List.length_drop, List.length_take]; rfl)) ?_
      with_reducible refine (laws_eqCaller.calls kj10 _ _ t302 t305 t306 t307 t308 t309 t310 t311 _ _ t326 t329 t330 t331 t332 t333 t334 t335 true _ ?side1 ?side2 ?side3 ?side4 A57.out).mono ?_
      (case side1 => repeat (first | exact (Kd.R_reads' HO_313000.out).2.2 | (with_reducible refine Kd.C_alloc ?_ _) | (with_reducible refine Kd.C_drewN ?_ _) | (with_reducible refine Kd.C_drew ?_)))
      (case side2 => exact (Kd.R_reads' HO_313000.out).2.1)
      (case side3 => repeat (first | exact (Kd.R_reads' HO328.out).2.2 | (with_reducible refine Kd.C_alloc ?_ _) | (with_reducible refine Kd.C_drewN ?_ _) | (with_reducible refine Kd.C_drew ?_)))
      (case side4 => exact (Kd.R_reads' HO328.out).2.1)
      rintro e w64 ⟨rfl, hb⟩
      refine ⟨_, rfl, ?_⟩
      have n0_ := Aside0.mk (Kd.R_below (by (with_reducible repeat (first | apply Kd.R_alloc | apply Kd.R_drewN | apply Kd.R_drew)); exact HO_302000.out) hb)
      have n1_ := Aside0.mk (Kd.R_below (by (with_reducible repeat (first | apply Kd.R_alloc | apply Kd.R_drewN | apply Kd.R_drew)); exact HO_313000.out) hb)
      have n2_ := Aside0.mk (Kd.R_below (by (with_reducible repeat (first | apply Kd.R_alloc | apply Kd.R_drewN | apply Kd.R_drew)); exact HO_325000.out) hb)
      have n3_ := Aside0.mk (Kd.R_below (by (with_reducible repeat (first | apply Kd.R_alloc | apply Kd.R_drewN | apply Kd.R_drew)); exact HO328.out) hb)
      have n4_ := bkb BK278 hb
      have n5_ := bkb BK301 hb
      have n6_ := bkb BK312 hb
      have n7_ := bkb BK324 hb
      have n8_ := Aside0.mk (below_step (bz) hb)
      clear HO_302000
      clear HO_313000
      clear HO_325000
      clear HO328
      clear BK278
      clear BK301
      clear BK312
      clear BK324
      clear HB
      have HO_302000 := n0_
      have HO_313000 := n1_
      have HO_325000 := n2_
      have HO328 := n3_
      have BK278 := n4_
      have BK301 := n5_
      have BK312 := n6_
      have BK324 := n7_
      have HB := n8_
      clear n0_ n1_ n2_ n3_ n4_ n5_ n6_ n7_ n8_
      (try clear hb)
      (try clear hb2)
      (try clear hk)
      (try clear hi)
      refine hK.out _ _ ⟨(blk_cell BK312.out 0).trans rfl, (blk_cell BK312.out 1).trans rfl, (blk_cell BK312.out 2).trans rfl, (blk_cell BK312.out 3).trans rfl, (blk_cell BK312.out 4).trans rfl, (blk_cell BK312.out 5).trans rfl, (blk_cell BK312.out 6).trans rfl, (blk_cell BK312.out 7).trans rfl, (blk_cell BK278.out 0).trans rfl, (blk_cell BK278.out 1).trans rfl, (blk_cell BK278.out 2).trans rfl, (blk_cell BK278.out 3).trans rfl, (blk_cell BK278.out 4).trans rfl, (blk_cell BK278.out 5).trans rfl, (blk_cell BK278.out 6).trans rfl, (blk_cell BK278.out 7).trans rfl⟩ (fun hHeld => ?_)
      clear hK K
      refine norm_ (a' := ?_) ?_ ?_
      rotate_left
      ·
       show Act.put _ (some 44) _ = _
       simp only [Act.put, List.setIfInBounds_toArray, List.set_cons_zero, List.set_cons_succ, i64_w, i32_w]
       rfl
      refine pure_ (i := 4) (N := some 45) (v := ?_) (a' := ?_) #[true, true, true, true, true] rfl rfl (by kernel_rfl) (fun _ _ _ h => h) (Or.inl ⟨by rfl, ?_⟩) ?_ ?_
      rotate_left
      ·
       intro w'
       go_simp
       with_reducible rfl
      rotate_left
      ·
       simp only [Act.put, List.setIfInBounds_toArray, List.set_cons_zero, List.set_cons_succ, i64_w, i32_w]
       rfl
      refine done_ (by kernel_rfl) ?_
      have hnb65 := NB312_278.out
      have hnc65 := NB278_312.out
      have hnb66 := NB312_301.out
      have hnc66 := NB301_312.out
      have hnb67 := NB312_324.out
      have hnc67 := NB324_312.out
      have hcz68_0 : w64.cell? ⟨gb312, 0, none⟩ = some (.slice Ao26 t302.length co26) := (blk_cell BK312.out 0).trans rfl
      have hcz68_1 : w64.cell? ⟨gb312, 1, none⟩ = some (.int .i64 t305) := (blk_cell BK312.out 1).trans rfl
      have hcz68_2 : w64.cell? ⟨gb312, 2, none⟩ = some (.bool t306) := (blk_cell BK312.out 2).trans rfl
      have hcz68_3 : w64.cell? ⟨gb312, 3, none⟩ = some (.int .i64 t307) := (blk_cell BK312.out 3).trans rfl
      have hcz68_4 : w64.cell? ⟨gb312, 4, none⟩ = some (.string t308) := (blk_cell BK312.out 4).trans rfl
      have hcz68_5 : w64.cell? ⟨gb312, 5, none⟩ = some (.int .i64 t309) := (blk_cell BK312.out 5).trans rfl
      have hcz68_6 : w64.cell? ⟨gb312, 6, none⟩ = some (.int .i64 t310) := (blk_cell BK312.out 6).trans rfl
      have hcz68_7 : w64.cell? ⟨gb312, 7, none⟩ = some (.int .i64 t311) := (blk_cell BK312.out 7).trans rfl
      have hfz68_0 := blk_frozen BK312.out 0
      have hfz68_1 := blk_frozen BK312.out 1
      have hfz68_2 := blk_frozen BK312.out 2
      have hfz68_3 := blk_frozen BK312.out 3
      have hfz68_4 := blk_frozen BK312.out 4
      have hfz68_5 := blk_frozen BK312.out 5
      have hfz68_6 := blk_frozen BK312.out 6
      have hfz68_7 := blk_frozen BK312.out 7
      go_upto_region 14 with (first | ((with_reducible refine gate_callee (f := 40) rfl ?_); refine goesL_ (some 48) rfl rfl Try.func40 (by kernel_rfl) rfl #[.agg #[.slice Ao26 t302.length co26, .int .i64 t305, .bool t306, .int .i64 t307, .string t308, .int .i64 t309, .int .i64 t310, .int .i64 t311], .int .i64 1] rfl (by (try simp only [List.map_toArray, List.map_cons, List.map_nil]); first | done | rfl | (simp only [List.length_drop, List.length_take]; rfl)) ?_; (with_reducible refine (laws_markCaller.calls kj10 (fun k_ => some k_ = (.slice Ao26 t302.length co26 : Value).ownBlock) (.slice Ao26 t302.length co26) t302 t305 t306 t307 t308 t309 t310 t311 1 t337 t338 w _ ?side1 ?side2 A59.out).mono ?_); (case side1 => repeat (first | (with_reducible first | exact HB.out | apply below_alloc | apply pw_below_drewN | apply below_drew1 | refine below_set ?_ GE278.out | refine below_set ?_ GE301.out | refine below_set ?_ GE312.out | refine below_set ?_ GE324.out) | exact HB.out)); (case side2 => exact Kd.R_tight rfl HO_313000.out); rintro e w69 ⟨rfl, hy0, hb, hkp⟩; refine ⟨_, rfl, ?_⟩; have n0_ := Aside0.mk (Kd.R_mono (ok' := fun k_ => some k_ ≠ (.slice Ao26 t302.length co26 : Value).ownBlock ∧ some k_ ≠ (.slice Ao32 t313.length co32 : Value).ownBlock ∧ some k_ ≠ (.slice Ao63 t326.length co63 : Value).ownBlock) (Kd.R_keptB (HO_302000.out) hkp (fun k_ hk_ hs_ => (hk_.1.1) hs_)) (fun k_ hk_ => ⟨hk_.1.1.1, hk_.1.1.2, hk_.1.2⟩)); have n1_ := Aside0.mk (Kd.R_reok rfl hy0 (fun k_ e_ => HO_313000.out.1 k_ e_)); have n2_ := Aside0.mk (Kd.R_mono (ok' := fun k_ => some k_ ≠ (.slice Ao20 t290.length co20 : Value).ownBlock ∧ some k_ ≠ (.slice Ao26 t302.length co26 : Value).ownBlock ∧ some k_ ≠ (.slice Ao63 t326.length co63 : Value).ownBlock) (Kd.R_keptB (HO_325000.out) hkp (fun k_ hk_ hs_ => (hk_.1.2) hs_)) (fun k_ hk_ => ⟨hk_.1.1.1, hk_.1.1.2, hk_.1.2⟩)); have n3_ := Aside0.mk (blk_kept (bq BK278) hkp (fun hs_ => (fun e_ => (Kd.R_ne HO_313000.out BK278.out (by decide)) e_) hs_)); have n4_ := Aside0.mk (blk_kept (bq BK301) hkp (fun hs_ => (fun e_ => (Kd.R_ne HO_313000.out BK301.out (by decide)) e_) hs_)); have n5_ := Aside0.mk (blk_kept (bq BK312) hkp (fun hs_ => (fun e_ => (Kd.R_ne HO_313000.out BK312.out (by decide)) e_) hs_)); have n6_ := Aside0.mk (blk_kept (bq BK324) hkp (fun hs_ => (fun e_ => (Kd.R_ne HO_313000.out BK324.out (by decide)) e_) hs_)); have n7_ := Aside0.mk (Kd.R_mono (ok' := fun k_ => some k_ ≠ (.slice Ao20 t290.length co20 : Value).ownBlock ∧ some k_ ≠ (.slice Ao26 t302.length co26 : Value).ownBlock ∧ some k_ ≠ (.slice Ao32 t313.length co32 : Value).ownBlock) (Kd.R_keptB (HO328.out) hkp (fun k_ hk_ hs_ => (hk_.1.2) hs_)) (fun k_ hk_ => ⟨hk_.1.1.1.2, hk_.1.1.2, hk_.1.2⟩)); have n8_ := Aside0.mk (hb); clear HO_302000; clear HO_313000; clear HO_325000; clear BK278; clear BK301; clear BK312; clear BK324; clear HO328; clear HB; have HO_302000 := n0_; have HO_313000 := n1_; have HO_325000 := n2_; have BK278 := n3_; have BK301 := n4_; have BK312 := n5_; have BK324 := n6_; have HO328 := n7_; have HB := n8_; clear n0_ n1_ n2_ n3_ n4_ n5_ n6_ n7_ n8_; (try clear hb); (try clear hkp); (try clear hy0)))
      (try simp only [Act.put, List.setIfInBounds_toArray, List.set_cons_zero, List.set_cons_succ])
      go_cut [61] (fun v61 wc => ∃ (kq : Nat) (x61_59 : Bool), v61 = .bool x61_59 ∧ Aside0 (laws_FnExactGiveUp.j1 kq t300 x61_59 l0_0 a0_1 a0_2 a0_3 a0_4 a0_5 a0_6 a0_7 t290 t293 t294 t295 t296 t297 t298 t299 t313 t316 t317 t318 t319 t320 t321 t322 = some r) ∧ Aside0 (kq ≤ kj10) ∧ Aside0 (Kd.R k35 35 wc w.heap.size (fun k_ => some k_ ≠ ((.slice Ao26 t302.length co26) : Value).ownBlock ∧ some k_ ≠ ((.slice Ao32 t313.length co32) : Value).ownBlock) (.slice Ao20 t290.length co20) t290) ∧ Aside0 (Kd.R k35 35 wc w.heap.size (fun k_ => some k_ ≠ ((.slice Ao20 t290.length co20) : Value).ownBlock ∧ some k_ ≠ ((.slice Ao32 t313.length co32) : Value).ownBlock) (.slice Ao26 t302.length co26) t338) ∧ Aside0 (Kd.R k35 35 wc w.heap.size (fun k_ => some k_ ≠ ((.slice Ao20 t290.length co20) : Value).ownBlock ∧ some k_ ≠ ((.slice Ao26 t302.length co26) : Value).ownBlock) (.slice Ao32 t313.length co32) t313) ∧ Aside0 (wc.heap[gb278]? = some (.cells #[(.slice A0_0 l0_0.length c0_0), .int .i64 a0_1, .bool a0_2, .int .i64 a0_3, .string a0_4, .int .i64 a0_5, .int .i64 a0_6, .int .i64 a0_7] 60 (0, 0))) ∧ Aside0 (wc.heap[gb301]? = some (.cells #[(.slice Ao20 t290.length co20), .int .i64 t293, .bool t294, .int .i64 t295, .string t296, .int .i64 t297, .int .i64 t298, .int .i64 t299] 41 (0, 0))) ∧ Aside0 (wc.heap[gb312]? = some (.cells #[(.slice Ao26 t302.length co26), .int .i64 t305, .bool t306, .int .i64 t307, .string t308, .int .i64 t309, .int .i64 t310, .int .i64 t311] 41 (0, 0))) ∧ Aside0 (wc.heap[gb324]? = some (.cells #[(.slice Ao32 t313.length co32), .int .i64 t316, .bool t317, .int .i64 t318, .string t319, .int .i64 t320, .int .i64 t321, .int .i64 t322] 41 (0, 0))) ∧ Aside0 (Below w.heap.size w wc))
      case first =>
       have H := HC60.out
       clear HC60
       by_cases c70 : t337 < 0
       ·
        rw [if_pos c70] at H
        have c70b0 : decide (t337 < 0) = true := decide_eq_true c70
        clear c70
        (first | rw [c70b0] | (simp only [i64_w, i32_w]; rw [c70b0]) | skip)
        have H' := Aside0.mk H
        clear H
        go_wp2
        go_meet
        case rel => exact ⟨_, (true), (by first | rfl | (simp; done) | exact congrArg Value.bool (ne_nil_b _) | exact congrArg Value.bool (eq_nil_b _) | (simp [*]; done)), H', ⟨by have := HJ10.out; first | omega | exact Nat.le_refl _⟩, ⟨by (with_reducible repeat (first | apply Kd.R_alloc | apply Kd.R_drewN | apply Kd.R_drew)); exact Kd.R_mono HO_302000.out (fun _ hk => ⟨hk.1, hk.2.1⟩)⟩, ⟨by (with_reducible repeat (first | apply Kd.R_alloc | apply Kd.R_drewN | apply Kd.R_drew)); exact Kd.R_mono HO_313000.out (fun _ hk => ⟨hk.1.1, hk.1.2⟩)⟩, ⟨by (with_reducible repeat (first | apply Kd.R_alloc | apply Kd.R_drewN | apply Kd.R_drew)); exact Kd.R_mono HO_325000.out (fun _ hk => ⟨hk.1, hk.2.1⟩)⟩, ⟨by (with_reducible repeat (first | refine blk_drewN ?_ _ | refine blk_drew ?_ | refine blk_alloc ?_ _)); exact BK278.out⟩, ⟨by (with_reducible repeat (first | refine blk_drewN ?_ _ | refine blk_drew ?_ | refine blk_alloc ?_ _)); exact BK301.out⟩, ⟨by (with_reducible repeat (first | refine blk_drewN ?_ _ | refine blk_drew ?_ | refine blk_alloc ?_ _)); exact BK312.out⟩, ⟨by (with_reducible repeat (first | refine blk_drewN ?_ _ | refine blk_drew ?_ | refine blk_alloc ?_ _)); exact BK324.out⟩, ⟨bz⟩⟩
       ·
        rw [if_neg c70] at H
        have c70b0 : decide (t337 < 0) = false := decide_eq_false c70
        clear c70
        (first | rw [c70b0] | (simp only [i64_w, i32_w]; rw [c70b0]) | skip)
        replace H := Option.bind_eq_some_iff.mp H
        obtain ⟨t339, A710, H⟩ := H
        try dsimp only at H
        have A71 := Aside0.mk A710
        clear A710
        by_cases c72 : t339 = true
        ·
         subst c72
         rw [if_pos rfl] at H
         have H' := Aside0.mk H
         clear H
         have hnb73 := NB324_278.out
         have hnc73 := NB278_324.out
         have hnb74 := NB324_301.out
         have hnc74 := NB301_324.out
         have hnb75 := NB324_312.out
         have hnc75 := NB312_324.out
         have hcz76_0 : w69.cell? ⟨gb324, 0, none⟩ = some (.slice Ao32 t313.length co32) := (blk_cell BK324.out 0).trans rfl
         have hcz76_1 : w69.cell? ⟨gb324, 1, none⟩ = some (.int .i64 t316) := (blk_cell BK324.out 1).trans rfl
         have hcz76_2 : w69.cell? ⟨gb324, 2, none⟩ = some (.bool t317) := (blk_cell BK324.out 2).trans rfl
         have hcz76_3 : w69.cell? ⟨gb324, 3, none⟩ = some (.int .i64 t318) := (blk_cell BK324.out 3).trans rfl
         have hcz76_4 : w69.cell? ⟨gb324, 4, none⟩ = some (.string t319) := (blk_cell BK324.out 4).trans rfl
         have hcz76_5 : w69.cell? ⟨gb324, 5, none⟩ = some (.int .i64 t320) := (blk_cell BK324.out 5).trans rfl
         have hcz76_6 : w69.cell? ⟨gb324, 6, none⟩ = some (.int .i64 t321) := (blk_cell BK324.out 6).trans rfl
         have hcz76_7 : w69.cell? ⟨gb324, 7, none⟩ = some (.int .i64 t322) := (blk_cell BK324.out 7).trans rfl
         have hfz76_0 := blk_frozen BK324.out 0
         have hfz76_1 := blk_frozen BK324.out 1
         have hfz76_2 := blk_frozen BK324.out 2
         have hfz76_3 := blk_frozen BK324.out 3
         have hfz76_4 := blk_frozen BK324.out 4
         have hfz76_5 := blk_frozen BK324.out 5
         have hfz76_6 := blk_frozen BK324.out 6
         have hfz76_7 := blk_frozen BK324.out 7
         have hnb77 := NB301_278.out
         have hnc77 := NB278_301.out
         have hnb78 := NB301_312.out
         have hnc78 := NB312_301.out
         have hcz79_0 : w69.cell? ⟨gb301, 0, none⟩ = some (.slice Ao20 t290.length co20) := (blk_cell BK301.out 0).trans rfl
         have hcz79_1 : w69.cell? ⟨gb301, 1, none⟩ = some (.int .i64 t293) := (blk_cell BK301.out 1).trans rfl
         have hcz79_2 : w69.cell? ⟨gb301, 2, none⟩ = some (.bool t294) := (blk_cell BK301.out 2).trans rfl
         have hcz79_3 : w69.cell? ⟨gb301, 3, none⟩ = some (.int .i64 t295) := (blk_cell BK301.out 3).trans rfl
         have hcz79_4 : w69.cell? ⟨gb301, 4, none⟩ = some (.string t296) := (blk_cell BK301.out 4).trans rfl
         have hcz79_5 : w69.cell? ⟨gb301, 5, none⟩ = some (.int .i64 t297) := (blk_cell BK301.out 5).trans rfl
         have hcz79_6 : w69.cell? ⟨gb301, 6, none⟩ = some (.int .i64 t298) := (blk_cell BK301.out 6).trans rfl
         have hcz79_7 : w69.cell? ⟨gb301, 7, none⟩ = some (.int .i64 t299) := (blk_cell BK301.out 7).trans rfl
         have hfz79_0 := blk_frozen BK301.out 0
         have hfz79_1 := blk_frozen BK301.out 1
         have hfz79_2 := blk_frozen BK301.out 2
         have hfz79_3 := blk_frozen BK301.out 3
         have hfz79_4 := blk_frozen BK301.out 4
         have hfz79_5 := blk_frozen BK301.out 5
         have hfz79_6 := blk_frozen BK301.out 6
         have hfz79_7 := blk_frozen BK301.out 7
         go_wp2_with (first | (go_at_call 39; (with_reducible refine (laws_eqCaller.calls kj10 _ _ t313 t316 t317 t318 t319 t320 t321 t322 _ _ t290 t293 t294 t295 t296 t297 t298 t299 true _ ?side1 ?side2 ?side3 ?side4 A71.out).mono ?_); (case side1 => repeat (first | exact (Kd.R_reads' HO_325000.out).2.2 | (with_reducible refine Kd.C_alloc ?_ _) | (with_reducible refine Kd.C_drewN ?_ _) | (with_reducible refine Kd.C_drew ?_))); (case side2 => exact (Kd.R_reads' HO_325000.out).2.1); (case side3 => repeat (first | exact (Kd.R_reads' HO_302000.out).2.2 | (with_reducible refine Kd.C_alloc ?_ _) | (with_reducible refine Kd.C_drewN ?_ _) | (with_reducible refine Kd.C_drew ?_))); (case side4 => exact (Kd.R_reads' HO_302000.out).2.1); rintro e w80 ⟨rfl, hb⟩; have n0_ := Aside0.mk (Kd.R_below (by (with_reducible repeat (first | apply Kd.R_alloc | apply Kd.R_drewN | apply Kd.R_drew)); exact HO_302000.out) hb); have n1_ := Aside0.mk (Kd.R_below (by (with_reducible repeat (first | apply Kd.R_alloc | apply Kd.R_drewN | apply Kd.R_drew)); exact HO_313000.out) hb); have n2_ := Aside0.mk (Kd.R_below (by (with_reducible repeat (first | apply Kd.R_alloc | apply Kd.R_drewN | apply Kd.R_drew)); exact HO_325000.out) hb); have n3_ := Aside0.mk (Kd.R_below (by (with_reducible repeat (first | apply Kd.R_alloc | apply Kd.R_drewN | apply Kd.R_drew)); exact HO328.out) hb); have n4_ := bkb BK278 hb; have n5_ := bkb BK301 hb; have n6_ := bkb BK312 hb; have n7_ := bkb BK324 hb; have n8_ := Aside0.mk (below_step (bz) hb); clear HO_302000; clear HO_313000; clear HO_325000; clear HO328; clear BK278; clear BK301; clear BK312; clear BK324; clear HB; have HO_302000 := n0_; have HO_313000 := n1_; have HO_325000 := n2_; have HO328 := n3_; have BK278 := n4_; have BK301 := n5_; have BK312 := n6_; have BK324 := n7_; have HB := n8_; clear n0_ n1_ n2_ n3_ n4_ n5_ n6_ n7_ n8_; (try clear hb); (try clear hb2); (try clear hk); (try clear hi)))
         go_meet
         case rel => exact ⟨_, ((t323 != t300)), (by first | rfl | (simp; done) | exact congrArg Value.bool (ne_nil_b _) | exact congrArg Value.bool (eq_nil_b _) | (simp [*]; done)), H', ⟨by have := HJ10.out; first | omega | exact Nat.le_refl _⟩, ⟨by (with_reducible repeat (first | apply Kd.R_alloc | apply Kd.R_drewN | apply Kd.R_drew)); exact Kd.R_mono HO_302000.out (fun _ hk => ⟨hk.1, hk.2.1⟩)⟩, ⟨by (with_reducible repeat (first | apply Kd.R_alloc | apply Kd.R_drewN | apply Kd.R_drew)); exact Kd.R_mono HO_313000.out (fun _ hk => ⟨hk.1.1, hk.1.2⟩)⟩, ⟨by (with_reducible repeat (first | apply Kd.R_alloc | apply Kd.R_drewN | apply Kd.R_drew)); exact Kd.R_mono HO_325000.out (fun _ hk => ⟨hk.1, hk.2.1⟩)⟩, ⟨by (with_reducible repeat (first | refine blk_drewN ?_ _ | refine blk_drew ?_ | refine blk_alloc ?_ _)); exact BK278.out⟩, ⟨by (with_reducible repeat (first | refine blk_drewN ?_ _ | refine blk_drew ?_ | refine blk_alloc ?_ _)); exact BK301.out⟩, ⟨by (with_reducible repeat (first | refine blk_drewN ?_ _ | refine blk_drew ?_ | refine blk_alloc ?_ _)); exact BK312.out⟩, ⟨by (with_reducible repeat (first | refine blk_drewN ?_ _ | refine blk_drew ?_ | refine blk_alloc ?_ _)); exact BK324.out⟩, ⟨bz⟩⟩
        ·
         replace c72 := Bool.eq_false_iff.mpr c72
         subst c72
         rw [if_neg (show ¬ (false = true) by decide)] at H
         have H' := Aside0.mk H
         clear H
         have hnb81 := NB324_278.out
         have hnc81 := NB278_324.out
         have hnb82 := NB324_301.out
         have hnc82 := NB301_324.out
         have hnb83 := NB324_312.out
         have hnc83 := NB312_324.out
         have hcz84_0 : w69.cell? ⟨gb324, 0, none⟩ = some (.slice Ao32 t313.length co32) := (blk_cell BK324.out 0).trans rfl
         have hcz84_1 : w69.cell? ⟨gb324, 1, none⟩ = some (.int .i64 t316) := (blk_cell BK324.out 1).trans rfl
         have hcz84_2 : w69.cell? ⟨gb324, 2, none⟩ = some (.bool t317) := (blk_cell BK324.out 2).trans rfl
         have hcz84_3 : w69.cell? ⟨gb324, 3, none⟩ = some (.int .i64 t318) := (blk_cell BK324.out 3).trans rfl
         have hcz84_4 : w69.cell? ⟨gb324, 4, none⟩ = some (.string t319) := (blk_cell BK324.out 4).trans rfl
         have hcz84_5 : w69.cell? ⟨gb324, 5, none⟩ = some (.int .i64 t320) := (blk_cell BK324.out 5).trans rfl
         have hcz84_6 : w69.cell? ⟨gb324, 6, none⟩ = some (.int .i64 t321) := (blk_cell BK324.out 6).trans rfl
         have hcz84_7 : w69.cell? ⟨gb324, 7, none⟩ = some (.int .i64 t322) := (blk_cell BK324.out 7).trans rfl
         have hfz84_0 := blk_frozen BK324.out 0
         have hfz84_1 := blk_frozen BK324.out 1
         have hfz84_2 := blk_frozen BK324.out 2
         have hfz84_3 := blk_frozen BK324.out 3
         have hfz84_4 := blk_frozen BK324.out 4
         have hfz84_5 := blk_frozen BK324.out 5
         have hfz84_6 := blk_frozen BK324.out 6
         have hfz84_7 := blk_frozen BK324.out 7
         have hnb85 := NB301_278.out
         have hnc85 := NB278_301.out
         have hnb86 := NB301_312.out
         have hnc86 := NB312_301.out
         have hcz87_0 : w69.cell? ⟨gb301, 0, none⟩ = some (.slice Ao20 t290.length co20) := (blk_cell BK301.out 0).trans rfl
         have hcz87_1 : w69.cell? ⟨gb301, 1, none⟩ = some (.int .i64 t293) := (blk_cell BK301.out 1).trans rfl
         have hcz87_2 : w69.cell? ⟨gb301, 2, none⟩ = some (.bool t294) := (blk_cell BK301.out 2).trans rfl
         have hcz87_3 : w69.cell? ⟨gb301, 3, none⟩ = some (.int .i64 t295) := (blk_cell BK301.out 3).trans rfl
         have hcz87_4 : w69.cell? ⟨gb301, 4, none⟩ = some (.string t296) := (blk_cell BK301.out 4).trans rfl
         have hcz87_5 : w69.cell? ⟨gb301, 5, none⟩ = some (.int .i64 t297) := (blk_cell BK301.out 5).trans rfl
         have hcz87_6 : w69.cell? ⟨gb301, 6, none⟩ = some (.int .i64 t298) := (blk_cell BK301.out 6).trans rfl
         have hcz87_7 : w69.cell? ⟨gb301, 7, none⟩ = some (.int .i64 t299) := (blk_cell BK301.out 7).trans rfl
         have hfz87_0 := blk_frozen BK301.out 0
         have hfz87_1 := blk_frozen BK301.out 1
         have hfz87_2 := blk_frozen BK301.out 2
         have hfz87_3 := blk_frozen BK301.out 3
         have hfz87_4 := blk_frozen BK301.out 4
         have hfz87_5 := blk_frozen BK301.out 5
         have hfz87_6 := blk_frozen BK301.out 6
         have hfz87_7 := blk_frozen BK301.out 7
         go_wp2_with (first | (go_at_call 39; (with_reducible refine (laws_eqCaller.calls kj10 _ _ t313 t316 t317 t318 t319 t320 t321 t322 _ _ t290 t293 t294 t295 t296 t297 t298 t299 false _ ?side1 ?side2 ?side3 ?side4 A71.out).mono ?_); (case side1 => repeat (first | exact (Kd.R_reads' HO_325000.out).2.2 | (with_reducible refine Kd.C_alloc ?_ _) | (with_reducible refine Kd.C_drewN ?_ _) | (with_reducible refine Kd.C_drew ?_))); (case side2 => exact (Kd.R_reads' HO_325000.out).2.1); (case side3 => repeat (first | exact (Kd.R_reads' HO_302000.out).2.2 | (with_reducible refine Kd.C_alloc ?_ _) | (with_reducible refine Kd.C_drewN ?_ _) | (with_reducible refine Kd.C_drew ?_))); (case side4 => exact (Kd.R_reads' HO_302000.out).2.1); rintro e w88 ⟨rfl, hb⟩; have n0_ := Aside0.mk (Kd.R_below (by (with_reducible repeat (first | apply Kd.R_alloc | apply Kd.R_drewN | apply Kd.R_drew)); exact HO_302000.out) hb); have n1_ := Aside0.mk (Kd.R_below (by (with_reducible repeat (first | apply Kd.R_alloc | apply Kd.R_drewN | apply Kd.R_drew)); exact HO_313000.out) hb); have n2_ := Aside0.mk (Kd.R_below (by (with_reducible repeat (first | apply Kd.R_alloc | apply Kd.R_drewN | apply Kd.R_drew)); exact HO_325000.out) hb); have n3_ := Aside0.mk (Kd.R_below (by (with_reducible repeat (first | apply Kd.R_alloc | apply Kd.R_drewN | apply Kd.R_drew)); exact HO328.out) hb); have n4_ := bkb BK278 hb; have n5_ := bkb BK301 hb; have n6_ := bkb BK312 hb; have n7_ := bkb BK324 hb; have n8_ := Aside0.mk (below_step (bz) hb); clear HO_302000; clear HO_313000; clear HO_325000; clear HO328; clear BK278; clear BK301; clear BK312; clear BK324; clear HB; have HO_302000 := n0_; have HO_313000 := n1_; have HO_325000 := n2_; have HO328 := n3_; have BK278 := n4_; have BK301 := n5_; have BK312 := n6_; have BK324 := n7_; have HB := n8_; clear n0_ n1_ n2_ n3_ n4_ n5_ n6_ n7_ n8_; (try clear hb); (try clear hb2); (try clear hk); (try clear hi)))
         go_meet
         case rel => exact ⟨_, (true), (by first | rfl | (simp; done) | exact congrArg Value.bool (ne_nil_b _) | exact congrArg Value.bool (eq_nil_b _) | (simp [*]; done)), H', ⟨by have := HJ10.out; first | omega | exact Nat.le_refl _⟩, ⟨by (with_reducible repeat (first | apply Kd.R_alloc | apply Kd.R_drewN | apply Kd.R_drew)); exact Kd.R_mono HO_302000.out (fun _ hk => ⟨hk.1, hk.2.1⟩)⟩, ⟨by (with_reducible repeat (first | apply Kd.R_alloc | apply Kd.R_drewN | apply Kd.R_drew)); exact Kd.R_mono HO_313000.out (fun _ hk => ⟨hk.1.1, hk.1.2⟩)⟩, ⟨by (with_reducible repeat (first | apply Kd.R_alloc | apply Kd.R_drewN | apply Kd.R_drew)); exact Kd.R_mono HO_325000.out (fun _ hk => ⟨hk.1, hk.2.1⟩)⟩, ⟨by (with_reducible repeat (first | refine blk_drewN ?_ _ | refine blk_drew ?_ | refine blk_alloc ?_ _)); exact BK278.out⟩, ⟨by (with_reducible repeat (first | refine blk_drewN ?_ _ | refine blk_drew ?_ | refine blk_alloc ?_ _)); exact BK301.out⟩, ⟨by (with_reducible repeat (first | refine blk_drewN ?_ _ | refine blk_drew ?_ | refine blk_alloc ?_ _)); exact BK312.out⟩, ⟨by (with_reducible repeat (first | refine blk_drewN ?_ _ | refine blk_drew ?_ | refine blk_alloc ?_ _)); exact BK324.out⟩, ⟨bz⟩⟩
      case rest =>
       clear HC60
       try clear c2
       try clear p2
       try clear c3
       try clear c3b0
       try clear c4
       try clear c5
       try clear c6
       try clear c7
       try clear c8
       try clear c21
       try clear c27
       try clear c28
       try clear c33
       try clear c34
       try clear c35
       try clear c36
       try clear c37
       try clear c38
       try clear c39
       try clear c40
       try clear c41
       try clear c43
       try clear c44
       try clear c47
       try clear c48
       try clear c49
       try clear c51
       try clear c52
       try clear c55
       try clear c58
       try clear c65
       try clear c66
       try clear c67
       try clear c70
       try clear c70b0
       try clear c72
       try clear c73
       try clear c74
       try clear c75
       try clear c77
       try clear c78
       try clear c81
       try clear c82
       try clear c83
       try clear c85
       try clear c86
       try clear hcz13_0
       try clear hcz13_1
       try clear hcz13_2
       try clear hcz13_3
       try clear hcz13_4
       try clear hcz13_5
       try clear hcz13_6
       try clear hcz13_7
       try clear hcz15_0
       try clear hcz15_1
       try clear hcz15_2
       try clear hcz15_3
       try clear hcz15_4
       try clear hcz15_5
       try clear hcz15_6
       try clear hcz15_7
       try clear hcz22_0
       try clear hcz22_1
       try clear hcz22_2
       try clear hcz22_3
       try clear hcz22_4
       try clear hcz22_5
       try clear hcz22_6
       try clear hcz22_7
       try clear hcz23_0
       try clear hcz23_1
       try clear hcz23_2
       try clear hcz23_3
       try clear hcz23_4
       try clear hcz23_5
       try clear hcz23_6
       try clear hcz23_7
       try clear hcz29_0
       try clear hcz29_1
       try clear hcz29_2
       try clear hcz29_3
       try clear hcz29_4
       try clear hcz29_5
       try clear hcz29_6
       try clear hcz29_7
       try clear hcz36_0
       try clear hcz36_1
       try clear hcz36_2
       try clear hcz36_3
       try clear hcz36_4
       try clear hcz36_5
       try clear hcz36_6
       try clear hcz36_7
       try clear hcz42_0
       try clear hcz42_1
       try clear hcz42_2
       try clear hcz42_3
       try clear hcz42_4
       try clear hcz42_5
       try clear hcz42_6
       try clear hcz42_7
       try clear hcz45_0
       try clear hcz45_1
       try clear hcz45_2
       try clear hcz45_3
       try clear hcz45_4
       try clear hcz45_5
       try clear hcz45_6
       try clear hcz45_7
       try clear hcz50_0
       try clear hcz50_1
       try clear hcz50_2
       try clear hcz50_3
       try clear hcz50_4
       try clear hcz50_5
       try clear hcz50_6
       try clear hcz50_7
       try clear hcz53_0
       try clear hcz53_1
       try clear hcz53_2
       try clear hcz53_3
       try clear hcz53_4
       try clear hcz53_5
       try clear hcz53_6
       try clear hcz53_7
       try clear hcz5_0
       try clear hcz5_1
       try clear hcz5_2
       try clear hcz5_3
       try clear hcz5_4
       try clear hcz5_5
       try clear hcz5_6
       try clear hcz5_7
       try clear hcz68_0
       try clear hcz68_1
       try clear hcz68_2
       try clear hcz68_3
       try clear hcz68_4
       try clear hcz68_5
       try clear hcz68_6
       try clear hcz68_7
       try clear hcz76_0
       try clear hcz76_1
       try clear hcz76_2
       try clear hcz76_3
       try clear hcz76_4
       try clear hcz76_5
       try clear hcz76_6
       try clear hcz76_7
       try clear hcz79_0
       try clear hcz79_1
       try clear hcz79_2
       try clear hcz79_3
       try clear hcz79_4
       try clear hcz79_5
       try clear hcz79_6
       try clear hcz79_7
       try clear hcz84_0
       try clear hcz84_1
       try clear hcz84_2
       try clear hcz84_3
       try clear hcz84_4
       try clear hcz84_5
       try clear hcz84_6
       try clear hcz84_7
       try clear hcz87_0
       try clear hcz87_1
       try clear hcz87_2
       try clear hcz87_3
       try clear hcz87_4
       try clear hcz87_5
       try clear hcz87_6
       try clear hcz87_7
       try clear hfz13_0
       try clear hfz13_1
       try clear hfz13_2
       try clear hfz13_3
       try clear hfz13_4
       try clear hfz13_5
       try clear hfz13_6
       try clear hfz13_7
       try clear hfz15_0
       try clear hfz15_1
       try clear hfz15_2
       try clear hfz15_3
       try clear hfz15_4
       try clear hfz15_5
       try clear hfz15_6
       try clear hfz15_7
       try clear hfz22_0
       try clear hfz22_1
       try clear hfz22_2
       try clear hfz22_3
       try clear hfz22_4
       try clear hfz22_5
       try clear hfz22_6
       try clear hfz22_7
       try clear hfz23_0
       try clear hfz23_1
       try clear hfz23_2
       try clear hfz23_3
       try clear hfz23_4
       try clear hfz23_5
       try clear hfz23_6
       try clear hfz23_7
       try clear hfz29_0
       try clear hfz29_1
       try clear hfz29_2
       try clear hfz29_3
       try clear hfz29_4
       try clear hfz29_5
       try clear hfz29_6
       try clear hfz29_7
       try clear hfz36_0
       try clear hfz36_1
       try clear hfz36_2
       try clear hfz36_3
       try clear hfz36_4
       try clear hfz36_5
       try clear hfz36_6
       try clear hfz36_7
       try clear hfz42_0
       try clear hfz42_1
       try clear hfz42_2
       try clear hfz42_3
       try clear hfz42_4
       try clear hfz42_5
       try clear hfz42_6
       try clear hfz42_7
       try clear hfz45_0
       try clear hfz45_1
       try clear hfz45_2
       try clear hfz45_3
       try clear hfz45_4
       try clear hfz45_5
       try clear hfz45_6
       try clear hfz45_7
       try clear hfz50_0
       try clear hfz50_1
       try clear hfz50_2
       try clear hfz50_3
       try clear hfz50_4
       try clear hfz50_5
       try clear hfz50_6
       try clear hfz50_7
       try clear hfz53_0
       try clear hfz53_1
       try clear hfz53_2
       try clear hfz53_3
       try clear hfz53_4
       try clear hfz53_5
       try clear hfz53_6
       try clear hfz53_7
       try clear hfz5_0
       try clear hfz5_1
       try clear hfz5_2
       try clear hfz5_3
       try clear hfz5_4
       try clear hfz5_5
       try clear hfz5_6
       try clear hfz5_7
       try clear hfz68_0
       try clear hfz68_1
       try clear hfz68_2
       try clear hfz68_3
       try clear hfz68_4
       try clear hfz68_5
       try clear hfz68_6
       try clear hfz68_7
       try clear hfz76_0
       try clear hfz76_1
       try clear hfz76_2
       try clear hfz76_3
       try clear hfz76_4
       try clear hfz76_5
       try clear hfz76_6
       try clear hfz76_7
       try clear hfz79_0
       try clear hfz79_1
       try clear hfz79_2
       try clear hfz79_3
       try clear hfz79_4
       try clear hfz79_5
       try clear hfz79_6
       try clear hfz79_7
       try clear hfz84_0
       try clear hfz84_1
       try clear hfz84_2
       try clear hfz84_3
       try clear hfz84_4
       try clear hfz84_5
       try clear hfz84_6
       try clear hfz84_7
       try clear hfz87_0
       try clear hfz87_1
       try clear hfz87_2
       try clear hfz87_3
       try clear hfz87_4
       try clear hfz87_5
       try clear hfz87_6
       try clear hfz87_7
       try clear p2
       obtain ⟨kq, x61_59, rfl, HA, HJ59, HO_302000, HO_313000, HO_325000, BK278, BK301, BK312, BK324, HB⟩ := hcut
       have hl313000_59 := (Kd.R_reads' HO_313000.out).1
       rw [hl313000_59] at HO_313000
       (try simp only [hl313000_59])
       (try simp only [hl313000_59] at BK278)
       (try simp only [hl313000_59] at BK301)
       (try simp only [hl313000_59] at BK312)
       (try simp only [hl313000_59] at BK324)
       (try simp only [hl313000_59] at HO_302000)
       (try simp only [hl313000_59] at HO_325000)
       cases kq with
       | zero => exact absurd HA.out (by simp [laws_FnExactGiveUp.j1])
       | succ kj59 =>
        have H := HA.out
        clear HA
        simp only [laws_FnExactGiveUp.j1] at H
        by_cases c89 : x61_59 = true
        ·
         subst c89
         rw [if_pos rfl] at H
         obtain rfl := Option.some.inj H
         go_wp2
         go_ret
         exact ⟨by first | rfl | (simp only [u8w, w64m]; rfl) | (simp [errW_none, errW_some] <;> rfl) | (simp [*, errW_none, errW_some] <;> rfl), bz⟩
        ·
         replace c89 := Bool.eq_false_iff.mpr c89
         subst c89
         rw [if_neg (show ¬ (false = true) by decide)] at H
         replace H := Option.bind_eq_some_iff.mp H
         obtain ⟨⟨t340, t341⟩, A900, H⟩ := H
         try dsimp only at H
         have A90 := Aside0.mk A900
         clear A900
         replace H := Option.bind_eq_some_iff.mp H
         obtain ⟨t342, A910, H⟩ := H
         try dsimp only at H
         have A91 := Aside0.mk A910
         clear A910
         by_cases c92 : t342 < 0
         ·
          rw [if_pos c92] at H
          have c92b0 : decide (t342 < 0) = true := decide_eq_true c92
          clear c92
          obtain rfl := Option.some.inj H
          have hnb93 := NB324_278.out
          have hnc93 := NB278_324.out
          have hnb94 := NB324_301.out
          have hnc94 := NB301_324.out
          have hnb95 := NB324_312.out
          have hnc95 := NB312_324.out
          have hcz96_0 : wc.cell? ⟨gb324, 0, none⟩ = some (.slice Ao32 t313.length co32) := (blk_cell BK324.out 0).trans rfl
          have hcz96_1 : wc.cell? ⟨gb324, 1, none⟩ = some (.int .i64 t316) := (blk_cell BK324.out 1).trans rfl
          have hcz96_2 : wc.cell? ⟨gb324, 2, none⟩ = some (.bool t317) := (blk_cell BK324.out 2).trans rfl
          have hcz96_3 : wc.cell? ⟨gb324, 3, none⟩ = some (.int .i64 t318) := (blk_cell BK324.out 3).trans rfl
          have hcz96_4 : wc.cell? ⟨gb324, 4, none⟩ = some (.string t319) := (blk_cell BK324.out 4).trans rfl
          have hcz96_5 : wc.cell? ⟨gb324, 5, none⟩ = some (.int .i64 t320) := (blk_cell BK324.out 5).trans rfl
          have hcz96_6 : wc.cell? ⟨gb324, 6, none⟩ = some (.int .i64 t321) := (blk_cell BK324.out 6).trans rfl
          have hcz96_7 : wc.cell? ⟨gb324, 7, none⟩ = some (.int .i64 t322) := (blk_cell BK324.out 7).trans rfl
          have hfz96_0 := blk_frozen BK324.out 0
          have hfz96_1 := blk_frozen BK324.out 1
          have hfz96_2 := blk_frozen BK324.out 2
          have hfz96_3 := blk_frozen BK324.out 3
          have hfz96_4 := blk_frozen BK324.out 4
          have hfz96_5 := blk_frozen BK324.out 5
          have hfz96_6 := blk_frozen BK324.out 6
          have hfz96_7 := blk_frozen BK324.out 7
          go_wp2_with (first | ((with_reducible refine gate_callee (f := 40) rfl ?_); refine goesL_ (some 64) rfl rfl Try.func40 (by kernel_rfl) rfl #[.agg #[.slice Ao32 t313.length co32, .int .i64 t316, .bool t317, .int .i64 t318, .string t319, .int .i64 t320, .int .i64 t321, .int .i64 t322], .int .i64 1] rfl (by (try simp only [List.map_toArray, List.map_cons, List.map_nil]); first | done | rfl | (simp only [List.length_drop, List.length_take]; rfl)) ?_; (with_reducible refine (laws_markCaller.calls kj59 (fun k_ => some k_ = (.slice Ao32 t313.length co32 : Value).ownBlock) (.slice Ao32 t313.length co32) t313 t316 t317 t318 t319 t320 t321 t322 1 t340 t341 w _ ?side1 ?side2 A90.out).mono ?_); (case side1 => repeat (first | (with_reducible first | exact HB.out | apply below_alloc | apply pw_below_drewN | apply below_drew1 | refine below_set ?_ GE278.out | refine below_set ?_ GE301.out | refine below_set ?_ GE312.out | refine below_set ?_ GE324.out) | exact HB.out)); (case side2 => exact Kd.R_tight rfl HO_325000.out); rintro e w97 ⟨rfl, hy0, hb, hkp⟩; refine ⟨_, rfl, ?_⟩; have n0_ := Aside0.mk (Kd.R_mono (ok' := fun k_ => some k_ ≠ (.slice Ao26 t338.length co26 : Value).ownBlock ∧ some k_ ≠ (.slice Ao32 t313.length co32 : Value).ownBlock) (Kd.R_keptB (HO_302000.out) hkp (fun k_ hk_ hs_ => (hk_.2) hs_)) (fun k_ hk_ => ⟨hk_.1.1, hk_.1.2⟩)); have n1_ := Aside0.mk (Kd.R_mono (ok' := fun k_ => some k_ ≠ (.slice Ao20 t290.length co20 : Value).ownBlock ∧ some k_ ≠ (.slice Ao32 t313.length co32 : Value).ownBlock) (Kd.R_keptB (HO_313000.out) hkp (fun k_ hk_ hs_ => (hk_.2) hs_)) (fun k_ hk_ => ⟨hk_.1.1, hk_.1.2⟩)); have n2_ := Aside0.mk (Kd.R_reok rfl hy0 (fun k_ e_ => HO_325000.out.1 k_ e_)); have n3_ := Aside0.mk (blk_kept (bq BK278) hkp (fun hs_ => (fun e_ => (Kd.R_ne HO_325000.out BK278.out (by decide)) e_) hs_)); have n4_ := Aside0.mk (blk_kept (bq BK301) hkp (fun hs_ => (fun e_ => (Kd.R_ne HO_325000.out BK301.out (by decide)) e_) hs_)); have n5_ := Aside0.mk (blk_kept (bq BK312) hkp (fun hs_ => (fun e_ => (Kd.R_ne HO_325000.out BK312.out (by decide)) e_) hs_)); have n6_ := Aside0.mk (blk_kept (bq BK324) hkp (fun hs_ => (fun e_ => (Kd.R_ne HO_325000.out BK324.out (by decide)) e_) hs_)); have n7_ := Aside0.mk (hb); clear HO_302000; clear HO_313000; clear HO_325000; clear BK278; clear BK301; clear BK312; clear BK324; clear HB; have HO_302000 := n0_; have HO_313000 := n1_; have HO_325000 := n2_; have BK278 := n3_; have BK301 := n4_; have BK312 := n5_; have BK324 := n6_; have HB := n7_; clear n0_ n1_ n2_ n3_ n4_ n5_ n6_ n7_; (try clear hb); (try clear hkp); (try clear hy0); have hcz98_0 : w97.cell? ⟨gb324, 0, none⟩ = some (.slice Ao32 t313.length co32) := (blk_cell BK324.out 0).trans rfl; have hcz98_1 : w97.cell? ⟨gb324, 1, none⟩ = some (.int .i64 t316) := (blk_cell BK324.out 1).trans rfl; have hcz98_2 : w97.cell? ⟨gb324, 2, none⟩ = some (.bool t317) := (blk_cell BK324.out 2).trans rfl; have hcz98_3 : w97.cell? ⟨gb324, 3, none⟩ = some (.int .i64 t318) := (blk_cell BK324.out 3).trans rfl; have hcz98_4 : w97.cell? ⟨gb324, 4, none⟩ = some (.string t319) := (blk_cell BK324.out 4).trans rfl; have hcz98_5 : w97.cell? ⟨gb324, 5, none⟩ = some (.int .i64 t320) := (blk_cell BK324.out 5).trans rfl; have hcz98_6 : w97.cell? ⟨gb324, 6, none⟩ = some (.int .i64 t321) := (blk_cell BK324.out 6).trans rfl; have hcz98_7 : w97.cell? ⟨gb324, 7, none⟩ = some (.int .i64 t322) := (blk_cell BK324.out 7).trans rfl; have hfz98_0 := blk_frozen BK324.out 0; have hfz98_1 := blk_frozen BK324.out 1; have hfz98_2 := blk_frozen BK324.out 2; have hfz98_3 := blk_frozen BK324.out 3; have hfz98_4 := blk_frozen BK324.out 4; have hfz98_5 := blk_frozen BK324.out 5; have hfz98_6 := blk_frozen BK324.out 6; have hfz98_7 := blk_frozen BK324.out 7) | ((with_reducible refine gate_callee (f := 41) rfl ?_); refine goesL_ (some 67) rfl rfl Try.func41 (by kernel_rfl) rfl #[.agg #[.slice Ao32 t341.length co32, .int .i64 t316, .bool t317, .int .i64 t318, .string t319, .int .i64 t320, .int .i64 t321, .int .i64 t322], .int .i64 1] rfl (by (try simp only [List.map_toArray, List.map_cons, List.map_nil]); first | done | (rw [show t341.length = t313.length from (Kd.R_reads' HO_325000.out).1.symm] <;> rfl) | rfl | (simp only [List.length_drop, List.length_take]; rfl)) ?_; (with_reducible refine (laws_heldCaller.calls kj59 _ _ t341 t316 t317 t318 t319 t320 t321 t322 1 t342 _ ?side1 ?side2 A91.out).mono ?_); (case side1 => repeat (first | exact (Kd.R_reads' HO_325000.out).2.2 | (with_reducible refine Kd.C_alloc ?_ _) | (with_reducible refine Kd.C_drewN ?_ _) | (with_reducible refine Kd.C_drew ?_))); (case side2 => rw [show t341.length = t313.length from (Kd.R_reads' HO_325000.out).1.symm]; exact (Kd.R_reads' HO_325000.out).2.1); rintro e w99 ⟨rfl, hb⟩; refine ⟨_, rfl, ?_⟩; have n0_ := Aside0.mk (Kd.R_below (by (with_reducible repeat (first | apply Kd.R_alloc | apply Kd.R_drewN | apply Kd.R_drew)); exact HO_302000.out) hb); have n1_ := Aside0.mk (Kd.R_below (by (with_reducible repeat (first | apply Kd.R_alloc | apply Kd.R_drewN | apply Kd.R_drew)); exact HO_313000.out) hb); have n2_ := Aside0.mk (Kd.R_below (by (with_reducible repeat (first | apply Kd.R_alloc | apply Kd.R_drewN | apply Kd.R_drew)); exact HO_325000.out) hb); have n3_ := bkb BK278 hb; have n4_ := bkb BK301 hb; have n5_ := bkb BK312 hb; have n6_ := bkb BK324 hb; have n7_ := Aside0.mk (below_step (bz) hb); clear HO_302000; clear HO_313000; clear HO_325000; clear BK278; clear BK301; clear BK312; clear BK324; clear HB; have HO_302000 := n0_; have HO_313000 := n1_; have HO_325000 := n2_; have BK278 := n3_; have BK301 := n4_; have BK312 := n5_; have BK324 := n6_; have HB := n7_; clear n0_ n1_ n2_ n3_ n4_ n5_ n6_ n7_; (try clear hb); (try clear hb2); (try clear hk); (try clear hi)))
          go_ret
          exact ⟨by first | rfl | (simp only [u8w, w64m]; rfl) | (simp [errW_none, errW_some] <;> rfl) | (simp [*, errW_none, errW_some] <;> rfl), bz⟩
         ·
          rw [if_neg c92] at H
          have c92b0 : decide (t342 < 0) = false := decide_eq_false c92
          clear c92
          by_cases c100 : t342 = t340
          ·
           rw [if_pos c100] at H
           have c100b0 : (t342 == t340) = true := beq_iff_eq.mpr c100
           have c100b1 : (t342 != t340) = false := bne_eq_false_iff_eq.mpr c100
           clear c100
           replace H := Option.bind_eq_some_iff.mp H
           obtain ⟨⟨t343, t346, t347, t348, t349, t350, t351, t352⟩, A1010, H⟩ := H
           try dsimp only at H
           have A101 := Aside0.mk A1010
           clear A1010
           replace H := Option.bind_eq_some_iff.mp H
           obtain ⟨⟨t353, t356, t357, t358, t359, t360, t361, t362, t363⟩, A1020, H⟩ := H
           try dsimp only at H
           have A102 := Aside0.mk A1020
           clear A1020
           have HC103 := Aside0.mk H
           clear H
           have hnb104 := NB324_278.out
           have hnc104 := NB278_324.out
           have hnb105 := NB324_301.out
           have hnc105 := NB301_324.out
           have hnb106 := NB324_312.out
           have hnc106 := NB312_324.out
           have hcz107_0 : wc.cell? ⟨gb324, 0, none⟩ = some (.slice Ao32 t313.length co32) := (blk_cell BK324.out 0).trans rfl
           have hcz107_1 : wc.cell? ⟨gb324, 1, none⟩ = some (.int .i64 t316) := (blk_cell BK324.out 1).trans rfl
           have hcz107_2 : wc.cell? ⟨gb324, 2, none⟩ = some (.bool t317) := (blk_cell BK324.out 2).trans rfl
           have hcz107_3 : wc.cell? ⟨gb324, 3, none⟩ = some (.int .i64 t318) := (blk_cell BK324.out 3).trans rfl
           have hcz107_4 : wc.cell? ⟨gb324, 4, none⟩ = some (.string t319) := (blk_cell BK324.out 4).trans rfl
           have hcz107_5 : wc.cell? ⟨gb324, 5, none⟩ = some (.int .i64 t320) := (blk_cell BK324.out 5).trans rfl
           have hcz107_6 : wc.cell? ⟨gb324, 6, none⟩ = some (.int .i64 t321) := (blk_cell BK324.out 6).trans rfl
           have hcz107_7 : wc.cell? ⟨gb324, 7, none⟩ = some (.int .i64 t322) := (blk_cell BK324.out 7).trans rfl
           have hfz107_0 := blk_frozen BK324.out 0
           have hfz107_1 := blk_frozen BK324.out 1
           have hfz107_2 := blk_frozen BK324.out 2
           have hfz107_3 := blk_frozen BK324.out 3
           have hfz107_4 := blk_frozen BK324.out 4
           have hfz107_5 := blk_frozen BK324.out 5
           have hfz107_6 := blk_frozen BK324.out 6
           have hfz107_7 := blk_frozen BK324.out 7
           go_upto_region 25 with (first | ((with_reducible refine gate_callee (f := 40) rfl ?_); refine goesL_ (some 64) rfl rfl Try.func40 (by kernel_rfl) rfl #[.agg #[.slice Ao32 t313.length co32, .int .i64 t316, .bool t317, .int .i64 t318, .string t319, .int .i64 t320, .int .i64 t321, .int .i64 t322], .int .i64 1] rfl (by (try simp only [List.map_toArray, List.map_cons, List.map_nil]); first | done | rfl | (simp only [List.length_drop, List.length_take]; rfl)) ?_; (with_reducible refine (laws_markCaller.calls kj59 (fun k_ => some k_ = (.slice Ao32 t313.length co32 : Value).ownBlock) (.slice Ao32 t313.length co32) t313 t316 t317 t318 t319 t320 t321 t322 1 t340 t341 w _ ?side1 ?side2 A90.out).mono ?_); (case side1 => repeat (first | (with_reducible first | exact HB.out | apply below_alloc | apply pw_below_drewN | apply below_drew1 | refine below_set ?_ GE278.out | refine below_set ?_ GE301.out | refine below_set ?_ GE312.out | refine below_set ?_ GE324.out) | exact HB.out)); (case side2 => exact Kd.R_tight rfl HO_325000.out); rintro e w108 ⟨rfl, hy0, hb, hkp⟩; refine ⟨_, rfl, ?_⟩; have n0_ := Aside0.mk (Kd.R_mono (ok' := fun k_ => some k_ ≠ (.slice Ao26 t338.length co26 : Value).ownBlock ∧ some k_ ≠ (.slice Ao32 t313.length co32 : Value).ownBlock) (Kd.R_keptB (HO_302000.out) hkp (fun k_ hk_ hs_ => (hk_.2) hs_)) (fun k_ hk_ => ⟨hk_.1.1, hk_.1.2⟩)); have n1_ := Aside0.mk (Kd.R_mono (ok' := fun k_ => some k_ ≠ (.slice Ao20 t290.length co20 : Value).ownBlock ∧ some k_ ≠ (.slice Ao32 t313.length co32 : Value).ownBlock) (Kd.R_keptB (HO_313000.out) hkp (fun k_ hk_ hs_ => (hk_.2) hs_)) (fun k_ hk_ => ⟨hk_.1.1, hk_.1.2⟩)); have n2_ := Aside0.mk (Kd.R_reok rfl hy0 (fun k_ e_ => HO_325000.out.1 k_ e_)); have n3_ := Aside0.mk (blk_kept (bq BK278) hkp (fun hs_ => (fun e_ => (Kd.R_ne HO_325000.out BK278.out (by decide)) e_) hs_)); have n4_ := Aside0.mk (blk_kept (bq BK301) hkp (fun hs_ => (fun e_ => (Kd.R_ne HO_325000.out BK301.out (by decide)) e_) hs_)); have n5_ := Aside0.mk (blk_kept (bq BK312) hkp (fun hs_ => (fun e_ => (Kd.R_ne HO_325000.out BK312.out (by decide)) e_) hs_)); have n6_ := Aside0.mk (blk_kept (bq BK324) hkp (fun hs_ => (fun e_ => (Kd.R_ne HO_325000.out BK324.out (by decide)) e_) hs_)); have n7_ := Aside0.mk (hb); clear HO_302000; clear HO_313000; clear HO_325000; clear BK278; clear BK301; clear BK312; clear BK324; clear HB; have HO_302000 := n0_; have HO_313000 := n1_; have HO_325000 := n2_; have BK278 := n3_; have BK301 := n4_; have BK312 := n5_; have BK324 := n6_; have HB := n7_; clear n0_ n1_ n2_ n3_ n4_ n5_ n6_ n7_; (try clear hb); (try clear hkp); (try clear hy0); have hcz109_0 : w108.cell? ⟨gb324, 0, none⟩ = some (.slice Ao32 t313.length co32) := (blk_cell BK324.out 0).trans rfl; have hcz109_1 : w108.cell? ⟨gb324, 1, none⟩ = some (.int .i64 t316) := (blk_cell BK324.out 1).trans rfl; have hcz109_2 : w108.cell? ⟨gb324, 2, none⟩ = some (.bool t317) := (blk_cell BK324.out 2).trans rfl; have hcz109_3 : w108.cell? ⟨gb324, 3, none⟩ = some (.int .i64 t318) := (blk_cell BK324.out 3).trans rfl; have hcz109_4 : w108.cell? ⟨gb324, 4, none⟩ = some (.string t319) := (blk_cell BK324.out 4).trans rfl; have hcz109_5 : w108.cell? ⟨gb324, 5, none⟩ = some (.int .i64 t320) := (blk_cell BK324.out 5).trans rfl; have hcz109_6 : w108.cell? ⟨gb324, 6, none⟩ = some (.int .i64 t321) := (blk_cell BK324.out 6).trans rfl; have hcz109_7 : w108.cell? ⟨gb324, 7, none⟩ = some (.int .i64 t322) := (blk_cell BK324.out 7).trans rfl; have hfz109_0 := blk_frozen BK324.out 0; have hfz109_1 := blk_frozen BK324.out 1; have hfz109_2 := blk_frozen BK324.out 2; have hfz109_3 := blk_frozen BK324.out 3; have hfz109_4 := blk_frozen BK324.out 4; have hfz109_5 := blk_frozen BK324.out 5; have hfz109_6 := blk_frozen BK324.out 6; have hfz109_7 := blk_frozen BK324.out 7) | ((with_reducible refine gate_callee (f := 41) rfl ?_); refine goesL_ (some 67) rfl rfl Try.func41 (by kernel_rfl) rfl #[.agg #[.slice Ao32 t341.length co32, .int .i64 t316, .bool t317, .int .i64 t318, .string t319, .int .i64 t320, .int .i64 t321, .int .i64 t322], .int .i64 1] rfl (by (try simp only [List.map_toArray, List.map_cons, List.map_nil]); first | done | (rw [show t341.length = t313.length from (Kd.R_reads' HO_325000.out).1.symm] <;> rfl) | rfl | (simp only [List.length_drop, List.length_take]; rfl)) ?_; (with_reducible refine (laws_heldCaller.calls kj59 _ _ t341 t316 t317 t318 t319 t320 t321 t322 1 t342 _ ?side1 ?side2 A91.out).mono ?_); (case side1 => repeat (first | exact (Kd.R_reads' HO_325000.out).2.2 | (with_reducible refine Kd.C_alloc ?_ _) | (with_reducible refine Kd.C_drewN ?_ _) | (with_reducible refine Kd.C_drew ?_))); (case side2 => rw [show t341.length = t313.length from (Kd.R_reads' HO_325000.out).1.symm]; exact (Kd.R_reads' HO_325000.out).2.1); rintro e w110 ⟨rfl, hb⟩; refine ⟨_, rfl, ?_⟩; have n0_ := Aside0.mk (Kd.R_below (by (with_reducible repeat (first | apply Kd.R_alloc | apply Kd.R_drewN | apply Kd.R_drew)); exact HO_302000.out) hb); have n1_ := Aside0.mk (Kd.R_below (by (with_reducible repeat (first | apply Kd.R_alloc | apply Kd.R_drewN | apply Kd.R_drew)); exact HO_313000.out) hb); have n2_ := Aside0.mk (Kd.R_below (by (with_reducible repeat (first | apply Kd.R_alloc | apply Kd.R_drewN | apply Kd.R_drew)); exact HO_325000.out) hb); have n3_ := bkb BK278 hb; have n4_ := bkb BK301 hb; have n5_ := bkb BK312 hb; have n6_ := bkb BK324 hb; have n7_ := Aside0.mk (below_step (bz) hb); clear HO_302000; clear HO_313000; clear HO_325000; clear BK278; clear BK301; clear BK312; clear BK324; clear HB; have HO_302000 := n0_; have HO_313000 := n1_; have HO_325000 := n2_; have BK278 := n3_; have BK301 := n4_; have BK312 := n5_; have BK324 := n6_; have HB := n7_; clear n0_ n1_ n2_ n3_ n4_ n5_ n6_ n7_; (try clear hb); (try clear hb2); (try clear hk); (try clear hi); have hnb111 := NB278_301.out; have hnc111 := NB301_278.out; have hnb112 := NB278_312.out; have hnc112 := NB312_278.out; have hcz113_0 : w110.cell? ⟨gb278, 0, none⟩ = some (.slice A0_0 l0_0.length c0_0) := (blk_cell BK278.out 0).trans rfl; have hcz113_1 : w110.cell? ⟨gb278, 1, none⟩ = some (.int .i64 a0_1) := (blk_cell BK278.out 1).trans rfl; have hcz113_2 : w110.cell? ⟨gb278, 2, none⟩ = some (.bool a0_2) := (blk_cell BK278.out 2).trans rfl; have hcz113_3 : w110.cell? ⟨gb278, 3, none⟩ = some (.int .i64 a0_3) := (blk_cell BK278.out 3).trans rfl; have hcz113_4 : w110.cell? ⟨gb278, 4, none⟩ = some (.string a0_4) := (blk_cell BK278.out 4).trans rfl; have hcz113_5 : w110.cell? ⟨gb278, 5, none⟩ = some (.int .i64 a0_5) := (blk_cell BK278.out 5).trans rfl; have hcz113_6 : w110.cell? ⟨gb278, 6, none⟩ = some (.int .i64 a0_6) := (blk_cell BK278.out 6).trans rfl; have hcz113_7 : w110.cell? ⟨gb278, 7, none⟩ = some (.int .i64 a0_7) := (blk_cell BK278.out 7).trans rfl; have hfz113_0 := blk_frozen BK278.out 0; have hfz113_1 := blk_frozen BK278.out 1; have hfz113_2 := blk_frozen BK278.out 2; have hfz113_3 := blk_frozen BK278.out 3; have hfz113_4 := blk_frozen BK278.out 4; have hfz113_5 := blk_frozen BK278.out 5; have hfz113_6 := blk_frozen BK278.out 6; have hfz113_7 := blk_frozen BK278.out 7) | ((with_reducible refine gate_callee (f := 37) rfl ?_); refine goesL_ (some 75) rfl rfl Try.func37 (by kernel_rfl) rfl #[.agg #[.slice A0_0 l0_0.length c0_0, .int .i64 a0_1, .bool a0_2, .int .i64 a0_3, .string a0_4, .int .i64 a0_5, .int .i64 a0_6, .int .i64 a0_7]] rfl (by (try simp only [List.map_toArray, List.map_cons, List.map_nil]); first | done | rfl | (simp only [List.length_drop, List.length_take]; rfl)) ?_; (with_reducible refine (laws_toCaller.calls kj59 _ _ l0_0 a0_1 a0_2 a0_3 a0_4 a0_5 a0_6 a0_7 t343 t346 t347 t348 t349 t350 t351 t352 _ ?side1 ?side2 A101.out).mono ?_); (case side1 => repeat (first | exact (Kd.C_below HR0_0.out HB.out) | (with_reducible refine Kd.C_alloc ?_ _) | (with_reducible refine Kd.C_drewN ?_ _) | (with_reducible refine Kd.C_drew ?_))); (case side2 => exact HC0_0.out); rintro e w114 ⟨v344, rfl, ho0, hb⟩; refine ⟨_, rfl, ?_⟩; have n0_ := Aside0.mk (Kd.R_elder' (by (with_reducible repeat (first | apply Kd.R_alloc | apply Kd.R_drewN | apply Kd.R_drew)); exact HO_302000.out) (Kd.R_base ho0) hb); have n1_ := Aside0.mk (Kd.R_elder' (by (with_reducible repeat (first | apply Kd.R_alloc | apply Kd.R_drewN | apply Kd.R_drew)); exact HO_313000.out) (Kd.R_base ho0) hb); have n2_ := Aside0.mk (Kd.R_elder' (by (with_reducible repeat (first | apply Kd.R_alloc | apply Kd.R_drewN | apply Kd.R_drew)); exact HO_325000.out) (Kd.R_base ho0) hb); have n3_ := Aside0.mk (Kd.R_lower (Kd.R_new' (Kd.R_new' (Kd.R_new' ho0 (Kd.R_lt (by (with_reducible repeat (first | apply Kd.R_alloc | apply Kd.R_drewN | apply Kd.R_drew)); exact HO_302000.out))) (Kd.R_lt (by (with_reducible repeat (first | apply Kd.R_alloc | apply Kd.R_drewN | apply Kd.R_drew)); exact HO_313000.out))) (Kd.R_lt (by (with_reducible repeat (first | apply Kd.R_alloc | apply Kd.R_drewN | apply Kd.R_drew)); exact HO_325000.out))) (below_size (bz))); have n4_ := bkb BK278 hb; have n5_ := bkb BK301 hb; have n6_ := bkb BK312 hb; have n7_ := bkb BK324 hb; have n8_ := Aside0.mk (below_step (bz) hb); clear HO_302000; clear HO_313000; clear HO_325000; clear BK278; clear BK301; clear BK312; clear BK324; clear HB; have HO_302000 := n0_; have HO_313000 := n1_; have HO_325000 := n2_; have HO345 := n3_; have BK278 := n4_; have BK301 := n5_; have BK312 := n6_; have BK324 := n7_; have HB := n8_; clear n0_ n1_ n2_ n3_ n4_ n5_ n6_ n7_ n8_; (try clear hb); (try clear hb2); (try clear hk); (try clear hi); (try clear ho0); obtain ⟨Ao115, co115, eo115⟩ := Kd.R_slice HO345.out; subst eo115) | ((with_reducible refine gate_callee (f := 38) rfl ?_); refine goesL_ (some 76) rfl rfl Try.func38 (by kernel_rfl) rfl #[.agg #[.slice Ao115 t343.length co115, .int .i64 t346, .bool t347, .int .i64 t348, .string t349, .int .i64 t350, .int .i64 t351, .int .i64 t352]] rfl (by (try simp only [List.map_toArray, List.map_cons, List.map_nil]); first | done | rfl | (simp only [List.length_drop, List.length_take]; rfl)) ?_; (with_reducible refine (impl_GiveUp.calls kj59 _ _ t343 t346 t347 t348 t349 t350 t351 t352 t353 t356 t357 t358 t359 t360 t361 t362 t363 _ ?side1 ?side2 A102.out).mono ?_); (case side1 => repeat (first | exact (Kd.R_reads' HO345.out).2.2 | (with_reducible refine Kd.C_alloc ?_ _) | (with_reducible refine Kd.C_drewN ?_ _) | (with_reducible refine Kd.C_drew ?_))); (case side2 => exact (Kd.R_reads' HO345.out).2.1); rintro e w116 ⟨v354, rfl, ho0, hb⟩; refine ⟨_, rfl, ?_⟩; have n0_ := Aside0.mk (Kd.R_elder' (by (with_reducible repeat (first | apply Kd.R_alloc | apply Kd.R_drewN | apply Kd.R_drew)); exact HO_302000.out) (Kd.R_base ho0) hb); have n1_ := Aside0.mk (Kd.R_elder' (by (with_reducible repeat (first | apply Kd.R_alloc | apply Kd.R_drewN | apply Kd.R_drew)); exact HO_313000.out) (Kd.R_base ho0) hb); have n2_ := Aside0.mk (Kd.R_elder' (by (with_reducible repeat (first | apply Kd.R_alloc | apply Kd.R_drewN | apply Kd.R_drew)); exact HO_325000.out) (Kd.R_base ho0) hb); have n3_ := Aside0.mk (Kd.R_elder' (by (with_reducible repeat (first | apply Kd.R_alloc | apply Kd.R_drewN | apply Kd.R_drew)); exact HO345.out) (Kd.R_base ho0) hb); have n4_ := Aside0.mk (Kd.R_lower (Kd.R_new' (Kd.R_new' (Kd.R_new' (Kd.R_new' ho0 (Kd.R_lt (by (with_reducible repeat (first | apply Kd.R_alloc | apply Kd.R_drewN | apply Kd.R_drew)); exact HO_302000.out))) (Kd.R_lt (by (with_reducible repeat (first | apply Kd.R_alloc | apply Kd.R_drewN | apply Kd.R_drew)); exact HO_313000.out))) (Kd.R_lt (by (with_reducible repeat (first | apply Kd.R_alloc | apply Kd.R_drewN | apply Kd.R_drew)); exact HO_325000.out))) (Kd.R_lt (by (with_reducible repeat (first | apply Kd.R_alloc | apply Kd.R_drewN | apply Kd.R_drew)); exact HO345.out))) (below_size (bz))); have n5_ := bkb BK278 hb; have n6_ := bkb BK301 hb; have n7_ := bkb BK312 hb; have n8_ := bkb BK324 hb; have n9_ := Aside0.mk (below_step (bz) hb); clear HO_302000; clear HO_313000; clear HO_325000; clear HO345; clear BK278; clear BK301; clear BK312; clear BK324; clear HB; have HO_302000 := n0_; have HO_313000 := n1_; have HO_325000 := n2_; have HO345 := n3_; have HO355 := n4_; have BK278 := n5_; have BK301 := n6_; have BK312 := n7_; have BK324 := n8_; have HB := n9_; clear n0_ n1_ n2_ n3_ n4_ n5_ n6_ n7_ n8_ n9_; (try clear hb); (try clear hb2); (try clear hk); (try clear hi); (try clear ho0)) | ((with_reducible refine gate_dst (N := 12) rfl ?_); refine box_event ?hg (N := 12) ?hd (cs := #[.slice none 0 0, .int .i64 0, .bool false, .int .i64 0, .string (⟨#[]⟩ : ByteArray), .int .i64 0, .int .i64 0, .int .i64 0]) (t := 41) ?hr ?_; (case hd => rfl); (case hg => rfl); (case hr => first | (go_simp; done) | (go_simp; rfl)); intro gb364 hg w117 hbox hb; have n0_ := Aside0.mk (Kd.R_below (by (with_reducible repeat (first | apply Kd.R_alloc | apply Kd.R_drewN | apply Kd.R_drew)); exact HO_302000.out) hb); have n1_ := Aside0.mk (Kd.R_below (by (with_reducible repeat (first | apply Kd.R_alloc | apply Kd.R_drewN | apply Kd.R_drew)); exact HO_313000.out) hb); have n2_ := Aside0.mk (Kd.R_below (by (with_reducible repeat (first | apply Kd.R_alloc | apply Kd.R_drewN | apply Kd.R_drew)); exact HO_325000.out) hb); have n3_ := Aside0.mk (Kd.R_below (by (with_reducible repeat (first | apply Kd.R_alloc | apply Kd.R_drewN | apply Kd.R_drew)); exact HO345.out) hb); have n4_ := Aside0.mk (Kd.R_below (by (with_reducible repeat (first | apply Kd.R_alloc | apply Kd.R_drewN | apply Kd.R_drew)); exact HO355.out) hb); have n5_ := bkb BK278 hb; have n6_ := bkb BK301 hb; have n7_ := bkb BK312 hb; have n8_ := bkb BK324 hb; have n9_ := Aside0.mk (below_step (bz) hb); have n10_ := Aside0.mk (hbox); have n11_ : Aside0 (w.heap.size ≤ gb364) := bsg hg; have n12_ : Aside0 (w.heap.size ≤ gb364) := bsg hg; have n13_ := nlt hg BK278; have n14_ := ngt hg BK278; have n15_ := nlt hg BK301; have n16_ := ngt hg BK301; have n17_ := nlt hg BK312; have n18_ := ngt hg BK312; have n19_ := nlt hg BK324; have n20_ := ngt hg BK324; clear HO_302000; clear HO_313000; clear HO_325000; clear HO345; clear HO355; clear BK278; clear BK301; clear BK312; clear BK324; clear HB; have HO_302000 := n0_; have HO_313000 := n1_; have HO_325000 := n2_; have HO345 := n3_; have HO355 := n4_; have BK278 := n5_; have BK301 := n6_; have BK312 := n7_; have BK324 := n8_; have HB := n9_; have BK364 := n10_; have GW364 := n11_; have GE364 := n12_; have NB278_364 := n13_; have NB364_278 := n14_; have NB301_364 := n15_; have NB364_301 := n16_; have NB312_364 := n17_; have NB364_312 := n18_; have NB324_364 := n19_; have NB364_324 := n20_; clear n0_ n1_ n2_ n3_ n4_ n5_ n6_ n7_ n8_ n9_ n10_ n11_ n12_ n13_ n14_ n15_ n16_ n17_ n18_ n19_ n20_; clear hb hbox hg; obtain ⟨Ao118, co118, eo118⟩ := Kd.R_slice HO355.out; subst eo118; have hnb119 := NB364_278.out; have hnc119 := NB278_364.out; have hnb120 := NB364_301.out; have hnc120 := NB301_364.out; have hnb121 := NB364_312.out; have hnc121 := NB312_364.out; have hnb122 := NB364_324.out; have hnc122 := NB324_364.out; have hcz123_0 : w117.cell? ⟨gb364, 0, none⟩ = some (.slice none 0 0) := (blk_cell BK364.out 0).trans rfl; have hcz123_1 : w117.cell? ⟨gb364, 1, none⟩ = some (.int .i64 0) := (blk_cell BK364.out 1).trans rfl; have hcz123_2 : w117.cell? ⟨gb364, 2, none⟩ = some (.bool false) := (blk_cell BK364.out 2).trans rfl; have hcz123_3 : w117.cell? ⟨gb364, 3, none⟩ = some (.int .i64 0) := (blk_cell BK364.out 3).trans rfl; have hcz123_4 : w117.cell? ⟨gb364, 4, none⟩ = some (.string (⟨#[]⟩ : ByteArray)) := (blk_cell BK364.out 4).trans rfl; have hcz123_5 : w117.cell? ⟨gb364, 5, none⟩ = some (.int .i64 0) := (blk_cell BK364.out 5).trans rfl; have hcz123_6 : w117.cell? ⟨gb364, 6, none⟩ = some (.int .i64 0) := (blk_cell BK364.out 6).trans rfl; have hcz123_7 : w117.cell? ⟨gb364, 7, none⟩ = some (.int .i64 0) := (blk_cell BK364.out 7).trans rfl; have hfz123_0 := blk_frozen BK364.out 0; have hfz123_1 := blk_frozen BK364.out 1; have hfz123_2 := blk_frozen BK364.out 2; have hfz123_3 := blk_frozen BK364.out 3; have hfz123_4 := blk_frozen BK364.out 4; have hfz123_5 := blk_frozen BK364.out 5; have hfz123_6 := blk_frozen BK364.out 6; have hfz123_7 := blk_frozen BK364.out 7))
           (try simp only [Act.put, List.setIfInBounds_toArray, List.set_cons_zero, List.set_cons_succ])
           go_cut [87] (fun v87 wc => ∃ (kq : Nat) (x87_102 : Bool), v87 = .bool x87_102 ∧ Aside0 (laws_FnExactGiveUp.j2 kq t340 x87_102 t341 t316 t317 t318 t319 t320 t321 t322 = some r) ∧ Aside0 (kq ≤ kj59) ∧ Aside0 (Kd.R k35 35 wc w.heap.size (fun k_ => some k_ ≠ ((.slice Ao26 t338.length co26) : Value).ownBlock ∧ some k_ ≠ ((.slice Ao32 t313.length co32) : Value).ownBlock ∧ some k_ ≠ ((.slice Ao118 t353.length co118) : Value).ownBlock) (.slice Ao20 t290.length co20) t290) ∧ Aside0 (Kd.R k35 35 wc w.heap.size (fun k_ => some k_ ≠ ((.slice Ao20 t290.length co20) : Value).ownBlock ∧ some k_ ≠ ((.slice Ao32 t313.length co32) : Value).ownBlock ∧ some k_ ≠ ((.slice Ao118 t353.length co118) : Value).ownBlock) (.slice Ao26 t338.length co26) t338) ∧ Aside0 (Kd.R k35 35 wc w.heap.size (fun k_ => some k_ ≠ ((.slice Ao20 t290.length co20) : Value).ownBlock ∧ some k_ ≠ ((.slice Ao26 t338.length co26) : Value).ownBlock ∧ some k_ ≠ ((.slice Ao118 t353.length co118) : Value).ownBlock) (.slice Ao32 t313.length co32) t341) ∧ Aside0 (Kd.R k35 35 wc w.heap.size (fun k_ => some k_ ≠ ((.slice Ao20 t290.length co20) : Value).ownBlock ∧ some k_ ≠ ((.slice Ao26 t338.length co26) : Value).ownBlock ∧ some k_ ≠ ((.slice Ao32 t313.length co32) : Value).ownBlock) (.slice Ao118 t353.length co118) t353) ∧ Aside0 (wc.heap[gb278]? = some (.cells #[(.slice A0_0 l0_0.length c0_0), .int .i64 a0_1, .bool a0_2, .int .i64 a0_3, .string a0_4, .int .i64 a0_5, .int .i64 a0_6, .int .i64 a0_7] 60 (0, 0))) ∧ Aside0 (wc.heap[gb301]? = some (.cells #[(.slice Ao20 t290.length co20), .int .i64 t293, .bool t294, .int .i64 t295, .string t296, .int .i64 t297, .int .i64 t298, .int .i64 t299] 41 (0, 0))) ∧ Aside0 (wc.heap[gb312]? = some (.cells #[(.slice Ao26 t338.length co26), .int .i64 t305, .bool t306, .int .i64 t307, .string t308, .int .i64 t309, .int .i64 t310, .int .i64 t311] 41 (0, 0))) ∧ Aside0 (wc.heap[gb324]? = some (.cells #[(.slice Ao32 t313.length co32), .int .i64 t316, .bool t317, .int .i64 t318, .string t319, .int .i64 t320, .int .i64 t321, .int .i64 t322] 41 (0, 0))) ∧ Aside0 (wc.heap[gb364]? = some (.cells #[(.slice Ao118 t353.length co118), .int .i64 t356, .bool t357, .int .i64 t358, .string t359, .int .i64 t360, .int .i64 t361, .int .i64 t362] 41 (0, 0))) ∧ Aside0 (Below w.heap.size w wc))
           case first =>
            have H := HC103.out
            clear HC103
            replace H := Option.bind_eq_some_iff.mp H
            obtain ⟨t365, A1240, H⟩ := H
            try dsimp only at H
            have A124 := Aside0.mk A1240
            clear A1240
            by_cases c125 : t365 = true
            ·
             subst c125
             rw [if_pos rfl] at H
             have H' := Aside0.mk H
             clear H
             have hnb126 := NB364_278.out
             have hnc126 := NB278_364.out
             have hnb127 := NB364_301.out
             have hnc127 := NB301_364.out
             have hnb128 := NB364_312.out
             have hnc128 := NB312_364.out
             have hnb129 := NB364_324.out
             have hnc129 := NB324_364.out
             have hcz130_0 : w117.cell? ⟨gb364, 0, none⟩ = some (.slice none 0 0) := (blk_cell BK364.out 0).trans rfl
             have hcz130_1 : w117.cell? ⟨gb364, 1, none⟩ = some (.int .i64 0) := (blk_cell BK364.out 1).trans rfl
             have hcz130_2 : w117.cell? ⟨gb364, 2, none⟩ = some (.bool false) := (blk_cell BK364.out 2).trans rfl
             have hcz130_3 : w117.cell? ⟨gb364, 3, none⟩ = some (.int .i64 0) := (blk_cell BK364.out 3).trans rfl
             have hcz130_4 : w117.cell? ⟨gb364, 4, none⟩ = some (.string (⟨#[]⟩ : ByteArray)) := (blk_cell BK364.out 4).trans rfl
             have hcz130_5 : w117.cell? ⟨gb364, 5, none⟩ = some (.int .i64 0) := (blk_cell BK364.out 5).trans rfl
             have hcz130_6 : w117.cell? ⟨gb364, 6, none⟩ = some (.int .i64 0) := (blk_cell BK364.out 6).trans rfl
             have hcz130_7 : w117.cell? ⟨gb364, 7, none⟩ = some (.int .i64 0) := (blk_cell BK364.out 7).trans rfl
             have hfz130_0 := blk_frozen BK364.out 0
             have hfz130_1 := blk_frozen BK364.out 1
             have hfz130_2 := blk_frozen BK364.out 2
             have hfz130_3 := blk_frozen BK364.out 3
             have hfz130_4 := blk_frozen BK364.out 4
             have hfz130_5 := blk_frozen BK364.out 5
             have hfz130_6 := blk_frozen BK364.out 6
             have hfz130_7 := blk_frozen BK364.out 7
             have hnb131 := NB301_278.out
             have hnc131 := NB278_301.out
             have hnb132 := NB301_312.out
             have hnc132 := NB312_301.out
             have hnb133 := NB301_324.out
             have hnc133 := NB324_301.out
             have hcz134_0 : w117.cell? ⟨gb301, 0, none⟩ = some (.slice Ao20 t290.length co20) := (blk_cell BK301.out 0).trans rfl
             have hcz134_1 : w117.cell? ⟨gb301, 1, none⟩ = some (.int .i64 t293) := (blk_cell BK301.out 1).trans rfl
             have hcz134_2 : w117.cell? ⟨gb301, 2, none⟩ = some (.bool t294) := (blk_cell BK301.out 2).trans rfl
             have hcz134_3 : w117.cell? ⟨gb301, 3, none⟩ = some (.int .i64 t295) := (blk_cell BK301.out 3).trans rfl
             have hcz134_4 : w117.cell? ⟨gb301, 4, none⟩ = some (.string t296) := (blk_cell BK301.out 4).trans rfl
             have hcz134_5 : w117.cell? ⟨gb301, 5, none⟩ = some (.int .i64 t297) := (blk_cell BK301.out 5).trans rfl
             have hcz134_6 : w117.cell? ⟨gb301, 6, none⟩ = some (.int .i64 t298) := (blk_cell BK301.out 6).trans rfl
             have hcz134_7 : w117.cell? ⟨gb301, 7, none⟩ = some (.int .i64 t299) := (blk_cell BK301.out 7).trans rfl
             have hfz134_0 := blk_frozen BK301.out 0
             have hfz134_1 := blk_frozen BK301.out 1
             have hfz134_2 := blk_frozen BK301.out 2
             have hfz134_3 := blk_frozen BK301.out 3
             have hfz134_4 := blk_frozen BK301.out 4
             have hfz134_5 := blk_frozen BK301.out 5
             have hfz134_6 := blk_frozen BK301.out 6
             have hfz134_7 := blk_frozen BK301.out 7
             go_wp2_with (first | ((with_reducible refine gate_callee (f := 39) rfl ?_); refine goesL_ (some 81) rfl rfl Try.func39 (by kernel_rfl) rfl #[.agg #[.slice Ao118 t353.length co118, .int .i64 t356, .bool t357, .int .i64 t358, .string t359, .int .i64 t360, .int .i64 t361, .int .i64 t362], .agg #[.slice Ao20 t290.length co20, .int .i64 t293, .bool t294, .int .i64 t295, .string t296, .int .i64 t297, .int .i64 t298, .int .i64 t299]] rfl (by (try simp only [List.map_toArray, List.map_cons, List.map_nil]); first | done | rfl | (simp only [List.length_drop, List.length_take]; rfl)) ?_; (with_reducible refine (laws_eqCaller.calls kj59 _ _ t353 t356 t357 t358 t359 t360 t361 t362 _ _ t290 t293 t294 t295 t296 t297 t298 t299 true _ ?side1 ?side2 ?side3 ?side4 A124.out).mono ?_); (case side1 => refine (Kd.R_reads' (e := 35) (base := w.heap.size) (ok := fun k_ => ((((True ∧ some k_ ≠ (.slice Ao20 t290.length co20 : Value).ownBlock) ∧ some k_ ≠ (.slice Ao26 t338.length co26 : Value).ownBlock) ∧ some k_ ≠ (.slice Ao32 t313.length co32 : Value).ownBlock) ∧ some k_ ≠ (.slice Ao115 t343.length co115 : Value).ownBlock)) (n := t353.length) (c := co118) ?_).2.2; exact (by (with_reducible repeat (first | apply Kd.R_alloc | apply Kd.R_drewN | apply Kd.R_drew)); exact (Kd.R_mono (Kd.R_far (p := ⟨gb364, 7, none⟩) (Kd.R_far (p := ⟨gb364, 6, none⟩) (Kd.R_far (p := ⟨gb364, 5, none⟩) (Kd.R_far (p := ⟨gb364, 4, none⟩) (Kd.R_far (p := ⟨gb364, 3, none⟩) (Kd.R_far (p := ⟨gb364, 2, none⟩) (Kd.R_far (p := ⟨gb364, 1, none⟩) (Kd.R_far (p := ⟨gb364, 0, none⟩) (Kd.R_types HO355.out BK364.out (by decide)) (fun _ hk => hk.2) (.slice Ao118 t353.length co118)) (fun _ hk => hk.2) (.int .i64 t356)) (fun _ hk => hk.2) (.bool t357)) (fun _ hk => hk.2) (.int .i64 t358)) (fun _ hk => hk.2) (.string t359)) (fun _ hk => hk.2) (.int .i64 t360)) (fun _ hk => hk.2) (.int .i64 t361)) (fun _ hk => hk.2) (.int .i64 t362)) (fun _ h_ => h_.1)))); (case side2 => exact (Kd.R_reads' HO355.out).2.1); (case side3 => refine (Kd.R_reads' (e := 35) (base := w.heap.size) (ok := fun k_ => (((some k_ ≠ (.slice Ao26 t338.length co26 : Value).ownBlock ∧ some k_ ≠ (.slice Ao32 t313.length co32 : Value).ownBlock) ∧ some k_ ≠ (.slice Ao115 t343.length co115 : Value).ownBlock) ∧ some k_ ≠ (.slice Ao118 t353.length co118 : Value).ownBlock)) (n := t290.length) (c := co20) ?_).2.2; exact (by (with_reducible repeat (first | apply Kd.R_alloc | apply Kd.R_drewN | apply Kd.R_drew)); exact (Kd.R_mono (Kd.R_far (p := ⟨gb364, 7, none⟩) (Kd.R_far (p := ⟨gb364, 6, none⟩) (Kd.R_far (p := ⟨gb364, 5, none⟩) (Kd.R_far (p := ⟨gb364, 4, none⟩) (Kd.R_far (p := ⟨gb364, 3, none⟩) (Kd.R_far (p := ⟨gb364, 2, none⟩) (Kd.R_far (p := ⟨gb364, 1, none⟩) (Kd.R_far (p := ⟨gb364, 0, none⟩) (Kd.R_types HO_302000.out BK364.out (by decide)) (fun _ hk => hk.2) (.slice Ao118 t353.length co118)) (fun _ hk => hk.2) (.int .i64 t356)) (fun _ hk => hk.2) (.bool t357)) (fun _ hk => hk.2) (.int .i64 t358)) (fun _ hk => hk.2) (.string t359)) (fun _ hk => hk.2) (.int .i64 t360)) (fun _ hk => hk.2) (.int .i64 t361)) (fun _ hk => hk.2) (.int .i64 t362)) (fun _ h_ => h_.1)))); (case side4 => exact (Kd.R_reads' HO_302000.out).2.1); rintro e w135 ⟨rfl, hb⟩; refine ⟨_, rfl, ?_⟩; have n0_ := Aside0.mk (Kd.R_below (by (with_reducible repeat (first | apply Kd.R_alloc | apply Kd.R_drewN | apply Kd.R_drew)); exact (Kd.R_mono (Kd.R_far (p := ⟨gb364, 7, none⟩) (Kd.R_far (p := ⟨gb364, 6, none⟩) (Kd.R_far (p := ⟨gb364, 5, none⟩) (Kd.R_far (p := ⟨gb364, 4, none⟩) (Kd.R_far (p := ⟨gb364, 3, none⟩) (Kd.R_far (p := ⟨gb364, 2, none⟩) (Kd.R_far (p := ⟨gb364, 1, none⟩) (Kd.R_far (p := ⟨gb364, 0, none⟩) (Kd.R_types HO_302000.out BK364.out (by decide)) (fun _ hk => hk.2) (.slice Ao118 t353.length co118)) (fun _ hk => hk.2) (.int .i64 t356)) (fun _ hk => hk.2) (.bool t357)) (fun _ hk => hk.2) (.int .i64 t358)) (fun _ hk => hk.2) (.string t359)) (fun _ hk => hk.2) (.int .i64 t360)) (fun _ hk => hk.2) (.int .i64 t361)) (fun _ hk => hk.2) (.int .i64 t362)) (fun _ h_ => h_.1))) hb); have n1_ := Aside0.mk (Kd.R_below (by (with_reducible repeat (first | apply Kd.R_alloc | apply Kd.R_drewN | apply Kd.R_drew)); exact (Kd.R_mono (Kd.R_far (p := ⟨gb364, 7, none⟩) (Kd.R_far (p := ⟨gb364, 6, none⟩) (Kd.R_far (p := ⟨gb364, 5, none⟩) (Kd.R_far (p := ⟨gb364, 4, none⟩) (Kd.R_far (p := ⟨gb364, 3, none⟩) (Kd.R_far (p := ⟨gb364, 2, none⟩) (Kd.R_far (p := ⟨gb364, 1, none⟩) (Kd.R_far (p := ⟨gb364, 0, none⟩) (Kd.R_types HO_313000.out BK364.out (by decide)) (fun _ hk => hk.2) (.slice Ao118 t353.length co118)) (fun _ hk => hk.2) (.int .i64 t356)) (fun _ hk => hk.2) (.bool t357)) (fun _ hk => hk.2) (.int .i64 t358)) (fun _ hk => hk.2) (.string t359)) (fun _ hk => hk.2) (.int .i64 t360)) (fun _ hk => hk.2) (.int .i64 t361)) (fun _ hk => hk.2) (.int .i64 t362)) (fun _ h_ => h_.1))) hb); have n2_ := Aside0.mk (Kd.R_below (by (with_reducible repeat (first | apply Kd.R_alloc | apply Kd.R_drewN | apply Kd.R_drew)); exact (Kd.R_mono (Kd.R_far (p := ⟨gb364, 7, none⟩) (Kd.R_far (p := ⟨gb364, 6, none⟩) (Kd.R_far (p := ⟨gb364, 5, none⟩) (Kd.R_far (p := ⟨gb364, 4, none⟩) (Kd.R_far (p := ⟨gb364, 3, none⟩) (Kd.R_far (p := ⟨gb364, 2, none⟩) (Kd.R_far (p := ⟨gb364, 1, none⟩) (Kd.R_far (p := ⟨gb364, 0, none⟩) (Kd.R_types HO_325000.out BK364.out (by decide)) (fun _ hk => hk.2) (.slice Ao118 t353.length co118)) (fun _ hk => hk.2) (.int .i64 t356)) (fun _ hk => hk.2) (.bool t357)) (fun _ hk => hk.2) (.int .i64 t358)) (fun _ hk => hk.2) (.string t359)) (fun _ hk => hk.2) (.int .i64 t360)) (fun _ hk => hk.2) (.int .i64 t361)) (fun _ hk => hk.2) (.int .i64 t362)) (fun _ h_ => h_.1))) hb); have n3_ := Aside0.mk (Kd.R_below (by (with_reducible repeat (first | apply Kd.R_alloc | apply Kd.R_drewN | apply Kd.R_drew)); exact (Kd.R_mono (Kd.R_far (p := ⟨gb364, 7, none⟩) (Kd.R_far (p := ⟨gb364, 6, none⟩) (Kd.R_far (p := ⟨gb364, 5, none⟩) (Kd.R_far (p := ⟨gb364, 4, none⟩) (Kd.R_far (p := ⟨gb364, 3, none⟩) (Kd.R_far (p := ⟨gb364, 2, none⟩) (Kd.R_far (p := ⟨gb364, 1, none⟩) (Kd.R_far (p := ⟨gb364, 0, none⟩) (Kd.R_types HO345.out BK364.out (by decide)) (fun _ hk => hk.2) (.slice Ao118 t353.length co118)) (fun _ hk => hk.2) (.int .i64 t356)) (fun _ hk => hk.2) (.bool t357)) (fun _ hk => hk.2) (.int .i64 t358)) (fun _ hk => hk.2) (.string t359)) (fun _ hk => hk.2) (.int .i64 t360)) (fun _ hk => hk.2) (.int .i64 t361)) (fun _ hk => hk.2) (.int .i64 t362)) (fun _ h_ => h_.1))) hb); have n4_ := Aside0.mk (Kd.R_below (by (with_reducible repeat (first | apply Kd.R_alloc | apply Kd.R_drewN | apply Kd.R_drew)); exact (Kd.R_mono (Kd.R_far (p := ⟨gb364, 7, none⟩) (Kd.R_far (p := ⟨gb364, 6, none⟩) (Kd.R_far (p := ⟨gb364, 5, none⟩) (Kd.R_far (p := ⟨gb364, 4, none⟩) (Kd.R_far (p := ⟨gb364, 3, none⟩) (Kd.R_far (p := ⟨gb364, 2, none⟩) (Kd.R_far (p := ⟨gb364, 1, none⟩) (Kd.R_far (p := ⟨gb364, 0, none⟩) (Kd.R_types HO355.out BK364.out (by decide)) (fun _ hk => hk.2) (.slice Ao118 t353.length co118)) (fun _ hk => hk.2) (.int .i64 t356)) (fun _ hk => hk.2) (.bool t357)) (fun _ hk => hk.2) (.int .i64 t358)) (fun _ hk => hk.2) (.string t359)) (fun _ hk => hk.2) (.int .i64 t360)) (fun _ hk => hk.2) (.int .i64 t361)) (fun _ hk => hk.2) (.int .i64 t362)) (fun _ h_ => h_.1))) hb); have n5_ := Aside0.mk (blk_below (g := gb278) (o := .cells #[.slice A0_0 l0_0.length c0_0, .int .i64 a0_1, .bool a0_2, .int .i64 a0_3, .string a0_4, .int .i64 a0_5, .int .i64 a0_6, .int .i64 a0_7] 60 (0, 0)) (by (with_reducible repeat (first | refine blk_drewN ?_ _ | refine blk_drew ?_ | refine blk_alloc ?_ _)); refine blk_far ?_ NB278_364.out _; (with_reducible repeat (first | refine blk_drewN ?_ _ | refine blk_drew ?_ | refine blk_alloc ?_ _)); refine blk_far ?_ NB278_364.out _; (with_reducible repeat (first | refine blk_drewN ?_ _ | refine blk_drew ?_ | refine blk_alloc ?_ _)); refine blk_far ?_ NB278_364.out _; (with_reducible repeat (first | refine blk_drewN ?_ _ | refine blk_drew ?_ | refine blk_alloc ?_ _)); refine blk_far ?_ NB278_364.out _; (with_reducible repeat (first | refine blk_drewN ?_ _ | refine blk_drew ?_ | refine blk_alloc ?_ _)); refine blk_far ?_ NB278_364.out _; (with_reducible repeat (first | refine blk_drewN ?_ _ | refine blk_drew ?_ | refine blk_alloc ?_ _)); refine blk_far ?_ NB278_364.out _; (with_reducible repeat (first | refine blk_drewN ?_ _ | refine blk_drew ?_ | refine blk_alloc ?_ _)); refine blk_far ?_ NB278_364.out _; (with_reducible repeat (first | refine blk_drewN ?_ _ | refine blk_drew ?_ | refine blk_alloc ?_ _)); refine blk_far ?_ NB278_364.out _; (with_reducible repeat (first | refine blk_drewN ?_ _ | refine blk_drew ?_ | refine blk_alloc ?_ _)); exact BK278.out) hb); have n6_ := Aside0.mk (blk_below (g := gb301) (o := .cells #[.slice Ao20 t290.length co20, .int .i64 t293, .bool t294, .int .i64 t295, .string t296, .int .i64 t297, .int .i64 t298, .int .i64 t299] 41 (0, 0)) (by (with_reducible repeat (first | refine blk_drewN ?_ _ | refine blk_drew ?_ | refine blk_alloc ?_ _)); refine blk_far ?_ NB301_364.out _; (with_reducible repeat (first | refine blk_drewN ?_ _ | refine blk_drew ?_ | refine blk_alloc ?_ _)); refine blk_far ?_ NB301_364.out _; (with_reducible repeat (first | refine blk_drewN ?_ _ | refine blk_drew ?_ | refine blk_alloc ?_ _)); refine blk_far ?_ NB301_364.out _; (with_reducible repeat (first | refine blk_drewN ?_ _ | refine blk_drew ?_ | refine blk_alloc ?_ _)); refine blk_far ?_ NB301_364.out _; (with_reducible repeat (first | refine blk_drewN ?_ _ | refine blk_drew ?_ | refine blk_alloc ?_ _)); refine blk_far ?_ NB301_364.out _; (with_reducible repeat (first | refine blk_drewN ?_ _ | refine blk_drew ?_ | refine blk_alloc ?_ _)); refine blk_far ?_ NB301_364.out _; (with_reducible repeat (first | refine blk_drewN ?_ _ | refine blk_drew ?_ | refine blk_alloc ?_ _)); refine blk_far ?_ NB301_364.out _; (with_reducible repeat (first | refine blk_drewN ?_ _ | refine blk_drew ?_ | refine blk_alloc ?_ _)); refine blk_far ?_ NB301_364.out _; (with_reducible repeat (first | refine blk_drewN ?_ _ | refine blk_drew ?_ | refine blk_alloc ?_ _)); exact BK301.out) hb); have n7_ := Aside0.mk (blk_below (g := gb312) (o := .cells #[.slice Ao26 t338.length co26, .int .i64 t305, .bool t306, .int .i64 t307, .string t308, .int .i64 t309, .int .i64 t310, .int .i64 t311] 41 (0, 0)) (by (with_reducible repeat (first | refine blk_drewN ?_ _ | refine blk_drew ?_ | refine blk_alloc ?_ _)); refine blk_far ?_ NB312_364.out _; (with_reducible repeat (first | refine blk_drewN ?_ _ | refine blk_drew ?_ | refine blk_alloc ?_ _)); refine blk_far ?_ NB312_364.out _; (with_reducible repeat (first | refine blk_drewN ?_ _ | refine blk_drew ?_ | refine blk_alloc ?_ _)); refine blk_far ?_ NB312_364.out _; (with_reducible repeat (first | refine blk_drewN ?_ _ | refine blk_drew ?_ | refine blk_alloc ?_ _)); refine blk_far ?_ NB312_364.out _; (with_reducible repeat (first | refine blk_drewN ?_ _ | refine blk_drew ?_ | refine blk_alloc ?_ _)); refine blk_far ?_ NB312_364.out _; (with_reducible repeat (first | refine blk_drewN ?_ _ | refine blk_drew ?_ | refine blk_alloc ?_ _)); refine blk_far ?_ NB312_364.out _; (with_reducible repeat (first | refine blk_drewN ?_ _ | refine blk_drew ?_ | refine blk_alloc ?_ _)); refine blk_far ?_ NB312_364.out _; (with_reducible repeat (first | refine blk_drewN ?_ _ | refine blk_drew ?_ | refine blk_alloc ?_ _)); refine blk_far ?_ NB312_364.out _; (with_reducible repeat (first | refine blk_drewN ?_ _ | refine blk_drew ?_ | refine blk_alloc ?_ _)); exact BK312.out) hb); have n8_ := Aside0.mk (blk_below (g := gb324) (o := .cells #[.slice Ao32 t313.length co32, .int .i64 t316, .bool t317, .int .i64 t318, .string t319, .int .i64 t320, .int .i64 t321, .int .i64 t322] 41 (0, 0)) (by (with_reducible repeat (first | refine blk_drewN ?_ _ | refine blk_drew ?_ | refine blk_alloc ?_ _)); refine blk_far ?_ NB324_364.out _; (with_reducible repeat (first | refine blk_drewN ?_ _ | refine blk_drew ?_ | refine blk_alloc ?_ _)); refine blk_far ?_ NB324_364.out _; (with_reducible repeat (first | refine blk_drewN ?_ _ | refine blk_drew ?_ | refine blk_alloc ?_ _)); refine blk_far ?_ NB324_364.out _; (with_reducible repeat (first | refine blk_drewN ?_ _ | refine blk_drew ?_ | refine blk_alloc ?_ _)); refine blk_far ?_ NB324_364.out _; (with_reducible repeat (first | refine blk_drewN ?_ _ | refine blk_drew ?_ | refine blk_alloc ?_ _)); refine blk_far ?_ NB324_364.out _; (with_reducible repeat (first | refine blk_drewN ?_ _ | refine blk_drew ?_ | refine blk_alloc ?_ _)); refine blk_far ?_ NB324_364.out _; (with_reducible repeat (first | refine blk_drewN ?_ _ | refine blk_drew ?_ | refine blk_alloc ?_ _)); refine blk_far ?_ NB324_364.out _; (with_reducible repeat (first | refine blk_drewN ?_ _ | refine blk_drew ?_ | refine blk_alloc ?_ _)); refine blk_far ?_ NB324_364.out _; (with_reducible repeat (first | refine blk_drewN ?_ _ | refine blk_drew ?_ | refine blk_alloc ?_ _)); exact BK324.out) hb); have n9_ := Aside0.mk (blk_below (g := gb364) (o := .cells #[.slice Ao118 t353.length co118, .int .i64 t356, .bool t357, .int .i64 t358, .string t359, .int .i64 t360, .int .i64 t361, .int .i64 t362] 41 (0, 0)) (by (with_reducible repeat (first | refine blk_drewN ?_ _ | refine blk_drew ?_ | refine blk_alloc ?_ _)); refine blk_put (cs := #[.slice Ao118 t353.length co118, .int .i64 t356, .bool t357, .int .i64 t358, .string t359, .int .i64 t360, .int .i64 t361, .int .i64 0]) ?_ 7 _ rfl; (with_reducible repeat (first | refine blk_drewN ?_ _ | refine blk_drew ?_ | refine blk_alloc ?_ _)); refine blk_put (cs := #[.slice Ao118 t353.length co118, .int .i64 t356, .bool t357, .int .i64 t358, .string t359, .int .i64 t360, .int .i64 0, .int .i64 0]) ?_ 6 _ rfl; (with_reducible repeat (first | refine blk_drewN ?_ _ | refine blk_drew ?_ | refine blk_alloc ?_ _)); refine blk_put (cs := #[.slice Ao118 t353.length co118, .int .i64 t356, .bool t357, .int .i64 t358, .string t359, .int .i64 0, .int .i64 0, .int .i64 0]) ?_ 5 _ rfl; (with_reducible repeat (first | refine blk_drewN ?_ _ | refine blk_drew ?_ | refine blk_alloc ?_ _)); refine blk_put (cs := #[.slice Ao118 t353.length co118, .int .i64 t356, .bool t357, .int .i64 t358, .string (⟨#[]⟩ : ByteArray), .int .i64 0, .int .i64 0, .int .i64 0]) ?_ 4 _ rfl; (with_reducible repeat (first | refine blk_drewN ?_ _ | refine blk_drew ?_ | refine blk_alloc ?_ _)); refine blk_put (cs := #[.slice Ao118 t353.length co118, .int .i64 t356, .bool t357, .int .i64 0, .string (⟨#[]⟩ : ByteArray), .int .i64 0, .int .i64 0, .int .i64 0]) ?_ 3 _ rfl; (with_reducible repeat (first | refine blk_drewN ?_ _ | refine blk_drew ?_ | refine blk_alloc ?_ _)); refine blk_put (cs := #[.slice Ao118 t353.length co118, .int .i64 t356, .bool false, .int .i64 0, .string (⟨#[]⟩ : ByteArray), .int .i64 0, .int .i64 0, .int .i64 0]) ?_ 2 _ rfl; (with_reducible repeat (first | refine blk_drewN ?_ _ | refine blk_drew ?_ | refine blk_alloc ?_ _)); refine blk_put (cs := #[.slice Ao118 t353.length co118, .int .i64 0, .bool false, .int .i64 0, .string (⟨#[]⟩ : ByteArray), .int .i64 0, .int .i64 0, .int .i64 0]) ?_ 1 _ rfl; (with_reducible repeat (first | refine blk_drewN ?_ _ | refine blk_drew ?_ | refine blk_alloc ?_ _)); refine blk_put (cs := #[.slice none 0 0, .int .i64 0, .bool false, .int .i64 0, .string (⟨#[]⟩ : ByteArray), .int .i64 0, .int .i64 0, .int .i64 0]) ?_ 0 _ rfl; (with_reducible repeat (first | refine blk_drewN ?_ _ | refine blk_drew ?_ | refine blk_alloc ?_ _)); exact BK364.out) hb); have n10_ := Aside0.mk (below_step (bz) hb); clear HO_302000; clear HO_313000; clear HO_325000; clear HO345; clear HO355; clear BK278; clear BK301; clear BK312; clear BK324; clear BK364; clear HB; have HO_302000 := n0_; have HO_313000 := n1_; have HO_325000 := n2_; have HO345 := n3_; have HO355 := n4_; have BK278 := n5_; have BK301 := n6_; have BK312 := n7_; have BK324 := n8_; have BK364 := n9_; have HB := n10_; clear n0_ n1_ n2_ n3_ n4_ n5_ n6_ n7_ n8_ n9_ n10_; (try clear hb); (try clear hb2); (try clear hk); (try clear hi)))
             go_meet
             case rel => exact ⟨_, ((t363 != t300)), (by first | rfl | (simp; done) | exact congrArg Value.bool (ne_nil_b _) | exact congrArg Value.bool (eq_nil_b _) | (simp [*]; done)), H', ⟨by have := HJ10.out; have := HJ59.out; first | omega | exact Nat.le_refl _⟩, ⟨by (try simp only [hl313000_59]); (with_reducible repeat (first | apply Kd.R_alloc | apply Kd.R_drewN | apply Kd.R_drew)); exact Kd.R_mono HO_302000.out (fun _ hk => ⟨hk.1.1.1, ⟨hk.1.1.2, hk.2⟩⟩)⟩, ⟨by (try simp only [hl313000_59]); (with_reducible repeat (first | apply Kd.R_alloc | apply Kd.R_drewN | apply Kd.R_drew)); exact Kd.R_mono HO_313000.out (fun _ hk => ⟨hk.1.1.1, ⟨hk.1.1.2, hk.2⟩⟩)⟩, ⟨by (try simp only [hl313000_59]); (with_reducible repeat (first | apply Kd.R_alloc | apply Kd.R_drewN | apply Kd.R_drew)); exact Kd.R_mono HO_325000.out (fun _ hk => ⟨hk.1.1.1, ⟨hk.1.1.2, hk.2⟩⟩)⟩, ⟨by (try simp only [hl313000_59]); (with_reducible repeat (first | apply Kd.R_alloc | apply Kd.R_drewN | apply Kd.R_drew)); exact Kd.R_mono HO355.out (fun _ hk => ⟨hk.1.1.1.2, ⟨hk.1.1.2, hk.1.2⟩⟩)⟩, ⟨by (try simp only [hl313000_59]); (with_reducible repeat (first | refine blk_drewN ?_ _ | refine blk_drew ?_ | refine blk_alloc ?_ _)); exact BK278.out⟩, ⟨by (try simp only [hl313000_59]); (with_reducible repeat (first | refine blk_drewN ?_ _ | refine blk_drew ?_ | refine blk_alloc ?_ _)); exact BK301.out⟩, ⟨by (try simp only [hl313000_59]); (with_reducible repeat (first | refine blk_drewN ?_ _ | refine blk_drew ?_ | refine blk_alloc ?_ _)); exact BK312.out⟩, ⟨by (try simp only [hl313000_59]); (with_reducible repeat (first | refine blk_drewN ?_ _ | refine blk_drew ?_ | refine blk_alloc ?_ _)); exact BK324.out⟩, ⟨by (try simp only [hl313000_59]); (with_reducible repeat (first | refine blk_drewN ?_ _ | refine blk_drew ?_ | refine blk_alloc ?_ _)); exact BK364.out⟩, ⟨bz⟩⟩
            ·
             replace c125 := Bool.eq_false_iff.mpr c125
             subst c125
             rw [if_neg (show ¬ (false = true) by decide)] at H
             have H' := Aside0.mk H
             clear H
             have hnb136 := NB364_278.out
             have hnc136 := NB278_364.out
             have hnb137 := NB364_301.out
             have hnc137 := NB301_364.out
             have hnb138 := NB364_312.out
             have hnc138 := NB312_364.out
             have hnb139 := NB364_324.out
             have hnc139 := NB324_364.out
             have hcz140_0 : w117.cell? ⟨gb364, 0, none⟩ = some (.slice none 0 0) := (blk_cell BK364.out 0).trans rfl
             have hcz140_1 : w117.cell? ⟨gb364, 1, none⟩ = some (.int .i64 0) := (blk_cell BK364.out 1).trans rfl
             have hcz140_2 : w117.cell? ⟨gb364, 2, none⟩ = some (.bool false) := (blk_cell BK364.out 2).trans rfl
             have hcz140_3 : w117.cell? ⟨gb364, 3, none⟩ = some (.int .i64 0) := (blk_cell BK364.out 3).trans rfl
             have hcz140_4 : w117.cell? ⟨gb364, 4, none⟩ = some (.string (⟨#[]⟩ : ByteArray)) := (blk_cell BK364.out 4).trans rfl
             have hcz140_5 : w117.cell? ⟨gb364, 5, none⟩ = some (.int .i64 0) := (blk_cell BK364.out 5).trans rfl
             have hcz140_6 : w117.cell? ⟨gb364, 6, none⟩ = some (.int .i64 0) := (blk_cell BK364.out 6).trans rfl
             have hcz140_7 : w117.cell? ⟨gb364, 7, none⟩ = some (.int .i64 0) := (blk_cell BK364.out 7).trans rfl
             have hfz140_0 := blk_frozen BK364.out 0
             have hfz140_1 := blk_frozen BK364.out 1
             have hfz140_2 := blk_frozen BK364.out 2
             have hfz140_3 := blk_frozen BK364.out 3
             have hfz140_4 := blk_frozen BK364.out 4
             have hfz140_5 := blk_frozen BK364.out 5
             have hfz140_6 := blk_frozen BK364.out 6
             have hfz140_7 := blk_frozen BK364.out 7
             have hnb141 := NB301_278.out
             have hnc141 := NB278_301.out
             have hnb142 := NB301_312.out
             have hnc142 := NB312_301.out
             have hnb143 := NB301_324.out
             have hnc143 := NB324_301.out
             have hcz144_0 : w117.cell? ⟨gb301, 0, none⟩ = some (.slice Ao20 t290.length co20) := (blk_cell BK301.out 0).trans rfl
             have hcz144_1 : w117.cell? ⟨gb301, 1, none⟩ = some (.int .i64 t293) := (blk_cell BK301.out 1).trans rfl
             have hcz144_2 : w117.cell? ⟨gb301, 2, none⟩ = some (.bool t294) := (blk_cell BK301.out 2).trans rfl
             have hcz144_3 : w117.cell? ⟨gb301, 3, none⟩ = some (.int .i64 t295) := (blk_cell BK301.out 3).trans rfl
             have hcz144_4 : w117.cell? ⟨gb301, 4, none⟩ = some (.string t296) := (blk_cell BK301.out 4).trans rfl
             have hcz144_5 : w117.cell? ⟨gb301, 5, none⟩ = some (.int .i64 t297) := (blk_cell BK301.out 5).trans rfl
             have hcz144_6 : w117.cell? ⟨gb301, 6, none⟩ = some (.int .i64 t298) := (blk_cell BK301.out 6).trans rfl
             have hcz144_7 : w117.cell? ⟨gb301, 7, none⟩ = some (.int .i64 t299) := (blk_cell BK301.out 7).trans rfl
             have hfz144_0 := blk_frozen BK301.out 0
             have hfz144_1 := blk_frozen BK301.out 1
             have hfz144_2 := blk_frozen BK301.out 2
             have hfz144_3 := blk_frozen BK301.out 3
             have hfz144_4 := blk_frozen BK301.out 4
             have hfz144_5 := blk_frozen BK301.out 5
             have hfz144_6 := blk_frozen BK301.out 6
             have hfz144_7 := blk_frozen BK301.out 7
             go_wp2_with (first | ((with_reducible refine gate_callee (f := 39) rfl ?_); refine goesL_ (some 81) rfl rfl Try.func39 (by kernel_rfl) rfl #[.agg #[.slice Ao118 t353.length co118, .int .i64 t356, .bool t357, .int .i64 t358, .string t359, .int .i64 t360, .int .i64 t361, .int .i64 t362], .agg #[.slice Ao20 t290.length co20, .int .i64 t293, .bool t294, .int .i64 t295, .string t296, .int .i64 t297, .int .i64 t298, .int .i64 t299]] rfl (by (try simp only [List.map_toArray, List.map_cons, List.map_nil]); first | done | rfl | (simp only [List.length_drop, List.length_take]; rfl)) ?_; (with_reducible refine (laws_eqCaller.calls kj59 _ _ t353 t356 t357 t358 t359 t360 t361 t362 _ _ t290 t293 t294 t295 t296 t297 t298 t299 false _ ?side1 ?side2 ?side3 ?side4 A124.out).mono ?_); (case side1 => refine (Kd.R_reads' (e := 35) (base := w.heap.size) (ok := fun k_ => ((((True ∧ some k_ ≠ (.slice Ao20 t290.length co20 : Value).ownBlock) ∧ some k_ ≠ (.slice Ao26 t338.length co26 : Value).ownBlock) ∧ some k_ ≠ (.slice Ao32 t313.length co32 : Value).ownBlock) ∧ some k_ ≠ (.slice Ao115 t343.length co115 : Value).ownBlock)) (n := t353.length) (c := co118) ?_).2.2; exact (by (with_reducible repeat (first | apply Kd.R_alloc | apply Kd.R_drewN | apply Kd.R_drew)); exact (Kd.R_mono (Kd.R_far (p := ⟨gb364, 7, none⟩) (Kd.R_far (p := ⟨gb364, 6, none⟩) (Kd.R_far (p := ⟨gb364, 5, none⟩) (Kd.R_far (p := ⟨gb364, 4, none⟩) (Kd.R_far (p := ⟨gb364, 3, none⟩) (Kd.R_far (p := ⟨gb364, 2, none⟩) (Kd.R_far (p := ⟨gb364, 1, none⟩) (Kd.R_far (p := ⟨gb364, 0, none⟩) (Kd.R_types HO355.out BK364.out (by decide)) (fun _ hk => hk.2) (.slice Ao118 t353.length co118)) (fun _ hk => hk.2) (.int .i64 t356)) (fun _ hk => hk.2) (.bool t357)) (fun _ hk => hk.2) (.int .i64 t358)) (fun _ hk => hk.2) (.string t359)) (fun _ hk => hk.2) (.int .i64 t360)) (fun _ hk => hk.2) (.int .i64 t361)) (fun _ hk => hk.2) (.int .i64 t362)) (fun _ h_ => h_.1)))); (case side2 => exact (Kd.R_reads' HO355.out).2.1); (case side3 => refine (Kd.R_reads' (e := 35) (base := w.heap.size) (ok := fun k_ => (((some k_ ≠ (.slice Ao26 t338.length co26 : Value).ownBlock ∧ some k_ ≠ (.slice Ao32 t313.length co32 : Value).ownBlock) ∧ some k_ ≠ (.slice Ao115 t343.length co115 : Value).ownBlock) ∧ some k_ ≠ (.slice Ao118 t353.length co118 : Value).ownBlock)) (n := t290.length) (c := co20) ?_).2.2; exact (by (with_reducible repeat (first | apply Kd.R_alloc | apply Kd.R_drewN | apply Kd.R_drew)); exact (Kd.R_mono (Kd.R_far (p := ⟨gb364, 7, none⟩) (Kd.R_far (p := ⟨gb364, 6, none⟩) (Kd.R_far (p := ⟨gb364, 5, none⟩) (Kd.R_far (p := ⟨gb364, 4, none⟩) (Kd.R_far (p := ⟨gb364, 3, none⟩) (Kd.R_far (p := ⟨gb364, 2, none⟩) (Kd.R_far (p := ⟨gb364, 1, none⟩) (Kd.R_far (p := ⟨gb364, 0, none⟩) (Kd.R_types HO_302000.out BK364.out (by decide)) (fun _ hk => hk.2) (.slice Ao118 t353.length co118)) (fun _ hk => hk.2) (.int .i64 t356)) (fun _ hk => hk.2) (.bool t357)) (fun _ hk => hk.2) (.int .i64 t358)) (fun _ hk => hk.2) (.string t359)) (fun _ hk => hk.2) (.int .i64 t360)) (fun _ hk => hk.2) (.int .i64 t361)) (fun _ hk => hk.2) (.int .i64 t362)) (fun _ h_ => h_.1)))); (case side4 => exact (Kd.R_reads' HO_302000.out).2.1); rintro e w145 ⟨rfl, hb⟩; refine ⟨_, rfl, ?_⟩; have n0_ := Aside0.mk (Kd.R_below (by (with_reducible repeat (first | apply Kd.R_alloc | apply Kd.R_drewN | apply Kd.R_drew)); exact (Kd.R_mono (Kd.R_far (p := ⟨gb364, 7, none⟩) (Kd.R_far (p := ⟨gb364, 6, none⟩) (Kd.R_far (p := ⟨gb364, 5, none⟩) (Kd.R_far (p := ⟨gb364, 4, none⟩) (Kd.R_far (p := ⟨gb364, 3, none⟩) (Kd.R_far (p := ⟨gb364, 2, none⟩) (Kd.R_far (p := ⟨gb364, 1, none⟩) (Kd.R_far (p := ⟨gb364, 0, none⟩) (Kd.R_types HO_302000.out BK364.out (by decide)) (fun _ hk => hk.2) (.slice Ao118 t353.length co118)) (fun _ hk => hk.2) (.int .i64 t356)) (fun _ hk => hk.2) (.bool t357)) (fun _ hk => hk.2) (.int .i64 t358)) (fun _ hk => hk.2) (.string t359)) (fun _ hk => hk.2) (.int .i64 t360)) (fun _ hk => hk.2) (.int .i64 t361)) (fun _ hk => hk.2) (.int .i64 t362)) (fun _ h_ => h_.1))) hb); have n1_ := Aside0.mk (Kd.R_below (by (with_reducible repeat (first | apply Kd.R_alloc | apply Kd.R_drewN | apply Kd.R_drew)); exact (Kd.R_mono (Kd.R_far (p := ⟨gb364, 7, none⟩) (Kd.R_far (p := ⟨gb364, 6, none⟩) (Kd.R_far (p := ⟨gb364, 5, none⟩) (Kd.R_far (p := ⟨gb364, 4, none⟩) (Kd.R_far (p := ⟨gb364, 3, none⟩) (Kd.R_far (p := ⟨gb364, 2, none⟩) (Kd.R_far (p := ⟨gb364, 1, none⟩) (Kd.R_far (p := ⟨gb364, 0, none⟩) (Kd.R_types HO_313000.out BK364.out (by decide)) (fun _ hk => hk.2) (.slice Ao118 t353.length co118)) (fun _ hk => hk.2) (.int .i64 t356)) (fun _ hk => hk.2) (.bool t357)) (fun _ hk => hk.2) (.int .i64 t358)) (fun _ hk => hk.2) (.string t359)) (fun _ hk => hk.2) (.int .i64 t360)) (fun _ hk => hk.2) (.int .i64 t361)) (fun _ hk => hk.2) (.int .i64 t362)) (fun _ h_ => h_.1))) hb); have n2_ := Aside0.mk (Kd.R_below (by (with_reducible repeat (first | apply Kd.R_alloc | apply Kd.R_drewN | apply Kd.R_drew)); exact (Kd.R_mono (Kd.R_far (p := ⟨gb364, 7, none⟩) (Kd.R_far (p := ⟨gb364, 6, none⟩) (Kd.R_far (p := ⟨gb364, 5, none⟩) (Kd.R_far (p := ⟨gb364, 4, none⟩) (Kd.R_far (p := ⟨gb364, 3, none⟩) (Kd.R_far (p := ⟨gb364, 2, none⟩) (Kd.R_far (p := ⟨gb364, 1, none⟩) (Kd.R_far (p := ⟨gb364, 0, none⟩) (Kd.R_types HO_325000.out BK364.out (by decide)) (fun _ hk => hk.2) (.slice Ao118 t353.length co118)) (fun _ hk => hk.2) (.int .i64 t356)) (fun _ hk => hk.2) (.bool t357)) (fun _ hk => hk.2) (.int .i64 t358)) (fun _ hk => hk.2) (.string t359)) (fun _ hk => hk.2) (.int .i64 t360)) (fun _ hk => hk.2) (.int .i64 t361)) (fun _ hk => hk.2) (.int .i64 t362)) (fun _ h_ => h_.1))) hb); have n3_ := Aside0.mk (Kd.R_below (by (with_reducible repeat (first | apply Kd.R_alloc | apply Kd.R_drewN | apply Kd.R_drew)); exact (Kd.R_mono (Kd.R_far (p := ⟨gb364, 7, none⟩) (Kd.R_far (p := ⟨gb364, 6, none⟩) (Kd.R_far (p := ⟨gb364, 5, none⟩) (Kd.R_far (p := ⟨gb364, 4, none⟩) (Kd.R_far (p := ⟨gb364, 3, none⟩) (Kd.R_far (p := ⟨gb364, 2, none⟩) (Kd.R_far (p := ⟨gb364, 1, none⟩) (Kd.R_far (p := ⟨gb364, 0, none⟩) (Kd.R_types HO345.out BK364.out (by decide)) (fun _ hk => hk.2) (.slice Ao118 t353.length co118)) (fun _ hk => hk.2) (.int .i64 t356)) (fun _ hk => hk.2) (.bool t357)) (fun _ hk => hk.2) (.int .i64 t358)) (fun _ hk => hk.2) (.string t359)) (fun _ hk => hk.2) (.int .i64 t360)) (fun _ hk => hk.2) (.int .i64 t361)) (fun _ hk => hk.2) (.int .i64 t362)) (fun _ h_ => h_.1))) hb); have n4_ := Aside0.mk (Kd.R_below (by (with_reducible repeat (first | apply Kd.R_alloc | apply Kd.R_drewN | apply Kd.R_drew)); exact (Kd.R_mono (Kd.R_far (p := ⟨gb364, 7, none⟩) (Kd.R_far (p := ⟨gb364, 6, none⟩) (Kd.R_far (p := ⟨gb364, 5, none⟩) (Kd.R_far (p := ⟨gb364, 4, none⟩) (Kd.R_far (p := ⟨gb364, 3, none⟩) (Kd.R_far (p := ⟨gb364, 2, none⟩) (Kd.R_far (p := ⟨gb364, 1, none⟩) (Kd.R_far (p := ⟨gb364, 0, none⟩) (Kd.R_types HO355.out BK364.out (by decide)) (fun _ hk => hk.2) (.slice Ao118 t353.length co118)) (fun _ hk => hk.2) (.int .i64 t356)) (fun _ hk => hk.2) (.bool t357)) (fun _ hk => hk.2) (.int .i64 t358)) (fun _ hk => hk.2) (.string t359)) (fun _ hk => hk.2) (.int .i64 t360)) (fun _ hk => hk.2) (.int .i64 t361)) (fun _ hk => hk.2) (.int .i64 t362)) (fun _ h_ => h_.1))) hb); have n5_ := Aside0.mk (blk_below (g := gb278) (o := .cells #[.slice A0_0 l0_0.length c0_0, .int .i64 a0_1, .bool a0_2, .int .i64 a0_3, .string a0_4, .int .i64 a0_5, .int .i64 a0_6, .int .i64 a0_7] 60 (0, 0)) (by (with_reducible repeat (first | refine blk_drewN ?_ _ | refine blk_drew ?_ | refine blk_alloc ?_ _)); refine blk_far ?_ NB278_364.out _; (with_reducible repeat (first | refine blk_drewN ?_ _ | refine blk_drew ?_ | refine blk_alloc ?_ _)); refine blk_far ?_ NB278_364.out _; (with_reducible repeat (first | refine blk_drewN ?_ _ | refine blk_drew ?_ | refine blk_alloc ?_ _)); refine blk_far ?_ NB278_364.out _; (with_reducible repeat (first | refine blk_drewN ?_ _ | refine blk_drew ?_ | refine blk_alloc ?_ _)); refine blk_far ?_ NB278_364.out _; (with_reducible repeat (first | refine blk_drewN ?_ _ | refine blk_drew ?_ | refine blk_alloc ?_ _)); refine blk_far ?_ NB278_364.out _; (with_reducible repeat (first | refine blk_drewN ?_ _ | refine blk_drew ?_ | refine blk_alloc ?_ _)); refine blk_far ?_ NB278_364.out _; (with_reducible repeat (first | refine blk_drewN ?_ _ | refine blk_drew ?_ | refine blk_alloc ?_ _)); refine blk_far ?_ NB278_364.out _; (with_reducible repeat (first | refine blk_drewN ?_ _ | refine blk_drew ?_ | refine blk_alloc ?_ _)); refine blk_far ?_ NB278_364.out _; (with_reducible repeat (first | refine blk_drewN ?_ _ | refine blk_drew ?_ | refine blk_alloc ?_ _)); exact BK278.out) hb); have n6_ := Aside0.mk (blk_below (g := gb301) (o := .cells #[.slice Ao20 t290.length co20, .int .i64 t293, .bool t294, .int .i64 t295, .string t296, .int .i64 t297, .int .i64 t298, .int .i64 t299] 41 (0, 0)) (by (with_reducible repeat (first | refine blk_drewN ?_ _ | refine blk_drew ?_ | refine blk_alloc ?_ _)); refine blk_far ?_ NB301_364.out _; (with_reducible repeat (first | refine blk_drewN ?_ _ | refine blk_drew ?_ | refine blk_alloc ?_ _)); refine blk_far ?_ NB301_364.out _; (with_reducible repeat (first | refine blk_drewN ?_ _ | refine blk_drew ?_ | refine blk_alloc ?_ _)); refine blk_far ?_ NB301_364.out _; (with_reducible repeat (first | refine blk_drewN ?_ _ | refine blk_drew ?_ | refine blk_alloc ?_ _)); refine blk_far ?_ NB301_364.out _; (with_reducible repeat (first | refine blk_drewN ?_ _ | refine blk_drew ?_ | refine blk_alloc ?_ _)); refine blk_far ?_ NB301_364.out _; (with_reducible repeat (first | refine blk_drewN ?_ _ | refine blk_drew ?_ | refine blk_alloc ?_ _)); refine blk_far ?_ NB301_364.out _; (with_reducible repeat (first | refine blk_drewN ?_ _ | refine blk_drew ?_ | refine blk_alloc ?_ _)); refine blk_far ?_ NB301_364.out _; (with_reducible repeat (first | refine blk_drewN ?_ _ | refine blk_drew ?_ | refine blk_alloc ?_ _)); refine blk_far ?_ NB301_364.out _; (with_reducible repeat (first | refine blk_drewN ?_ _ | refine blk_drew ?_ | refine blk_alloc ?_ _)); exact BK301.out) hb); have n7_ := Aside0.mk (blk_below (g := gb312) (o := .cells #[.slice Ao26 t338.length co26, .int .i64 t305, .bool t306, .int .i64 t307, .string t308, .int .i64 t309, .int .i64 t310, .int .i64 t311] 41 (0, 0)) (by (with_reducible repeat (first | refine blk_drewN ?_ _ | refine blk_drew ?_ | refine blk_alloc ?_ _)); refine blk_far ?_ NB312_364.out _; (with_reducible repeat (first | refine blk_drewN ?_ _ | refine blk_drew ?_ | refine blk_alloc ?_ _)); refine blk_far ?_ NB312_364.out _; (with_reducible repeat (first | refine blk_drewN ?_ _ | refine blk_drew ?_ | refine blk_alloc ?_ _)); refine blk_far ?_ NB312_364.out _; (with_reducible repeat (first | refine blk_drewN ?_ _ | refine blk_drew ?_ | refine blk_alloc ?_ _)); refine blk_far ?_ NB312_364.out _; (with_reducible repeat (first | refine blk_drewN ?_ _ | refine blk_drew ?_ | refine blk_alloc ?_ _)); refine blk_far ?_ NB312_364.out _; (with_reducible repeat (first | refine blk_drewN ?_ _ | refine blk_drew ?_ | refine blk_alloc ?_ _)); refine blk_far ?_ NB312_364.out _; (with_reducible repeat (first | refine blk_drewN ?_ _ | refine blk_drew ?_ | refine blk_alloc ?_ _)); refine blk_far ?_ NB312_364.out _; (with_reducible repeat (first | refine blk_drewN ?_ _ | refine blk_drew ?_ | refine blk_alloc ?_ _)); refine blk_far ?_ NB312_364.out _; (with_reducible repeat (first | refine blk_drewN ?_ _ | refine blk_drew ?_ | refine blk_alloc ?_ _)); exact BK312.out) hb); have n8_ := Aside0.mk (blk_below (g := gb324) (o := .cells #[.slice Ao32 t313.length co32, .int .i64 t316, .bool t317, .int .i64 t318, .string t319, .int .i64 t320, .int .i64 t321, .int .i64 t322] 41 (0, 0)) (by (with_reducible repeat (first | refine blk_drewN ?_ _ | refine blk_drew ?_ | refine blk_alloc ?_ _)); refine blk_far ?_ NB324_364.out _; (with_reducible repeat (first | refine blk_drewN ?_ _ | refine blk_drew ?_ | refine blk_alloc ?_ _)); refine blk_far ?_ NB324_364.out _; (with_reducible repeat (first | refine blk_drewN ?_ _ | refine blk_drew ?_ | refine blk_alloc ?_ _)); refine blk_far ?_ NB324_364.out _; (with_reducible repeat (first | refine blk_drewN ?_ _ | refine blk_drew ?_ | refine blk_alloc ?_ _)); refine blk_far ?_ NB324_364.out _; (with_reducible repeat (first | refine blk_drewN ?_ _ | refine blk_drew ?_ | refine blk_alloc ?_ _)); refine blk_far ?_ NB324_364.out _; (with_reducible repeat (first | refine blk_drewN ?_ _ | refine blk_drew ?_ | refine blk_alloc ?_ _)); refine blk_far ?_ NB324_364.out _; (with_reducible repeat (first | refine blk_drewN ?_ _ | refine blk_drew ?_ | refine blk_alloc ?_ _)); refine blk_far ?_ NB324_364.out _; (with_reducible repeat (first | refine blk_drewN ?_ _ | refine blk_drew ?_ | refine blk_alloc ?_ _)); refine blk_far ?_ NB324_364.out _; (with_reducible repeat (first | refine blk_drewN ?_ _ | refine blk_drew ?_ | refine blk_alloc ?_ _)); exact BK324.out) hb); have n9_ := Aside0.mk (blk_below (g := gb364) (o := .cells #[.slice Ao118 t353.length co118, .int .i64 t356, .bool t357, .int .i64 t358, .string t359, .int .i64 t360, .int .i64 t361, .int .i64 t362] 41 (0, 0)) (by (with_reducible repeat (first | refine blk_drewN ?_ _ | refine blk_drew ?_ | refine blk_alloc ?_ _)); refine blk_put (cs := #[.slice Ao118 t353.length co118, .int .i64 t356, .bool t357, .int .i64 t358, .string t359, .int .i64 t360, .int .i64 t361, .int .i64 0]) ?_ 7 _ rfl; (with_reducible repeat (first | refine blk_drewN ?_ _ | refine blk_drew ?_ | refine blk_alloc ?_ _)); refine blk_put (cs := #[.slice Ao118 t353.length co118, .int .i64 t356, .bool t357, .int .i64 t358, .string t359, .int .i64 t360, .int .i64 0, .int .i64 0]) ?_ 6 _ rfl; (with_reducible repeat (first | refine blk_drewN ?_ _ | refine blk_drew ?_ | refine blk_alloc ?_ _)); refine blk_put (cs := #[.slice Ao118 t353.length co118, .int .i64 t356, .bool t357, .int .i64 t358, .string t359, .int .i64 0, .int .i64 0, .int .i64 0]) ?_ 5 _ rfl; (with_reducible repeat (first | refine blk_drewN ?_ _ | refine blk_drew ?_ | refine blk_alloc ?_ _)); refine blk_put (cs := #[.slice Ao118 t353.length co118, .int .i64 t356, .bool t357, .int .i64 t358, .string (⟨#[]⟩ : ByteArray), .int .i64 0, .int .i64 0, .int .i64 0]) ?_ 4 _ rfl; (with_reducible repeat (first | refine blk_drewN ?_ _ | refine blk_drew ?_ | refine blk_alloc ?_ _)); refine blk_put (cs := #[.slice Ao118 t353.length co118, .int .i64 t356, .bool t357, .int .i64 0, .string (⟨#[]⟩ : ByteArray), .int .i64 0, .int .i64 0, .int .i64 0]) ?_ 3 _ rfl; (with_reducible repeat (first | refine blk_drewN ?_ _ | refine blk_drew ?_ | refine blk_alloc ?_ _)); refine blk_put (cs := #[.slice Ao118 t353.length co118, .int .i64 t356, .bool false, .int .i64 0, .string (⟨#[]⟩ : ByteArray), .int .i64 0, .int .i64 0, .int .i64 0]) ?_ 2 _ rfl; (with_reducible repeat (first | refine blk_drewN ?_ _ | refine blk_drew ?_ | refine blk_alloc ?_ _)); refine blk_put (cs := #[.slice Ao118 t353.length co118, .int .i64 0, .bool false, .int .i64 0, .string (⟨#[]⟩ : ByteArray), .int .i64 0, .int .i64 0, .int .i64 0]) ?_ 1 _ rfl; (with_reducible repeat (first | refine blk_drewN ?_ _ | refine blk_drew ?_ | refine blk_alloc ?_ _)); refine blk_put (cs := #[.slice none 0 0, .int .i64 0, .bool false, .int .i64 0, .string (⟨#[]⟩ : ByteArray), .int .i64 0, .int .i64 0, .int .i64 0]) ?_ 0 _ rfl; (with_reducible repeat (first | refine blk_drewN ?_ _ | refine blk_drew ?_ | refine blk_alloc ?_ _)); exact BK364.out) hb); have n10_ := Aside0.mk (below_step (bz) hb); clear HO_302000; clear HO_313000; clear HO_325000; clear HO345; clear HO355; clear BK278; clear BK301; clear BK312; clear BK324; clear BK364; clear HB; have HO_302000 := n0_; have HO_313000 := n1_; have HO_325000 := n2_; have HO345 := n3_; have HO355 := n4_; have BK278 := n5_; have BK301 := n6_; have BK312 := n7_; have BK324 := n8_; have BK364 := n9_; have HB := n10_; clear n0_ n1_ n2_ n3_ n4_ n5_ n6_ n7_ n8_ n9_ n10_; (try clear hb); (try clear hb2); (try clear hk); (try clear hi)))
             go_meet
             case rel => exact ⟨_, (true), (by first | rfl | (simp; done) | exact congrArg Value.bool (ne_nil_b _) | exact congrArg Value.bool (eq_nil_b _) | (simp [*]; done)), H', ⟨by have := HJ10.out; have := HJ59.out; first | omega | exact Nat.le_refl _⟩, ⟨by (try simp only [hl313000_59]); (with_reducible repeat (first | apply Kd.R_alloc | apply Kd.R_drewN | apply Kd.R_drew)); exact Kd.R_mono HO_302000.out (fun _ hk => ⟨hk.1.1.1, ⟨hk.1.1.2, hk.2⟩⟩)⟩, ⟨by (try simp only [hl313000_59]); (with_reducible repeat (first | apply Kd.R_alloc | apply Kd.R_drewN | apply Kd.R_drew)); exact Kd.R_mono HO_313000.out (fun _ hk => ⟨hk.1.1.1, ⟨hk.1.1.2, hk.2⟩⟩)⟩, ⟨by (try simp only [hl313000_59]); (with_reducible repeat (first | apply Kd.R_alloc | apply Kd.R_drewN | apply Kd.R_drew)); exact Kd.R_mono HO_325000.out (fun _ hk => ⟨hk.1.1.1, ⟨hk.1.1.2, hk.2⟩⟩)⟩, ⟨by (try simp only [hl313000_59]); (with_reducible repeat (first | apply Kd.R_alloc | apply Kd.R_drewN | apply Kd.R_drew)); exact Kd.R_mono HO355.out (fun _ hk => ⟨hk.1.1.1.2, ⟨hk.1.1.2, hk.1.2⟩⟩)⟩, ⟨by (try simp only [hl313000_59]); (with_reducible repeat (first | refine blk_drewN ?_ _ | refine blk_drew ?_ | refine blk_alloc ?_ _)); exact BK278.out⟩, ⟨by (try simp only [hl313000_59]); (with_reducible repeat (first | refine blk_drewN ?_ _ | refine blk_drew ?_ | refine blk_alloc ?_ _)); exact BK301.out⟩, ⟨by (try simp only [hl313000_59]); (with_reducible repeat (first | refine blk_drewN ?_ _ | refine blk_drew ?_ | refine blk_alloc ?_ _)); exact BK312.out⟩, ⟨by (try simp only [hl313000_59]); (with_reducible repeat (first | refine blk_drewN ?_ _ | refine blk_drew ?_ | refine blk_alloc ?_ _)); exact BK324.out⟩, ⟨by (try simp only [hl313000_59]); (with_reducible repeat (first | refine blk_drewN ?_ _ | refine blk_drew ?_ | refine blk_alloc ?_ _)); exact BK364.out⟩, ⟨bz⟩⟩
           case rest =>
            clear HC103
            try clear c1
            try clear c2
            try clear p2
            try clear c3
            try clear c3b0
            try clear c4
            try clear c5
            try clear c6
            try clear c7
            try clear c8
            try clear c9
            try clear c10
            try clear c11
            try clear c12
            try clear c13
            try clear c14
            try clear c21
            try clear c27
            try clear c28
            try clear c33
            try clear c34
            try clear c35
            try clear c36
            try clear c37
            try clear c38
            try clear c39
            try clear c40
            try clear c41
            try clear c43
            try clear c44
            try clear c47
            try clear c48
            try clear c49
            try clear c51
            try clear c52
            try clear c55
            try clear c58
            try clear c65
            try clear c66
            try clear c67
            try clear c70
            try clear c70b0
            try clear c72
            try clear c73
            try clear c74
            try clear c75
            try clear c77
            try clear c78
            try clear c81
            try clear c82
            try clear c83
            try clear c85
            try clear c86
            try clear c89
            try clear c92
            try clear c92b0
            try clear c93
            try clear c94
            try clear c95
            try clear c100
            try clear c100b0
            try clear c100b1
            try clear c104
            try clear c105
            try clear c106
            try clear c111
            try clear c112
            try clear c119
            try clear c120
            try clear c121
            try clear c122
            try clear c125
            try clear c126
            try clear c127
            try clear c128
            try clear c129
            try clear c131
            try clear c132
            try clear c133
            try clear c136
            try clear c137
            try clear c138
            try clear c139
            try clear c141
            try clear c142
            try clear c143
            try clear hcz107_0
            try clear hcz107_1
            try clear hcz107_2
            try clear hcz107_3
            try clear hcz107_4
            try clear hcz107_5
            try clear hcz107_6
            try clear hcz107_7
            try clear hcz109_0
            try clear hcz109_1
            try clear hcz109_2
            try clear hcz109_3
            try clear hcz109_4
            try clear hcz109_5
            try clear hcz109_6
            try clear hcz109_7
            try clear hcz113_0
            try clear hcz113_1
            try clear hcz113_2
            try clear hcz113_3
            try clear hcz113_4
            try clear hcz113_5
            try clear hcz113_6
            try clear hcz113_7
            try clear hcz123_0
            try clear hcz123_1
            try clear hcz123_2
            try clear hcz123_3
            try clear hcz123_4
            try clear hcz123_5
            try clear hcz123_6
            try clear hcz123_7
            try clear hcz130_0
            try clear hcz130_1
            try clear hcz130_2
            try clear hcz130_3
            try clear hcz130_4
            try clear hcz130_5
            try clear hcz130_6
            try clear hcz130_7
            try clear hcz134_0
            try clear hcz134_1
            try clear hcz134_2
            try clear hcz134_3
            try clear hcz134_4
            try clear hcz134_5
            try clear hcz134_6
            try clear hcz134_7
            try clear hcz13_0
            try clear hcz13_1
            try clear hcz13_2
            try clear hcz13_3
            try clear hcz13_4
            try clear hcz13_5
            try clear hcz13_6
            try clear hcz13_7
            try clear hcz140_0
            try clear hcz140_1
            try clear hcz140_2
            try clear hcz140_3
            try clear hcz140_4
            try clear hcz140_5
            try clear hcz140_6
            try clear hcz140_7
            try clear hcz144_0
            try clear hcz144_1
            try clear hcz144_2
            try clear hcz144_3
            try clear hcz144_4
            try clear hcz144_5
            try clear hcz144_6
            try clear hcz144_7
            try clear hcz15_0
            try clear hcz15_1
            try clear hcz15_2
            try clear hcz15_3
            try clear hcz15_4
            try clear hcz15_5
            try clear hcz15_6
            try clear hcz15_7
            try clear hcz22_0
            try clear hcz22_1
            try clear hcz22_2
            try clear hcz22_3
            try clear hcz22_4
            try clear hcz22_5
            try clear hcz22_6
            try clear hcz22_7
            try clear hcz23_0
            try clear hcz23_1
            try clear hcz23_2
            try clear hcz23_3
            try clear hcz23_4
            try clear hcz23_5
            try clear hcz23_6
            try clear hcz23_7
            try clear hcz29_0
            try clear hcz29_1
            try clear hcz29_2
            try clear hcz29_3
            try clear hcz29_4
            try clear hcz29_5
            try clear hcz29_6
            try clear hcz29_7
            try clear hcz36_0
            try clear hcz36_1
            try clear hcz36_2
            try clear hcz36_3
            try clear hcz36_4
            try clear hcz36_5
            try clear hcz36_6
            try clear hcz36_7
            try clear hcz42_0
            try clear hcz42_1
            try clear hcz42_2
            try clear hcz42_3
            try clear hcz42_4
            try clear hcz42_5
            try clear hcz42_6
            try clear hcz42_7
            try clear hcz45_0
            try clear hcz45_1
            try clear hcz45_2
            try clear hcz45_3
            try clear hcz45_4
            try clear hcz45_5
            try clear hcz45_6
            try clear hcz45_7
            try clear hcz50_0
            try clear hcz50_1
            try clear hcz50_2
            try clear hcz50_3
            try clear hcz50_4
            try clear hcz50_5
            try clear hcz50_6
            try clear hcz50_7
            try clear hcz53_0
            try clear hcz53_1
            try clear hcz53_2
            try clear hcz53_3
            try clear hcz53_4
            try clear hcz53_5
            try clear hcz53_6
            try clear hcz53_7
            try clear hcz5_0
            try clear hcz5_1
            try clear hcz5_2
            try clear hcz5_3
            try clear hcz5_4
            try clear hcz5_5
            try clear hcz5_6
            try clear hcz5_7
            try clear hcz68_0
            try clear hcz68_1
            try clear hcz68_2
            try clear hcz68_3
            try clear hcz68_4
            try clear hcz68_5
            try clear hcz68_6
            try clear hcz68_7
            try clear hcz76_0
            try clear hcz76_1
            try clear hcz76_2
            try clear hcz76_3
            try clear hcz76_4
            try clear hcz76_5
            try clear hcz76_6
            try clear hcz76_7
            try clear hcz79_0
            try clear hcz79_1
            try clear hcz79_2
            try clear hcz79_3
            try clear hcz79_4
            try clear hcz79_5
            try clear hcz79_6
            try clear hcz79_7
            try clear hcz84_0
            try clear hcz84_1
            try clear hcz84_2
            try clear hcz84_3
            try clear hcz84_4
            try clear hcz84_5
            try clear hcz84_6
            try clear hcz84_7
            try clear hcz87_0
            try clear hcz87_1
            try clear hcz87_2
            try clear hcz87_3
            try clear hcz87_4
            try clear hcz87_5
            try clear hcz87_6
            try clear hcz87_7
            try clear hcz96_0
            try clear hcz96_1
            try clear hcz96_2
            try clear hcz96_3
            try clear hcz96_4
            try clear hcz96_5
            try clear hcz96_6
            try clear hcz96_7
            try clear hcz98_0
            try clear hcz98_1
            try clear hcz98_2
            try clear hcz98_3
            try clear hcz98_4
            try clear hcz98_5
            try clear hcz98_6
            try clear hcz98_7
            try clear hfz107_0
            try clear hfz107_1
            try clear hfz107_2
            try clear hfz107_3
            try clear hfz107_4
            try clear hfz107_5
            try clear hfz107_6
            try clear hfz107_7
            try clear hfz109_0
            try clear hfz109_1
            try clear hfz109_2
            try clear hfz109_3
            try clear hfz109_4
            try clear hfz109_5
            try clear hfz109_6
            try clear hfz109_7
            try clear hfz113_0
            try clear hfz113_1
            try clear hfz113_2
            try clear hfz113_3
            try clear hfz113_4
            try clear hfz113_5
            try clear hfz113_6
            try clear hfz113_7
            try clear hfz123_0
            try clear hfz123_1
            try clear hfz123_2
            try clear hfz123_3
            try clear hfz123_4
            try clear hfz123_5
            try clear hfz123_6
            try clear hfz123_7
            try clear hfz130_0
            try clear hfz130_1
            try clear hfz130_2
            try clear hfz130_3
            try clear hfz130_4
            try clear hfz130_5
            try clear hfz130_6
            try clear hfz130_7
            try clear hfz134_0
            try clear hfz134_1
            try clear hfz134_2
            try clear hfz134_3
            try clear hfz134_4
            try clear hfz134_5
            try clear hfz134_6
            try clear hfz134_7
            try clear hfz13_0
            try clear hfz13_1
            try clear hfz13_2
            try clear hfz13_3
            try clear hfz13_4
            try clear hfz13_5
            try clear hfz13_6
            try clear hfz13_7
            try clear hfz140_0
            try clear hfz140_1
            try clear hfz140_2
            try clear hfz140_3
            try clear hfz140_4
            try clear hfz140_5
            try clear hfz140_6
            try clear hfz140_7
            try clear hfz144_0
            try clear hfz144_1
            try clear hfz144_2
            try clear hfz144_3
            try clear hfz144_4
            try clear hfz144_5
            try clear hfz144_6
            try clear hfz144_7
            try clear hfz15_0
            try clear hfz15_1
            try clear hfz15_2
            try clear hfz15_3
            try clear hfz15_4
            try clear hfz15_5
            try clear hfz15_6
            try clear hfz15_7
            try clear hfz22_0
            try clear hfz22_1
            try clear hfz22_2
            try clear hfz22_3
            try clear hfz22_4
            try clear hfz22_5
            try clear hfz22_6
            try clear hfz22_7
            try clear hfz23_0
            try clear hfz23_1
            try clear hfz23_2
            try clear hfz23_3
            try clear hfz23_4
            try clear hfz23_5
            try clear hfz23_6
            try clear hfz23_7
            try clear hfz29_0
            try clear hfz29_1
            try clear hfz29_2
            try clear hfz29_3
            try clear hfz29_4
            try clear hfz29_5
            try clear hfz29_6
            try clear hfz29_7
            try clear hfz36_0
            try clear hfz36_1
            try clear hfz36_2
            try clear hfz36_3
            try clear hfz36_4
            try clear hfz36_5
            try clear hfz36_6
            try clear hfz36_7
            try clear hfz42_0
            try clear hfz42_1
            try clear hfz42_2
            try clear hfz42_3
            try clear hfz42_4
            try clear hfz42_5
            try clear hfz42_6
            try clear hfz42_7
            try clear hfz45_0
            try clear hfz45_1
            try clear hfz45_2
            try clear hfz45_3
            try clear hfz45_4
            try clear hfz45_5
            try clear hfz45_6
            try clear hfz45_7
            try clear hfz50_0
            try clear hfz50_1
            try clear hfz50_2
            try clear hfz50_3
            try clear hfz50_4
            try clear hfz50_5
            try clear hfz50_6
            try clear hfz50_7
            try clear hfz53_0
            try clear hfz53_1
            try clear hfz53_2
            try clear hfz53_3
            try clear hfz53_4
            try clear hfz53_5
            try clear hfz53_6
            try clear hfz53_7
            try clear hfz5_0
            try clear hfz5_1
            try clear hfz5_2
            try clear hfz5_3
            try clear hfz5_4
            try clear hfz5_5
            try clear hfz5_6
            try clear hfz5_7
            try clear hfz68_0
            try clear hfz68_1
            try clear hfz68_2
            try clear hfz68_3
            try clear hfz68_4
            try clear hfz68_5
            try clear hfz68_6
            try clear hfz68_7
            try clear hfz76_0
            try clear hfz76_1
            try clear hfz76_2
            try clear hfz76_3
            try clear hfz76_4
            try clear hfz76_5
            try clear hfz76_6
            try clear hfz76_7
            try clear hfz79_0
            try clear hfz79_1
            try clear hfz79_2
            try clear hfz79_3
            try clear hfz79_4
            try clear hfz79_5
            try clear hfz79_6
            try clear hfz79_7
            try clear hfz84_0
            try clear hfz84_1
            try clear hfz84_2
            try clear hfz84_3
            try clear hfz84_4
            try clear hfz84_5
            try clear hfz84_6
            try clear hfz84_7
            try clear hfz87_0
            try clear hfz87_1
            try clear hfz87_2
            try clear hfz87_3
            try clear hfz87_4
            try clear hfz87_5
            try clear hfz87_6
            try clear hfz87_7
            try clear hfz96_0
            try clear hfz96_1
            try clear hfz96_2
            try clear hfz96_3
            try clear hfz96_4
            try clear hfz96_5
            try clear hfz96_6
            try clear hfz96_7
            try clear hfz98_0
            try clear hfz98_1
            try clear hfz98_2
            try clear hfz98_3
            try clear hfz98_4
            try clear hfz98_5
            try clear hfz98_6
            try clear hfz98_7
            try clear p2
            obtain ⟨kq, x87_102, rfl, HA, HJ102, HO_302000, HO_313000, HO_325000, HO_365000, BK278, BK301, BK312, BK324, BK364, HB⟩ := hcut
            have hl325000_102 := (Kd.R_reads' HO_325000.out).1
            rw [hl325000_102] at HO_325000
            (try simp only [hl325000_102])
            (try simp only [hl325000_102] at BK278)
            (try simp only [hl325000_102] at BK301)
            (try simp only [hl325000_102] at BK312)
            (try simp only [hl325000_102] at BK324)
            (try simp only [hl325000_102] at BK364)
            (try simp only [hl325000_102] at HO_302000)
            (try simp only [hl325000_102] at HO_313000)
            (try simp only [hl325000_102] at HO_365000)
            cases kq with
            | zero => exact absurd HA.out (by simp [laws_FnExactGiveUp.j2])
            | succ kj102 =>
             have H := HA.out
             clear HA
             simp only [laws_FnExactGiveUp.j2] at H
             by_cases c146 : x87_102 = true
             ·
              subst c146
              rw [if_pos rfl] at H
              obtain rfl := Option.some.inj H
              go_wp2
              go_ret
              exact ⟨by first | rfl | (simp only [u8w, w64m]; rfl) | (simp [errW_none, errW_some] <;> rfl) | (simp [*, errW_none, errW_some] <;> rfl), bz⟩
             ·
              replace c146 := Bool.eq_false_iff.mpr c146
              subst c146
              rw [if_neg (show ¬ (false = true) by decide)] at H
              replace H := Option.bind_eq_some_iff.mp H
              obtain ⟨t366, A1470, H⟩ := H
              try dsimp only at H
              have A147 := Aside0.mk A1470
              clear A1470
              by_cases c148 : t366 < 0
              ·
               rw [if_pos c148] at H
               have c148b0 : decide (t366 < 0) = true := decide_eq_true c148
               clear c148
               obtain rfl := Option.some.inj H
               have hnb149 := NB324_278.out
               have hnc149 := NB278_324.out
               have hnb150 := NB324_301.out
               have hnc150 := NB301_324.out
               have hnb151 := NB324_312.out
               have hnc151 := NB312_324.out
               have hnb152 := NB324_364.out
               have hnc152 := NB364_324.out
               have hcz153_0 : wc.cell? ⟨gb324, 0, none⟩ = some (.slice Ao32 t341.length co32) := (blk_cell BK324.out 0).trans rfl
               have hcz153_1 : wc.cell? ⟨gb324, 1, none⟩ = some (.int .i64 t316) := (blk_cell BK324.out 1).trans rfl
               have hcz153_2 : wc.cell? ⟨gb324, 2, none⟩ = some (.bool t317) := (blk_cell BK324.out 2).trans rfl
               have hcz153_3 : wc.cell? ⟨gb324, 3, none⟩ = some (.int .i64 t318) := (blk_cell BK324.out 3).trans rfl
               have hcz153_4 : wc.cell? ⟨gb324, 4, none⟩ = some (.string t319) := (blk_cell BK324.out 4).trans rfl
               have hcz153_5 : wc.cell? ⟨gb324, 5, none⟩ = some (.int .i64 t320) := (blk_cell BK324.out 5).trans rfl
               have hcz153_6 : wc.cell? ⟨gb324, 6, none⟩ = some (.int .i64 t321) := (blk_cell BK324.out 6).trans rfl
               have hcz153_7 : wc.cell? ⟨gb324, 7, none⟩ = some (.int .i64 t322) := (blk_cell BK324.out 7).trans rfl
               have hfz153_0 := blk_frozen BK324.out 0
               have hfz153_1 := blk_frozen BK324.out 1
               have hfz153_2 := blk_frozen BK324.out 2
               have hfz153_3 := blk_frozen BK324.out 3
               have hfz153_4 := blk_frozen BK324.out 4
               have hfz153_5 := blk_frozen BK324.out 5
               have hfz153_6 := blk_frozen BK324.out 6
               have hfz153_7 := blk_frozen BK324.out 7
               go_wp2_with (first | ((with_reducible refine gate_callee (f := 41) rfl ?_); refine goesL_ (some 90) rfl rfl Try.func41 (by kernel_rfl) rfl #[.agg #[.slice Ao32 t341.length co32, .int .i64 t316, .bool t317, .int .i64 t318, .string t319, .int .i64 t320, .int .i64 t321, .int .i64 t322], .int .i64 1] rfl (by (try simp only [List.map_toArray, List.map_cons, List.map_nil]); first | done | rfl | (simp only [List.length_drop, List.length_take]; rfl)) ?_; (with_reducible refine (laws_heldCaller.calls kj102 _ _ t341 t316 t317 t318 t319 t320 t321 t322 1 t366 _ ?side1 ?side2 A147.out).mono ?_); (case side1 => repeat (first | exact (Kd.R_reads' HO_325000.out).2.2 | (with_reducible refine Kd.C_alloc ?_ _) | (with_reducible refine Kd.C_drewN ?_ _) | (with_reducible refine Kd.C_drew ?_))); (case side2 => exact (Kd.R_reads' HO_325000.out).2.1); rintro e w154 ⟨rfl, hb⟩; refine ⟨_, rfl, ?_⟩; have n0_ := Aside0.mk (Kd.R_below (by (with_reducible repeat (first | apply Kd.R_alloc | apply Kd.R_drewN | apply Kd.R_drew)); exact HO_302000.out) hb); have n1_ := Aside0.mk (Kd.R_below (by (with_reducible repeat (first | apply Kd.R_alloc | apply Kd.R_drewN | apply Kd.R_drew)); exact HO_313000.out) hb); have n2_ := Aside0.mk (Kd.R_below (by (with_reducible repeat (first | apply Kd.R_alloc | apply Kd.R_drewN | apply Kd.R_drew)); exact HO_325000.out) hb); have n3_ := Aside0.mk (Kd.R_below (by (with_reducible repeat (first | apply Kd.R_alloc | apply Kd.R_drewN | apply Kd.R_drew)); exact HO_365000.out) hb); have n4_ := bkb BK278 hb; have n5_ := bkb BK301 hb; have n6_ := bkb BK312 hb; have n7_ := bkb BK324 hb; have n8_ := bkb BK364 hb; have n9_ := Aside0.mk (below_step (bz) hb); clear HO_302000; clear HO_313000; clear HO_325000; clear HO_365000; clear BK278; clear BK301; clear BK312; clear BK324; clear BK364; clear HB; have HO_302000 := n0_; have HO_313000 := n1_; have HO_325000 := n2_; have HO_365000 := n3_; have BK278 := n4_; have BK301 := n5_; have BK312 := n6_; have BK324 := n7_; have BK364 := n8_; have HB := n9_; clear n0_ n1_ n2_ n3_ n4_ n5_ n6_ n7_ n8_ n9_; (try clear hb); (try clear hb2); (try clear hk); (try clear hi)))
               go_ret
               exact ⟨by first | rfl | (simp only [u8w, w64m]; rfl) | (simp [errW_none, errW_some] <;> rfl) | (simp [*, errW_none, errW_some] <;> rfl), bz⟩
              ·
               rw [if_neg c148] at H
               have c148b0 : decide (t366 < 0) = false := decide_eq_false c148
               clear c148
               by_cases c155 : t366 = t340
               ·
                rw [if_pos c155] at H
                have c155b0 : (t366 == t340) = true := beq_iff_eq.mpr c155
                have c155b1 : (t366 != t340) = false := bne_eq_false_iff_eq.mpr c155
                clear c155
                obtain rfl := Option.some.inj H
                have hnb156 := NB324_278.out
                have hnc156 := NB278_324.out
                have hnb157 := NB324_301.out
                have hnc157 := NB301_324.out
                have hnb158 := NB324_312.out
                have hnc158 := NB312_324.out
                have hnb159 := NB324_364.out
                have hnc159 := NB364_324.out
                have hcz160_0 : wc.cell? ⟨gb324, 0, none⟩ = some (.slice Ao32 t341.length co32) := (blk_cell BK324.out 0).trans rfl
                have hcz160_1 : wc.cell? ⟨gb324, 1, none⟩ = some (.int .i64 t316) := (blk_cell BK324.out 1).trans rfl
                have hcz160_2 : wc.cell? ⟨gb324, 2, none⟩ = some (.bool t317) := (blk_cell BK324.out 2).trans rfl
                have hcz160_3 : wc.cell? ⟨gb324, 3, none⟩ = some (.int .i64 t318) := (blk_cell BK324.out 3).trans rfl
                have hcz160_4 : wc.cell? ⟨gb324, 4, none⟩ = some (.string t319) := (blk_cell BK324.out 4).trans rfl
                have hcz160_5 : wc.cell? ⟨gb324, 5, none⟩ = some (.int .i64 t320) := (blk_cell BK324.out 5).trans rfl
                have hcz160_6 : wc.cell? ⟨gb324, 6, none⟩ = some (.int .i64 t321) := (blk_cell BK324.out 6).trans rfl
                have hcz160_7 : wc.cell? ⟨gb324, 7, none⟩ = some (.int .i64 t322) := (blk_cell BK324.out 7).trans rfl
                have hfz160_0 := blk_frozen BK324.out 0
                have hfz160_1 := blk_frozen BK324.out 1
                have hfz160_2 := blk_frozen BK324.out 2
                have hfz160_3 := blk_frozen BK324.out 3
                have hfz160_4 := blk_frozen BK324.out 4
                have hfz160_5 := blk_frozen BK324.out 5
                have hfz160_6 := blk_frozen BK324.out 6
                have hfz160_7 := blk_frozen BK324.out 7
                go_wp2_with (first | ((with_reducible refine gate_callee (f := 41) rfl ?_); refine goesL_ (some 90) rfl rfl Try.func41 (by kernel_rfl) rfl #[.agg #[.slice Ao32 t341.length co32, .int .i64 t316, .bool t317, .int .i64 t318, .string t319, .int .i64 t320, .int .i64 t321, .int .i64 t322], .int .i64 1] rfl (by (try simp only [List.map_toArray, List.map_cons, List.map_nil]); first | done | rfl | (simp only [List.length_drop, List.length_take]; rfl)) ?_; (with_reducible refine (laws_heldCaller.calls kj102 _ _ t341 t316 t317 t318 t319 t320 t321 t322 1 t366 _ ?side1 ?side2 A147.out).mono ?_); (case side1 => repeat (first | exact (Kd.R_reads' HO_325000.out).2.2 | (with_reducible refine Kd.C_alloc ?_ _) | (with_reducible refine Kd.C_drewN ?_ _) | (with_reducible refine Kd.C_drew ?_))); (case side2 => exact (Kd.R_reads' HO_325000.out).2.1); rintro e w161 ⟨rfl, hb⟩; refine ⟨_, rfl, ?_⟩; have n0_ := Aside0.mk (Kd.R_below (by (with_reducible repeat (first | apply Kd.R_alloc | apply Kd.R_drewN | apply Kd.R_drew)); exact HO_302000.out) hb); have n1_ := Aside0.mk (Kd.R_below (by (with_reducible repeat (first | apply Kd.R_alloc | apply Kd.R_drewN | apply Kd.R_drew)); exact HO_313000.out) hb); have n2_ := Aside0.mk (Kd.R_below (by (with_reducible repeat (first | apply Kd.R_alloc | apply Kd.R_drewN | apply Kd.R_drew)); exact HO_325000.out) hb); have n3_ := Aside0.mk (Kd.R_below (by (with_reducible repeat (first | apply Kd.R_alloc | apply Kd.R_drewN | apply Kd.R_drew)); exact HO_365000.out) hb); have n4_ := bkb BK278 hb; have n5_ := bkb BK301 hb; have n6_ := bkb BK312 hb; have n7_ := bkb BK324 hb; have n8_ := bkb BK364 hb; have n9_ := Aside0.mk (below_step (bz) hb); clear HO_302000; clear HO_313000; clear HO_325000; clear HO_365000; clear BK278; clear BK301; clear BK312; clear BK324; clear BK364; clear HB; have HO_302000 := n0_; have HO_313000 := n1_; have HO_325000 := n2_; have HO_365000 := n3_; have BK278 := n4_; have BK301 := n5_; have BK312 := n6_; have BK324 := n7_; have BK364 := n8_; have HB := n9_; clear n0_ n1_ n2_ n3_ n4_ n5_ n6_ n7_ n8_ n9_; (try clear hb); (try clear hb2); (try clear hk); (try clear hi)))
                go_ret
                exact ⟨by first | rfl | (simp only [u8w, w64m]; rfl) | (simp [errW_none, errW_some] <;> rfl) | (simp [*, errW_none, errW_some] <;> rfl), bz⟩
               ·
                rw [if_neg c155] at H
                have c155b0 : (t366 == t340) = false := beq_eq_false_iff_ne.mpr c155
                have c155b1 : (t366 != t340) = true := bne_iff_ne.mpr c155
                obtain rfl := Option.some.inj H
                have hnb162 := NB324_278.out
                have hnc162 := NB278_324.out
                have hnb163 := NB324_301.out
                have hnc163 := NB301_324.out
                have hnb164 := NB324_312.out
                have hnc164 := NB312_324.out
                have hnb165 := NB324_364.out
                have hnc165 := NB364_324.out
                have hcz166_0 : wc.cell? ⟨gb324, 0, none⟩ = some (.slice Ao32 t341.length co32) := (blk_cell BK324.out 0).trans rfl
                have hcz166_1 : wc.cell? ⟨gb324, 1, none⟩ = some (.int .i64 t316) := (blk_cell BK324.out 1).trans rfl
                have hcz166_2 : wc.cell? ⟨gb324, 2, none⟩ = some (.bool t317) := (blk_cell BK324.out 2).trans rfl
                have hcz166_3 : wc.cell? ⟨gb324, 3, none⟩ = some (.int .i64 t318) := (blk_cell BK324.out 3).trans rfl
                have hcz166_4 : wc.cell? ⟨gb324, 4, none⟩ = some (.string t319) := (blk_cell BK324.out 4).trans rfl
                have hcz166_5 : wc.cell? ⟨gb324, 5, none⟩ = some (.int .i64 t320) := (blk_cell BK324.out 5).trans rfl
                have hcz166_6 : wc.cell? ⟨gb324, 6, none⟩ = some (.int .i64 t321) := (blk_cell BK324.out 6).trans rfl
                have hcz166_7 : wc.cell? ⟨gb324, 7, none⟩ = some (.int .i64 t322) := (blk_cell BK324.out 7).trans rfl
                have hfz166_0 := blk_frozen BK324.out 0
                have hfz166_1 := blk_frozen BK324.out 1
                have hfz166_2 := blk_frozen BK324.out 2
                have hfz166_3 := blk_frozen BK324.out 3
                have hfz166_4 := blk_frozen BK324.out 4
                have hfz166_5 := blk_frozen BK324.out 5
                have hfz166_6 := blk_frozen BK324.out 6
                have hfz166_7 := blk_frozen BK324.out 7
                go_wp2_with (first | ((with_reducible refine gate_callee (f := 41) rfl ?_); refine goesL_ (some 90) rfl rfl Try.func41 (by kernel_rfl) rfl #[.agg #[.slice Ao32 t341.length co32, .int .i64 t316, .bool t317, .int .i64 t318, .string t319, .int .i64 t320, .int .i64 t321, .int .i64 t322], .int .i64 1] rfl (by (try simp only [List.map_toArray, List.map_cons, List.map_nil]); first | done | rfl | (simp only [List.length_drop, List.length_take]; rfl)) ?_; (with_reducible refine (laws_heldCaller.calls kj102 _ _ t341 t316 t317 t318 t319 t320 t321 t322 1 t366 _ ?side1 ?side2 A147.out).mono ?_); (case side1 => repeat (first | exact (Kd.R_reads' HO_325000.out).2.2 | (with_reducible refine Kd.C_alloc ?_ _) | (with_reducible refine Kd.C_drewN ?_ _) | (with_reducible refine Kd.C_drew ?_))); (case side2 => exact (Kd.R_reads' HO_325000.out).2.1); rintro e w167 ⟨rfl, hb⟩; refine ⟨_, rfl, ?_⟩; have n0_ := Aside0.mk (Kd.R_below (by (with_reducible repeat (first | apply Kd.R_alloc | apply Kd.R_drewN | apply Kd.R_drew)); exact HO_302000.out) hb); have n1_ := Aside0.mk (Kd.R_below (by (with_reducible repeat (first | apply Kd.R_alloc | apply Kd.R_drewN | apply Kd.R_drew)); exact HO_313000.out) hb); have n2_ := Aside0.mk (Kd.R_below (by (with_reducible repeat (first | apply Kd.R_alloc | apply Kd.R_drewN | apply Kd.R_drew)); exact HO_325000.out) hb); have n3_ := Aside0.mk (Kd.R_below (by (with_reducible repeat (first | apply Kd.R_alloc | apply Kd.R_drewN | apply Kd.R_drew)); exact HO_365000.out) hb); have n4_ := bkb BK278 hb; have n5_ := bkb BK301 hb; have n6_ := bkb BK312 hb; have n7_ := bkb BK324 hb; have n8_ := bkb BK364 hb; have n9_ := Aside0.mk (below_step (bz) hb); clear HO_302000; clear HO_313000; clear HO_325000; clear HO_365000; clear BK278; clear BK301; clear BK312; clear BK324; clear BK364; clear HB; have HO_302000 := n0_; have HO_313000 := n1_; have HO_325000 := n2_; have HO_365000 := n3_; have BK278 := n4_; have BK301 := n5_; have BK312 := n6_; have BK324 := n7_; have BK364 := n8_; have HB := n9_; clear n0_ n1_ n2_ n3_ n4_ n5_ n6_ n7_ n8_ n9_; (try clear hb); (try clear hb2); (try clear hk); (try clear hi)))
                go_ret
                exact ⟨by first | rfl | (simp only [u8w, w64m]; rfl) | (simp [errW_none, errW_some] <;> rfl) | (simp [*, errW_none, errW_some] <;> rfl), bz⟩
          ·
           rw [if_neg c100] at H
           have c100b0 : (t342 == t340) = false := beq_eq_false_iff_ne.mpr c100
           have c100b1 : (t342 != t340) = true := bne_iff_ne.mpr c100
           obtain rfl := Option.some.inj H
           have hnb168 := NB324_278.out
           have hnc168 := NB278_324.out
           have hnb169 := NB324_301.out
           have hnc169 := NB301_324.out
           have hnb170 := NB324_312.out
           have hnc170 := NB312_324.out
           have hcz171_0 : wc.cell? ⟨gb324, 0, none⟩ = some (.slice Ao32 t313.length co32) := (blk_cell BK324.out 0).trans rfl
           have hcz171_1 : wc.cell? ⟨gb324, 1, none⟩ = some (.int .i64 t316) := (blk_cell BK324.out 1).trans rfl
           have hcz171_2 : wc.cell? ⟨gb324, 2, none⟩ = some (.bool t317) := (blk_cell BK324.out 2).trans rfl
           have hcz171_3 : wc.cell? ⟨gb324, 3, none⟩ = some (.int .i64 t318) := (blk_cell BK324.out 3).trans rfl
           have hcz171_4 : wc.cell? ⟨gb324, 4, none⟩ = some (.string t319) := (blk_cell BK324.out 4).trans rfl
           have hcz171_5 : wc.cell? ⟨gb324, 5, none⟩ = some (.int .i64 t320) := (blk_cell BK324.out 5).trans rfl
           have hcz171_6 : wc.cell? ⟨gb324, 6, none⟩ = some (.int .i64 t321) := (blk_cell BK324.out 6).trans rfl
           have hcz171_7 : wc.cell? ⟨gb324, 7, none⟩ = some (.int .i64 t322) := (blk_cell BK324.out 7).trans rfl
           have hfz171_0 := blk_frozen BK324.out 0
           have hfz171_1 := blk_frozen BK324.out 1
           have hfz171_2 := blk_frozen BK324.out 2
           have hfz171_3 := blk_frozen BK324.out 3
           have hfz171_4 := blk_frozen BK324.out 4
           have hfz171_5 := blk_frozen BK324.out 5
           have hfz171_6 := blk_frozen BK324.out 6
           have hfz171_7 := blk_frozen BK324.out 7
           go_wp2_with (first | ((with_reducible refine gate_callee (f := 40) rfl ?_); refine goesL_ (some 64) rfl rfl Try.func40 (by kernel_rfl) rfl #[.agg #[.slice Ao32 t313.length co32, .int .i64 t316, .bool t317, .int .i64 t318, .string t319, .int .i64 t320, .int .i64 t321, .int .i64 t322], .int .i64 1] rfl (by (try simp only [List.map_toArray, List.map_cons, List.map_nil]); first | done | rfl | (simp only [List.length_drop, List.length_take]; rfl)) ?_; (with_reducible refine (laws_markCaller.calls kj59 (fun k_ => some k_ = (.slice Ao32 t313.length co32 : Value).ownBlock) (.slice Ao32 t313.length co32) t313 t316 t317 t318 t319 t320 t321 t322 1 t340 t341 w _ ?side1 ?side2 A90.out).mono ?_); (case side1 => repeat (first | (with_reducible first | exact HB.out | apply below_alloc | apply pw_below_drewN | apply below_drew1 | refine below_set ?_ GE278.out | refine below_set ?_ GE301.out | refine below_set ?_ GE312.out | refine below_set ?_ GE324.out) | exact HB.out)); (case side2 => exact Kd.R_tight rfl HO_325000.out); rintro e w172 ⟨rfl, hy0, hb, hkp⟩; refine ⟨_, rfl, ?_⟩; have n0_ := Aside0.mk (Kd.R_mono (ok' := fun k_ => some k_ ≠ (.slice Ao26 t338.length co26 : Value).ownBlock ∧ some k_ ≠ (.slice Ao32 t313.length co32 : Value).ownBlock) (Kd.R_keptB (HO_302000.out) hkp (fun k_ hk_ hs_ => (hk_.2) hs_)) (fun k_ hk_ => ⟨hk_.1.1, hk_.1.2⟩)); have n1_ := Aside0.mk (Kd.R_mono (ok' := fun k_ => some k_ ≠ (.slice Ao20 t290.length co20 : Value).ownBlock ∧ some k_ ≠ (.slice Ao32 t313.length co32 : Value).ownBlock) (Kd.R_keptB (HO_313000.out) hkp (fun k_ hk_ hs_ => (hk_.2) hs_)) (fun k_ hk_ => ⟨hk_.1.1, hk_.1.2⟩)); have n2_ := Aside0.mk (Kd.R_reok rfl hy0 (fun k_ e_ => HO_325000.out.1 k_ e_)); have n3_ := Aside0.mk (blk_kept (bq BK278) hkp (fun hs_ => (fun e_ => (Kd.R_ne HO_325000.out BK278.out (by decide)) e_) hs_)); have n4_ := Aside0.mk (blk_kept (bq BK301) hkp (fun hs_ => (fun e_ => (Kd.R_ne HO_325000.out BK301.out (by decide)) e_) hs_)); have n5_ := Aside0.mk (blk_kept (bq BK312) hkp (fun hs_ => (fun e_ => (Kd.R_ne HO_325000.out BK312.out (by decide)) e_) hs_)); have n6_ := Aside0.mk (blk_kept (bq BK324) hkp (fun hs_ => (fun e_ => (Kd.R_ne HO_325000.out BK324.out (by decide)) e_) hs_)); have n7_ := Aside0.mk (hb); clear HO_302000; clear HO_313000; clear HO_325000; clear BK278; clear BK301; clear BK312; clear BK324; clear HB; have HO_302000 := n0_; have HO_313000 := n1_; have HO_325000 := n2_; have BK278 := n3_; have BK301 := n4_; have BK312 := n5_; have BK324 := n6_; have HB := n7_; clear n0_ n1_ n2_ n3_ n4_ n5_ n6_ n7_; (try clear hb); (try clear hkp); (try clear hy0); have hcz173_0 : w172.cell? ⟨gb324, 0, none⟩ = some (.slice Ao32 t313.length co32) := (blk_cell BK324.out 0).trans rfl; have hcz173_1 : w172.cell? ⟨gb324, 1, none⟩ = some (.int .i64 t316) := (blk_cell BK324.out 1).trans rfl; have hcz173_2 : w172.cell? ⟨gb324, 2, none⟩ = some (.bool t317) := (blk_cell BK324.out 2).trans rfl; have hcz173_3 : w172.cell? ⟨gb324, 3, none⟩ = some (.int .i64 t318) := (blk_cell BK324.out 3).trans rfl; have hcz173_4 : w172.cell? ⟨gb324, 4, none⟩ = some (.string t319) := (blk_cell BK324.out 4).trans rfl; have hcz173_5 : w172.cell? ⟨gb324, 5, none⟩ = some (.int .i64 t320) := (blk_cell BK324.out 5).trans rfl; have hcz173_6 : w172.cell? ⟨gb324, 6, none⟩ = some (.int .i64 t321) := (blk_cell BK324.out 6).trans rfl; have hcz173_7 : w172.cell? ⟨gb324, 7, none⟩ = some (.int .i64 t322) := (blk_cell BK324.out 7).trans rfl; have hfz173_0 := blk_frozen BK324.out 0; have hfz173_1 := blk_frozen BK324.out 1; have hfz173_2 := blk_frozen BK324.out 2; have hfz173_3 := blk_frozen BK324.out 3; have hfz173_4 := blk_frozen BK324.out 4; have hfz173_5 := blk_frozen BK324.out 5; have hfz173_6 := blk_frozen BK324.out 6; have hfz173_7 := blk_frozen BK324.out 7) | ((with_reducible refine gate_callee (f := 41) rfl ?_); refine goesL_ (some 67) rfl rfl Try.func41 (by kernel_rfl) rfl #[.agg #[.slice Ao32 t341.length co32, .int .i64 t316, .bool t317, .int .i64 t318, .string t319, .int .i64 t320, .int .i64 t321, .int .i64 t322], .int .i64 1] rfl (by (try simp only [List.map_toArray, List.map_cons, List.map_nil]); first | done | (rw [show t341.length = t313.length from (Kd.R_reads' HO_325000.out).1.symm] <;> rfl) | rfl | (simp only [List.length_drop, List.length_take]; rfl)) ?_; (with_reducible refine (laws_heldCaller.calls kj59 _ _ t341 t316 t317 t318 t319 t320 t321 t322 1 t342 _ ?side1 ?side2 A91.out).mono ?_); (case side1 => repeat (first | exact (Kd.R_reads' HO_325000.out).2.2 | (with_reducible refine Kd.C_alloc ?_ _) | (with_reducible refine Kd.C_drewN ?_ _) | (with_reducible refine Kd.C_drew ?_))); (case side2 => rw [show t341.length = t313.length from (Kd.R_reads' HO_325000.out).1.symm]; exact (Kd.R_reads' HO_325000.out).2.1); rintro e w174 ⟨rfl, hb⟩; refine ⟨_, rfl, ?_⟩; have n0_ := Aside0.mk (Kd.R_below (by (with_reducible repeat (first | apply Kd.R_alloc | apply Kd.R_drewN | apply Kd.R_drew)); exact HO_302000.out) hb); have n1_ := Aside0.mk (Kd.R_below (by (with_reducible repeat (first | apply Kd.R_alloc | apply Kd.R_drewN | apply Kd.R_drew)); exact HO_313000.out) hb); have n2_ := Aside0.mk (Kd.R_below (by (with_reducible repeat (first | apply Kd.R_alloc | apply Kd.R_drewN | apply Kd.R_drew)); exact HO_325000.out) hb); have n3_ := bkb BK278 hb; have n4_ := bkb BK301 hb; have n5_ := bkb BK312 hb; have n6_ := bkb BK324 hb; have n7_ := Aside0.mk (below_step (bz) hb); clear HO_302000; clear HO_313000; clear HO_325000; clear BK278; clear BK301; clear BK312; clear BK324; clear HB; have HO_302000 := n0_; have HO_313000 := n1_; have HO_325000 := n2_; have BK278 := n3_; have BK301 := n4_; have BK312 := n5_; have BK324 := n6_; have HB := n7_; clear n0_ n1_ n2_ n3_ n4_ n5_ n6_ n7_; (try clear hb); (try clear hb2); (try clear hk); (try clear hi)))
           go_ret
           exact ⟨by first | rfl | (simp only [u8w, w64m]; rfl) | (simp [errW_none, errW_some] <;> rfl) | (simp [*, errW_none, errW_some] <;> rfl), bz⟩
     ·
      replace c58 := Bool.eq_false_iff.mpr c58
      subst c58
      rw [if_neg (show ¬ (false = true) by decide)] at H
      obtain rfl := Option.some.inj H
      try go_wp2
      have n0_ := Aside0.mk (Kd.R_drew HO_302000.out)
      have n1_ := Aside0.mk (Kd.R_drew HO_313000.out)
      have n2_ := Aside0.mk (Kd.R_drew HO_325000.out)
      have n3_ := Aside0.mk (blk_drew BK278.out)
      have n4_ := Aside0.mk (blk_drew BK301.out)
      have n5_ := Aside0.mk (blk_drew BK312.out)
      have n6_ := Aside0.mk (blk_drew BK324.out)
      have n7_ := Aside0.mk (below_drew1 HB.out)
      clear HO_302000
      clear HO_313000
      clear HO_325000
      clear BK278
      clear BK301
      clear BK312
      clear BK324
      clear HB
      have HO_302000 := n0_
      have HO_313000 := n1_
      have HO_325000 := n2_
      have BK278 := n3_
      have BK301 := n4_
      have BK312 := n5_
      have BK324 := n6_
      have HB := n7_
      clear n0_ n1_ n2_ n3_ n4_ n5_ n6_ n7_
      refine start_ (n := 5) (S := fun w' => w'.cell? ⟨gb312, 0, none⟩ = some (.slice Ao26 t302.length co26) ∧ w'.cell? ⟨gb312, 1, none⟩ = some (.int .i64 t305) ∧ w'.cell? ⟨gb312, 2, none⟩ = some (.bool t306) ∧ w'.cell? ⟨gb312, 3, none⟩ = some (.int .i64 t307) ∧ w'.cell? ⟨gb312, 4, none⟩ = some (.string t308) ∧ w'.cell? ⟨gb312, 5, none⟩ = some (.int .i64 t309) ∧ w'.cell? ⟨gb312, 6, none⟩ = some (.int .i64 t310) ∧ w'.cell? ⟨gb312, 7, none⟩ = some (.int .i64 t311) ∧ w'.cell? ⟨gb278, 0, none⟩ = some (.slice A0_0 l0_0.length c0_0) ∧ w'.cell? ⟨gb278, 1, none⟩ = some (.int .i64 a0_1) ∧ w'.cell? ⟨gb278, 2, none⟩ = some (.bool a0_2) ∧ w'.cell? ⟨gb278, 3, none⟩ = some (.int .i64 a0_3) ∧ w'.cell? ⟨gb278, 4, none⟩ = some (.string a0_4) ∧ w'.cell? ⟨gb278, 5, none⟩ = some (.int .i64 a0_5) ∧ w'.cell? ⟨gb278, 6, none⟩ = some (.int .i64 a0_6) ∧ w'.cell? ⟨gb278, 7, none⟩ = some (.int .i64 a0_7)) (ds := []) #[false, false, false, false, false] (by kernel_rfl) rfl rfl ⟨(blk_cell BK312.out 0).trans rfl, (blk_cell BK312.out 1).trans rfl, (blk_cell BK312.out 2).trans rfl, (blk_cell BK312.out 3).trans rfl, (blk_cell BK312.out 4).trans rfl, (blk_cell BK312.out 5).trans rfl, (blk_cell BK312.out 6).trans rfl, (blk_cell BK312.out 7).trans rfl, (blk_cell BK278.out 0).trans rfl, (blk_cell BK278.out 1).trans rfl, (blk_cell BK278.out 2).trans rfl, (blk_cell BK278.out 3).trans rfl, (blk_cell BK278.out 4).trans rfl, (blk_cell BK278.out 5).trans rfl, (blk_cell BK278.out 6).trans rfl, (blk_cell BK278.out 7).trans rfl⟩ (fun hHeld => ?_)
      generalize wc.drew = w175 at HO_302000 HO_313000 HO_325000 BK278 BK301 BK312 BK324 HB hHeld ⊢
      refine take_ (i := 0) (N := some 41) (v := ?_) (a' := ?_) #[true, false, false, false, false] rfl rfl (by kernel_rfl) (fun _ _ _ h => h) (Or.inl ⟨by rfl, ?_⟩) hHeld ?_ ?_
      rotate_left
      ·
       rintro w' ⟨s0, s1, s2, s3, s4, s5, s6, s7, s8, s9, s10, s11, s12, s13, s14, s15⟩
       go_simp
       with_reducible rfl
      rotate_left
      ·
       simp only [Act.put, List.setIfInBounds_toArray, List.set_cons_zero, List.set_cons_succ, i64_w, i32_w]
       rfl
      refine take_ (i := 1) (N := some 42) (v := ?_) (a' := ?_) #[true, true, false, false, false] rfl rfl (by kernel_rfl) (fun _ _ _ h => h) (Or.inl ⟨by rfl, ?_⟩) hHeld ?_ ?_
      rotate_left
      ·
       rintro w' ⟨s0, s1, s2, s3, s4, s5, s6, s7, s8, s9, s10, s11, s12, s13, s14, s15⟩
       go_simp
       with_reducible rfl
      rotate_left
      ·
       simp only [Act.put, List.setIfInBounds_toArray, List.set_cons_zero, List.set_cons_succ, i64_w, i32_w]
       rfl
      refine one_ (i := 2) (N := some 43) #[true, true, true, false, false] rfl rfl (by kernel_rfl) (by decide) (fun K hK => ?_)
      refine goes_ Try.func37 (by kernel_rfl) rfl #[.agg #[.slice A0_0 l0_0.length c0_0, .int .i64 a0_1, .bool a0_2, .int .i64 a0_3, .string a0_4, .int .i64 a0_5, .int .i64 a0_6, .int .i64 a0_7]] (by rfl) rfl rfl (by (try simp only [List.map_toArray, List.map_cons, List.map_nil]); first | done | rfl | (simp only [List.length_drop, List.length_take]; rfl)) ?_
      with_reducible refine (laws_toCaller.calls kj10 _ _ l0_0 a0_1 a0_2 a0_3 a0_4 a0_5 a0_6 a0_7 t326 t329 t330 t331 t332 t333 t334 t335 _ ?side1 ?side2 A56.out).mono ?_
      (case side1 => repeat (first | exact (Kd.C_below HR0_0.out HB.out) | (with_reducible refine Kd.C_alloc ?_ _) | (with_reducible refine Kd.C_drewN ?_ _) | (with_reducible refine Kd.C_drew ?_)))
      (case side2 => exact HC0_0.out)
      rintro e w176 ⟨v327, rfl, ho0, hb⟩
      refine ⟨_, rfl, ?_⟩
      have n0_ := Aside0.mk (Kd.R_elder' (by (with_reducible repeat (first | apply Kd.R_alloc | apply Kd.R_drewN | apply Kd.R_drew)); exact HO_302000.out) (Kd.R_base ho0) hb)
      have n1_ := Aside0.mk (Kd.R_elder' (by (with_reducible repeat (first | apply Kd.R_alloc | apply Kd.R_drewN | apply Kd.R_drew)); exact HO_313000.out) (Kd.R_base ho0) hb)
      have n2_ := Aside0.mk (Kd.R_elder' (by (with_reducible repeat (first | apply Kd.R_alloc | apply Kd.R_drewN | apply Kd.R_drew)); exact HO_325000.out) (Kd.R_base ho0) hb)
      have n3_ := Aside0.mk (Kd.R_lower (Kd.R_new' (Kd.R_new' (Kd.R_new' ho0 (Kd.R_lt (by (with_reducible repeat (first | apply Kd.R_alloc | apply Kd.R_drewN | apply Kd.R_drew)); exact HO_302000.out))) (Kd.R_lt (by (with_reducible repeat (first | apply Kd.R_alloc | apply Kd.R_drewN | apply Kd.R_drew)); exact HO_313000.out))) (Kd.R_lt (by (with_reducible repeat (first | apply Kd.R_alloc | apply Kd.R_drewN | apply Kd.R_drew)); exact HO_325000.out))) (below_size (bz)))
      have n4_ := bkb BK278 hb
      have n5_ := bkb BK301 hb
      have n6_ := bkb BK312 hb
      have n7_ := bkb BK324 hb
      have n8_ := Aside0.mk (below_step (bz) hb)
      clear HO_302000
      clear HO_313000
      clear HO_325000
      clear BK278
      clear BK301
      clear BK312
      clear BK324
      clear HB
      have HO_302000 := n0_
      have HO_313000 := n1_
      have HO_325000 := n2_
      have HO328 := n3_
      have BK278 := n4_
      have BK301 := n5_
      have BK312 := n6_
      have BK324 := n7_
      have HB := n8_
      clear n0_ n1_ n2_ n3_ n4_ n5_ n6_ n7_ n8_
      (try clear hb)
      (try clear hb2)
      (try clear hk)
      (try clear hi)
      (try clear ho0)
      obtain ⟨Ao177, co177, eo177⟩ := Kd.R_slice HO328.out
      (first | subst eo177 | (injection eo177 with f1_ f2_ f3_; have f4_ := f1_.symm; have f5_ := f3_.symm; clear f1_ f2_ f3_; subst f4_; subst f5_))
      refine hK.out _ _ ⟨(blk_cell BK312.out 0).trans rfl, (blk_cell BK312.out 1).trans rfl, (blk_cell BK312.out 2).trans rfl, (blk_cell BK312.out 3).trans rfl, (blk_cell BK312.out 4).trans rfl, (blk_cell BK312.out 5).trans rfl, (blk_cell BK312.out 6).trans rfl, (blk_cell BK312.out 7).trans rfl, (blk_cell BK278.out 0).trans rfl, (blk_cell BK278.out 1).trans rfl, (blk_cell BK278.out 2).trans rfl, (blk_cell BK278.out 3).trans rfl, (blk_cell BK278.out 4).trans rfl, (blk_cell BK278.out 5).trans rfl, (blk_cell BK278.out 6).trans rfl, (blk_cell BK278.out 7).trans rfl⟩ (fun hHeld => ?_)
      clear hK K
      refine norm_ (a' := ?_) ?_ ?_
      rotate_left
      ·
       show Act.put _ (some 43) _ = _
       simp only [Act.put, List.setIfInBounds_toArray, List.set_cons_zero, List.set_cons_succ, i64_w, i32_w]
       rfl
      refine one_ (i := 3) (N := some 44) #[true, true, true, true, false] rfl rfl (by kernel_rfl) (by decide) (fun K hK => ?_)
      refine goes_ Try.func39 (by kernel_rfl) rfl #[.agg #[.slice Ao26 t302.length co26, .int .i64 t305, .bool t306, .int .i64 t307, .string t308, .int .i64 t309, .int .i64 t310, .int .i64 t311], .agg #[.slice Ao177 t326.length co177, .int .i64 t329, .bool t330, .int .i64 t331, .string t332, .int .i64 t333, .int .i64 t334, .int .i64 t335]] (by rfl) rfl rfl (by (try simp only [List.map_toArray, List.map_cons, List.map_nil]); first | done | rfl | (simp only [List.length_drop, List.length_take]; rfl)) ?_
      with_reducible refine (laws_eqCaller.calls kj10 _ _ t302 t305 t306 t307 t308 t309 t310 t311 _ _ t326 t329 t330 t331 t332 t333 t334 t335 false _ ?side1 ?side2 ?side3 ?side4 A57.out).mono ?_
      (case side1 => repeat (first | exact (Kd.R_reads' HO_313000.out).2.2 | (with_reducible refine Kd.C_alloc ?_ _) | (with_reducible refine Kd.C_drewN ?_ _) | (with_reducible refine Kd.C_drew ?_)))
      (case side2 => exact (Kd.R_reads' HO_313000.out).2.1)
      (case side3 => repeat (first | exact (Kd.R_reads' HO328.out).2.2 | (with_reducible refine Kd.C_alloc ?_ _) | (with_reducible refine Kd.C_drewN ?_ _) | (with_reducible refine Kd.C_drew ?_)))
      (case side4 => exact (Kd.R_reads' HO328.out).2.1)
      rintro e w178 ⟨rfl, hb⟩
      refine ⟨_, rfl, ?_⟩
      have n0_ := Aside0.mk (Kd.R_below (by (with_reducible repeat (first | apply Kd.R_alloc | apply Kd.R_drewN | apply Kd.R_drew)); exact HO_302000.out) hb)
      have n1_ := Aside0.mk (Kd.R_below (by (with_reducible repeat (first | apply Kd.R_alloc | apply Kd.R_drewN | apply Kd.R_drew)); exact HO_313000.out) hb)
      have n2_ := Aside0.mk (Kd.R_below (by (with_reducible repeat (first | apply Kd.R_alloc | apply Kd.R_drewN | apply Kd.R_drew)); exact HO_325000.out) hb)
      have n3_ := Aside0.mk (Kd.R_below (by (with_reducible repeat (first | apply Kd.R_alloc | apply Kd.R_drewN | apply Kd.R_drew)); exact HO328.out) hb)
      have n4_ := bkb BK278 hb
      have n5_ := bkb BK301 hb
      have n6_ := bkb BK312 hb
      have n7_ := bkb BK324 hb
      have n8_ := Aside0.mk (below_step (bz) hb)
      clear HO_302000
      clear HO_313000
      clear HO_325000
      clear HO328
      clear BK278
      clear BK301
      clear BK312
      clear BK324
      clear HB
      have HO_302000 := n0_
      have HO_313000 := n1_
      have HO_325000 := n2_
      have HO328 := n3_
      have BK278 := n4_
      have BK301 := n5_
      have BK312 := n6_
      have BK324 := n7_
      have HB := n8_
      clear n0_ n1_ n2_ n3_ n4_ n5_ n6_ n7_ n8_
      (try clear hb)
      (try clear hb2)
      (try clear hk)
      (try clear hi)
      refine hK.out _ _ ⟨(blk_cell BK312.out 0).trans rfl, (blk_cell BK312.out 1).trans rfl, (blk_cell BK312.out 2).trans rfl, (blk_cell BK312.out 3).trans rfl, (blk_cell BK312.out 4).trans rfl, (blk_cell BK312.out 5).trans rfl, (blk_cell BK312.out 6).trans rfl, (blk_cell BK312.out 7).trans rfl, (blk_cell BK278.out 0).trans rfl, (blk_cell BK278.out 1).trans rfl, (blk_cell BK278.out 2).trans rfl, (blk_cell BK278.out 3).trans rfl, (blk_cell BK278.out 4).trans rfl, (blk_cell BK278.out 5).trans rfl, (blk_cell BK278.out 6).trans rfl, (blk_cell BK278.out 7).trans rfl⟩ (fun hHeld => ?_)
      clear hK K
      refine norm_ (a' := ?_) ?_ ?_
      rotate_left
      ·
       show Act.put _ (some 44) _ = _
       simp only [Act.put, List.setIfInBounds_toArray, List.set_cons_zero, List.set_cons_succ, i64_w, i32_w]
       rfl
      refine pure_ (i := 4) (N := some 45) (v := ?_) (a' := ?_) #[true, true, true, true, true] rfl rfl (by kernel_rfl) (fun _ _ _ h => h) (Or.inl ⟨by rfl, ?_⟩) ?_ ?_
      rotate_left
      ·
       intro w'
       go_simp
       with_reducible rfl
      rotate_left
      ·
       simp only [Act.put, List.setIfInBounds_toArray, List.set_cons_zero, List.set_cons_succ, i64_w, i32_w]
       rfl
      refine done_ (by kernel_rfl) ?_
      try go_wp2
      go_ret
      exact ⟨by first | rfl | (simp only [u8w, w64m]; rfl) | (simp [errW_none, errW_some] <;> rfl) | (simp [*, errW_none, errW_some] <;> rfl), bz⟩

/-- THE ONE PURE STATEMENT of laws_FnExactGiveUp. -/
def laws_FnExactGiveUp.Pure : Prop := ∀ (l0_0 : List (S74)) (a0_1 : Int) (a0_2 : Bool) (a0_3 : Int) (a0_4 : ByteArray) (a0_5 : Int) (a0_6 : Int) (a0_7 : Int), (l0_0.length ≤ maxLen ∧ ∀ y ∈ l0_0, okS74 y) → ((Lit.int .i64 a0_1).wf = true) → ((Lit.int .i64 a0_3).wf = true) → (a0_4.size ≤ maxLen) → ((Lit.int .i64 a0_5).wf = true) → ((Lit.int .i64 a0_6).wf = true) → ((Lit.int .i64 a0_7).wf = true) → ∃ k, laws_FnExactGiveUp.f k l0_0 a0_1 a0_2 a0_3 a0_4 a0_5 a0_6 a0_7 = some true

end Go.Proofs.Ytkjkokljgbpbbaa.PFnExactGiveUp
