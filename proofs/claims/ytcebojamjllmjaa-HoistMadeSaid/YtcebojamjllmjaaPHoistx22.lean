-- written by wip/myprint.py (the kit's print over hand-proved contracts)
import Derived.Test.YtcebojamjllmjaaPHoistx0
import Derived.Test.YtcebojamjllmjaaPHoistx2
import Derived.Test.YtcebojamjllmjaaPHoistx3
import Derived.Test.YtcebojamjllmjaaPHoistx4
import Derived.Test.YtcebojamjllmjaaPHoistx8
import Derived.Test.YtcebojamjllmjaaPHoistx9
import Derived.Test.YtcebojamjllmjaaPHoistx12
import Derived.Test.YtcebojamjllmjaaPHoistx14
import Derived.Test.YtcebojamjllmjaaPHoistx19
import Derived.Test.YtcebojamjllmjaaPHoistx21
import Derived.Test.YtcebojamjllmjaaHHoist
namespace Go.Proofs.Ytcebojamjllmjaa.PHoist
open Go.RowKit Go.Proofs.YtcebojamjllmjaaW.PrintWords Go.Proofs.YtcebojamjllmjaaW.PrintLast Go.Proofs.YtcebojamjllmjaaW.PrintMore
attribute [local go_sem] max2_int min2_int max_two min_two max_three min_three max_four min_four   -- for this text's walks alone
set_option linter.unusedVariables false
set_option linter.unusedSimpArgs false

open Go.Proofs.Ytcebojamjllmjaa.HandH
/-! ### law37_HoistMade: function 11 -/
mutual
def law37_HoistMade.l0 : Nat → Int → Int → List Int → Int → Int → Int → Int → Int → Int → Option (Bool)
 | 0, _, _, _, _, _, _, _, _, _ => none
 | k + 1, x1, x7, x341000, x341001, x348000, x348001, x348002, x348003, x348004 => if x7 < 4 then ((made_Mod.f x1 5000000).bind fun t353 => ((made_Dice_Of.f x341000 x341001 (([0, 1, x348000, t353, (-7), x1] : List Int))).bind fun bt357 => ((made_Mod.f x1 80001).bind fun t359 => ((hoist_Limit.f x348000 x348001 x348002 x348003 x348004 bt357.1).bind fun t360 => ((ref37_Limit.f k x348000 x348001 x348002 x348003 x348004 bt357.1).bind fun t361 => (if t360 = t361 then ((hoist_Stop.f x348000 x348001 x348002 x348003 x348004 (wrap64 (t359 - 40000))).bind fun t362 => ((ref37_Stop.f x348000 x348001 x348002 x348003 x348004 (wrap64 (t359 - 40000))).bind fun t363 => (law37_HoistMade.j1 k x1 x7 (wrap64 (t359 - 40000)) (t362 != t363) x341000 bt357.2 x348000 x348001 x348002 x348003 x348004))) else (law37_HoistMade.j1 k x1 x7 (wrap64 (t359 - 40000)) true x341000 bt357.2 x348000 x348001 x348002 x348003 x348004))))))) else ((made_Dice_Next.f x341000 x341001 5).bind fun bt375 => (if bt375.1 = 0 then ((made_Dice_Of.f x341000 bt375.2 (([0, 4000001] : List Int))).bind fun bt380 => (law37_HoistMade.j2 k x341000 bt380.2 x348000 x348001 x348002 x348003 x348004 bt380.1 x348001 x348002 x348003 x348004)) else (if bt375.1 = 1 then ((made_Dice_Of.f x341000 bt375.2 (([0, 20001] : List Int))).bind fun bt385 => (law37_HoistMade.j2 k x341000 bt385.2 x348000 x348001 x348002 x348003 x348004 x348000 bt385.1 x348002 x348003 x348004)) else (if bt375.1 = 2 then ((made_Dice_Of.f x341000 bt375.2 (([0, 5001] : List Int))).bind fun bt390 => (law37_HoistMade.j2 k x341000 bt390.2 x348000 x348001 x348002 x348003 x348004 x348000 x348001 bt390.1 x348003 x348004)) else (if bt375.1 = 3 then ((made_Dice_Of.f x341000 bt375.2 (([(-1), wrap64 (x348001 + 1)] : List Int))).bind fun bt395 => (law37_HoistMade.j2 k x341000 bt395.2 x348000 x348001 x348002 x348003 x348004 x348000 x348001 x348002 bt395.1 x348004)) else ((made_Dice_Of.f x341000 bt375.2 (([(-1), 21] : List Int))).bind fun bt400 => (law37_HoistMade.j2 k x341000 bt400.2 x348000 x348001 x348002 x348003 x348004 x348000 x348001 x348002 x348003 bt400.1)))))))
def law37_HoistMade.j1 : Nat → Int → Int → Int → Bool → List Int → Int → Int → Int → Int → Int → Int → Option (Bool)
 | 0, _, _, _, _, _, _, _, _, _, _, _ => none
 | k + 1, x1, x7, x9, x59, x341000, x341001, x348000, x348001, x348002, x348003, x348004 => if x59 = true then (none) else ((made_Mod.f (wrap64 (x1 + (wrap64 (x7 * 977)))) (wrap64 (x348000 + 2001))).bind fun t364 => ((made_Dice_One.f x341000 x341001 3).bind fun bt365 => ((made_Dice_Of.f x341000 bt365.2 (([0, 500, (-500), 1099511627776, (-5000)] : List Int))).bind fun bt371 => ((law37_agree.f k x348000 x348001 x348002 x348003 x348004 (wrap64 (t364 - 1000)) x9 bt365.1 bt371.1).bind fun t373 => (if t373 = true then (law37_HoistMade.l0 k x1 (wrap64 (x7 + 1)) x341000 bt371.2 x348000 x348001 x348002 x348003 x348004) else (none))))))
def law37_HoistMade.j2 : Nat → List Int → Int → Int → Int → Int → Int → Int → Int → Int → Int → Int → Int → Option (Bool)
 | 0, _, _, _, _, _, _, _, _, _, _, _, _ => none
 | k + 1, x341000, x341001, x348000, x348001, x348002, x348003, x348004, x375000, x375001, x375002, x375003, x375004 => (law37_awake.f).bind fun t402 => (if t402 = true then ((law37_agree.f k x375000 x375001 x375002 x375003 x375004 0 0 false 0).bind fun t403 => (if t403 = true then ((made_Dice_Of.f x341000 x341001 (([1000, 1001] : List Int))).bind fun bt407 => ((made_Dice_Of.f x341000 bt407.2 (([40000, 40001] : List Int))).bind fun bt412 => ((law37_agree.f k x348000 x348001 x348002 x348003 x348004 (wrap64 (x348000 + bt407.1)) bt412.1 false 3).bind fun t414 => (some t414)))) else (none))) else (none))
end
def law37_HoistMade.f (k : Nat) (l0 : List Int) (a1 : Int) : Option (Bool) := (made_Light.f l0).bind fun t336 => (if t336 = true then ((made_Roll.f l0).bind fun bt338 => ((law37_made1.f bt338.1 bt338.2).bind fun bt341 => ((made_Dice_Of.f bt338.1 bt341.2.2.2.2.2 (([0, bt341.2.1, wrap64 (Int.tdiv bt341.2.1 3)] : List Int))).bind fun bt351 => (law37_HoistMade.l0 k a1 0 bt338.1 bt351.2 bt341.1 bt341.2.1 bt341.2.2.1 bt351.1 bt341.2.2.2.2.1)))) else ((law37_awake.f).bind fun t337 => (some t337)))
theorem law37_HoistMade.mono_l : ∀ k, (∀ y0 y1 y2 y3 y4 y5 y6 y7 y8, LeO (law37_HoistMade.l0 k y0 y1 y2 y3 y4 y5 y6 y7 y8) (law37_HoistMade.l0 (k + 1) y0 y1 y2 y3 y4 y5 y6 y7 y8)) ∧ (∀ y0 y1 y2 y3 y4 y5 y6 y7 y8 y9 y10, LeO (law37_HoistMade.j1 k y0 y1 y2 y3 y4 y5 y6 y7 y8 y9 y10) (law37_HoistMade.j1 (k + 1) y0 y1 y2 y3 y4 y5 y6 y7 y8 y9 y10)) ∧ (∀ y0 y1 y2 y3 y4 y5 y6 y7 y8 y9 y10 y11, LeO (law37_HoistMade.j2 k y0 y1 y2 y3 y4 y5 y6 y7 y8 y9 y10 y11) (law37_HoistMade.j2 (k + 1) y0 y1 y2 y3 y4 y5 y6 y7 y8 y9 y10 y11))
 | 0 => ⟨fun _ _ _ _ _ _ _ _ _ r h => by simp [law37_HoistMade.l0] at h, fun _ _ _ _ _ _ _ _ _ _ _ r h => by simp [law37_HoistMade.j1] at h, fun _ _ _ _ _ _ _ _ _ _ _ _ r h => by simp [law37_HoistMade.j2] at h⟩
 | k + 1 => by
  obtain ⟨ih0, ih1, ih2⟩ := law37_HoistMade.mono_l k
  refine ⟨?_, ?_, ?_⟩
  ·intro y0 y1 y2 y3 y4 y5 y6 y7 y8
   unfold law37_HoistMade.l0
   repeat' first
   | (with_reducible exact ih0 _ _ _ _ _ _ _ _ _)
   | (with_reducible exact ih1 _ _ _ _ _ _ _ _ _ _ _)
   | (with_reducible exact ih2 _ _ _ _ _ _ _ _ _ _ _ _)
   | (with_reducible exact law37_agree.mono _ _ _ _ _ _ _ _ _ _)
   | (with_reducible exact ref37_Limit.mono _ _ _ _ _ _ _)
   | (with_reducible exact LeO.refl _)
   | (with_reducible exact LeO.none _)
   | (with_reducible refine LeO.ite ?_ ?_)
   | (with_reducible refine LeO.bind ?_ (fun _ => ?_))
   | exact ih0 _ _ _ _ _ _ _ _ _
   | exact ih1 _ _ _ _ _ _ _ _ _ _ _
   | exact ih2 _ _ _ _ _ _ _ _ _ _ _ _
   | exact law37_agree.mono _ _ _ _ _ _ _ _ _ _
   | exact ref37_Limit.mono _ _ _ _ _ _ _
   | exact LeO.none _
   | refine LeO.ite ?_ ?_
   | refine LeO.bind ?_ (fun _ => ?_)
  ·intro y0 y1 y2 y3 y4 y5 y6 y7 y8 y9 y10
   unfold law37_HoistMade.j1
   repeat' first
   | (with_reducible exact ih0 _ _ _ _ _ _ _ _ _)
   | (with_reducible exact ih1 _ _ _ _ _ _ _ _ _ _ _)
   | (with_reducible exact ih2 _ _ _ _ _ _ _ _ _ _ _ _)
   | (with_reducible exact law37_agree.mono _ _ _ _ _ _ _ _ _ _)
   | (with_reducible exact ref37_Limit.mono _ _ _ _ _ _ _)
   | (with_reducible exact LeO.refl _)
   | (with_reducible exact LeO.none _)
   | (with_reducible refine LeO.ite ?_ ?_)
   | (with_reducible refine LeO.bind ?_ (fun _ => ?_))
   | exact ih0 _ _ _ _ _ _ _ _ _
   | exact ih1 _ _ _ _ _ _ _ _ _ _ _
   | exact ih2 _ _ _ _ _ _ _ _ _ _ _ _
   | exact law37_agree.mono _ _ _ _ _ _ _ _ _ _
   | exact ref37_Limit.mono _ _ _ _ _ _ _
   | exact LeO.none _
   | refine LeO.ite ?_ ?_
   | refine LeO.bind ?_ (fun _ => ?_)
  ·intro y0 y1 y2 y3 y4 y5 y6 y7 y8 y9 y10 y11
   unfold law37_HoistMade.j2
   repeat' first
   | (with_reducible exact ih0 _ _ _ _ _ _ _ _ _)
   | (with_reducible exact ih1 _ _ _ _ _ _ _ _ _ _ _)
   | (with_reducible exact ih2 _ _ _ _ _ _ _ _ _ _ _ _)
   | (with_reducible exact law37_agree.mono _ _ _ _ _ _ _ _ _ _)
   | (with_reducible exact ref37_Limit.mono _ _ _ _ _ _ _)
   | (with_reducible exact LeO.refl _)
   | (with_reducible exact LeO.none _)
   | (with_reducible refine LeO.ite ?_ ?_)
   | (with_reducible refine LeO.bind ?_ (fun _ => ?_))
   | exact ih0 _ _ _ _ _ _ _ _ _
   | exact ih1 _ _ _ _ _ _ _ _ _ _ _
   | exact ih2 _ _ _ _ _ _ _ _ _ _ _ _
   | exact law37_agree.mono _ _ _ _ _ _ _ _ _ _
   | exact ref37_Limit.mono _ _ _ _ _ _ _
   | exact LeO.none _
   | refine LeO.ite ?_ ?_
   | refine LeO.bind ?_ (fun _ => ?_)
theorem law37_HoistMade.mono : ∀ a0 a1 k, LeO (law37_HoistMade.f k a0 a1) (law37_HoistMade.f (k + 1) a0 a1) := by
 intro a0 a1 k
 obtain ⟨ih0, ih1, ih2⟩ := law37_HoistMade.mono_l k
 unfold law37_HoistMade.f
 repeat' first
   | (with_reducible exact ih0 _ _ _ _ _ _ _ _ _)
   | (with_reducible exact ih1 _ _ _ _ _ _ _ _ _ _ _)
   | (with_reducible exact ih2 _ _ _ _ _ _ _ _ _ _ _ _)
   | (with_reducible exact law37_agree.mono _ _ _ _ _ _ _ _ _ _)
   | (with_reducible exact ref37_Limit.mono _ _ _ _ _ _ _)
   | (with_reducible exact LeO.refl _)
   | (with_reducible exact LeO.none _)
   | (with_reducible refine LeO.ite ?_ ?_)
   | (with_reducible refine LeO.bind ?_ (fun _ => ?_))
   | exact ih0 _ _ _ _ _ _ _ _ _
   | exact ih1 _ _ _ _ _ _ _ _ _ _ _
   | exact ih2 _ _ _ _ _ _ _ _ _ _ _ _
   | exact law37_agree.mono _ _ _ _ _ _ _ _ _ _
   | exact ref37_Limit.mono _ _ _ _ _ _ _
   | exact LeO.none _
   | refine LeO.ite ?_ ?_
   | refine LeO.bind ?_ (fun _ => ?_)
def law37_HoistMade.T9 : Bool × List (List Nat × List Nat) := (true, [([], []), ([], []), ([1], [1]), ([], []), ([3], [3]), ([], []), ([2, 4, 5], [2, 4, 5]), ([0, 6, 4], [0, 6]), ([], []), ([8, 7], [8]), ([9], [9]), ([7, 9, 0, 1, 2, 3, 4, 5, 6, 7], [7]), ([10, 11, 0, 1, 2, 3, 4, 5, 6, 7, 8, 9, 10, 11], [10])])
def law37_HoistMade.B9 : List Nat := [0, 0, 2, 0, 8, 0, 62, 127, 0, 511, 1023, 1023, 4095]
theorem law37_HoistMade.tab9 : rtab .any (opsOf Try.f11 9) = law37_HoistMade.T9 := by kernel_rfl
theorem law37_HoistMade.bits9 : waitsOk law37_HoistMade.T9.2 law37_HoistMade.B9 = true := by kernel_rfl
def law37_HoistMade.T10 : Bool × List (List Nat × List Nat) := (true, [([], []), ([], []), ([0, 1], [0, 1]), ([], []), ([], []), ([3, 4, 2], [3, 4]), ([2, 5], [2, 5]), ([6, 5], [6]), ([7], [7]), ([7], [7]), ([8, 9, 7, 7], [7, 8, 9]), ([7], [7]), ([7], [7]), ([11, 12, 10, 7], [7, 11, 12]), ([10, 13, 7], [7, 10, 13]), ([7, 14], [7, 14])])
def law37_HoistMade.B10 : List Nat := [0, 0, 3, 0, 0, 31, 63, 127, 255, 255, 1023, 255, 255, 8191, 16383, 32767]
theorem law37_HoistMade.tab10 : rtab .any (opsOf Try.f11 10) = law37_HoistMade.T10 := by kernel_rfl
theorem law37_HoistMade.bits10 : waitsOk law37_HoistMade.T10.2 law37_HoistMade.B10 = true := by kernel_rfl
def law37_HoistMade.T26 : Bool × List (List Nat × List Nat) := (true, [([], []), ([0, 0], [0]), ([1], [1]), ([1], [1]), ([2, 3, 1, 1], [1, 2, 3]), ([1, 4], [1, 4]), ([5, 4], [5]), ([6], [6]), ([6], [6]), ([8, 6], [6, 8]), ([6], [6]), ([6], [6]), ([10, 11, 6, 6], [6, 10, 11]), ([9, 12, 6], [6, 9, 12]), ([6], [6]), ([6], [6]), ([14, 15, 12, 6], [6, 14, 15]), ([13, 16, 6], [6, 13, 16]), ([7, 17, 16, 6], [6, 7, 17]), ([6, 18], [6, 18]), ([19, 18, 0, 1, 2, 3, 4, 5, 6, 7, 8, 9, 10, 11, 12, 13, 14, 15, 16, 17, 18, 19], [19])])
def law37_HoistMade.B26 : List Nat := [0, 1, 3, 3, 15, 31, 63, 127, 127, 383, 127, 127, 3199, 8063, 127, 127, 56447, 130943, 262143, 524287, 1048575]
theorem law37_HoistMade.tab26 : rtab .any (opsOf Try.f11 26) = law37_HoistMade.T26 := by kernel_rfl
theorem law37_HoistMade.bits26 : waitsOk law37_HoistMade.T26.2 law37_HoistMade.B26 = true := by kernel_rfl
set_option maxHeartbeats 8000000 in
set_option maxRecDepth 100000 in
theorem law37_HoistMade.calls (k : Nat) (A0 : Option Addr) (c0 : Nat) (l0 : List Int) (a1 : Int) (r : Bool) (w : World) (hr0 : Kd.C (Kd.int .i64) w A0 l0.length l0) (hc0 : l0.length ≤ c0) (h : law37_HoistMade.f k l0 a1 = some r) :
  Calls Try.prog 11 #[.slice A0 l0.length c0, .int .i64 a1] w fun e w' => e = .returned (.bool r) ∧ Below w.heap.size w w' := by
 have hu45 := Try.underlying45
 have hu50 := Try.underlying50
 have HR0 := Aside0.mk hr0
 have HC0 := Aside0.mk hc0
 clear hr0 hc0
 have HB := Aside0.mk (Below.refl w.heap.size w)
 have H : ((made_Light.f l0).bind fun t336 => (if t336 = true then ((made_Roll.f l0).bind fun bt338 => ((law37_made1.f bt338.1 bt338.2).bind fun bt341 => ((made_Dice_Of.f bt338.1 bt341.2.2.2.2.2 (([0, bt341.2.1, wrap64 (Int.tdiv bt341.2.1 3)] : List Int))).bind fun bt351 => (law37_HoistMade.l0 k a1 0 bt338.1 bt351.2 bt341.1 bt341.2.1 bt341.2.2.1 bt351.1 bt341.2.2.2.2.1)))) else ((law37_awake.f).bind fun t337 => (some t337)))) = some r := h
 clear h
 replace H := Option.bind_eq_some_iff.mp H
 obtain ⟨t336, A30, H⟩ := H
 replace H : (if t336 = true then ((made_Roll.f l0).bind fun bt338 => ((law37_made1.f bt338.1 bt338.2).bind fun bt341 => ((made_Dice_Of.f bt338.1 bt341.2.2.2.2.2 (([0, bt341.2.1, wrap64 (Int.tdiv bt341.2.1 3)] : List Int))).bind fun bt351 => (law37_HoistMade.l0 k a1 0 bt338.1 bt351.2 bt341.1 bt341.2.1 bt341.2.2.1 bt351.1 bt341.2.2.2.2.1)))) else ((law37_awake.f).bind fun t337 => (some t337))) = some r := H
 have A3 := Aside0.mk A30
 clear A30
 by_cases c4 : t336 = true
 ·subst c4
  have H1 : ((made_Roll.f l0).bind fun bt338 => ((law37_made1.f bt338.1 bt338.2).bind fun bt341 => ((made_Dice_Of.f bt338.1 bt341.2.2.2.2.2 (([0, bt341.2.1, wrap64 (Int.tdiv bt341.2.1 3)] : List Int))).bind fun bt351 => (law37_HoistMade.l0 k a1 0 bt338.1 bt351.2 bt341.1 bt341.2.1 bt341.2.2.1 bt351.1 bt341.2.2.2.2.1)))) = some r := by rw [if_pos rfl] at H; exact H
  clear H
  have H := H1
  clear H1
  replace H := Option.bind_eq_some_iff.mp H
  obtain ⟨⟨t338, t339⟩, A50, H⟩ := H
  replace H : ((law37_made1.f t338 t339).bind fun bt341 => ((made_Dice_Of.f t338 bt341.2.2.2.2.2 (([0, bt341.2.1, wrap64 (Int.tdiv bt341.2.1 3)] : List Int))).bind fun bt351 => (law37_HoistMade.l0 k a1 0 t338 bt351.2 bt341.1 bt341.2.1 bt341.2.2.1 bt351.1 bt341.2.2.2.2.1))) = some r := H
  have A5 := Aside0.mk A50
  clear A50
  replace H := Option.bind_eq_some_iff.mp H
  obtain ⟨⟨t341, t342, t343, t344, t345, t346⟩, A60, H⟩ := H
  replace H : ((made_Dice_Of.f t338 t346 (([0, t342, wrap64 (Int.tdiv t342 3)] : List Int))).bind fun bt351 => (law37_HoistMade.l0 k a1 0 t338 bt351.2 t341 t342 t343 bt351.1 t345)) = some r := H
  have A6 := Aside0.mk A60
  clear A60
  obtain ⟨y348, hy348⟩ : ∃ y_ : List Int, y_ = (([0, t342, wrap64 (Int.tdiv t342 3)] : List Int)) := ⟨_, rfl⟩
  replace H : ((made_Dice_Of.f t338 t346 y348).bind fun bt351 => (law37_HoistMade.l0 k a1 0 t338 bt351.2 t341 t342 t343 bt351.1 t345)) = some r := by first | (rw [hy348]; with_reducible exact H) | (have H2_ := (Option.bind_some _ _).symm.trans H; rw [hy348]; with_reducible exact H2_) | (have H2_ := (Option.bind_some _ _).symm.trans H; with_reducible exact H2_) | with_reducible exact H | (rw [hy348]; exact H) | exact H
  have Ny348 := Aside0.mk hy348
  clear hy348
  replace H := Option.bind_eq_some_iff.mp H
  obtain ⟨⟨t351, t352⟩, A70, H⟩ := H
  replace H : (law37_HoistMade.l0 k a1 0 t338 t352 t341 t342 t343 t351 t345) = some r := H
  have A7 := Aside0.mk A70
  clear A70
  have H' := Aside0.mk H
  clear H
  go_enter Try.func11, Try.ntmps11
  go_wp2_with (first | ((with_reducible refine gate_callee (f := 14) rfl ?_); refine goesL_ (some 13) rfl rfl Try.func14 (by kernel_rfl) rfl #[.slice A0 l0.length c0] rfl (by (try simp only [List.map_toArray, List.map_cons, List.map_nil]); first | done | rfl | (simp only [List.length_drop, List.length_take]; rfl)) ?_; (with_reducible refine (made_Light.calls _ _ l0 true _ ?side1 ?side2 A3.out).mono ?_); (case side1 => repeat (first | exact HR0.out | (with_reducible refine Kd.C_alloc ?_ _) | (with_reducible refine Kd.C_drewN ?_ _) | (with_reducible refine Kd.C_drew ?_))); (case side2 => exact HC0.out); rintro e w' ⟨rfl, ⟨nd, rfl⟩⟩; refine ⟨_, rfl, ?_⟩) | ((with_reducible refine gate_callee (f := 15) rfl ?_); refine goesL_ (some 17) rfl rfl Try.func15 (by kernel_rfl) rfl #[.slice A0 l0.length c0] rfl (by (try simp only [List.map_toArray, List.map_cons, List.map_nil]); first | done | rfl | (simp only [List.length_drop, List.length_take]; rfl)) ?_; (with_reducible refine (made_Roll.calls _ _ l0 t338 t339 w _ ?side1 ?side2 ?side3 A5.out).mono ?_); (case side1 => repeat (first | (with_reducible first | exact HB.out | apply below_alloc | apply pw_below_drewN | apply below_drew1) | exact HB.out)); (case side2 => exact HR0.out); (case side3 => exact HC0.out); rintro e w8 ⟨g340, rfl, hi, hb, hb2⟩; refine ⟨_, rfl, ?_⟩; have n0_ := Aside0.mk (hb); have n1_ := Aside0.mk (hi); clear HB; have HB := n0_; have HI340 := n1_; clear n0_ n1_; (try clear hb); (try clear hb2); (try clear hk); (try clear hi)) | ((with_reducible refine gate_callee (f := 26) rfl ?_); refine goesL_ (some 19) rfl rfl Try.func26 (by kernel_rfl) rfl #[.pointer (some ⟨g340, 0, none⟩)] rfl (by (try simp only [List.map_toArray, List.map_cons, List.map_nil]); first | done | rfl | (simp only [List.length_drop, List.length_take]; rfl)) ?_; (with_reducible refine (law37_made1.calls g340 t338 t339 t341 t342 t343 t344 t345 t346 w _ ?side1 ?side2 A6.out).mono ?_); (case side1 => repeat (first | (with_reducible first | exact HI340.out | apply IsS59.alloc | apply IsS59.drewN | apply IsS59.drew | apply IsS59.set_1) | exact HI340.out)); (case side2 => repeat (first | (with_reducible first | exact HB.out | apply below_alloc | apply pw_below_drewN | apply below_drew1 | refine below_set ?_ (IsS59.ge HI340.out)) | exact HB.out)); rintro e w9 ⟨rfl, hi, hb, hk⟩; refine ⟨_, rfl, ?_⟩; have n0_ := Aside0.mk (hb); have n1_ := Aside0.mk (hi); clear HB; clear HI340; have HB := n0_; have HI340 := n1_; clear n0_ n1_; (try clear hb); (try clear hb2); (try clear hk); (try clear hi)) | ((with_reducible refine gate_dst (N := 6) rfl ?_); (try (refine gate_guard (by rfl) ?_; dsimp only)); refine box_event ?hg (N := 6) ?hd (cs := #[.int .i64 0, .int .i64 0, .int .i64 0, .int .i64 0, .int .i64 0]) (t := 45) ?hr ?_; (case hd => rfl); (case hg => rfl); (case hr => first | (go_simp; done) | (go_simp; rfl)); intro gb347 hg w10 hbox hb; have n0_ := Aside0.mk (IsS59.below (by repeat (first | (with_reducible first | exact HI340.out | apply IsS59.alloc | apply IsS59.drewN | apply IsS59.drew | apply IsS59.set_1) | exact HI340.out)) hb); have n1_ := Aside0.mk (below_step (by repeat (first | (with_reducible first | exact HB.out | apply below_alloc | apply pw_below_drewN | apply below_drew1 | refine below_set ?_ (IsS59.ge HI340.out)) | exact HB.out)) hb); have n2_ := Aside0.mk (hbox); have n3_ := Aside0.mk ((by rw [hg]; exact (below_size (by repeat (first | (with_reducible first | exact HB.out | apply below_alloc | apply pw_below_drewN | apply below_drew1 | refine below_set ?_ (IsS59.ge HI340.out)) | exact HB.out))) : w.heap.size ≤ gb347)); have n4_ := Aside0.mk ((by rw [hg]; exact (below_size (by repeat (first | (with_reducible first | exact HB.out | apply below_alloc | apply pw_below_drewN | apply below_drew1 | refine below_set ?_ (IsS59.ge HI340.out)) | exact HB.out))) : w.heap.size ≤ gb347)); have n5_ := Aside0.mk ((by rw [hg]; exact Nat.ne_of_lt (IsS59.lt (show IsS59 w _ g340 t338 t346 from by repeat (first | (with_reducible first | exact HI340.out | apply IsS59.alloc | apply IsS59.drewN | apply IsS59.drew | apply IsS59.set_1) | exact HI340.out))) : g340 ≠ gb347)); have n6_ := Aside0.mk ((by rw [hg]; exact Nat.ne_of_gt (IsS59.lt (show IsS59 w _ g340 t338 t346 from by repeat (first | (with_reducible first | exact HI340.out | apply IsS59.alloc | apply IsS59.drewN | apply IsS59.drew | apply IsS59.set_1) | exact HI340.out))) : gb347 ≠ g340)); clear HI340; clear HB; have HI340 := n0_; have HB := n1_; have BK347 := n2_; have GW347 := n3_; have GE347 := n4_; have NB340_347 := n5_; have NB347_340 := n6_; clear n0_ n1_ n2_ n3_ n4_ n5_ n6_; clear hb hbox hg; have hnb11 := NB347_340.out; have hnc11 := NB340_347.out; have hcz12_0 : w10.cell? ⟨gb347, 0, none⟩ = some (.int .i64 0) := (blk_cell BK347.out 0).trans rfl; have hcz12_1 : w10.cell? ⟨gb347, 1, none⟩ = some (.int .i64 0) := (blk_cell BK347.out 1).trans rfl; have hcz12_2 : w10.cell? ⟨gb347, 2, none⟩ = some (.int .i64 0) := (blk_cell BK347.out 2).trans rfl; have hcz12_3 : w10.cell? ⟨gb347, 3, none⟩ = some (.int .i64 0) := (blk_cell BK347.out 3).trans rfl; have hcz12_4 : w10.cell? ⟨gb347, 4, none⟩ = some (.int .i64 0) := (blk_cell BK347.out 4).trans rfl; have hfz12_0 := blk_frozen BK347.out 0; have hfz12_1 := blk_frozen BK347.out 1; have hfz12_2 := blk_frozen BK347.out 2; have hfz12_3 := blk_frozen BK347.out 3; have hfz12_4 := blk_frozen BK347.out 4) | ((with_reducible refine gate_dst (N := 26) rfl ?_); (try (refine gate_guard (by rfl) ?_; dsimp only)); refine Kd.R_lit (Kd.int .i64) _ 3 ?hg (N := 26) ?hd (xs := ([0, t342, wrap64 (Int.tdiv t342 3)] : List Int)) (inner := [.int .i64 0, .int .i64 t342, .int .i64 (wrap64 (Int.tdiv t342 3))]) (ok := fun _ => True) (okp := fun _ => True) ?hr ?hp (fun _ hk => hk) trivial (Below.refl _ _) (Nat.le_refl _) (by simp) ?_; (case hd => rfl); (case hg => rfl); (case hr => first | (go_simp; done) | (go_simp; rfl)); (case hp => exact (Reps.one (show Kd.M (Kd.int .i64) _ _ _ 0 [.int .i64 0] from rfl) (Reps.one (show Kd.M (Kd.int .i64) _ _ _ t342 [.int .i64 t342] from rfl) (Reps.one (show Kd.M (Kd.int .i64) _ _ _ (wrap64 (Int.tdiv t342 3)) [.int .i64 (wrap64 (Int.tdiv t342 3))] from rfl) (Reps.none _ _))))); intro v349 w13 ho14 hb hg_ hnew_; clear hg_ hnew_; (first | rw [← Ny348.out] at ho14 | (simp only [Int.reduceToNat] at ho14; rw [← Ny348.out] at ho14)); have n0_ := Aside0.mk (Kd.R_lower ho14 (below_size (by repeat (first | (with_reducible first | exact HB.out | apply below_alloc | apply pw_below_drewN | apply below_drew1 | refine below_set ?_ (IsS59.ge HI340.out) | refine below_set ?_ GE347.out) | exact HB.out)))); have n1_ := Aside0.mk (IsS59.below (show IsS59 w _ g340 t338 t346 from by repeat (first | (with_reducible first | exact HI340.out | apply IsS59.alloc | apply IsS59.drewN | apply IsS59.drew | apply IsS59.set_1 | refine IsS59.far ?_ NB340_347.out _) | exact HI340.out)) hb); have n2_ := Aside0.mk (blk_below (g := gb347) (o := .cells #[.int .i64 t341, .int .i64 t342, .int .i64 t343, .int .i64 t344, .int .i64 t345] 45 (0, 0)) (by (with_reducible repeat (first | refine blk_drewN ?_ _ | refine blk_drew ?_ | refine blk_alloc ?_ _)); refine blk_put (cs := #[.int .i64 t341, .int .i64 t342, .int .i64 t343, .int .i64 t344, .int .i64 0]) ?_ 4 _ rfl; (with_reducible repeat (first | refine blk_drewN ?_ _ | refine blk_drew ?_ | refine blk_alloc ?_ _)); refine blk_put (cs := #[.int .i64 t341, .int .i64 t342, .int .i64 t343, .int .i64 0, .int .i64 0]) ?_ 3 _ rfl; (with_reducible repeat (first | refine blk_drewN ?_ _ | refine blk_drew ?_ | refine blk_alloc ?_ _)); refine blk_put (cs := #[.int .i64 t341, .int .i64 t342, .int .i64 0, .int .i64 0, .int .i64 0]) ?_ 2 _ rfl; (with_reducible repeat (first | refine blk_drewN ?_ _ | refine blk_drew ?_ | refine blk_alloc ?_ _)); refine blk_put (cs := #[.int .i64 t341, .int .i64 0, .int .i64 0, .int .i64 0, .int .i64 0]) ?_ 1 _ rfl; (with_reducible repeat (first | refine blk_drewN ?_ _ | refine blk_drew ?_ | refine blk_alloc ?_ _)); refine blk_put (cs := #[.int .i64 0, .int .i64 0, .int .i64 0, .int .i64 0, .int .i64 0]) ?_ 0 _ rfl; (with_reducible repeat (first | refine blk_drewN ?_ _ | refine blk_drew ?_ | refine blk_alloc ?_ _)); exact BK347.out) hb); have n3_ := Aside0.mk (below_step (by repeat (first | (with_reducible first | exact HB.out | apply below_alloc | apply pw_below_drewN | apply below_drew1 | refine below_set ?_ (IsS59.ge HI340.out) | refine below_set ?_ GE347.out) | exact HB.out)) hb); clear HI340; clear BK347; clear HB; have HO350 := n0_; have HI340 := n1_; have BK347 := n2_; have HB := n3_; clear n0_ n1_ n2_ n3_; clear hb ho14; obtain ⟨Ao15, co15, eo15⟩ := Kd.R_slice HO350.out; subst eo15) | ((with_reducible refine gate_callee (f := 16) rfl ?_); refine goesL_ (some 27) rfl rfl Try.func16 (by kernel_rfl) rfl #[.pointer (some ⟨g340, 0, none⟩), .slice Ao15 y348.length co15] rfl (by (try simp only [List.map_toArray, List.map_cons, List.map_nil]); first | done | rfl | (simp only [List.length_drop, List.length_take]; rfl)) ?_; (with_reducible refine (made_Dice_Of.calls g340 t338 t346 _ _ y348 t351 t352 w _ ?side1 ?side2 ?side3 ?side4 ?side5 A7.out).mono ?_); (case side1 => repeat (first | (with_reducible first | exact HI340.out | apply IsS59.alloc | apply IsS59.drewN | apply IsS59.drew | apply IsS59.set_1 | refine IsS59.far ?_ NB340_347.out _) | exact HI340.out)); (case side2 => repeat (first | (with_reducible first | exact HB.out | apply below_alloc | apply pw_below_drewN | apply below_drew1 | refine below_set ?_ (IsS59.ge HI340.out) | refine below_set ?_ GE347.out) | exact HB.out)); (case side3 => repeat (first | exact (Kd.R_reads' HO350.out).2.2 | (with_reducible refine Kd.C_alloc ?_ _) | (with_reducible refine Kd.C_drewN ?_ _) | (with_reducible refine Kd.C_drew ?_))); (case side4 => exact (Kd.R_reads' HO350.out).2.1); (case side5 => exact far_slice (IsS59.own_ne HI340.out HO350.out (by decide))); rintro e w16 ⟨rfl, hi, hb, hk⟩; refine ⟨_, rfl, ?_⟩; have n0_ := Aside0.mk (KeepBut.blk hk (g' := gb347) (o := .cells #[.int .i64 t341, .int .i64 t342, .int .i64 t343, .int .i64 t344, .int .i64 t345] 45 (0, 0)) (by (with_reducible repeat (first | refine blk_drewN ?_ _ | refine blk_drew ?_ | refine blk_alloc ?_ _)); exact BK347.out) NB347_340.out (by simp)); have n1_ := Aside0.mk (Kd.R_mono (Kd.R_keep (IsS59.apart (show IsS59 w _ g340 t338 t346 from by repeat (first | (with_reducible first | exact HI340.out | apply IsS59.alloc | apply IsS59.drewN | apply IsS59.drew | apply IsS59.set_1 | refine IsS59.far ?_ NB340_347.out _) | exact HI340.out)) (by (with_reducible repeat (first | apply Kd.R_alloc | apply Kd.R_drewN | apply Kd.R_drew)); exact HO350.out) (by decide)) hk (fun _ h => h.2)) (fun _ h => h.1)); have n2_ := Aside0.mk (hb); have n3_ := Aside0.mk (hi); clear BK347; clear HO350; clear HB; clear HI340; have BK347 := n0_; have HO350 := n1_; have HB := n2_; have HI340 := n3_; clear n0_ n1_ n2_ n3_; (try clear hb); (try clear hb2); (try clear hk); (try clear hi); have hcz17_0 : w16.cell? ⟨gb347, 0, none⟩ = some (.int .i64 t341) := (blk_cell BK347.out 0).trans rfl; have hcz17_1 : w16.cell? ⟨gb347, 1, none⟩ = some (.int .i64 t342) := (blk_cell BK347.out 1).trans rfl; have hcz17_2 : w16.cell? ⟨gb347, 2, none⟩ = some (.int .i64 t343) := (blk_cell BK347.out 2).trans rfl; have hcz17_3 : w16.cell? ⟨gb347, 3, none⟩ = some (.int .i64 t344) := (blk_cell BK347.out 3).trans rfl; have hcz17_4 : w16.cell? ⟨gb347, 4, none⟩ = some (.int .i64 t345) := (blk_cell BK347.out 4).trans rfl; have hfz17_0 := blk_frozen BK347.out 0; have hfz17_1 := blk_frozen BK347.out 1; have hfz17_2 := blk_frozen BK347.out 2; have hfz17_3 := blk_frozen BK347.out 3; have hfz17_4 := blk_frozen BK347.out 4))
  go_loopg [7] k (fun kq v7 w' => ∃ (x7_1 : Int) (x341001_1 : Int), v7 = .int .i64 x7_1 ∧ Aside0 (law37_HoistMade.l0 kq a1 x7_1 t338 x341001_1 t341 t342 t343 t351 t345 = some r) ∧ Aside0 (kq ≤ k) ∧ Aside0 (w'.heap[gb347]? = some (.cells #[.int .i64 t341, .int .i64 t342, .int .i64 t343, .int .i64 t351, .int .i64 t345] 45 (0, 0))) ∧ Aside0 (IsS59 w w' g340 t338 x341001_1) ∧ Aside0 (Below w.heap.size w w'))
  case atStart => exact ⟨(0), (t352), (by first | rfl | (simp; done) | (simp [*]; done)), H', ⟨Nat.le_refl _⟩, ⟨by (with_reducible repeat (first | refine blk_drewN ?_ _ | refine blk_drew ?_ | refine blk_alloc ?_ _)); refine blk_put (cs := #[.int .i64 t341, .int .i64 t342, .int .i64 t343, .int .i64 t344, .int .i64 t345]) ?_ 3 _ rfl; (with_reducible repeat (first | refine blk_drewN ?_ _ | refine blk_drew ?_ | refine blk_alloc ?_ _)); exact BK347.out⟩, ⟨by repeat (first | (with_reducible first | exact HI340.out | apply IsS59.alloc | apply IsS59.drewN | apply IsS59.drew | apply IsS59.set_1 | refine IsS59.far ?_ NB340_347.out _) | exact HI340.out)⟩, ⟨by repeat (first | (with_reducible first | exact HB.out | apply below_alloc | apply pw_below_drewN | apply below_drew1 | refine below_set ?_ (IsS59.ge HI340.out) | refine below_set ?_ GE347.out) | exact HB.out)⟩⟩
  case round =>
   clear H'; (try clear c1); (try clear c2); (try clear p2); (try clear c4); (try clear p6); (try clear c11); (try clear c14); (try clear c15); (try clear c16); (try clear hcz12_0); (try clear hcz12_1); (try clear hcz12_2); (try clear hcz12_3); (try clear hcz12_4); (try clear hcz17_0); (try clear hcz17_1); (try clear hcz17_2); (try clear hcz17_3); (try clear hcz17_4); (try clear hfz12_0); (try clear hfz12_1); (try clear hfz12_2); (try clear hfz12_3); (try clear hfz12_4); (try clear hfz17_0); (try clear hfz17_1); (try clear hfz17_2); (try clear hfz17_3); (try clear hfz17_4)
   obtain ⟨x7_1, x341001_1, rfl, HA, HK1, BK347, HI340, HB⟩ := hrel
   cases gk with
   | zero => exact absurd HA.out (by simp [law37_HoistMade.l0])
   | succ k1 =>
    have H := HA.out
    clear HA
    simp only [law37_HoistMade.l0] at H
    by_cases c18 : x7_1 < 4
    ·rw [if_pos c18] at H
     have c18b0 : decide (x7_1 < 4) = true := decide_eq_true c18
     clear c18
     replace H := Option.bind_eq_some_iff.mp H
     obtain ⟨t353, A190, H⟩ := H
     replace H : ((made_Dice_Of.f t338 x341001_1 (([0, 1, t341, t353, (-7), a1] : List Int))).bind fun bt357 => ((made_Mod.f a1 80001).bind fun t359 => ((hoist_Limit.f t341 t342 t343 t351 t345 bt357.1).bind fun t360 => ((ref37_Limit.f k1 t341 t342 t343 t351 t345 bt357.1).bind fun t361 => (if t360 = t361 then ((hoist_Stop.f t341 t342 t343 t351 t345 (wrap64 (t359 - 40000))).bind fun t362 => ((ref37_Stop.f t341 t342 t343 t351 t345 (wrap64 (t359 - 40000))).bind fun t363 => (law37_HoistMade.j1 k1 a1 x7_1 (wrap64 (t359 - 40000)) (t362 != t363) t338 bt357.2 t341 t342 t343 t351 t345))) else (law37_HoistMade.j1 k1 a1 x7_1 (wrap64 (t359 - 40000)) true t338 bt357.2 t341 t342 t343 t351 t345)))))) = some r := H
     have A19 := Aside0.mk A190
     clear A190
     obtain ⟨y354, hy354⟩ : ∃ y_ : List Int, y_ = (([0, 1, t341, t353, (-7), a1] : List Int)) := ⟨_, rfl⟩
     replace H : ((made_Dice_Of.f t338 x341001_1 y354).bind fun bt357 => ((made_Mod.f a1 80001).bind fun t359 => ((hoist_Limit.f t341 t342 t343 t351 t345 bt357.1).bind fun t360 => ((ref37_Limit.f k1 t341 t342 t343 t351 t345 bt357.1).bind fun t361 => (if t360 = t361 then ((hoist_Stop.f t341 t342 t343 t351 t345 (wrap64 (t359 - 40000))).bind fun t362 => ((ref37_Stop.f t341 t342 t343 t351 t345 (wrap64 (t359 - 40000))).bind fun t363 => (law37_HoistMade.j1 k1 a1 x7_1 (wrap64 (t359 - 40000)) (t362 != t363) t338 bt357.2 t341 t342 t343 t351 t345))) else (law37_HoistMade.j1 k1 a1 x7_1 (wrap64 (t359 - 40000)) true t338 bt357.2 t341 t342 t343 t351 t345)))))) = some r := by first | (rw [hy354]; with_reducible exact H) | (have H2_ := (Option.bind_some _ _).symm.trans H; rw [hy354]; with_reducible exact H2_) | (have H2_ := (Option.bind_some _ _).symm.trans H; with_reducible exact H2_) | with_reducible exact H | (rw [hy354]; exact H) | exact H
     have Ny354 := Aside0.mk hy354
     clear hy354
     replace H := Option.bind_eq_some_iff.mp H
     obtain ⟨⟨t357, t358⟩, A200, H⟩ := H
     replace H : ((made_Mod.f a1 80001).bind fun t359 => ((hoist_Limit.f t341 t342 t343 t351 t345 t357).bind fun t360 => ((ref37_Limit.f k1 t341 t342 t343 t351 t345 t357).bind fun t361 => (if t360 = t361 then ((hoist_Stop.f t341 t342 t343 t351 t345 (wrap64 (t359 - 40000))).bind fun t362 => ((ref37_Stop.f t341 t342 t343 t351 t345 (wrap64 (t359 - 40000))).bind fun t363 => (law37_HoistMade.j1 k1 a1 x7_1 (wrap64 (t359 - 40000)) (t362 != t363) t338 t358 t341 t342 t343 t351 t345))) else (law37_HoistMade.j1 k1 a1 x7_1 (wrap64 (t359 - 40000)) true t338 t358 t341 t342 t343 t351 t345))))) = some r := H
     have A20 := Aside0.mk A200
     clear A200
     replace H := Option.bind_eq_some_iff.mp H
     obtain ⟨t359, A210, H⟩ := H
     replace H : ((hoist_Limit.f t341 t342 t343 t351 t345 t357).bind fun t360 => ((ref37_Limit.f k1 t341 t342 t343 t351 t345 t357).bind fun t361 => (if t360 = t361 then ((hoist_Stop.f t341 t342 t343 t351 t345 (wrap64 (t359 - 40000))).bind fun t362 => ((ref37_Stop.f t341 t342 t343 t351 t345 (wrap64 (t359 - 40000))).bind fun t363 => (law37_HoistMade.j1 k1 a1 x7_1 (wrap64 (t359 - 40000)) (t362 != t363) t338 t358 t341 t342 t343 t351 t345))) else (law37_HoistMade.j1 k1 a1 x7_1 (wrap64 (t359 - 40000)) true t338 t358 t341 t342 t343 t351 t345)))) = some r := H
     have A21 := Aside0.mk A210
     clear A210
     have HC22 := Aside0.mk H
     clear H
     try go_wp2
     (try (rw [drewN_self wr]; generalize hq_ : World.drewN wr _ = wr; have n0_ : Aside0 (wr.heap[gb347]? = some (.cells #[.int .i64 t341, .int .i64 t342, .int .i64 t343, .int .i64 t351, .int .i64 t345] 45 (0, 0))) := ⟨by rw [← hq_]; exact (by (with_reducible repeat (first | refine blk_drewN ?_ _ | refine blk_drew ?_ | refine blk_alloc ?_ _)); exact BK347.out)⟩; have n1_ : Aside0 (IsS59 w wr g340 t338 x341001_1) := ⟨by rw [← hq_]; exact (by repeat (first | (with_reducible first | exact HI340.out | apply IsS59.alloc | apply IsS59.drewN | apply IsS59.drew | apply IsS59.set_1 | refine IsS59.far ?_ NB340_347.out _) | exact HI340.out))⟩; have n2_ : Aside0 (Below w.heap.size w wr) := ⟨by rw [← hq_]; exact (by repeat (first | (with_reducible first | exact HB.out | apply below_alloc | apply pw_below_drewN | apply below_drew1 | refine below_set ?_ (IsS59.ge HI340.out) | refine below_set ?_ GE347.out) | exact HB.out))⟩; clear BK347 HI340 HB hq_; have BK347 := n0_; have HI340 := n1_; have HB := n2_; clear n0_ n1_ n2_))
     have n0_ := Aside0.mk (blk_drew BK347.out)
     have n1_ := Aside0.mk (IsS59.drew HI340.out)
     have n2_ := Aside0.mk (below_drew1 HB.out)
     clear BK347; clear HI340; clear HB; have BK347 := n0_; have HI340 := n1_; have HB := n2_
     clear n0_ n1_ n2_
     refine start_ (n := 13) (S := fun w' => w'.cell? ⟨gb347, 0, none⟩ = some (.int .i64 t341) ∧ w'.cell? ⟨gb347, 1, none⟩ = some (.int .i64 t342) ∧ w'.cell? ⟨gb347, 2, none⟩ = some (.int .i64 t343) ∧ w'.cell? ⟨gb347, 3, none⟩ = some (.int .i64 t351) ∧ w'.cell? ⟨gb347, 4, none⟩ = some (.int .i64 t345)) (ds := []) D13m0 (by kernel_rfl) rfl rfl ⟨(blk_cell BK347.out 0).trans rfl, (blk_cell BK347.out 1).trans rfl, (blk_cell BK347.out 2).trans rfl, (blk_cell BK347.out 3).trans rfl, (blk_cell BK347.out 4).trans rfl⟩ (fun hHeld => ?_); refine with_tabW law37_HoistMade.tab9 law37_HoistMade.bits9 (fun HT_ HW_ => ?_)
     generalize wr.drew = w23 at BK347 HI340 HB hHeld ⊢
     refine pure_ (i := 0) (N := some 33) (v := ?_) (a' := ?_) D13m1 rfl rfl (any_of HT_.out (by kernel_rfl)) (fun _ _ _ h => h) (Or.inl ⟨by rfl, ?_⟩) ?_ ?_
     rotate_left; ·intro w'; go_simp; with_reducible rfl
     rotate_left; ·simp only [Act.put, sZ1, sZ2, sZ3, i64_w, i32_w]; rfl
     refine pure_ (i := 1) (N := some 34) (v := ?_) (a' := ?_) D13m3 rfl rfl (any_of HT_.out (by kernel_rfl)) (fun _ _ _ h => h) (Or.inl ⟨by rfl, ?_⟩) ?_ ?_
     rotate_left; ·intro w'; go_simp; with_reducible rfl
     rotate_left; ·simp only [Act.put, sZ1, sZ2, sZ3, i64_w, i32_w]; rfl
     refine pure_ (i := 3) (N := some 36) (v := ?_) (a' := ?_) D13mb rfl rfl (any_of HT_.out (by kernel_rfl)) (fun _ _ _ h => h) (Or.inl ⟨by rfl, ?_⟩) ?_ ?_
     rotate_left; ·intro w'; go_simp; with_reducible rfl
     rotate_left; ·simp only [Act.put, sZ1, sZ2, sZ3, i64_w, i32_w]; rfl
     refine pure_ (i := 5) (N := some 38) (v := ?_) (a' := ?_) D13m2b rfl rfl (any_of HT_.out (by kernel_rfl)) (fun _ _ _ h => h) (Or.inl ⟨by rfl, ?_⟩) ?_ ?_
     rotate_left; ·intro w'; go_simp; with_reducible rfl
     rotate_left; ·simp only [Act.put, sZ1, sZ2, sZ3, i64_w, i32_w]; rfl
     refine pure_ (i := 8) (N := some 41) (v := ?_) (a' := ?_) D13m12b rfl rfl (any_of HT_.out (by kernel_rfl)) (fun _ _ _ h => h) (Or.inl ⟨by rfl, ?_⟩) ?_ ?_
     rotate_left; ·intro w'; go_simp; with_reducible rfl
     rotate_left; ·simp only [Act.put, sZ1, sZ2, sZ3, i64_w, i32_w]; rfl
     refine take_ (i := 2) (N := some 35) (v := ?_) (a' := ?_) D13m12f rfl rfl (take_ofW HT_.out HW_.out (by kernel_rfl)) (fun _ _ _ h => h) (Or.inl ⟨by rfl, ?_⟩) hHeld ?_ ?_
     rotate_left; ·rintro w' ⟨s0, s1, s2, s3, s4⟩; go_simp; with_reducible rfl
     rotate_left; ·simp only [Act.put, sZ1, sZ2, sZ3, i64_w, i32_w]; rfl
     refine one_ (i := 4) (N := some 37) D13m13f rfl rfl (one_of HT_.out (by kernel_rfl)) (by decide) (fun K hK => ?_)
     refine goes_ Try.func27 (by kernel_rfl) rfl #[.int .i64 a1, .int .i64 5000000] (by rfl) rfl rfl (by (try simp only [List.map_toArray, List.map_cons, List.map_nil]); first | done | rfl | (simp only [List.length_drop, List.length_take]; rfl)) ?_
     with_reducible refine (made_Mod.calls a1 5000000 t353 _ A19.out).mono ?_
     rintro e w' ⟨rfl, ⟨nd, rfl⟩⟩
     refine ⟨_, rfl, ?_⟩
     refine hK.out _ _ ⟨(blk_cell BK347.out 0).trans rfl, (blk_cell BK347.out 1).trans rfl, (blk_cell BK347.out 2).trans rfl, (blk_cell BK347.out 3).trans rfl, (blk_cell BK347.out 4).trans rfl⟩ (fun hHeld => ?_)
     clear hK K
     refine norm_ (a' := ?_) ?_ ?_
     rotate_left
     ·show Act.put _ (some 37) _ = _
      simp only [Act.put, sZ1, sZ2, sZ3, i64_w, i32_w]
      rfl
     refine one_ (i := 6) (N := some 39) D13m17f rfl rfl (one_of HT_.out (by kernel_rfl)) (by decide) (fun K hK => ?_)
     refine Kd.R_lit_step (Kd.int .i64) _ 3 ?hg (N := 39) ?hd (xs := ([0, 1, t341, t353, (-7), a1] : List Int)) (inner := [.int .i64 0, .int .i64 1, .int .i64 t341, .int .i64 t353, .int .i64 (-7), .int .i64 a1]) (ok := fun _ => True) (okp := fun _ => True) ?hr ?hp (fun _ hk => hk) trivial (Below.refl _ _) (Nat.le_refl _) (by simp) ?_; (case hd => rfl); (case hg => first | rfl | exact wanted_on rfl rfl rfl (by assumption)); (case hr => first | (go_simp; done) | (go_simp; rfl)); (case hp => exact (Reps.one (show Kd.M (Kd.int .i64) _ _ _ 0 [.int .i64 0] from rfl) (Reps.one (show Kd.M (Kd.int .i64) _ _ _ 1 [.int .i64 1] from rfl) (Reps.one (show Kd.M (Kd.int .i64) _ _ _ t341 [.int .i64 t341] from rfl) (Reps.one (show Kd.M (Kd.int .i64) _ _ _ t353 [.int .i64 t353] from rfl) (Reps.one (show Kd.M (Kd.int .i64) _ _ _ (-7) [.int .i64 (-7)] from rfl) (Reps.one (show Kd.M (Kd.int .i64) _ _ _ a1 [.int .i64 a1] from rfl) (Reps.none _ _))))))))
     intro v355 w24 ho25 hb hg_ hnew_
     clear hg_ hnew_
     (first | rw [← Ny354.out] at ho25 | (simp only [Int.reduceToNat] at ho25; rw [← Ny354.out] at ho25))
     have n0_ := Aside0.mk (Kd.R_lower ho25 (below_size (by repeat (first | (with_reducible first | exact HB.out | apply below_alloc | apply pw_below_drewN | apply below_drew1 | refine below_set ?_ (IsS59.ge HI340.out) | refine below_set ?_ GE347.out) | exact HB.out))))
     have n1_ := Aside0.mk (blk_below (g := gb347) (o := .cells #[.int .i64 t341, .int .i64 t342, .int .i64 t343, .int .i64 t351, .int .i64 t345] 45 (0, 0)) (by (with_reducible repeat (first | refine blk_drewN ?_ _ | refine blk_drew ?_ | refine blk_alloc ?_ _)); exact BK347.out) hb)
     have n2_ := Aside0.mk (IsS59.below (by repeat (first | (with_reducible first | exact HI340.out | apply IsS59.alloc | apply IsS59.drewN | apply IsS59.drew | apply IsS59.set_1 | refine IsS59.far ?_ NB340_347.out _) | exact HI340.out)) hb)
     have n3_ := Aside0.mk (below_step (by repeat (first | (with_reducible first | exact HB.out | apply below_alloc | apply pw_below_drewN | apply below_drew1 | refine below_set ?_ (IsS59.ge HI340.out) | refine below_set ?_ GE347.out) | exact HB.out)) hb)
     clear BK347; clear HI340; clear HB; have HO356 := n0_; have BK347 := n1_; have HI340 := n2_; have HB := n3_
     clear n0_ n1_ n2_ n3_
     clear hb ho25
     obtain ⟨Ao26, co26, eo26⟩ := Kd.R_slice HO356.out
     (first | subst eo26 | (injection eo26 with f1_ f2_ f3_; have f4_ := f1_.symm; have f5_ := f3_.symm; clear f1_ f2_ f3_; subst f4_; subst f5_))
     refine hK.out _ _ ⟨(blk_cell BK347.out 0).trans rfl, (blk_cell BK347.out 1).trans rfl, (blk_cell BK347.out 2).trans rfl, (blk_cell BK347.out 3).trans rfl, (blk_cell BK347.out 4).trans rfl⟩ (fun hHeld => ?_)
     clear hK K
     refine norm_ (a' := ?_) ?_ ?_
     rotate_left
     ·show Act.put _ (some 39) _ = _
      simp only [Act.put, sZ1, sZ2, sZ3, i64_w, i32_w]
      rfl
     refine one_ (i := 7) (N := some 40) D13m1ff rfl rfl (one_of HT_.out (by kernel_rfl)) (by decide) (fun K hK => ?_)
     refine goes_ Try.func16 (by kernel_rfl) rfl #[.pointer (some ⟨g340, 0, none⟩), .slice Ao26 y354.length co26] (by rfl) rfl rfl (by (try simp only [List.map_toArray, List.map_cons, List.map_nil]); first | done | rfl | (simp only [List.length_drop, List.length_take]; rfl)) ?_
     with_reducible refine (made_Dice_Of.calls g340 t338 x341001_1 _ _ y354 t357 t358 w _ ?side1 ?side2 ?side3 ?side4 ?side5 A20.out).mono ?_
     (case side1 => repeat (first | (with_reducible first | exact HI340.out | apply IsS59.alloc | apply IsS59.drewN | apply IsS59.drew | apply IsS59.set_1 | refine IsS59.far ?_ NB340_347.out _) | exact HI340.out))
     (case side2 => repeat (first | (with_reducible first | exact HB.out | apply below_alloc | apply pw_below_drewN | apply below_drew1 | refine below_set ?_ (IsS59.ge HI340.out) | refine below_set ?_ GE347.out) | exact HB.out))
     (case side3 => repeat (first | exact (Kd.R_reads' HO356.out).2.2 | (with_reducible refine Kd.C_alloc ?_ _) | (with_reducible refine Kd.C_drewN ?_ _) | (with_reducible refine Kd.C_drew ?_)))
     (case side4 => exact (Kd.R_reads' HO356.out).2.1)
     (case side5 => exact far_slice (IsS59.own_ne HI340.out HO356.out (by decide)))
     rintro e w27 ⟨rfl, hi, hb, hk⟩
     refine ⟨_, rfl, ?_⟩
     have n0_ := Aside0.mk (KeepBut.blk hk (g' := gb347) (o := .cells #[.int .i64 t341, .int .i64 t342, .int .i64 t343, .int .i64 t351, .int .i64 t345] 45 (0, 0)) (by (with_reducible repeat (first | refine blk_drewN ?_ _ | refine blk_drew ?_ | refine blk_alloc ?_ _)); exact BK347.out) NB347_340.out (by simp))
     have n1_ := Aside0.mk (Kd.R_mono (Kd.R_keep (IsS59.apart (show IsS59 w _ g340 t338 x341001_1 from by repeat (first | (with_reducible first | exact HI340.out | apply IsS59.alloc | apply IsS59.drewN | apply IsS59.drew | apply IsS59.set_1 | refine IsS59.far ?_ NB340_347.out _) | exact HI340.out)) (by (with_reducible repeat (first | apply Kd.R_alloc | apply Kd.R_drewN | apply Kd.R_drew)); exact HO356.out) (by decide)) hk (fun _ h => h.2)) (fun _ h => h.1))
     have n2_ := Aside0.mk (hb)
     have n3_ := Aside0.mk (hi)
     clear BK347; clear HO356; clear HB; clear HI340; have BK347 := n0_; have HO356 := n1_; have HB := n2_; have HI340 := n3_
     clear n0_ n1_ n2_ n3_
     (try clear hb); (try clear hb2); (try clear hk); (try clear hi)
     refine hK.out _ _ ⟨(blk_cell BK347.out 0).trans rfl, (blk_cell BK347.out 1).trans rfl, (blk_cell BK347.out 2).trans rfl, (blk_cell BK347.out 3).trans rfl, (blk_cell BK347.out 4).trans rfl⟩ (fun hHeld => ?_)
     clear hK K
     refine norm_ (a' := ?_) ?_ ?_
     rotate_left
     ·show Act.put _ (some 40) _ = _
      simp only [Act.put, sZ1, sZ2, sZ3, i64_w, i32_w]
      rfl
     refine one_ (i := 9) (N := some 42) D13m3ff rfl rfl (one_of HT_.out (by kernel_rfl)) (by decide) (fun K hK => ?_)
     refine goes_ Try.func27 (by kernel_rfl) rfl #[.int .i64 a1, .int .i64 80001] (by rfl) rfl rfl (by (try simp only [List.map_toArray, List.map_cons, List.map_nil]); first | done | rfl | (simp only [List.length_drop, List.length_take]; rfl)) ?_
     with_reducible refine (made_Mod.calls a1 80001 t359 _ A21.out).mono ?_
     rintro e w' ⟨rfl, ⟨nd, rfl⟩⟩
     refine ⟨_, rfl, ?_⟩
     refine hK.out _ _ ⟨(blk_cell BK347.out 0).trans rfl, (blk_cell BK347.out 1).trans rfl, (blk_cell BK347.out 2).trans rfl, (blk_cell BK347.out 3).trans rfl, (blk_cell BK347.out 4).trans rfl⟩ (fun hHeld => ?_)
     clear hK K
     refine norm_ (a' := ?_) ?_ ?_
     rotate_left
     ·show Act.put _ (some 42) _ = _
      simp only [Act.put, sZ1, sZ2, sZ3, i64_w, i32_w]
      rfl
     refine pure_ (i := 10) (N := some 43) (v := ?_) (a' := ?_) D13m7ff rfl rfl (any_of HT_.out (by kernel_rfl)) (fun _ _ _ h => h) (Or.inl ⟨by rfl, ?_⟩) ?_ ?_
     rotate_left; ·intro w'; go_simp; with_reducible rfl
     rotate_left; ·simp only [Act.put, sZ1, sZ2, sZ3, i64_w, i32_w]; rfl
     refine pure_ (i := 11) (N := some 8) (v := ?_) (a' := ?_) D13mfff rfl rfl (any_of HT_.out (by kernel_rfl)) (fun _ _ _ h => h) (Or.inl ⟨by rfl, ?_⟩) ?_ ?_
     rotate_left; ·intro w'; go_simp; with_reducible rfl
     rotate_left; ·simp only [Act.put, sZ1, sZ2, sZ3, i64_w, i32_w]; rfl
     refine pure_ (i := 12) (N := some 9) (v := ?_) (a' := ?_) D13m1fff rfl rfl (any_of HT_.out (by kernel_rfl)) (fun _ _ _ h => h) (Or.inl ⟨by rfl, ?_⟩) ?_ ?_
     rotate_left; ·intro w'; go_simp; with_reducible rfl
     rotate_left; ·simp only [Act.put, sZ1, sZ2, sZ3, i64_w, i32_w]; rfl
     refine done_ (done_of HT_.out (by kernel_rfl)) ?_
     go_upto_region 10 with (fail)
     go_cut [59] (fun v59 wc => ∃ (kq : Nat) (x59_21 : Bool), v59 = .bool x59_21 ∧ Aside0 (law37_HoistMade.j1 kq a1 x7_1 (wrap64 (t359 - 40000)) x59_21 t338 t358 t341 t342 t343 t351 t345 = some r) ∧ Aside0 (kq ≤ k1) ∧ Aside0 (wc.heap[gb347]? = some (.cells #[.int .i64 t341, .int .i64 t342, .int .i64 t343, .int .i64 t351, .int .i64 t345] 45 (0, 0))) ∧ Aside0 (IsS59 w wc g340 t338 t358) ∧ Aside0 (Below w.heap.size w wc))
     case first =>
      have H := HC22.out
      clear HC22
      replace H := Option.bind_eq_some_iff.mp H
      obtain ⟨t360, A280, H⟩ := H
      replace H : ((ref37_Limit.f k1 t341 t342 t343 t351 t345 t357).bind fun t361 => (if t360 = t361 then ((hoist_Stop.f t341 t342 t343 t351 t345 (wrap64 (t359 - 40000))).bind fun t362 => ((ref37_Stop.f t341 t342 t343 t351 t345 (wrap64 (t359 - 40000))).bind fun t363 => (law37_HoistMade.j1 k1 a1 x7_1 (wrap64 (t359 - 40000)) (t362 != t363) t338 t358 t341 t342 t343 t351 t345))) else (law37_HoistMade.j1 k1 a1 x7_1 (wrap64 (t359 - 40000)) true t338 t358 t341 t342 t343 t351 t345))) = some r := H
      have A28 := Aside0.mk A280
      clear A280
      replace H := Option.bind_eq_some_iff.mp H
      obtain ⟨t361, A290, H⟩ := H
      replace H : (if t360 = t361 then ((hoist_Stop.f t341 t342 t343 t351 t345 (wrap64 (t359 - 40000))).bind fun t362 => ((ref37_Stop.f t341 t342 t343 t351 t345 (wrap64 (t359 - 40000))).bind fun t363 => (law37_HoistMade.j1 k1 a1 x7_1 (wrap64 (t359 - 40000)) (t362 != t363) t338 t358 t341 t342 t343 t351 t345))) else (law37_HoistMade.j1 k1 a1 x7_1 (wrap64 (t359 - 40000)) true t338 t358 t341 t342 t343 t351 t345)) = some r := H
      have A29 := Aside0.mk A290
      clear A290
      by_cases c30 : t360 = t361
      ·rw [if_pos c30] at H
       have c30b0 : (t360 == t361) = true := beq_iff_eq.mpr c30
       have c30b1 : (t360 != t361) = false := bne_eq_false_iff_eq.mpr c30
       clear c30
       (first | rw [c30b0] | (simp only [i64_w, i32_w]; rw [c30b0]) | skip)
       replace H := Option.bind_eq_some_iff.mp H
       obtain ⟨t362, A310, H⟩ := H
       replace H : ((ref37_Stop.f t341 t342 t343 t351 t345 (wrap64 (t359 - 40000))).bind fun t363 => (law37_HoistMade.j1 k1 a1 x7_1 (wrap64 (t359 - 40000)) (t362 != t363) t338 t358 t341 t342 t343 t351 t345)) = some r := H
       have A31 := Aside0.mk A310
       clear A310
       replace H := Option.bind_eq_some_iff.mp H
       obtain ⟨t363, A320, H⟩ := H
       replace H : (law37_HoistMade.j1 k1 a1 x7_1 (wrap64 (t359 - 40000)) (t362 != t363) t338 t358 t341 t342 t343 t351 t345) = some r := H
       have A32 := Aside0.mk A320
       clear A320
       have H' := Aside0.mk H
       clear H
       try go_wp2
       (try (rw [drewN_self w27]; generalize hq_ : World.drewN w27 _ = w27; have n0_ : Aside0 (Kd.R (Kd.int .i64) 3 w27 w.heap.size (fun _ => True) (.slice Ao26 y354.length co26) y354) := ⟨by rw [← hq_]; exact (by (with_reducible repeat (first | apply Kd.R_alloc | apply Kd.R_drewN | apply Kd.R_drew)); exact HO356.out)⟩; have n1_ : Aside0 (w27.heap[gb347]? = some (.cells #[.int .i64 t341, .int .i64 t342, .int .i64 t343, .int .i64 t351, .int .i64 t345] 45 (0, 0))) := ⟨by rw [← hq_]; exact (by (with_reducible repeat (first | refine blk_drewN ?_ _ | refine blk_drew ?_ | refine blk_alloc ?_ _)); exact BK347.out)⟩; have n2_ : Aside0 (IsS59 w w27 g340 t338 t358) := ⟨by rw [← hq_]; exact (by repeat (first | (with_reducible first | exact HI340.out | apply IsS59.alloc | apply IsS59.drewN | apply IsS59.drew | apply IsS59.set_1 | refine IsS59.far ?_ NB340_347.out _) | exact HI340.out))⟩; have n3_ : Aside0 (Below w.heap.size w w27) := ⟨by rw [← hq_]; exact (by repeat (first | (with_reducible first | exact HB.out | apply below_alloc | apply pw_below_drewN | apply below_drew1 | refine below_set ?_ (IsS59.ge HI340.out) | refine below_set ?_ GE347.out) | exact HB.out))⟩; clear HO356 BK347 HI340 HB hq_; have HO356 := n0_; have BK347 := n1_; have HI340 := n2_; have HB := n3_; clear n0_ n1_ n2_ n3_))
       have n0_ := Aside0.mk (Kd.R_drew HO356.out)
       have n1_ := Aside0.mk (blk_drew BK347.out)
       have n2_ := Aside0.mk (IsS59.drew HI340.out)
       have n3_ := Aside0.mk (below_drew1 HB.out)
       clear HO356; clear BK347; clear HI340; clear HB; have HO356 := n0_; have BK347 := n1_; have HI340 := n2_; have HB := n3_
       clear n0_ n1_ n2_ n3_
       refine start_ (n := 16) (S := fun w' => w'.cell? ⟨gb347, 0, none⟩ = some (.int .i64 t341) ∧ w'.cell? ⟨gb347, 1, none⟩ = some (.int .i64 t342) ∧ w'.cell? ⟨gb347, 2, none⟩ = some (.int .i64 t343) ∧ w'.cell? ⟨gb347, 3, none⟩ = some (.int .i64 t351) ∧ w'.cell? ⟨gb347, 4, none⟩ = some (.int .i64 t345)) (ds := []) D16m0 (by kernel_rfl) rfl rfl ⟨(blk_cell BK347.out 0).trans rfl, (blk_cell BK347.out 1).trans rfl, (blk_cell BK347.out 2).trans rfl, (blk_cell BK347.out 3).trans rfl, (blk_cell BK347.out 4).trans rfl⟩ (fun hHeld => ?_); refine with_tabW law37_HoistMade.tab10 law37_HoistMade.bits10 (fun HT_ HW_ => ?_)
       generalize w27.drew = w33 at HO356 BK347 HI340 HB hHeld ⊢
       refine pure_ (i := 1) (N := some 45) (v := ?_) (a' := ?_) D16m2 rfl rfl (any_of HT_.out (by kernel_rfl)) (fun _ _ _ h => h) (Or.inl ⟨by rfl, ?_⟩) ?_ ?_
       rotate_left; ·intro w'; go_simp; with_reducible rfl
       rotate_left; ·simp only [Act.put, sZ1, sZ2, sZ3, i64_w, i32_w]; rfl
       refine pure_ (i := 4) (N := some 48) (v := ?_) (a' := ?_) D16m12 rfl rfl (any_of HT_.out (by kernel_rfl)) (fun _ _ _ h => h) (Or.inl ⟨by rfl, ?_⟩) ?_ ?_
       rotate_left; ·intro w'; go_simp; with_reducible rfl
       rotate_left; ·simp only [Act.put, sZ1, sZ2, sZ3, i64_w, i32_w]; rfl
       refine take_ (i := 0) (N := some 44) (v := ?_) (a' := ?_) D16m13 rfl rfl (take_ofW HT_.out HW_.out (by kernel_rfl)) (fun _ _ _ h => h) (Or.inl ⟨by rfl, ?_⟩) hHeld ?_ ?_
       rotate_left; ·rintro w' ⟨s0, s1, s2, s3, s4⟩; go_simp; with_reducible rfl
       rotate_left; ·simp only [Act.put, sZ1, sZ2, sZ3, i64_w, i32_w]; rfl
       refine take_ (i := 3) (N := some 47) (v := ?_) (a' := ?_) D16m1b rfl rfl (take_ofW HT_.out HW_.out (by kernel_rfl)) (fun _ _ _ h => h) (Or.inl ⟨by rfl, ?_⟩) hHeld ?_ ?_
       rotate_left; ·rintro w' ⟨s0, s1, s2, s3, s4⟩; go_simp; with_reducible rfl
       rotate_left; ·simp only [Act.put, sZ1, sZ2, sZ3, i64_w, i32_w]; rfl
       refine one_ (i := 2) (N := some 46) D16m1f rfl rfl (one_of HT_.out (by kernel_rfl)) (by decide) (fun K hK => ?_)
       refine goes_ Try.func28 (by kernel_rfl) rfl #[.agg #[.int .i64 t341, .int .i64 t342, .int .i64 t343, .int .i64 t351, .int .i64 t345], .int .i64 t357] (by rfl) rfl rfl (by (try simp only [List.map_toArray, List.map_cons, List.map_nil]); first | done | rfl | (simp only [List.length_drop, List.length_take]; rfl)) ?_
       with_reducible refine (hoist_Limit.calls t341 t342 t343 t351 t345 t357 t360 _ A28.out).mono ?_
       rintro e w34 ⟨rfl, hb⟩
       refine ⟨_, rfl, ?_⟩
       have n0_ := Aside0.mk (Kd.R_below (by (with_reducible repeat (first | apply Kd.R_alloc | apply Kd.R_drewN | apply Kd.R_drew)); exact HO356.out) hb)
       have n1_ := Aside0.mk (blk_below (g := gb347) (o := .cells #[.int .i64 t341, .int .i64 t342, .int .i64 t343, .int .i64 t351, .int .i64 t345] 45 (0, 0)) (by (with_reducible repeat (first | refine blk_drewN ?_ _ | refine blk_drew ?_ | refine blk_alloc ?_ _)); exact BK347.out) hb)
       have n2_ := Aside0.mk (IsS59.below (by repeat (first | (with_reducible first | exact HI340.out | apply IsS59.alloc | apply IsS59.drewN | apply IsS59.drew | apply IsS59.set_1 | refine IsS59.far ?_ NB340_347.out _) | exact HI340.out)) hb)
       have n3_ := Aside0.mk (below_step (by repeat (first | (with_reducible first | exact HB.out | apply below_alloc | apply pw_below_drewN | apply below_drew1 | refine below_set ?_ (IsS59.ge HI340.out) | refine below_set ?_ GE347.out) | exact HB.out)) hb)
       clear HO356; clear BK347; clear HI340; clear HB; have HO356 := n0_; have BK347 := n1_; have HI340 := n2_; have HB := n3_
       clear n0_ n1_ n2_ n3_
       (try clear hb); (try clear hb2); (try clear hk); (try clear hi)
       refine hK.out _ _ ⟨(blk_cell BK347.out 0).trans rfl, (blk_cell BK347.out 1).trans rfl, (blk_cell BK347.out 2).trans rfl, (blk_cell BK347.out 3).trans rfl, (blk_cell BK347.out 4).trans rfl⟩ (fun hHeld => ?_)
       clear hK K
       refine norm_ (a' := ?_) ?_ ?_
       rotate_left
       ·show Act.put _ (some 46) _ = _
        simp only [Act.put, sZ1, sZ2, sZ3, i64_w, i32_w]
        rfl
       refine one_ (i := 5) (N := some 49) D16m3f rfl rfl (one_of HT_.out (by kernel_rfl)) (by decide) (fun K hK => ?_)
       refine goes_ Try.func33 (by kernel_rfl) rfl #[.agg #[.int .i64 t341, .int .i64 t342, .int .i64 t343, .int .i64 t351, .int .i64 t345], .int .i64 t357] (by rfl) rfl rfl (by (try simp only [List.map_toArray, List.map_cons, List.map_nil]); first | done | rfl | (simp only [List.length_drop, List.length_take]; rfl)) ?_
       with_reducible refine (ref37_Limit.calls k1 t341 t342 t343 t351 t345 t357 t361 _ A29.out).mono ?_
       rintro e w35 ⟨rfl, hb⟩
       refine ⟨_, rfl, ?_⟩
       have n0_ := Aside0.mk (Kd.R_below (by (with_reducible repeat (first | apply Kd.R_alloc | apply Kd.R_drewN | apply Kd.R_drew)); exact HO356.out) hb)
       have n1_ := Aside0.mk (blk_below (g := gb347) (o := .cells #[.int .i64 t341, .int .i64 t342, .int .i64 t343, .int .i64 t351, .int .i64 t345] 45 (0, 0)) (by (with_reducible repeat (first | refine blk_drewN ?_ _ | refine blk_drew ?_ | refine blk_alloc ?_ _)); exact BK347.out) hb)
       have n2_ := Aside0.mk (IsS59.below (by repeat (first | (with_reducible first | exact HI340.out | apply IsS59.alloc | apply IsS59.drewN | apply IsS59.drew | apply IsS59.set_1 | refine IsS59.far ?_ NB340_347.out _) | exact HI340.out)) hb)
       have n3_ := Aside0.mk (below_step (by repeat (first | (with_reducible first | exact HB.out | apply below_alloc | apply pw_below_drewN | apply below_drew1 | refine below_set ?_ (IsS59.ge HI340.out) | refine below_set ?_ GE347.out) | exact HB.out)) hb)
       clear HO356; clear BK347; clear HI340; clear HB; have HO356 := n0_; have BK347 := n1_; have HI340 := n2_; have HB := n3_
       clear n0_ n1_ n2_ n3_
       (try clear hb); (try clear hb2); (try clear hk); (try clear hi)
       refine hK.out _ _ ⟨(blk_cell BK347.out 0).trans rfl, (blk_cell BK347.out 1).trans rfl, (blk_cell BK347.out 2).trans rfl, (blk_cell BK347.out 3).trans rfl, (blk_cell BK347.out 4).trans rfl⟩ (fun hHeld => ?_)
       clear hK K
       refine norm_ (a' := ?_) ?_ ?_
       rotate_left
       ·show Act.put _ (some 49) _ = _
        simp only [Act.put, sZ1, sZ2, sZ3, i64_w, i32_w]
        rfl
       refine pure_ (i := 6) (N := some 50) (v := ?_) (a' := ?_) D16m7f rfl rfl (any_of HT_.out (by kernel_rfl)) (fun _ _ _ h => h) (Or.inl ⟨by rfl, ?_⟩) ?_ ?_
       rotate_left; ·intro w'; go_simp; with_reducible rfl
       rotate_left; ·simp only [Act.put, sZ1, sZ2, sZ3, i64_w, i32_w]; rfl
       refine pure_ (i := 7) (N := some 51) (v := ?_) (a' := ?_) D16mff rfl rfl (any_of HT_.out (by kernel_rfl)) (fun _ _ _ h => h) (Or.inl ⟨by rfl, ?_⟩) ?_ ?_
       rotate_left; ·intro w'; go_simp; with_reducible rfl
       rotate_left; ·simp only [Act.put, sZ1, sZ2, sZ3, i64_w, i32_w]; rfl
       refine pure_ (i := 9) (N := some 53) (v := ?_) (a' := ?_) D16m2ff rfl rfl (any_of HT_.out (by kernel_rfl)) (fun _ _ _ h => h) (Or.inl ⟨by rfl, ?_⟩) ?_ ?_
       rotate_left; ·intro w'; go_simp; with_reducible rfl
       rotate_left; ·simp only [Act.put, sZ1, sZ2, sZ3, i64_w, i32_w]; rfl
       refine pure_ (i := 12) (N := some 56) (v := ?_) (a' := ?_) D16m12ff rfl rfl (any_of HT_.out (by kernel_rfl)) (fun _ _ _ h => h) (Or.inl ⟨by rfl, ?_⟩) ?_ ?_
       rotate_left; ·intro w'; go_simp; with_reducible rfl
       rotate_left; ·simp only [Act.put, sZ1, sZ2, sZ3, i64_w, i32_w]; rfl
       refine take_ (i := 8) (N := some 52) (v := ?_) (a' := ?_) D16m13ff rfl rfl (take_ofW HT_.out HW_.out (by kernel_rfl)) (fun _ _ _ h => h) (Or.inl ⟨by rfl, ?_⟩) hHeld ?_ ?_
       rotate_left; ·rintro w' ⟨s0, s1, s2, s3, s4⟩; go_simp; with_reducible rfl
       rotate_left; ·simp only [Act.put, sZ1, sZ2, sZ3, i64_w, i32_w]; rfl
       refine take_ (i := 11) (N := some 55) (v := ?_) (a' := ?_) D16m1bff rfl rfl (take_ofW HT_.out HW_.out (by kernel_rfl)) (fun _ _ _ h => h) (Or.inl ⟨by rfl, ?_⟩) hHeld ?_ ?_
       rotate_left; ·rintro w' ⟨s0, s1, s2, s3, s4⟩; go_simp; with_reducible rfl
       rotate_left; ·simp only [Act.put, sZ1, sZ2, sZ3, i64_w, i32_w]; rfl
       refine one_ (i := 10) (N := some 54) D16m1fff rfl rfl (one_of HT_.out (by kernel_rfl)) (by decide) (fun K hK => ?_)
       refine goes_ Try.func29 (by kernel_rfl) rfl #[.agg #[.int .i64 t341, .int .i64 t342, .int .i64 t343, .int .i64 t351, .int .i64 t345], .int .i64 (wrap64 (t359 - 40000))] (by rfl) rfl rfl (by (try simp only [List.map_toArray, List.map_cons, List.map_nil]); first | done | rfl | (simp only [List.length_drop, List.length_take]; rfl)) ?_
       with_reducible refine (hoist_Stop.calls t341 t342 t343 t351 t345 (wrap64 (t359 - 40000)) t362 _ A31.out).mono ?_
       rintro e w36 ⟨rfl, hb⟩
       refine ⟨_, rfl, ?_⟩
       have n0_ := Aside0.mk (Kd.R_below (by (with_reducible repeat (first | apply Kd.R_alloc | apply Kd.R_drewN | apply Kd.R_drew)); exact HO356.out) hb)
       have n1_ := Aside0.mk (blk_below (g := gb347) (o := .cells #[.int .i64 t341, .int .i64 t342, .int .i64 t343, .int .i64 t351, .int .i64 t345] 45 (0, 0)) (by (with_reducible repeat (first | refine blk_drewN ?_ _ | refine blk_drew ?_ | refine blk_alloc ?_ _)); exact BK347.out) hb)
       have n2_ := Aside0.mk (IsS59.below (by repeat (first | (with_reducible first | exact HI340.out | apply IsS59.alloc | apply IsS59.drewN | apply IsS59.drew | apply IsS59.set_1 | refine IsS59.far ?_ NB340_347.out _) | exact HI340.out)) hb)
       have n3_ := Aside0.mk (below_step (by repeat (first | (with_reducible first | exact HB.out | apply below_alloc | apply pw_below_drewN | apply below_drew1 | refine below_set ?_ (IsS59.ge HI340.out) | refine below_set ?_ GE347.out) | exact HB.out)) hb)
       clear HO356; clear BK347; clear HI340; clear HB; have HO356 := n0_; have BK347 := n1_; have HI340 := n2_; have HB := n3_
       clear n0_ n1_ n2_ n3_
       (try clear hb); (try clear hb2); (try clear hk); (try clear hi)
       refine hK.out _ _ ⟨(blk_cell BK347.out 0).trans rfl, (blk_cell BK347.out 1).trans rfl, (blk_cell BK347.out 2).trans rfl, (blk_cell BK347.out 3).trans rfl, (blk_cell BK347.out 4).trans rfl⟩ (fun hHeld => ?_)
       clear hK K
       refine norm_ (a' := ?_) ?_ ?_
       rotate_left
       ·show Act.put _ (some 54) _ = _
        simp only [Act.put, sZ1, sZ2, sZ3, i64_w, i32_w]
        rfl
       refine one_ (i := 13) (N := some 57) D16m3fff rfl rfl (one_of HT_.out (by kernel_rfl)) (by decide) (fun K hK => ?_)
       refine goes_ Try.func34 (by kernel_rfl) rfl #[.agg #[.int .i64 t341, .int .i64 t342, .int .i64 t343, .int .i64 t351, .int .i64 t345], .int .i64 (wrap64 (t359 - 40000))] (by rfl) rfl rfl (by (try simp only [List.map_toArray, List.map_cons, List.map_nil]); first | done | rfl | (simp only [List.length_drop, List.length_take]; rfl)) ?_
       with_reducible refine (ref37_Stop.calls t341 t342 t343 t351 t345 (wrap64 (t359 - 40000)) t363 _ A32.out).mono ?_
       rintro e w37 ⟨rfl, hb⟩
       refine ⟨_, rfl, ?_⟩
       have n0_ := Aside0.mk (Kd.R_below (by (with_reducible repeat (first | apply Kd.R_alloc | apply Kd.R_drewN | apply Kd.R_drew)); exact HO356.out) hb)
       have n1_ := Aside0.mk (blk_below (g := gb347) (o := .cells #[.int .i64 t341, .int .i64 t342, .int .i64 t343, .int .i64 t351, .int .i64 t345] 45 (0, 0)) (by (with_reducible repeat (first | refine blk_drewN ?_ _ | refine blk_drew ?_ | refine blk_alloc ?_ _)); exact BK347.out) hb)
       have n2_ := Aside0.mk (IsS59.below (by repeat (first | (with_reducible first | exact HI340.out | apply IsS59.alloc | apply IsS59.drewN | apply IsS59.drew | apply IsS59.set_1 | refine IsS59.far ?_ NB340_347.out _) | exact HI340.out)) hb)
       have n3_ := Aside0.mk (below_step (by repeat (first | (with_reducible first | exact HB.out | apply below_alloc | apply pw_below_drewN | apply below_drew1 | refine below_set ?_ (IsS59.ge HI340.out) | refine below_set ?_ GE347.out) | exact HB.out)) hb)
       clear HO356; clear BK347; clear HI340; clear HB; have HO356 := n0_; have BK347 := n1_; have HI340 := n2_; have HB := n3_
       clear n0_ n1_ n2_ n3_
       (try clear hb); (try clear hb2); (try clear hk); (try clear hi)
       refine hK.out _ _ ⟨(blk_cell BK347.out 0).trans rfl, (blk_cell BK347.out 1).trans rfl, (blk_cell BK347.out 2).trans rfl, (blk_cell BK347.out 3).trans rfl, (blk_cell BK347.out 4).trans rfl⟩ (fun hHeld => ?_)
       clear hK K
       refine norm_ (a' := ?_) ?_ ?_
       rotate_left
       ·show Act.put _ (some 57) _ = _
        simp only [Act.put, sZ1, sZ2, sZ3, i64_w, i32_w]
        rfl
       refine pure_ (i := 14) (N := some 58) (v := ?_) (a' := ?_) D16m7fff rfl rfl (any_of HT_.out (by kernel_rfl)) (fun _ _ _ h => h) (Or.inl ⟨by rfl, ?_⟩) ?_ ?_
       rotate_left; ·intro w'; go_simp; with_reducible rfl
       rotate_left; ·simp only [Act.put, sZ1, sZ2, sZ3, i64_w, i32_w]; rfl
       refine pure_ (i := 15) (N := some 59) (v := ?_) (a' := ?_) D16mffff rfl rfl (any_of HT_.out (by kernel_rfl)) (fun _ _ _ h => h) (Or.inl ⟨by rfl, ?_⟩) ?_ ?_
       rotate_left; ·intro w'; go_simp; with_reducible rfl
       rotate_left; ·simp only [Act.put, sZ1, sZ2, sZ3, i64_w, i32_w]; rfl
       refine done_ (done_of HT_.out (by kernel_rfl)) ?_
       try go_wp2
       go_meet
       case rel => exact ⟨_, ((t362 != t363)), (by first | rfl | (simp; done) | (simp [*]; done)), H', ⟨by have := HK1.out; first | omega | exact Nat.le_refl _⟩, ⟨by (with_reducible repeat (first | refine blk_drewN ?_ _ | refine blk_drew ?_ | refine blk_alloc ?_ _)); exact BK347.out⟩, ⟨by repeat (first | (with_reducible first | exact HI340.out | apply IsS59.alloc | apply IsS59.drewN | apply IsS59.drew | apply IsS59.set_1 | refine IsS59.far ?_ NB340_347.out _) | exact HI340.out)⟩, ⟨by repeat (first | (with_reducible first | exact HB.out | apply below_alloc | apply pw_below_drewN | apply below_drew1 | refine below_set ?_ (IsS59.ge HI340.out) | refine below_set ?_ GE347.out) | exact HB.out)⟩⟩
      ·rw [if_neg c30] at H
       have c30b0 : (t360 == t361) = false := beq_eq_false_iff_ne.mpr c30
       have c30b1 : (t360 != t361) = true := bne_iff_ne.mpr c30
       (first | rw [c30b0] | (simp only [i64_w, i32_w]; rw [c30b0]) | skip)
       have H' := Aside0.mk H
       clear H
       try go_wp2
       (try (rw [drewN_self w27]; generalize hq_ : World.drewN w27 _ = w27; have n0_ : Aside0 (Kd.R (Kd.int .i64) 3 w27 w.heap.size (fun _ => True) (.slice Ao26 y354.length co26) y354) := ⟨by rw [← hq_]; exact (by (with_reducible repeat (first | apply Kd.R_alloc | apply Kd.R_drewN | apply Kd.R_drew)); exact HO356.out)⟩; have n1_ : Aside0 (w27.heap[gb347]? = some (.cells #[.int .i64 t341, .int .i64 t342, .int .i64 t343, .int .i64 t351, .int .i64 t345] 45 (0, 0))) := ⟨by rw [← hq_]; exact (by (with_reducible repeat (first | refine blk_drewN ?_ _ | refine blk_drew ?_ | refine blk_alloc ?_ _)); exact BK347.out)⟩; have n2_ : Aside0 (IsS59 w w27 g340 t338 t358) := ⟨by rw [← hq_]; exact (by repeat (first | (with_reducible first | exact HI340.out | apply IsS59.alloc | apply IsS59.drewN | apply IsS59.drew | apply IsS59.set_1 | refine IsS59.far ?_ NB340_347.out _) | exact HI340.out))⟩; have n3_ : Aside0 (Below w.heap.size w w27) := ⟨by rw [← hq_]; exact (by repeat (first | (with_reducible first | exact HB.out | apply below_alloc | apply pw_below_drewN | apply below_drew1 | refine below_set ?_ (IsS59.ge HI340.out) | refine below_set ?_ GE347.out) | exact HB.out))⟩; clear HO356 BK347 HI340 HB hq_; have HO356 := n0_; have BK347 := n1_; have HI340 := n2_; have HB := n3_; clear n0_ n1_ n2_ n3_))
       have n0_ := Aside0.mk (Kd.R_drew HO356.out)
       have n1_ := Aside0.mk (blk_drew BK347.out)
       have n2_ := Aside0.mk (IsS59.drew HI340.out)
       have n3_ := Aside0.mk (below_drew1 HB.out)
       clear HO356; clear BK347; clear HI340; clear HB; have HO356 := n0_; have BK347 := n1_; have HI340 := n2_; have HB := n3_
       clear n0_ n1_ n2_ n3_
       refine start_ (n := 16) (S := fun w' => w'.cell? ⟨gb347, 0, none⟩ = some (.int .i64 t341) ∧ w'.cell? ⟨gb347, 1, none⟩ = some (.int .i64 t342) ∧ w'.cell? ⟨gb347, 2, none⟩ = some (.int .i64 t343) ∧ w'.cell? ⟨gb347, 3, none⟩ = some (.int .i64 t351) ∧ w'.cell? ⟨gb347, 4, none⟩ = some (.int .i64 t345)) (ds := []) D16m0 (by kernel_rfl) rfl rfl ⟨(blk_cell BK347.out 0).trans rfl, (blk_cell BK347.out 1).trans rfl, (blk_cell BK347.out 2).trans rfl, (blk_cell BK347.out 3).trans rfl, (blk_cell BK347.out 4).trans rfl⟩ (fun hHeld => ?_); refine with_tabW law37_HoistMade.tab10 law37_HoistMade.bits10 (fun HT_ HW_ => ?_)
       generalize w27.drew = w38 at HO356 BK347 HI340 HB hHeld ⊢
       refine pure_ (i := 1) (N := some 45) (v := ?_) (a' := ?_) D16m2 rfl rfl (any_of HT_.out (by kernel_rfl)) (fun _ _ _ h => h) (Or.inl ⟨by rfl, ?_⟩) ?_ ?_
       rotate_left; ·intro w'; go_simp; with_reducible rfl
       rotate_left; ·simp only [Act.put, sZ1, sZ2, sZ3, i64_w, i32_w]; rfl
       refine pure_ (i := 4) (N := some 48) (v := ?_) (a' := ?_) D16m12 rfl rfl (any_of HT_.out (by kernel_rfl)) (fun _ _ _ h => h) (Or.inl ⟨by rfl, ?_⟩) ?_ ?_
       rotate_left; ·intro w'; go_simp; with_reducible rfl
       rotate_left; ·simp only [Act.put, sZ1, sZ2, sZ3, i64_w, i32_w]; rfl
       refine take_ (i := 0) (N := some 44) (v := ?_) (a' := ?_) D16m13 rfl rfl (take_ofW HT_.out HW_.out (by kernel_rfl)) (fun _ _ _ h => h) (Or.inl ⟨by rfl, ?_⟩) hHeld ?_ ?_
       rotate_left; ·rintro w' ⟨s0, s1, s2, s3, s4⟩; go_simp; with_reducible rfl
       rotate_left; ·simp only [Act.put, sZ1, sZ2, sZ3, i64_w, i32_w]; rfl
       refine take_ (i := 3) (N := some 47) (v := ?_) (a' := ?_) D16m1b rfl rfl (take_ofW HT_.out HW_.out (by kernel_rfl)) (fun _ _ _ h => h) (Or.inl ⟨by rfl, ?_⟩) hHeld ?_ ?_
       rotate_left; ·rintro w' ⟨s0, s1, s2, s3, s4⟩; go_simp; with_reducible rfl
       rotate_left; ·simp only [Act.put, sZ1, sZ2, sZ3, i64_w, i32_w]; rfl
       refine one_ (i := 2) (N := some 46) D16m1f rfl rfl (one_of HT_.out (by kernel_rfl)) (by decide) (fun K hK => ?_)
       refine goes_ Try.func28 (by kernel_rfl) rfl #[.agg #[.int .i64 t341, .int .i64 t342, .int .i64 t343, .int .i64 t351, .int .i64 t345], .int .i64 t357] (by rfl) rfl rfl (by (try simp only [List.map_toArray, List.map_cons, List.map_nil]); first | done | rfl | (simp only [List.length_drop, List.length_take]; rfl)) ?_
       with_reducible refine (hoist_Limit.calls t341 t342 t343 t351 t345 t357 t360 _ A28.out).mono ?_
       rintro e w39 ⟨rfl, hb⟩
       refine ⟨_, rfl, ?_⟩
       have n0_ := Aside0.mk (Kd.R_below (by (with_reducible repeat (first | apply Kd.R_alloc | apply Kd.R_drewN | apply Kd.R_drew)); exact HO356.out) hb)
       have n1_ := Aside0.mk (blk_below (g := gb347) (o := .cells #[.int .i64 t341, .int .i64 t342, .int .i64 t343, .int .i64 t351, .int .i64 t345] 45 (0, 0)) (by (with_reducible repeat (first | refine blk_drewN ?_ _ | refine blk_drew ?_ | refine blk_alloc ?_ _)); exact BK347.out) hb)
       have n2_ := Aside0.mk (IsS59.below (by repeat (first | (with_reducible first | exact HI340.out | apply IsS59.alloc | apply IsS59.drewN | apply IsS59.drew | apply IsS59.set_1 | refine IsS59.far ?_ NB340_347.out _) | exact HI340.out)) hb)
       have n3_ := Aside0.mk (below_step (by repeat (first | (with_reducible first | exact HB.out | apply below_alloc | apply pw_below_drewN | apply below_drew1 | refine below_set ?_ (IsS59.ge HI340.out) | refine below_set ?_ GE347.out) | exact HB.out)) hb)
       clear HO356; clear BK347; clear HI340; clear HB; have HO356 := n0_; have BK347 := n1_; have HI340 := n2_; have HB := n3_
       clear n0_ n1_ n2_ n3_
       (try clear hb); (try clear hb2); (try clear hk); (try clear hi)
       refine hK.out _ _ ⟨(blk_cell BK347.out 0).trans rfl, (blk_cell BK347.out 1).trans rfl, (blk_cell BK347.out 2).trans rfl, (blk_cell BK347.out 3).trans rfl, (blk_cell BK347.out 4).trans rfl⟩ (fun hHeld => ?_)
       clear hK K
       refine norm_ (a' := ?_) ?_ ?_
       rotate_left
       ·show Act.put _ (some 46) _ = _
        simp only [Act.put, sZ1, sZ2, sZ3, i64_w, i32_w]
        rfl
       refine one_ (i := 5) (N := some 49) D16m3f rfl rfl (one_of HT_.out (by kernel_rfl)) (by decide) (fun K hK => ?_)
       refine goes_ Try.func33 (by kernel_rfl) rfl #[.agg #[.int .i64 t341, .int .i64 t342, .int .i64 t343, .int .i64 t351, .int .i64 t345], .int .i64 t357] (by rfl) rfl rfl (by (try simp only [List.map_toArray, List.map_cons, List.map_nil]); first | done | rfl | (simp only [List.length_drop, List.length_take]; rfl)) ?_
       with_reducible refine (ref37_Limit.calls k1 t341 t342 t343 t351 t345 t357 t361 _ A29.out).mono ?_
       rintro e w40 ⟨rfl, hb⟩
       refine ⟨_, rfl, ?_⟩
       have n0_ := Aside0.mk (Kd.R_below (by (with_reducible repeat (first | apply Kd.R_alloc | apply Kd.R_drewN | apply Kd.R_drew)); exact HO356.out) hb)
       have n1_ := Aside0.mk (blk_below (g := gb347) (o := .cells #[.int .i64 t341, .int .i64 t342, .int .i64 t343, .int .i64 t351, .int .i64 t345] 45 (0, 0)) (by (with_reducible repeat (first | refine blk_drewN ?_ _ | refine blk_drew ?_ | refine blk_alloc ?_ _)); exact BK347.out) hb)
       have n2_ := Aside0.mk (IsS59.below (by repeat (first | (with_reducible first | exact HI340.out | apply IsS59.alloc | apply IsS59.drewN | apply IsS59.drew | apply IsS59.set_1 | refine IsS59.far ?_ NB340_347.out _) | exact HI340.out)) hb)
       have n3_ := Aside0.mk (below_step (by repeat (first | (with_reducible first | exact HB.out | apply below_alloc | apply pw_below_drewN | apply below_drew1 | refine below_set ?_ (IsS59.ge HI340.out) | refine below_set ?_ GE347.out) | exact HB.out)) hb)
       clear HO356; clear BK347; clear HI340; clear HB; have HO356 := n0_; have BK347 := n1_; have HI340 := n2_; have HB := n3_
       clear n0_ n1_ n2_ n3_
       (try clear hb); (try clear hb2); (try clear hk); (try clear hi)
       refine hK.out _ _ ⟨(blk_cell BK347.out 0).trans rfl, (blk_cell BK347.out 1).trans rfl, (blk_cell BK347.out 2).trans rfl, (blk_cell BK347.out 3).trans rfl, (blk_cell BK347.out 4).trans rfl⟩ (fun hHeld => ?_)
       clear hK K
       refine norm_ (a' := ?_) ?_ ?_
       rotate_left
       ·show Act.put _ (some 49) _ = _
        simp only [Act.put, sZ1, sZ2, sZ3, i64_w, i32_w]
        rfl
       refine pure_ (i := 6) (N := some 50) (v := ?_) (a' := ?_) D16m7f rfl rfl (any_of HT_.out (by kernel_rfl)) (fun _ _ _ h => h) (Or.inl ⟨by rfl, ?_⟩) ?_ ?_
       rotate_left; ·intro w'; go_simp; with_reducible rfl
       rotate_left; ·simp only [Act.put, sZ1, sZ2, sZ3, i64_w, i32_w]; rfl
       refine pure_ (i := 7) (N := some 51) (v := ?_) (a' := ?_) D16mff rfl rfl (any_of HT_.out (by kernel_rfl)) (fun _ _ _ h => h) (Or.inl ⟨by rfl, ?_⟩) ?_ ?_
       rotate_left; ·intro w'; go_simp; with_reducible rfl
       rotate_left; ·simp only [Act.put, sZ1, sZ2, sZ3, i64_w, i32_w]; rfl
       refine pure_ (i := 8) (N := some 52) (v := undef) (a' := ?_) D16m1ff rfl rfl (any_of HT_.out (by kernel_rfl)) (fun _ _ _ h => h) (Or.inr ⟨by rfl, rfl⟩) ?_ ?_
       rotate_left; ·simp only [Act.put, sZ1, sZ2, sZ3, i64_w, i32_w]; rfl
       refine pure_ (i := 9) (N := some 53) (v := undef) (a' := ?_) D16m3ff rfl rfl (any_of HT_.out (by kernel_rfl)) (fun _ _ _ h => h) (Or.inr ⟨by rfl, rfl⟩) ?_ ?_
       rotate_left; ·simp only [Act.put, sZ1, sZ2, sZ3, i64_w, i32_w]; rfl
       refine pure_ (i := 10) (N := some 54) (v := undef) (a' := ?_) D16m7ff rfl rfl (any_of HT_.out (by kernel_rfl)) (fun _ _ _ h => h) (Or.inr ⟨by rfl, rfl⟩) ?_ ?_
       rotate_left; ·simp only [Act.put, sZ1, sZ2, sZ3, i64_w, i32_w]; rfl
       refine pure_ (i := 11) (N := some 55) (v := undef) (a' := ?_) D16mfff rfl rfl (any_of HT_.out (by kernel_rfl)) (fun _ _ _ h => h) (Or.inr ⟨by rfl, rfl⟩) ?_ ?_
       rotate_left; ·simp only [Act.put, sZ1, sZ2, sZ3, i64_w, i32_w]; rfl
       refine pure_ (i := 12) (N := some 56) (v := undef) (a' := ?_) D16m1fff rfl rfl (any_of HT_.out (by kernel_rfl)) (fun _ _ _ h => h) (Or.inr ⟨by rfl, rfl⟩) ?_ ?_
       rotate_left; ·simp only [Act.put, sZ1, sZ2, sZ3, i64_w, i32_w]; rfl
       refine pure_ (i := 13) (N := some 57) (v := undef) (a' := ?_) D16m3fff rfl rfl (any_of HT_.out (by kernel_rfl)) (fun _ _ _ h => h) (Or.inr ⟨by rfl, rfl⟩) ?_ ?_
       rotate_left; ·simp only [Act.put, sZ1, sZ2, sZ3, i64_w, i32_w]; rfl
       refine pure_ (i := 14) (N := some 58) (v := undef) (a' := ?_) D16m7fff rfl rfl (any_of HT_.out (by kernel_rfl)) (fun _ _ _ h => h) (Or.inr ⟨by rfl, rfl⟩) ?_ ?_
       rotate_left; ·simp only [Act.put, sZ1, sZ2, sZ3, i64_w, i32_w]; rfl
       refine pure_ (i := 15) (N := some 59) (v := ?_) (a' := ?_) D16mffff rfl rfl (any_of HT_.out (by kernel_rfl)) (fun _ _ _ h => h) (Or.inl ⟨by rfl, ?_⟩) ?_ ?_
       rotate_left; ·intro w'; go_simp; with_reducible rfl
       rotate_left; ·simp only [Act.put, sZ1, sZ2, sZ3, i64_w, i32_w]; rfl
       refine done_ (done_of HT_.out (by kernel_rfl)) ?_
       try go_wp2
       go_meet
       case rel => exact ⟨_, (true), (by first | rfl | (simp; done) | (simp [*]; done)), H', ⟨by have := HK1.out; first | omega | exact Nat.le_refl _⟩, ⟨by (with_reducible repeat (first | refine blk_drewN ?_ _ | refine blk_drew ?_ | refine blk_alloc ?_ _)); exact BK347.out⟩, ⟨by repeat (first | (with_reducible first | exact HI340.out | apply IsS59.alloc | apply IsS59.drewN | apply IsS59.drew | apply IsS59.set_1 | refine IsS59.far ?_ NB340_347.out _) | exact HI340.out)⟩, ⟨by repeat (first | (with_reducible first | exact HB.out | apply below_alloc | apply pw_below_drewN | apply below_drew1 | refine below_set ?_ (IsS59.ge HI340.out) | refine below_set ?_ GE347.out) | exact HB.out)⟩⟩
     case rest =>
      clear HC22; (try clear c1); (try clear c2); (try clear p2); (try clear c3); (try clear p6); (try clear c16); (try clear c27); (try clear c28); (try clear c29); (try clear c30); (try clear c30b0); (try clear c30b1); (try clear c33); (try clear c34)
      obtain ⟨kq, x59_21, rfl, HA, HJ21, BK347, HI340, HB⟩ := hcut
      cases kq with
      | zero => exact absurd HA.out (by simp [law37_HoistMade.j1])
      | succ kj21 =>
       have H := HA.out
       clear HA
       simp only [law37_HoistMade.j1] at H
       by_cases c41 : x59_21 = true
       ·subst c41
        have H1 : (none) = some r := by rw [if_pos rfl] at H; exact H
        clear H
        have H := H1
        clear H1
        exact absurd H (by simp)
       ·replace c41 := Bool.eq_false_iff.mpr c41
        subst c41
        have H1 : ((made_Mod.f (wrap64 (a1 + (wrap64 (x7_1 * 977)))) (wrap64 (t341 + 2001))).bind fun t364 => ((made_Dice_One.f t338 t358 3).bind fun bt365 => ((made_Dice_Of.f t338 bt365.2 (([0, 500, (-500), 1099511627776, (-5000)] : List Int))).bind fun bt371 => ((law37_agree.f kj21 t341 t342 t343 t351 t345 (wrap64 (t364 - 1000)) (wrap64 (t359 - 40000)) bt365.1 bt371.1).bind fun t373 => (if t373 = true then (law37_HoistMade.l0 kj21 a1 (wrap64 (x7_1 + 1)) t338 bt371.2 t341 t342 t343 t351 t345) else (none)))))) = some r := by rw [if_neg (show ¬ (false = true) by decide)] at H; exact H
        clear H
        have H := H1
        clear H1
        replace H := Option.bind_eq_some_iff.mp H
        obtain ⟨t364, A420, H⟩ := H
        replace H : ((made_Dice_One.f t338 t358 3).bind fun bt365 => ((made_Dice_Of.f t338 bt365.2 (([0, 500, (-500), 1099511627776, (-5000)] : List Int))).bind fun bt371 => ((law37_agree.f kj21 t341 t342 t343 t351 t345 (wrap64 (t364 - 1000)) (wrap64 (t359 - 40000)) bt365.1 bt371.1).bind fun t373 => (if t373 = true then (law37_HoistMade.l0 kj21 a1 (wrap64 (x7_1 + 1)) t338 bt371.2 t341 t342 t343 t351 t345) else (none))))) = some r := H
        have A42 := Aside0.mk A420
        clear A420
        replace H := Option.bind_eq_some_iff.mp H
        obtain ⟨⟨t365, t366⟩, A430, H⟩ := H
        replace H : ((made_Dice_Of.f t338 t366 (([0, 500, (-500), 1099511627776, (-5000)] : List Int))).bind fun bt371 => ((law37_agree.f kj21 t341 t342 t343 t351 t345 (wrap64 (t364 - 1000)) (wrap64 (t359 - 40000)) t365 bt371.1).bind fun t373 => (if t373 = true then (law37_HoistMade.l0 kj21 a1 (wrap64 (x7_1 + 1)) t338 bt371.2 t341 t342 t343 t351 t345) else (none)))) = some r := H
        have A43 := Aside0.mk A430
        clear A430
        obtain ⟨y368, hy368⟩ : ∃ y_ : List Int, y_ = (([0, 500, (-500), 1099511627776, (-5000)] : List Int)) := ⟨_, rfl⟩
        replace H : ((made_Dice_Of.f t338 t366 y368).bind fun bt371 => ((law37_agree.f kj21 t341 t342 t343 t351 t345 (wrap64 (t364 - 1000)) (wrap64 (t359 - 40000)) t365 bt371.1).bind fun t373 => (if t373 = true then (law37_HoistMade.l0 kj21 a1 (wrap64 (x7_1 + 1)) t338 bt371.2 t341 t342 t343 t351 t345) else (none)))) = some r := by first | (rw [hy368]; with_reducible exact H) | (have H2_ := (Option.bind_some _ _).symm.trans H; rw [hy368]; with_reducible exact H2_) | (have H2_ := (Option.bind_some _ _).symm.trans H; with_reducible exact H2_) | with_reducible exact H | (rw [hy368]; exact H) | exact H
        have Ny368 := Aside0.mk hy368
        clear hy368
        replace H := Option.bind_eq_some_iff.mp H
        obtain ⟨⟨t371, t372⟩, A440, H⟩ := H
        replace H : ((law37_agree.f kj21 t341 t342 t343 t351 t345 (wrap64 (t364 - 1000)) (wrap64 (t359 - 40000)) t365 t371).bind fun t373 => (if t373 = true then (law37_HoistMade.l0 kj21 a1 (wrap64 (x7_1 + 1)) t338 t372 t341 t342 t343 t351 t345) else (none))) = some r := H
        have A44 := Aside0.mk A440
        clear A440
        replace H := Option.bind_eq_some_iff.mp H
        obtain ⟨t373, A450, H⟩ := H
        replace H : (if t373 = true then (law37_HoistMade.l0 kj21 a1 (wrap64 (x7_1 + 1)) t338 t372 t341 t342 t343 t351 t345) else (none)) = some r := H
        have A45 := Aside0.mk A450
        clear A450
        by_cases c46 : t373 = true
        ·subst c46
         have H1 : (law37_HoistMade.l0 kj21 a1 (wrap64 (x7_1 + 1)) t338 t372 t341 t342 t343 t351 t345) = some r := by rw [if_pos rfl] at H; exact H
         clear H
         have H := H1
         clear H1
         have H' := Aside0.mk H
         clear H
         have hnb47 := NB347_340.out
         have hnc47 := NB340_347.out
         have hcz48_0 : wc.cell? ⟨gb347, 0, none⟩ = some (.int .i64 t341) := (blk_cell BK347.out 0).trans rfl
         have hcz48_1 : wc.cell? ⟨gb347, 1, none⟩ = some (.int .i64 t342) := (blk_cell BK347.out 1).trans rfl
         have hcz48_2 : wc.cell? ⟨gb347, 2, none⟩ = some (.int .i64 t343) := (blk_cell BK347.out 2).trans rfl
         have hcz48_3 : wc.cell? ⟨gb347, 3, none⟩ = some (.int .i64 t351) := (blk_cell BK347.out 3).trans rfl
         have hcz48_4 : wc.cell? ⟨gb347, 4, none⟩ = some (.int .i64 t345) := (blk_cell BK347.out 4).trans rfl
         have hfz48_0 := blk_frozen BK347.out 0
         have hfz48_1 := blk_frozen BK347.out 1
         have hfz48_2 := blk_frozen BK347.out 2
         have hfz48_3 := blk_frozen BK347.out 3
         have hfz48_4 := blk_frozen BK347.out 4
         try go_wp2_with (first | ((with_reducible refine gate_callee (f := 27) rfl ?_); refine goesL_ (some 67) rfl rfl Try.func27 (by kernel_rfl) rfl #[.int .i64 (wrap64 (a1 + (wrap64 (x7_1 * 977)))), .int .i64 (wrap64 (t341 + 2001))] rfl (by (try simp only [List.map_toArray, List.map_cons, List.map_nil]); first | done | rfl | (simp only [List.length_drop, List.length_take]; rfl)) ?_; (with_reducible refine (made_Mod.calls (wrap64 (a1 + (wrap64 (x7_1 * 977)))) (wrap64 (t341 + 2001)) t364 _ A42.out).mono ?_); rintro e w' ⟨rfl, ⟨nd, rfl⟩⟩; refine ⟨_, rfl, ?_⟩; (try (rw [drewN_self wc]; generalize hq_ : World.drewN wc _ = wc; have n0_ : Aside0 (wc.heap[gb347]? = some (.cells #[.int .i64 t341, .int .i64 t342, .int .i64 t343, .int .i64 t351, .int .i64 t345] 45 (0, 0))) := ⟨by rw [← hq_]; exact (by (with_reducible repeat (first | refine blk_drewN ?_ _ | refine blk_drew ?_ | refine blk_alloc ?_ _)); exact BK347.out)⟩; have n1_ : Aside0 (IsS59 w wc g340 t338 t358) := ⟨by rw [← hq_]; exact (by repeat (first | (with_reducible first | exact HI340.out | apply IsS59.alloc | apply IsS59.drewN | apply IsS59.drew | apply IsS59.set_1 | refine IsS59.far ?_ NB340_347.out _) | exact HI340.out))⟩; have n2_ : Aside0 (Below w.heap.size w wc) := ⟨by rw [← hq_]; exact (by repeat (first | (with_reducible first | exact HB.out | apply below_alloc | apply pw_below_drewN | apply below_drew1 | refine below_set ?_ (IsS59.ge HI340.out) | refine below_set ?_ GE347.out) | exact HB.out))⟩; clear BK347 HI340 HB hq_; have BK347 := n0_; have HI340 := n1_; have HB := n2_; clear n0_ n1_ n2_))) | ((with_reducible refine gate_callee (f := 19) rfl ?_); refine goesL_ (some 71) rfl rfl Try.func19 (by kernel_rfl) rfl #[.pointer (some ⟨g340, 0, none⟩), .int .i64 3] rfl (by (try simp only [List.map_toArray, List.map_cons, List.map_nil]); first | done | rfl | (simp only [List.length_drop, List.length_take]; rfl)) ?_; (with_reducible refine (made_Dice_One.calls g340 t338 t358 3 t365 t366 w _ ?side1 ?side2 A43.out).mono ?_); (case side1 => repeat (first | (with_reducible first | exact HI340.out | apply IsS59.alloc | apply IsS59.drewN | apply IsS59.drew | apply IsS59.set_1 | refine IsS59.far ?_ NB340_347.out _) | exact HI340.out)); (case side2 => repeat (first | (with_reducible first | exact HB.out | apply below_alloc | apply pw_below_drewN | apply below_drew1 | refine below_set ?_ (IsS59.ge HI340.out) | refine below_set ?_ GE347.out) | exact HB.out)); rintro e w49 ⟨rfl, hi, hb, hk⟩; refine ⟨_, rfl, ?_⟩; have n0_ := Aside0.mk (KeepBut.blk hk (g' := gb347) (o := .cells #[.int .i64 t341, .int .i64 t342, .int .i64 t343, .int .i64 t351, .int .i64 t345] 45 (0, 0)) (by (with_reducible repeat (first | refine blk_drewN ?_ _ | refine blk_drew ?_ | refine blk_alloc ?_ _)); exact BK347.out) NB347_340.out (by simp)); have n1_ := Aside0.mk (hb); have n2_ := Aside0.mk (hi); clear BK347; clear HB; clear HI340; have BK347 := n0_; have HB := n1_; have HI340 := n2_; clear n0_ n1_ n2_; (try clear hb); (try clear hb2); (try clear hk); (try clear hi)) | ((with_reducible refine gate_dst (N := 10) rfl ?_); (try (refine gate_guard (by rfl) ?_; dsimp only)); refine box_event ?hg (N := 10) ?hd (cs := #[.int .i64 0, .int .i64 0, .bool false]) (t := 50) ?hr ?_; (case hd => rfl); (case hg => rfl); (case hr => first | (go_simp; done) | (go_simp; rfl)); intro gb367 hg w50 hbox hb; have n0_ := Aside0.mk (blk_below (g := gb347) (o := .cells #[.int .i64 t341, .int .i64 t342, .int .i64 t343, .int .i64 t351, .int .i64 t345] 45 (0, 0)) (by (with_reducible repeat (first | refine blk_drewN ?_ _ | refine blk_drew ?_ | refine blk_alloc ?_ _)); exact BK347.out) hb); have n1_ := Aside0.mk (IsS59.below (by repeat (first | (with_reducible first | exact HI340.out | apply IsS59.alloc | apply IsS59.drewN | apply IsS59.drew | apply IsS59.set_1 | refine IsS59.far ?_ NB340_347.out _) | exact HI340.out)) hb); have n2_ := Aside0.mk (below_step (by repeat (first | (with_reducible first | exact HB.out | apply below_alloc | apply pw_below_drewN | apply below_drew1 | refine below_set ?_ (IsS59.ge HI340.out) | refine below_set ?_ GE347.out) | exact HB.out)) hb); have n3_ := Aside0.mk (hbox); have n4_ := Aside0.mk ((by rw [hg]; exact (below_size (by repeat (first | (with_reducible first | exact HB.out | apply below_alloc | apply pw_below_drewN | apply below_drew1 | refine below_set ?_ (IsS59.ge HI340.out) | refine below_set ?_ GE347.out) | exact HB.out))) : w.heap.size ≤ gb367)); have n5_ := Aside0.mk ((by rw [hg]; exact (below_size (by repeat (first | (with_reducible first | exact HB.out | apply below_alloc | apply pw_below_drewN | apply below_drew1 | refine below_set ?_ (IsS59.ge HI340.out) | refine below_set ?_ GE347.out) | exact HB.out))) : w.heap.size ≤ gb367)); have n6_ := Aside0.mk ((by rw [hg]; exact Nat.ne_of_lt (blk_lt (g := gb347) (o := .cells #[.int .i64 t341, .int .i64 t342, .int .i64 t343, .int .i64 t351, .int .i64 t345] 45 (0, 0)) (by (with_reducible repeat (first | refine blk_drewN ?_ _ | refine blk_drew ?_ | refine blk_alloc ?_ _)); exact BK347.out)) : gb347 ≠ gb367)); have n7_ := Aside0.mk ((by rw [hg]; exact Nat.ne_of_gt (blk_lt (g := gb347) (o := .cells #[.int .i64 t341, .int .i64 t342, .int .i64 t343, .int .i64 t351, .int .i64 t345] 45 (0, 0)) (by (with_reducible repeat (first | refine blk_drewN ?_ _ | refine blk_drew ?_ | refine blk_alloc ?_ _)); exact BK347.out)) : gb367 ≠ gb347)); have n8_ := Aside0.mk ((by rw [hg]; exact Nat.ne_of_lt (IsS59.lt (show IsS59 w _ g340 t338 t366 from by repeat (first | (with_reducible first | exact HI340.out | apply IsS59.alloc | apply IsS59.drewN | apply IsS59.drew | apply IsS59.set_1 | refine IsS59.far ?_ NB340_347.out _) | exact HI340.out))) : g340 ≠ gb367)); have n9_ := Aside0.mk ((by rw [hg]; exact Nat.ne_of_gt (IsS59.lt (show IsS59 w _ g340 t338 t366 from by repeat (first | (with_reducible first | exact HI340.out | apply IsS59.alloc | apply IsS59.drewN | apply IsS59.drew | apply IsS59.set_1 | refine IsS59.far ?_ NB340_347.out _) | exact HI340.out))) : gb367 ≠ g340)); clear BK347; clear HI340; clear HB; have BK347 := n0_; have HI340 := n1_; have HB := n2_; have BK367 := n3_; have GW367 := n4_; have GE367 := n5_; have NB347_367 := n6_; have NB367_347 := n7_; have NB340_367 := n8_; have NB367_340 := n9_; clear n0_ n1_ n2_ n3_ n4_ n5_ n6_ n7_ n8_ n9_; clear hb hbox hg; have hnb51 := NB367_347.out; have hnc51 := NB347_367.out; have hnb52 := NB367_340.out; have hnc52 := NB340_367.out; have hcz53_0 : w50.cell? ⟨gb367, 0, none⟩ = some (.int .i64 0) := (blk_cell BK367.out 0).trans rfl; have hcz53_1 : w50.cell? ⟨gb367, 1, none⟩ = some (.int .i64 0) := (blk_cell BK367.out 1).trans rfl; have hcz53_2 : w50.cell? ⟨gb367, 2, none⟩ = some (.bool false) := (blk_cell BK367.out 2).trans rfl; have hfz53_0 := blk_frozen BK367.out 0; have hfz53_1 := blk_frozen BK367.out 1; have hfz53_2 := blk_frozen BK367.out 2))
         have n0_ : Aside0 ((((w50.setCell ⟨gb367, 0, none⟩ (.int .i64 (wrap64 (t364 - 1000)))).setCell ⟨gb367, 1, none⟩ (.int .i64 (wrap64 (t359 - 40000)))).setCell ⟨gb367, 2, none⟩ (.bool t365)).heap[gb347]? = some (.cells #[.int .i64 t341, .int .i64 t342, .int .i64 t343, .int .i64 t351, .int .i64 t345] 45 (0, 0))) := ⟨by (with_reducible repeat (first | refine blk_drewN ?_ _ | refine blk_drew ?_ | refine blk_alloc ?_ _)); refine blk_far ?_ NB347_367.out _; (with_reducible repeat (first | refine blk_drewN ?_ _ | refine blk_drew ?_ | refine blk_alloc ?_ _)); refine blk_far ?_ NB347_367.out _; (with_reducible repeat (first | refine blk_drewN ?_ _ | refine blk_drew ?_ | refine blk_alloc ?_ _)); refine blk_far ?_ NB347_367.out _; (with_reducible repeat (first | refine blk_drewN ?_ _ | refine blk_drew ?_ | refine blk_alloc ?_ _)); exact BK347.out⟩
         have n1_ : Aside0 ((((w50.setCell ⟨gb367, 0, none⟩ (.int .i64 (wrap64 (t364 - 1000)))).setCell ⟨gb367, 1, none⟩ (.int .i64 (wrap64 (t359 - 40000)))).setCell ⟨gb367, 2, none⟩ (.bool t365)).heap[gb367]? = some (.cells #[.int .i64 (wrap64 (t364 - 1000)), .int .i64 (wrap64 (t359 - 40000)), .bool t365] 50 (0, 0))) := ⟨by (with_reducible repeat (first | refine blk_drewN ?_ _ | refine blk_drew ?_ | refine blk_alloc ?_ _)); refine blk_put (cs := #[.int .i64 (wrap64 (t364 - 1000)), .int .i64 (wrap64 (t359 - 40000)), .bool false]) ?_ 2 _ rfl; (with_reducible repeat (first | refine blk_drewN ?_ _ | refine blk_drew ?_ | refine blk_alloc ?_ _)); refine blk_put (cs := #[.int .i64 (wrap64 (t364 - 1000)), .int .i64 0, .bool false]) ?_ 1 _ rfl; (with_reducible repeat (first | refine blk_drewN ?_ _ | refine blk_drew ?_ | refine blk_alloc ?_ _)); refine blk_put (cs := #[.int .i64 0, .int .i64 0, .bool false]) ?_ 0 _ rfl; (with_reducible repeat (first | refine blk_drewN ?_ _ | refine blk_drew ?_ | refine blk_alloc ?_ _)); exact BK367.out⟩
         have n2_ : Aside0 (IsS59 w (((w50.setCell ⟨gb367, 0, none⟩ (.int .i64 (wrap64 (t364 - 1000)))).setCell ⟨gb367, 1, none⟩ (.int .i64 (wrap64 (t359 - 40000)))).setCell ⟨gb367, 2, none⟩ (.bool t365)) g340 t338 t366) := ⟨by repeat (first | (with_reducible first | exact HI340.out | apply IsS59.alloc | apply IsS59.drewN | apply IsS59.drew | apply IsS59.set_1 | refine IsS59.far ?_ NB340_347.out _ | refine IsS59.far ?_ NB340_367.out _) | exact HI340.out)⟩
         have n3_ : Aside0 (Below w.heap.size w (((w50.setCell ⟨gb367, 0, none⟩ (.int .i64 (wrap64 (t364 - 1000)))).setCell ⟨gb367, 1, none⟩ (.int .i64 (wrap64 (t359 - 40000)))).setCell ⟨gb367, 2, none⟩ (.bool t365))) := ⟨by repeat (first | (with_reducible first | exact HB.out | apply below_alloc | apply pw_below_drewN | apply below_drew1 | refine below_set ?_ (IsS59.ge HI340.out) | refine below_set ?_ GE347.out | refine below_set ?_ GE367.out) | exact HB.out)⟩
         (try clear BK347); (try clear BK367); (try clear HI340); (try clear HB)
         generalize (((w50.setCell ⟨gb367, 0, none⟩ (.int .i64 (wrap64 (t364 - 1000)))).setCell ⟨gb367, 1, none⟩ (.int .i64 (wrap64 (t359 - 40000)))).setCell ⟨gb367, 2, none⟩ (.bool t365)) = w54 at n0_ n1_ n2_ n3_ ⊢
         have BK347 := n0_; have BK367 := n1_; have HI340 := n2_; have HB := n3_
         clear n0_ n1_ n2_ n3_
         (try (rw [drewN_self w54]; generalize hq_ : World.drewN w54 _ = w54; have n0_ : Aside0 (w54.heap[gb347]? = some (.cells #[.int .i64 t341, .int .i64 t342, .int .i64 t343, .int .i64 t351, .int .i64 t345] 45 (0, 0))) := ⟨by rw [← hq_]; exact (by (with_reducible repeat (first | refine blk_drewN ?_ _ | refine blk_drew ?_ | refine blk_alloc ?_ _)); exact BK347.out)⟩; have n1_ : Aside0 (w54.heap[gb367]? = some (.cells #[.int .i64 (wrap64 (t364 - 1000)), .int .i64 (wrap64 (t359 - 40000)), .bool t365] 50 (0, 0))) := ⟨by rw [← hq_]; exact (by (with_reducible repeat (first | refine blk_drewN ?_ _ | refine blk_drew ?_ | refine blk_alloc ?_ _)); exact BK367.out)⟩; have n2_ : Aside0 (IsS59 w w54 g340 t338 t366) := ⟨by rw [← hq_]; exact (by repeat (first | (with_reducible first | exact HI340.out | apply IsS59.alloc | apply IsS59.drewN | apply IsS59.drew | apply IsS59.set_1 | refine IsS59.far ?_ NB340_347.out _ | refine IsS59.far ?_ NB340_367.out _) | exact HI340.out))⟩; have n3_ : Aside0 (Below w.heap.size w w54) := ⟨by rw [← hq_]; exact (by repeat (first | (with_reducible first | exact HB.out | apply below_alloc | apply pw_below_drewN | apply below_drew1 | refine below_set ?_ (IsS59.ge HI340.out) | refine below_set ?_ GE347.out | refine below_set ?_ GE367.out) | exact HB.out))⟩; clear BK347 BK367 HI340 HB hq_; have BK347 := n0_; have BK367 := n1_; have HI340 := n2_; have HB := n3_; clear n0_ n1_ n2_ n3_))
         have n0_ := Aside0.mk (blk_drew BK347.out)
         have n1_ := Aside0.mk (blk_drew BK367.out)
         have n2_ := Aside0.mk (IsS59.drew HI340.out)
         have n3_ := Aside0.mk (below_drew1 HB.out)
         clear BK347; clear BK367; clear HI340; clear HB; have BK347 := n0_; have BK367 := n1_; have HI340 := n2_; have HB := n3_
         clear n0_ n1_ n2_ n3_
         refine start_ (n := 7) (S := fun w' => w'.cell? ⟨gb347, 0, none⟩ = some (.int .i64 t341) ∧ w'.cell? ⟨gb347, 1, none⟩ = some (.int .i64 t342) ∧ w'.cell? ⟨gb347, 2, none⟩ = some (.int .i64 t343) ∧ w'.cell? ⟨gb347, 3, none⟩ = some (.int .i64 t351) ∧ w'.cell? ⟨gb347, 4, none⟩ = some (.int .i64 t345) ∧ w'.cell? ⟨gb367, 0, none⟩ = some (.int .i64 (wrap64 (t364 - 1000))) ∧ w'.cell? ⟨gb367, 1, none⟩ = some (.int .i64 (wrap64 (t359 - 40000))) ∧ w'.cell? ⟨gb367, 2, none⟩ = some (.bool t365)) (ds := []) D7m0 (by kernel_rfl) rfl rfl ⟨(blk_cell BK347.out 0).trans rfl, (blk_cell BK347.out 1).trans rfl, (blk_cell BK347.out 2).trans rfl, (blk_cell BK347.out 3).trans rfl, (blk_cell BK347.out 4).trans rfl, (blk_cell BK367.out 0).trans rfl, (blk_cell BK367.out 1).trans rfl, (blk_cell BK367.out 2).trans rfl⟩ (fun hHeld => ?_)
         generalize w54.drew = w55 at BK347 BK367 HI340 HB hHeld ⊢
         refine pure_ (i := 2) (N := some 75) (v := ?_) (a' := ?_) D7m4 rfl rfl (by kernel_rfl) (fun _ _ _ h => h) (Or.inl ⟨by rfl, ?_⟩) ?_ ?_
         rotate_left; ·intro w'; go_simp; with_reducible rfl
         rotate_left; ·simp only [Act.put, sZ1, sZ2, sZ3, i64_w, i32_w]; rfl
         refine take_ (i := 0) (N := some 73) (v := ?_) (a' := ?_) D7m5 rfl rfl (by kernel_rfl) (fun _ _ _ h => h) (Or.inl ⟨by rfl, ?_⟩) hHeld ?_ ?_
         rotate_left; ·rintro w' ⟨s0, s1, s2, s3, s4, s5, s6, s7⟩; go_simp; with_reducible rfl
         rotate_left; ·simp only [Act.put, sZ1, sZ2, sZ3, i64_w, i32_w]; rfl
         refine take_ (i := 1) (N := some 74) (v := ?_) (a' := ?_) D7m7 rfl rfl (by kernel_rfl) (fun _ _ _ h => h) (Or.inl ⟨by rfl, ?_⟩) hHeld ?_ ?_
         rotate_left; ·rintro w' ⟨s0, s1, s2, s3, s4, s5, s6, s7⟩; go_simp; with_reducible rfl
         rotate_left; ·simp only [Act.put, sZ1, sZ2, sZ3, i64_w, i32_w]; rfl
         refine one_ (i := 3) (N := some 76) D7mf rfl rfl (by kernel_rfl) (by decide) (fun K hK => ?_)
         refine Kd.R_lit_step (Kd.int .i64) _ 3 ?hg (N := 76) ?hd (xs := ([0, 500, (-500), 1099511627776, (-5000)] : List Int)) (inner := [.int .i64 0, .int .i64 500, .int .i64 (-500), .int .i64 1099511627776, .int .i64 (-5000)]) (ok := fun _ => True) (okp := fun _ => True) ?hr ?hp (fun _ hk => hk) trivial (Below.refl _ _) (Nat.le_refl _) (by simp) ?_; (case hd => rfl); (case hg => first | rfl | exact wanted_on rfl rfl rfl (by assumption)); (case hr => first | (go_simp; done) | (go_simp; rfl)); (case hp => exact (Reps.one (show Kd.M (Kd.int .i64) _ _ _ 0 [.int .i64 0] from rfl) (Reps.one (show Kd.M (Kd.int .i64) _ _ _ 500 [.int .i64 500] from rfl) (Reps.one (show Kd.M (Kd.int .i64) _ _ _ (-500) [.int .i64 (-500)] from rfl) (Reps.one (show Kd.M (Kd.int .i64) _ _ _ 1099511627776 [.int .i64 1099511627776] from rfl) (Reps.one (show Kd.M (Kd.int .i64) _ _ _ (-5000) [.int .i64 (-5000)] from rfl) (Reps.none _ _)))))))
         intro v369 w56 ho57 hb hg_ hnew_
         clear hg_ hnew_
         (first | rw [← Ny368.out] at ho57 | (simp only [Int.reduceToNat] at ho57; rw [← Ny368.out] at ho57))
         have n0_ := Aside0.mk (Kd.R_lower ho57 (below_size (by repeat (first | (with_reducible first | exact HB.out | apply below_alloc | apply pw_below_drewN | apply below_drew1 | refine below_set ?_ (IsS59.ge HI340.out) | refine below_set ?_ GE347.out | refine below_set ?_ GE367.out) | exact HB.out))))
         have n1_ := Aside0.mk (blk_below (g := gb347) (o := .cells #[.int .i64 t341, .int .i64 t342, .int .i64 t343, .int .i64 t351, .int .i64 t345] 45 (0, 0)) (by (with_reducible repeat (first | refine blk_drewN ?_ _ | refine blk_drew ?_ | refine blk_alloc ?_ _)); exact BK347.out) hb)
         have n2_ := Aside0.mk (IsS59.below (by repeat (first | (with_reducible first | exact HI340.out | apply IsS59.alloc | apply IsS59.drewN | apply IsS59.drew | apply IsS59.set_1 | refine IsS59.far ?_ NB340_347.out _ | refine IsS59.far ?_ NB340_367.out _) | exact HI340.out)) hb)
         have n3_ := Aside0.mk (blk_below (g := gb367) (o := .cells #[.int .i64 (wrap64 (t364 - 1000)), .int .i64 (wrap64 (t359 - 40000)), .bool t365] 50 (0, 0)) (by (with_reducible repeat (first | refine blk_drewN ?_ _ | refine blk_drew ?_ | refine blk_alloc ?_ _)); exact BK367.out) hb)
         have n4_ := Aside0.mk (below_step (by repeat (first | (with_reducible first | exact HB.out | apply below_alloc | apply pw_below_drewN | apply below_drew1 | refine below_set ?_ (IsS59.ge HI340.out) | refine below_set ?_ GE347.out | refine below_set ?_ GE367.out) | exact HB.out)) hb)
         clear BK347; clear HI340; clear BK367; clear HB; have HO370 := n0_; have BK347 := n1_; have HI340 := n2_; have BK367 := n3_; have HB := n4_
         clear n0_ n1_ n2_ n3_ n4_
         clear hb ho57
         obtain ⟨Ao58, co58, eo58⟩ := Kd.R_slice HO370.out
         (first | subst eo58 | (injection eo58 with f1_ f2_ f3_; have f4_ := f1_.symm; have f5_ := f3_.symm; clear f1_ f2_ f3_; subst f4_; subst f5_))
         refine hK.out _ _ ⟨(blk_cell BK347.out 0).trans rfl, (blk_cell BK347.out 1).trans rfl, (blk_cell BK347.out 2).trans rfl, (blk_cell BK347.out 3).trans rfl, (blk_cell BK347.out 4).trans rfl, (blk_cell BK367.out 0).trans rfl, (blk_cell BK367.out 1).trans rfl, (blk_cell BK367.out 2).trans rfl⟩ (fun hHeld => ?_)
         clear hK K
         refine norm_ (a' := ?_) ?_ ?_
         rotate_left
         ·show Act.put _ (some 76) _ = _
          simp only [Act.put, sZ1, sZ2, sZ3, i64_w, i32_w]
          rfl
         refine one_ (i := 4) (N := some 77) D7m1f rfl rfl (by kernel_rfl) (by decide) (fun K hK => ?_)
         refine goes_ Try.func16 (by kernel_rfl) rfl #[.pointer (some ⟨g340, 0, none⟩), .slice Ao58 y368.length co58] (by rfl) rfl rfl (by (try simp only [List.map_toArray, List.map_cons, List.map_nil]); first | done | rfl | (simp only [List.length_drop, List.length_take]; rfl)) ?_
         with_reducible refine (made_Dice_Of.calls g340 t338 t366 _ _ y368 t371 t372 w _ ?side1 ?side2 ?side3 ?side4 ?side5 A44.out).mono ?_
         (case side1 => repeat (first | (with_reducible first | exact HI340.out | apply IsS59.alloc | apply IsS59.drewN | apply IsS59.drew | apply IsS59.set_1 | refine IsS59.far ?_ NB340_347.out _ | refine IsS59.far ?_ NB340_367.out _) | exact HI340.out))
         (case side2 => repeat (first | (with_reducible first | exact HB.out | apply below_alloc | apply pw_below_drewN | apply below_drew1 | refine below_set ?_ (IsS59.ge HI340.out) | refine below_set ?_ GE347.out | refine below_set ?_ GE367.out) | exact HB.out))
         (case side3 => repeat (first | exact (Kd.R_reads' HO370.out).2.2 | (with_reducible refine Kd.C_alloc ?_ _) | (with_reducible refine Kd.C_drewN ?_ _) | (with_reducible refine Kd.C_drew ?_)))
         (case side4 => exact (Kd.R_reads' HO370.out).2.1)
         (case side5 => exact far_slice (IsS59.own_ne HI340.out HO370.out (by decide)))
         rintro e w59 ⟨rfl, hi, hb, hk⟩
         refine ⟨_, rfl, ?_⟩
         have n0_ := Aside0.mk (KeepBut.blk hk (g' := gb347) (o := .cells #[.int .i64 t341, .int .i64 t342, .int .i64 t343, .int .i64 t351, .int .i64 t345] 45 (0, 0)) (by (with_reducible repeat (first | refine blk_drewN ?_ _ | refine blk_drew ?_ | refine blk_alloc ?_ _)); exact BK347.out) NB347_340.out (by simp))
         have n1_ := Aside0.mk (KeepBut.blk hk (g' := gb367) (o := .cells #[.int .i64 (wrap64 (t364 - 1000)), .int .i64 (wrap64 (t359 - 40000)), .bool t365] 50 (0, 0)) (by (with_reducible repeat (first | refine blk_drewN ?_ _ | refine blk_drew ?_ | refine blk_alloc ?_ _)); exact BK367.out) NB367_340.out (by simp))
         have n2_ := Aside0.mk (Kd.R_mono (Kd.R_keep (IsS59.apart (show IsS59 w _ g340 t338 t366 from by repeat (first | (with_reducible first | exact HI340.out | apply IsS59.alloc | apply IsS59.drewN | apply IsS59.drew | apply IsS59.set_1 | refine IsS59.far ?_ NB340_347.out _ | refine IsS59.far ?_ NB340_367.out _) | exact HI340.out)) (by (with_reducible repeat (first | apply Kd.R_alloc | apply Kd.R_drewN | apply Kd.R_drew)); exact HO370.out) (by decide)) hk (fun _ h => h.2)) (fun _ h => h.1))
         have n3_ := Aside0.mk (hb)
         have n4_ := Aside0.mk (hi)
         clear BK347; clear BK367; clear HO370; clear HB; clear HI340; have BK347 := n0_; have BK367 := n1_; have HO370 := n2_; have HB := n3_; have HI340 := n4_
         clear n0_ n1_ n2_ n3_ n4_
         (try clear hb); (try clear hb2); (try clear hk); (try clear hi)
         refine hK.out _ _ ⟨(blk_cell BK347.out 0).trans rfl, (blk_cell BK347.out 1).trans rfl, (blk_cell BK347.out 2).trans rfl, (blk_cell BK347.out 3).trans rfl, (blk_cell BK347.out 4).trans rfl, (blk_cell BK367.out 0).trans rfl, (blk_cell BK367.out 1).trans rfl, (blk_cell BK367.out 2).trans rfl⟩ (fun hHeld => ?_)
         clear hK K
         refine norm_ (a' := ?_) ?_ ?_
         rotate_left
         ·show Act.put _ (some 77) _ = _
          simp only [Act.put, sZ1, sZ2, sZ3, i64_w, i32_w]
          rfl
         refine one_ (i := 5) (N := some 78) D7m3f rfl rfl (by kernel_rfl) (by decide) (fun K hK => ?_)
         refine goes_ Try.func32 (by kernel_rfl) rfl #[.agg #[.int .i64 t341, .int .i64 t342, .int .i64 t343, .int .i64 t351, .int .i64 t345], .agg #[.int .i64 (wrap64 (t364 - 1000)), .int .i64 (wrap64 (t359 - 40000)), .bool t365], .int .i64 t371] (by rfl) rfl rfl (by (try simp only [List.map_toArray, List.map_cons, List.map_nil]); first | done | rfl | (simp only [List.length_drop, List.length_take]; rfl)) ?_
         with_reducible refine (law37_agree.calls kj21 t341 t342 t343 t351 t345 (wrap64 (t364 - 1000)) (wrap64 (t359 - 40000)) t365 t371 true _ A45.out).mono ?_
         rintro e w60 ⟨rfl, hb⟩
         refine ⟨_, rfl, ?_⟩
         have n0_ := Aside0.mk (Kd.R_below (by (with_reducible repeat (first | apply Kd.R_alloc | apply Kd.R_drewN | apply Kd.R_drew)); exact HO370.out) hb)
         have n1_ := Aside0.mk (blk_below (g := gb347) (o := .cells #[.int .i64 t341, .int .i64 t342, .int .i64 t343, .int .i64 t351, .int .i64 t345] 45 (0, 0)) (by (with_reducible repeat (first | refine blk_drewN ?_ _ | refine blk_drew ?_ | refine blk_alloc ?_ _)); exact BK347.out) hb)
         have n2_ := Aside0.mk (IsS59.below (by repeat (first | (with_reducible first | exact HI340.out | apply IsS59.alloc | apply IsS59.drewN | apply IsS59.drew | apply IsS59.set_1 | refine IsS59.far ?_ NB340_347.out _ | refine IsS59.far ?_ NB340_367.out _) | exact HI340.out)) hb)
         have n3_ := Aside0.mk (blk_below (g := gb367) (o := .cells #[.int .i64 (wrap64 (t364 - 1000)), .int .i64 (wrap64 (t359 - 40000)), .bool t365] 50 (0, 0)) (by (with_reducible repeat (first | refine blk_drewN ?_ _ | refine blk_drew ?_ | refine blk_alloc ?_ _)); exact BK367.out) hb)
         have n4_ := Aside0.mk (below_step (by repeat (first | (with_reducible first | exact HB.out | apply below_alloc | apply pw_below_drewN | apply below_drew1 | refine below_set ?_ (IsS59.ge HI340.out) | refine below_set ?_ GE347.out | refine below_set ?_ GE367.out) | exact HB.out)) hb)
         clear HO370; clear BK347; clear HI340; clear BK367; clear HB; have HO370 := n0_; have BK347 := n1_; have HI340 := n2_; have BK367 := n3_; have HB := n4_
         clear n0_ n1_ n2_ n3_ n4_
         (try clear hb); (try clear hb2); (try clear hk); (try clear hi)
         refine hK.out _ _ ⟨(blk_cell BK347.out 0).trans rfl, (blk_cell BK347.out 1).trans rfl, (blk_cell BK347.out 2).trans rfl, (blk_cell BK347.out 3).trans rfl, (blk_cell BK347.out 4).trans rfl, (blk_cell BK367.out 0).trans rfl, (blk_cell BK367.out 1).trans rfl, (blk_cell BK367.out 2).trans rfl⟩ (fun hHeld => ?_)
         clear hK K
         refine norm_ (a' := ?_) ?_ ?_
         rotate_left
         ·show Act.put _ (some 78) _ = _
          simp only [Act.put, sZ1, sZ2, sZ3, i64_w, i32_w]
          rfl
         refine pure_ (i := 6) (N := some 79) (v := ?_) (a' := ?_) D7m7f rfl rfl (by kernel_rfl) (fun _ _ _ h => h) (Or.inl ⟨by rfl, ?_⟩) ?_ ?_
         rotate_left; ·intro w'; go_simp; with_reducible rfl
         rotate_left; ·simp only [Act.put, sZ1, sZ2, sZ3, i64_w, i32_w]; rfl
         refine done_ (by kernel_rfl) ?_
         try go_wp2
         go_roundg kj21
         case measure => have := HK1.out; have := HJ21.out; omega
         case rel => exact ⟨(wrap64 (x7_1 + 1)), (t372), (by first | rfl | (simp; done) | (simp [*]; done)), H', ⟨by have := HK1.out; have := HJ21.out; omega⟩, ⟨by (with_reducible repeat (first | refine blk_drewN ?_ _ | refine blk_drew ?_ | refine blk_alloc ?_ _)); exact BK347.out⟩, ⟨by repeat (first | (with_reducible first | exact HI340.out | apply IsS59.alloc | apply IsS59.drewN | apply IsS59.drew | apply IsS59.set_1 | refine IsS59.far ?_ NB340_347.out _ | refine IsS59.far ?_ NB340_367.out _) | exact HI340.out)⟩, ⟨by repeat (first | (with_reducible first | exact HB.out | apply below_alloc | apply pw_below_drewN | apply below_drew1 | refine below_set ?_ (IsS59.ge HI340.out) | refine below_set ?_ GE347.out | refine below_set ?_ GE367.out) | exact HB.out)⟩⟩
        ·replace c46 := Bool.eq_false_iff.mpr c46
         subst c46
         have H1 : (none) = some r := by rw [if_neg (show ¬ (false = true) by decide)] at H; exact H
         clear H
         have H := H1
         clear H1
         exact absurd H (by simp)
    ·rw [if_neg c18] at H
     have c18b0 : decide (x7_1 < 4) = false := decide_eq_false c18
     clear c18
     replace H := Option.bind_eq_some_iff.mp H
     obtain ⟨⟨t375, t376⟩, A610, H⟩ := H
     replace H : (if t375 = 0 then ((made_Dice_Of.f t338 t376 (([0, 4000001] : List Int))).bind fun bt380 => (law37_HoistMade.j2 k1 t338 bt380.2 t341 t342 t343 t351 t345 bt380.1 t342 t343 t351 t345)) else (if t375 = 1 then ((made_Dice_Of.f t338 t376 (([0, 20001] : List Int))).bind fun bt385 => (law37_HoistMade.j2 k1 t338 bt385.2 t341 t342 t343 t351 t345 t341 bt385.1 t343 t351 t345)) else (if t375 = 2 then ((made_Dice_Of.f t338 t376 (([0, 5001] : List Int))).bind fun bt390 => (law37_HoistMade.j2 k1 t338 bt390.2 t341 t342 t343 t351 t345 t341 t342 bt390.1 t351 t345)) else (if t375 = 3 then ((made_Dice_Of.f t338 t376 (([(-1), wrap64 (t342 + 1)] : List Int))).bind fun bt395 => (law37_HoistMade.j2 k1 t338 bt395.2 t341 t342 t343 t351 t345 t341 t342 t343 bt395.1 t345)) else ((made_Dice_Of.f t338 t376 (([(-1), 21] : List Int))).bind fun bt400 => (law37_HoistMade.j2 k1 t338 bt400.2 t341 t342 t343 t351 t345 t341 t342 t343 t351 bt400.1)))))) = some r := H
     have A61 := Aside0.mk A610
     clear A610
     have HC62 := Aside0.mk H
     clear H
     have hnb63 := NB347_340.out
     have hnc63 := NB340_347.out
     have hcz64_0 : wr.cell? ⟨gb347, 0, none⟩ = some (.int .i64 t341) := (blk_cell BK347.out 0).trans rfl
     have hcz64_1 : wr.cell? ⟨gb347, 1, none⟩ = some (.int .i64 t342) := (blk_cell BK347.out 1).trans rfl
     have hcz64_2 : wr.cell? ⟨gb347, 2, none⟩ = some (.int .i64 t343) := (blk_cell BK347.out 2).trans rfl
     have hcz64_3 : wr.cell? ⟨gb347, 3, none⟩ = some (.int .i64 t351) := (blk_cell BK347.out 3).trans rfl
     have hcz64_4 : wr.cell? ⟨gb347, 4, none⟩ = some (.int .i64 t345) := (blk_cell BK347.out 4).trans rfl
     have hfz64_0 := blk_frozen BK347.out 0
     have hfz64_1 := blk_frozen BK347.out 1
     have hfz64_2 := blk_frozen BK347.out 2
     have hfz64_3 := blk_frozen BK347.out 3
     have hfz64_4 := blk_frozen BK347.out 4
     go_upto_block 2 with (first | ((with_reducible refine gate_dst (N := 11) rfl ?_); (try (refine gate_guard (by rfl) ?_; dsimp only)); refine box_event ?hg (N := 11) ?hd (cs := #[.int .i64 0, .int .i64 0, .int .i64 0, .int .i64 0, .int .i64 0]) (t := 45) ?hr ?_; (case hd => rfl); (case hg => rfl); (case hr => first | (go_simp; done) | (go_simp; rfl)); intro gb374 hg w65 hbox hb; have n0_ := Aside0.mk (blk_below (g := gb347) (o := .cells #[.int .i64 t341, .int .i64 t342, .int .i64 t343, .int .i64 t351, .int .i64 t345] 45 (0, 0)) (by (with_reducible repeat (first | refine blk_drewN ?_ _ | refine blk_drew ?_ | refine blk_alloc ?_ _)); exact BK347.out) hb); have n1_ := Aside0.mk (IsS59.below (by repeat (first | (with_reducible first | exact HI340.out | apply IsS59.alloc | apply IsS59.drewN | apply IsS59.drew | apply IsS59.set_1 | refine IsS59.far ?_ NB340_347.out _) | exact HI340.out)) hb); have n2_ := Aside0.mk (below_step (by repeat (first | (with_reducible first | exact HB.out | apply below_alloc | apply pw_below_drewN | apply below_drew1 | refine below_set ?_ (IsS59.ge HI340.out) | refine below_set ?_ GE347.out) | exact HB.out)) hb); have n3_ := Aside0.mk (hbox); have n4_ := Aside0.mk ((by rw [hg]; exact (below_size (by repeat (first | (with_reducible first | exact HB.out | apply below_alloc | apply pw_below_drewN | apply below_drew1 | refine below_set ?_ (IsS59.ge HI340.out) | refine below_set ?_ GE347.out) | exact HB.out))) : w.heap.size ≤ gb374)); have n5_ := Aside0.mk ((by rw [hg]; exact (below_size (by repeat (first | (with_reducible first | exact HB.out | apply below_alloc | apply pw_below_drewN | apply below_drew1 | refine below_set ?_ (IsS59.ge HI340.out) | refine below_set ?_ GE347.out) | exact HB.out))) : w.heap.size ≤ gb374)); have n6_ := Aside0.mk ((by rw [hg]; exact Nat.ne_of_lt (blk_lt (g := gb347) (o := .cells #[.int .i64 t341, .int .i64 t342, .int .i64 t343, .int .i64 t351, .int .i64 t345] 45 (0, 0)) (by (with_reducible repeat (first | refine blk_drewN ?_ _ | refine blk_drew ?_ | refine blk_alloc ?_ _)); exact BK347.out)) : gb347 ≠ gb374)); have n7_ := Aside0.mk ((by rw [hg]; exact Nat.ne_of_gt (blk_lt (g := gb347) (o := .cells #[.int .i64 t341, .int .i64 t342, .int .i64 t343, .int .i64 t351, .int .i64 t345] 45 (0, 0)) (by (with_reducible repeat (first | refine blk_drewN ?_ _ | refine blk_drew ?_ | refine blk_alloc ?_ _)); exact BK347.out)) : gb374 ≠ gb347)); have n8_ := Aside0.mk ((by rw [hg]; exact Nat.ne_of_lt (IsS59.lt (show IsS59 w _ g340 t338 x341001_1 from by repeat (first | (with_reducible first | exact HI340.out | apply IsS59.alloc | apply IsS59.drewN | apply IsS59.drew | apply IsS59.set_1 | refine IsS59.far ?_ NB340_347.out _) | exact HI340.out))) : g340 ≠ gb374)); have n9_ := Aside0.mk ((by rw [hg]; exact Nat.ne_of_gt (IsS59.lt (show IsS59 w _ g340 t338 x341001_1 from by repeat (first | (with_reducible first | exact HI340.out | apply IsS59.alloc | apply IsS59.drewN | apply IsS59.drew | apply IsS59.set_1 | refine IsS59.far ?_ NB340_347.out _) | exact HI340.out))) : gb374 ≠ g340)); clear BK347; clear HI340; clear HB; have BK347 := n0_; have HI340 := n1_; have HB := n2_; have BK374 := n3_; have GW374 := n4_; have GE374 := n5_; have NB347_374 := n6_; have NB374_347 := n7_; have NB340_374 := n8_; have NB374_340 := n9_; clear n0_ n1_ n2_ n3_ n4_ n5_ n6_ n7_ n8_ n9_; clear hb hbox hg; have hnb66 := NB374_347.out; have hnc66 := NB347_374.out; have hnb67 := NB374_340.out; have hnc67 := NB340_374.out; have hcz68_0 : w65.cell? ⟨gb374, 0, none⟩ = some (.int .i64 0) := (blk_cell BK374.out 0).trans rfl; have hcz68_1 : w65.cell? ⟨gb374, 1, none⟩ = some (.int .i64 0) := (blk_cell BK374.out 1).trans rfl; have hcz68_2 : w65.cell? ⟨gb374, 2, none⟩ = some (.int .i64 0) := (blk_cell BK374.out 2).trans rfl; have hcz68_3 : w65.cell? ⟨gb374, 3, none⟩ = some (.int .i64 0) := (blk_cell BK374.out 3).trans rfl; have hcz68_4 : w65.cell? ⟨gb374, 4, none⟩ = some (.int .i64 0) := (blk_cell BK374.out 4).trans rfl; have hfz68_0 := blk_frozen BK374.out 0; have hfz68_1 := blk_frozen BK374.out 1; have hfz68_2 := blk_frozen BK374.out 2; have hfz68_3 := blk_frozen BK374.out 3; have hfz68_4 := blk_frozen BK374.out 4) | ((with_reducible refine gate_callee (f := 17) rfl ?_); refine goesL_ (some 82) rfl rfl Try.func17 (by kernel_rfl) rfl #[.pointer (some ⟨g340, 0, none⟩), .int .i64 5] rfl (by (try simp only [List.map_toArray, List.map_cons, List.map_nil]); first | done | rfl | (simp only [List.length_drop, List.length_take]; rfl)) ?_; (with_reducible refine (made_Dice_Next.calls g340 t338 x341001_1 5 t375 t376 w _ ?side1 ?side2 A61.out).mono ?_); (case side1 => repeat (first | (with_reducible first | exact HI340.out | apply IsS59.alloc | apply IsS59.drewN | apply IsS59.drew | apply IsS59.set_1 | refine IsS59.far ?_ NB340_347.out _ | refine IsS59.far ?_ NB340_374.out _) | exact HI340.out)); (case side2 => repeat (first | (with_reducible first | exact HB.out | apply below_alloc | apply pw_below_drewN | apply below_drew1 | refine below_set ?_ (IsS59.ge HI340.out) | refine below_set ?_ GE347.out | refine below_set ?_ GE374.out) | exact HB.out)); rintro e w69 ⟨rfl, hi, hb, hk⟩; refine ⟨_, rfl, ?_⟩; have n0_ := Aside0.mk (KeepBut.blk hk (g' := gb347) (o := .cells #[.int .i64 t341, .int .i64 t342, .int .i64 t343, .int .i64 t351, .int .i64 t345] 45 (0, 0)) (by (with_reducible repeat (first | refine blk_drewN ?_ _ | refine blk_drew ?_ | refine blk_alloc ?_ _)); refine blk_far ?_ NB347_374.out _; (with_reducible repeat (first | refine blk_drewN ?_ _ | refine blk_drew ?_ | refine blk_alloc ?_ _)); refine blk_far ?_ NB347_374.out _; (with_reducible repeat (first | refine blk_drewN ?_ _ | refine blk_drew ?_ | refine blk_alloc ?_ _)); refine blk_far ?_ NB347_374.out _; (with_reducible repeat (first | refine blk_drewN ?_ _ | refine blk_drew ?_ | refine blk_alloc ?_ _)); refine blk_far ?_ NB347_374.out _; (with_reducible repeat (first | refine blk_drewN ?_ _ | refine blk_drew ?_ | refine blk_alloc ?_ _)); refine blk_far ?_ NB347_374.out _; (with_reducible repeat (first | refine blk_drewN ?_ _ | refine blk_drew ?_ | refine blk_alloc ?_ _)); exact BK347.out) NB347_340.out (by simp)); have n1_ := Aside0.mk (KeepBut.blk hk (g' := gb374) (o := .cells #[.int .i64 t341, .int .i64 t342, .int .i64 t343, .int .i64 t351, .int .i64 t345] 45 (0, 0)) (by (with_reducible repeat (first | refine blk_drewN ?_ _ | refine blk_drew ?_ | refine blk_alloc ?_ _)); refine blk_put (cs := #[.int .i64 t341, .int .i64 t342, .int .i64 t343, .int .i64 t351, .int .i64 0]) ?_ 4 _ rfl; (with_reducible repeat (first | refine blk_drewN ?_ _ | refine blk_drew ?_ | refine blk_alloc ?_ _)); refine blk_put (cs := #[.int .i64 t341, .int .i64 t342, .int .i64 t343, .int .i64 0, .int .i64 0]) ?_ 3 _ rfl; (with_reducible repeat (first | refine blk_drewN ?_ _ | refine blk_drew ?_ | refine blk_alloc ?_ _)); refine blk_put (cs := #[.int .i64 t341, .int .i64 t342, .int .i64 0, .int .i64 0, .int .i64 0]) ?_ 2 _ rfl; (with_reducible repeat (first | refine blk_drewN ?_ _ | refine blk_drew ?_ | refine blk_alloc ?_ _)); refine blk_put (cs := #[.int .i64 t341, .int .i64 0, .int .i64 0, .int .i64 0, .int .i64 0]) ?_ 1 _ rfl; (with_reducible repeat (first | refine blk_drewN ?_ _ | refine blk_drew ?_ | refine blk_alloc ?_ _)); refine blk_put (cs := #[.int .i64 0, .int .i64 0, .int .i64 0, .int .i64 0, .int .i64 0]) ?_ 0 _ rfl; (with_reducible repeat (first | refine blk_drewN ?_ _ | refine blk_drew ?_ | refine blk_alloc ?_ _)); exact BK374.out) NB374_340.out (by simp)); have n2_ := Aside0.mk (hb); have n3_ := Aside0.mk (hi); clear BK347; clear BK374; clear HB; clear HI340; have BK347 := n0_; have BK374 := n1_; have HB := n2_; have HI340 := n3_; clear n0_ n1_ n2_ n3_; (try clear hb); (try clear hb2); (try clear hk); (try clear hi)))
     (try simp only [Act.put, List.setIfInBounds_toArray, List.set_cons_zero, List.set_cons_succ])
     go_cut [] (fun wc => ∃ (kq : Nat) (x341001_61 : Int) (x375000_61 : Int) (x375001_61 : Int) (x375002_61 : Int) (x375003_61 : Int) (x375004_61 : Int), Aside0 (law37_HoistMade.j2 kq t338 x341001_61 t341 t342 t343 t351 t345 x375000_61 x375001_61 x375002_61 x375003_61 x375004_61 = some r) ∧ Aside0 (kq ≤ k1) ∧ Aside0 (wc.heap[gb347]? = some (.cells #[.int .i64 t341, .int .i64 t342, .int .i64 t343, .int .i64 t351, .int .i64 t345] 45 (0, 0))) ∧ Aside0 (wc.heap[gb374]? = some (.cells #[.int .i64 x375000_61, .int .i64 x375001_61, .int .i64 x375002_61, .int .i64 x375003_61, .int .i64 x375004_61] 45 (0, 0))) ∧ Aside0 (IsS59 w wc g340 t338 x341001_61) ∧ Aside0 (Below w.heap.size w wc))
     case first =>
      have H := HC62.out
      clear HC62
      by_cases c70 : t375 = 0
      ·rw [if_pos c70] at H
       have c70b0 : (t375 == 0) = true := beq_iff_eq.mpr c70
       have c70b1 : (t375 != 0) = false := bne_eq_false_iff_eq.mpr c70
       clear c70
       (first | rw [c70b0] | (simp only [i64_w, i32_w]; rw [c70b0]) | skip)
       obtain ⟨y377, hy377⟩ : ∃ y_ : List Int, y_ = (([0, 4000001] : List Int)) := ⟨_, rfl⟩
       replace H : ((made_Dice_Of.f t338 t376 y377).bind fun bt380 => (law37_HoistMade.j2 k1 t338 bt380.2 t341 t342 t343 t351 t345 bt380.1 t342 t343 t351 t345)) = some r := by first | (rw [hy377]; with_reducible exact H) | (have H2_ := (Option.bind_some _ _).symm.trans H; rw [hy377]; with_reducible exact H2_) | (have H2_ := (Option.bind_some _ _).symm.trans H; with_reducible exact H2_) | with_reducible exact H | (rw [hy377]; exact H) | exact H
       have Ny377 := Aside0.mk hy377
       clear hy377
       replace H := Option.bind_eq_some_iff.mp H
       obtain ⟨⟨t380, t381⟩, A710, H⟩ := H
       replace H : (law37_HoistMade.j2 k1 t338 t381 t341 t342 t343 t351 t345 t380 t342 t343 t351 t345) = some r := H
       have A71 := Aside0.mk A710
       clear A710
       have H' := Aside0.mk H
       clear H
       go_wp2_with (first | ((with_reducible refine gate_dst (N := 90) rfl ?_); (try (refine gate_guard (by rfl) ?_; dsimp only)); refine Kd.R_lit (Kd.int .i64) _ 3 ?hg (N := 90) ?hd (xs := ([0, 4000001] : List Int)) (inner := [.int .i64 0, .int .i64 4000001]) (ok := fun _ => True) (okp := fun _ => True) ?hr ?hp (fun _ hk => hk) trivial (Below.refl _ _) (Nat.le_refl _) (by simp) ?_; (case hd => rfl); (case hg => rfl); (case hr => first | (go_simp; done) | (go_simp; rfl)); (case hp => exact (Reps.one (show Kd.M (Kd.int .i64) _ _ _ 0 [.int .i64 0] from rfl) (Reps.one (show Kd.M (Kd.int .i64) _ _ _ 4000001 [.int .i64 4000001] from rfl) (Reps.none _ _)))); intro v378 w72 ho73 hb hg_ hnew_; clear hg_ hnew_; (first | rw [← Ny377.out] at ho73 | (simp only [Int.reduceToNat] at ho73; rw [← Ny377.out] at ho73)); have n0_ := Aside0.mk (Kd.R_lower ho73 (below_size (by repeat (first | (with_reducible first | exact HB.out | apply below_alloc | apply pw_below_drewN | apply below_drew1 | refine below_set ?_ (IsS59.ge HI340.out) | refine below_set ?_ GE347.out | refine below_set ?_ GE374.out) | exact HB.out)))); have n1_ := Aside0.mk (blk_below (g := gb347) (o := .cells #[.int .i64 t341, .int .i64 t342, .int .i64 t343, .int .i64 t351, .int .i64 t345] 45 (0, 0)) (by (with_reducible repeat (first | refine blk_drewN ?_ _ | refine blk_drew ?_ | refine blk_alloc ?_ _)); exact BK347.out) hb); have n2_ := Aside0.mk (IsS59.below (by repeat (first | (with_reducible first | exact HI340.out | apply IsS59.alloc | apply IsS59.drewN | apply IsS59.drew | apply IsS59.set_1 | refine IsS59.far ?_ NB340_347.out _ | refine IsS59.far ?_ NB340_374.out _) | exact HI340.out)) hb); have n3_ := Aside0.mk (blk_below (g := gb374) (o := .cells #[.int .i64 t341, .int .i64 t342, .int .i64 t343, .int .i64 t351, .int .i64 t345] 45 (0, 0)) (by (with_reducible repeat (first | refine blk_drewN ?_ _ | refine blk_drew ?_ | refine blk_alloc ?_ _)); exact BK374.out) hb); have n4_ := Aside0.mk (below_step (by repeat (first | (with_reducible first | exact HB.out | apply below_alloc | apply pw_below_drewN | apply below_drew1 | refine below_set ?_ (IsS59.ge HI340.out) | refine below_set ?_ GE347.out | refine below_set ?_ GE374.out) | exact HB.out)) hb); clear BK347; clear HI340; clear BK374; clear HB; have HO379 := n0_; have BK347 := n1_; have HI340 := n2_; have BK374 := n3_; have HB := n4_; clear n0_ n1_ n2_ n3_ n4_; clear hb ho73; obtain ⟨Ao74, co74, eo74⟩ := Kd.R_slice HO379.out; subst eo74) | ((with_reducible refine gate_callee (f := 16) rfl ?_); refine goesL_ (some 91) rfl rfl Try.func16 (by kernel_rfl) rfl #[.pointer (some ⟨g340, 0, none⟩), .slice Ao74 y377.length co74] rfl (by (try simp only [List.map_toArray, List.map_cons, List.map_nil]); first | done | rfl | (simp only [List.length_drop, List.length_take]; rfl)) ?_; (with_reducible refine (made_Dice_Of.calls g340 t338 t376 _ _ y377 t380 t381 w _ ?side1 ?side2 ?side3 ?side4 ?side5 A71.out).mono ?_); (case side1 => repeat (first | (with_reducible first | exact HI340.out | apply IsS59.alloc | apply IsS59.drewN | apply IsS59.drew | apply IsS59.set_1 | refine IsS59.far ?_ NB340_347.out _ | refine IsS59.far ?_ NB340_374.out _) | exact HI340.out)); (case side2 => repeat (first | (with_reducible first | exact HB.out | apply below_alloc | apply pw_below_drewN | apply below_drew1 | refine below_set ?_ (IsS59.ge HI340.out) | refine below_set ?_ GE347.out | refine below_set ?_ GE374.out) | exact HB.out)); (case side3 => repeat (first | exact (Kd.R_reads' HO379.out).2.2 | (with_reducible refine Kd.C_alloc ?_ _) | (with_reducible refine Kd.C_drewN ?_ _) | (with_reducible refine Kd.C_drew ?_))); (case side4 => exact (Kd.R_reads' HO379.out).2.1); (case side5 => exact far_slice (IsS59.own_ne HI340.out HO379.out (by decide))); rintro e w75 ⟨rfl, hi, hb, hk⟩; refine ⟨_, rfl, ?_⟩; have n0_ := Aside0.mk (KeepBut.blk hk (g' := gb347) (o := .cells #[.int .i64 t341, .int .i64 t342, .int .i64 t343, .int .i64 t351, .int .i64 t345] 45 (0, 0)) (by (with_reducible repeat (first | refine blk_drewN ?_ _ | refine blk_drew ?_ | refine blk_alloc ?_ _)); exact BK347.out) NB347_340.out (by simp)); have n1_ := Aside0.mk (KeepBut.blk hk (g' := gb374) (o := .cells #[.int .i64 t341, .int .i64 t342, .int .i64 t343, .int .i64 t351, .int .i64 t345] 45 (0, 0)) (by (with_reducible repeat (first | refine blk_drewN ?_ _ | refine blk_drew ?_ | refine blk_alloc ?_ _)); exact BK374.out) NB374_340.out (by simp)); have n2_ := Aside0.mk (Kd.R_mono (Kd.R_keep (IsS59.apart (show IsS59 w _ g340 t338 t376 from by repeat (first | (with_reducible first | exact HI340.out | apply IsS59.alloc | apply IsS59.drewN | apply IsS59.drew | apply IsS59.set_1 | refine IsS59.far ?_ NB340_347.out _ | refine IsS59.far ?_ NB340_374.out _) | exact HI340.out)) (by (with_reducible repeat (first | apply Kd.R_alloc | apply Kd.R_drewN | apply Kd.R_drew)); exact HO379.out) (by decide)) hk (fun _ h => h.2)) (fun _ h => h.1)); have n3_ := Aside0.mk (hb); have n4_ := Aside0.mk (hi); clear BK347; clear BK374; clear HO379; clear HB; clear HI340; have BK347 := n0_; have BK374 := n1_; have HO379 := n2_; have HB := n3_; have HI340 := n4_; clear n0_ n1_ n2_ n3_ n4_; (try clear hb); (try clear hb2); (try clear hk); (try clear hi); have hnb76 := NB374_347.out; have hnc76 := NB347_374.out; have hnb77 := NB374_340.out; have hnc77 := NB340_374.out; have hcz78_0 : w75.cell? ⟨gb374, 0, none⟩ = some (.int .i64 t341) := (blk_cell BK374.out 0).trans rfl; have hcz78_1 : w75.cell? ⟨gb374, 1, none⟩ = some (.int .i64 t342) := (blk_cell BK374.out 1).trans rfl; have hcz78_2 : w75.cell? ⟨gb374, 2, none⟩ = some (.int .i64 t343) := (blk_cell BK374.out 2).trans rfl; have hcz78_3 : w75.cell? ⟨gb374, 3, none⟩ = some (.int .i64 t351) := (blk_cell BK374.out 3).trans rfl; have hcz78_4 : w75.cell? ⟨gb374, 4, none⟩ = some (.int .i64 t345) := (blk_cell BK374.out 4).trans rfl; have hfz78_0 := blk_frozen BK374.out 0; have hfz78_1 := blk_frozen BK374.out 1; have hfz78_2 := blk_frozen BK374.out 2; have hfz78_3 := blk_frozen BK374.out 3; have hfz78_4 := blk_frozen BK374.out 4))
       go_meet
       case rel => exact ⟨_, (t381), (t380), (t342), (t343), (t351), (t345), H', ⟨by have := HK1.out; first | omega | exact Nat.le_refl _⟩, ⟨by (with_reducible repeat (first | refine blk_drewN ?_ _ | refine blk_drew ?_ | refine blk_alloc ?_ _)); refine blk_far ?_ NB347_374.out _; (with_reducible repeat (first | refine blk_drewN ?_ _ | refine blk_drew ?_ | refine blk_alloc ?_ _)); exact BK347.out⟩, ⟨by (with_reducible repeat (first | refine blk_drewN ?_ _ | refine blk_drew ?_ | refine blk_alloc ?_ _)); refine blk_put (cs := #[.int .i64 t341, .int .i64 t342, .int .i64 t343, .int .i64 t351, .int .i64 t345]) ?_ 0 _ rfl; (with_reducible repeat (first | refine blk_drewN ?_ _ | refine blk_drew ?_ | refine blk_alloc ?_ _)); exact BK374.out⟩, ⟨by repeat (first | (with_reducible first | exact HI340.out | apply IsS59.alloc | apply IsS59.drewN | apply IsS59.drew | apply IsS59.set_1 | refine IsS59.far ?_ NB340_347.out _ | refine IsS59.far ?_ NB340_374.out _) | exact HI340.out)⟩, ⟨by repeat (first | (with_reducible first | exact HB.out | apply below_alloc | apply pw_below_drewN | apply below_drew1 | refine below_set ?_ (IsS59.ge HI340.out) | refine below_set ?_ GE347.out | refine below_set ?_ GE374.out) | exact HB.out)⟩⟩
      ·rw [if_neg c70] at H
       have c70b0 : (t375 == 0) = false := beq_eq_false_iff_ne.mpr c70
       have c70b1 : (t375 != 0) = true := bne_iff_ne.mpr c70
       (first | rw [c70b0] | (simp only [i64_w, i32_w]; rw [c70b0]) | skip)
       by_cases c79 : t375 = 1
       ·rw [if_pos c79] at H
        have c79b0 : (t375 == 1) = true := beq_iff_eq.mpr c79
        have c79b1 : (t375 != 1) = false := bne_eq_false_iff_eq.mpr c79
        clear c79
        obtain ⟨y382, hy382⟩ : ∃ y_ : List Int, y_ = (([0, 20001] : List Int)) := ⟨_, rfl⟩
        replace H : ((made_Dice_Of.f t338 t376 y382).bind fun bt385 => (law37_HoistMade.j2 k1 t338 bt385.2 t341 t342 t343 t351 t345 t341 bt385.1 t343 t351 t345)) = some r := by first | (rw [hy382]; with_reducible exact H) | (have H2_ := (Option.bind_some _ _).symm.trans H; rw [hy382]; with_reducible exact H2_) | (have H2_ := (Option.bind_some _ _).symm.trans H; with_reducible exact H2_) | with_reducible exact H | (rw [hy382]; exact H) | exact H
        have Ny382 := Aside0.mk hy382
        clear hy382
        replace H := Option.bind_eq_some_iff.mp H
        obtain ⟨⟨t385, t386⟩, A800, H⟩ := H
        replace H : (law37_HoistMade.j2 k1 t338 t386 t341 t342 t343 t351 t345 t341 t385 t343 t351 t345) = some r := H
        have A80 := Aside0.mk A800
        clear A800
        have H' := Aside0.mk H
        clear H
        go_wp2_with (first | ((with_reducible refine gate_dst (N := 96) rfl ?_); (try (refine gate_guard (by rfl) ?_; dsimp only)); refine Kd.R_lit (Kd.int .i64) _ 3 ?hg (N := 96) ?hd (xs := ([0, 20001] : List Int)) (inner := [.int .i64 0, .int .i64 20001]) (ok := fun _ => True) (okp := fun _ => True) ?hr ?hp (fun _ hk => hk) trivial (Below.refl _ _) (Nat.le_refl _) (by simp) ?_; (case hd => rfl); (case hg => rfl); (case hr => first | (go_simp; done) | (go_simp; rfl)); (case hp => exact (Reps.one (show Kd.M (Kd.int .i64) _ _ _ 0 [.int .i64 0] from rfl) (Reps.one (show Kd.M (Kd.int .i64) _ _ _ 20001 [.int .i64 20001] from rfl) (Reps.none _ _)))); intro v383 w81 ho82 hb hg_ hnew_; clear hg_ hnew_; (first | rw [← Ny382.out] at ho82 | (simp only [Int.reduceToNat] at ho82; rw [← Ny382.out] at ho82)); have n0_ := Aside0.mk (Kd.R_lower ho82 (below_size (by repeat (first | (with_reducible first | exact HB.out | apply below_alloc | apply pw_below_drewN | apply below_drew1 | refine below_set ?_ (IsS59.ge HI340.out) | refine below_set ?_ GE347.out | refine below_set ?_ GE374.out) | exact HB.out)))); have n1_ := Aside0.mk (blk_below (g := gb347) (o := .cells #[.int .i64 t341, .int .i64 t342, .int .i64 t343, .int .i64 t351, .int .i64 t345] 45 (0, 0)) (by (with_reducible repeat (first | refine blk_drewN ?_ _ | refine blk_drew ?_ | refine blk_alloc ?_ _)); exact BK347.out) hb); have n2_ := Aside0.mk (IsS59.below (by repeat (first | (with_reducible first | exact HI340.out | apply IsS59.alloc | apply IsS59.drewN | apply IsS59.drew | apply IsS59.set_1 | refine IsS59.far ?_ NB340_347.out _ | refine IsS59.far ?_ NB340_374.out _) | exact HI340.out)) hb); have n3_ := Aside0.mk (blk_below (g := gb374) (o := .cells #[.int .i64 t341, .int .i64 t342, .int .i64 t343, .int .i64 t351, .int .i64 t345] 45 (0, 0)) (by (with_reducible repeat (first | refine blk_drewN ?_ _ | refine blk_drew ?_ | refine blk_alloc ?_ _)); exact BK374.out) hb); have n4_ := Aside0.mk (below_step (by repeat (first | (with_reducible first | exact HB.out | apply below_alloc | apply pw_below_drewN | apply below_drew1 | refine below_set ?_ (IsS59.ge HI340.out) | refine below_set ?_ GE347.out | refine below_set ?_ GE374.out) | exact HB.out)) hb); clear BK347; clear HI340; clear BK374; clear HB; have HO384 := n0_; have BK347 := n1_; have HI340 := n2_; have BK374 := n3_; have HB := n4_; clear n0_ n1_ n2_ n3_ n4_; clear hb ho82; obtain ⟨Ao83, co83, eo83⟩ := Kd.R_slice HO384.out; subst eo83) | ((with_reducible refine gate_callee (f := 16) rfl ?_); refine goesL_ (some 97) rfl rfl Try.func16 (by kernel_rfl) rfl #[.pointer (some ⟨g340, 0, none⟩), .slice Ao83 y382.length co83] rfl (by (try simp only [List.map_toArray, List.map_cons, List.map_nil]); first | done | rfl | (simp only [List.length_drop, List.length_take]; rfl)) ?_; (with_reducible refine (made_Dice_Of.calls g340 t338 t376 _ _ y382 t385 t386 w _ ?side1 ?side2 ?side3 ?side4 ?side5 A80.out).mono ?_); (case side1 => repeat (first | (with_reducible first | exact HI340.out | apply IsS59.alloc | apply IsS59.drewN | apply IsS59.drew | apply IsS59.set_1 | refine IsS59.far ?_ NB340_347.out _ | refine IsS59.far ?_ NB340_374.out _) | exact HI340.out)); (case side2 => repeat (first | (with_reducible first | exact HB.out | apply below_alloc | apply pw_below_drewN | apply below_drew1 | refine below_set ?_ (IsS59.ge HI340.out) | refine below_set ?_ GE347.out | refine below_set ?_ GE374.out) | exact HB.out)); (case side3 => repeat (first | exact (Kd.R_reads' HO384.out).2.2 | (with_reducible refine Kd.C_alloc ?_ _) | (with_reducible refine Kd.C_drewN ?_ _) | (with_reducible refine Kd.C_drew ?_))); (case side4 => exact (Kd.R_reads' HO384.out).2.1); (case side5 => exact far_slice (IsS59.own_ne HI340.out HO384.out (by decide))); rintro e w84 ⟨rfl, hi, hb, hk⟩; refine ⟨_, rfl, ?_⟩; have n0_ := Aside0.mk (KeepBut.blk hk (g' := gb347) (o := .cells #[.int .i64 t341, .int .i64 t342, .int .i64 t343, .int .i64 t351, .int .i64 t345] 45 (0, 0)) (by (with_reducible repeat (first | refine blk_drewN ?_ _ | refine blk_drew ?_ | refine blk_alloc ?_ _)); exact BK347.out) NB347_340.out (by simp)); have n1_ := Aside0.mk (KeepBut.blk hk (g' := gb374) (o := .cells #[.int .i64 t341, .int .i64 t342, .int .i64 t343, .int .i64 t351, .int .i64 t345] 45 (0, 0)) (by (with_reducible repeat (first | refine blk_drewN ?_ _ | refine blk_drew ?_ | refine blk_alloc ?_ _)); exact BK374.out) NB374_340.out (by simp)); have n2_ := Aside0.mk (Kd.R_mono (Kd.R_keep (IsS59.apart (show IsS59 w _ g340 t338 t376 from by repeat (first | (with_reducible first | exact HI340.out | apply IsS59.alloc | apply IsS59.drewN | apply IsS59.drew | apply IsS59.set_1 | refine IsS59.far ?_ NB340_347.out _ | refine IsS59.far ?_ NB340_374.out _) | exact HI340.out)) (by (with_reducible repeat (first | apply Kd.R_alloc | apply Kd.R_drewN | apply Kd.R_drew)); exact HO384.out) (by decide)) hk (fun _ h => h.2)) (fun _ h => h.1)); have n3_ := Aside0.mk (hb); have n4_ := Aside0.mk (hi); clear BK347; clear BK374; clear HO384; clear HB; clear HI340; have BK347 := n0_; have BK374 := n1_; have HO384 := n2_; have HB := n3_; have HI340 := n4_; clear n0_ n1_ n2_ n3_ n4_; (try clear hb); (try clear hb2); (try clear hk); (try clear hi); have hnb85 := NB374_347.out; have hnc85 := NB347_374.out; have hnb86 := NB374_340.out; have hnc86 := NB340_374.out; have hcz87_0 : w84.cell? ⟨gb374, 0, none⟩ = some (.int .i64 t341) := (blk_cell BK374.out 0).trans rfl; have hcz87_1 : w84.cell? ⟨gb374, 1, none⟩ = some (.int .i64 t342) := (blk_cell BK374.out 1).trans rfl; have hcz87_2 : w84.cell? ⟨gb374, 2, none⟩ = some (.int .i64 t343) := (blk_cell BK374.out 2).trans rfl; have hcz87_3 : w84.cell? ⟨gb374, 3, none⟩ = some (.int .i64 t351) := (blk_cell BK374.out 3).trans rfl; have hcz87_4 : w84.cell? ⟨gb374, 4, none⟩ = some (.int .i64 t345) := (blk_cell BK374.out 4).trans rfl; have hfz87_0 := blk_frozen BK374.out 0; have hfz87_1 := blk_frozen BK374.out 1; have hfz87_2 := blk_frozen BK374.out 2; have hfz87_3 := blk_frozen BK374.out 3; have hfz87_4 := blk_frozen BK374.out 4))
        go_meet
        case rel => exact ⟨_, (t386), (t341), (t385), (t343), (t351), (t345), H', ⟨by have := HK1.out; first | omega | exact Nat.le_refl _⟩, ⟨by (with_reducible repeat (first | refine blk_drewN ?_ _ | refine blk_drew ?_ | refine blk_alloc ?_ _)); refine blk_far ?_ NB347_374.out _; (with_reducible repeat (first | refine blk_drewN ?_ _ | refine blk_drew ?_ | refine blk_alloc ?_ _)); exact BK347.out⟩, ⟨by (with_reducible repeat (first | refine blk_drewN ?_ _ | refine blk_drew ?_ | refine blk_alloc ?_ _)); refine blk_put (cs := #[.int .i64 t341, .int .i64 t342, .int .i64 t343, .int .i64 t351, .int .i64 t345]) ?_ 1 _ rfl; (with_reducible repeat (first | refine blk_drewN ?_ _ | refine blk_drew ?_ | refine blk_alloc ?_ _)); exact BK374.out⟩, ⟨by repeat (first | (with_reducible first | exact HI340.out | apply IsS59.alloc | apply IsS59.drewN | apply IsS59.drew | apply IsS59.set_1 | refine IsS59.far ?_ NB340_347.out _ | refine IsS59.far ?_ NB340_374.out _) | exact HI340.out)⟩, ⟨by repeat (first | (with_reducible first | exact HB.out | apply below_alloc | apply pw_below_drewN | apply below_drew1 | refine below_set ?_ (IsS59.ge HI340.out) | refine below_set ?_ GE347.out | refine below_set ?_ GE374.out) | exact HB.out)⟩⟩
       ·rw [if_neg c79] at H
        have c79b0 : (t375 == 1) = false := beq_eq_false_iff_ne.mpr c79
        have c79b1 : (t375 != 1) = true := bne_iff_ne.mpr c79
        by_cases c88 : t375 = 2
        ·rw [if_pos c88] at H
         have c88b0 : (t375 == 2) = true := beq_iff_eq.mpr c88
         have c88b1 : (t375 != 2) = false := bne_eq_false_iff_eq.mpr c88
         clear c88
         obtain ⟨y387, hy387⟩ : ∃ y_ : List Int, y_ = (([0, 5001] : List Int)) := ⟨_, rfl⟩
         replace H : ((made_Dice_Of.f t338 t376 y387).bind fun bt390 => (law37_HoistMade.j2 k1 t338 bt390.2 t341 t342 t343 t351 t345 t341 t342 bt390.1 t351 t345)) = some r := by first | (rw [hy387]; with_reducible exact H) | (have H2_ := (Option.bind_some _ _).symm.trans H; rw [hy387]; with_reducible exact H2_) | (have H2_ := (Option.bind_some _ _).symm.trans H; with_reducible exact H2_) | with_reducible exact H | (rw [hy387]; exact H) | exact H
         have Ny387 := Aside0.mk hy387
         clear hy387
         replace H := Option.bind_eq_some_iff.mp H
         obtain ⟨⟨t390, t391⟩, A890, H⟩ := H
         replace H : (law37_HoistMade.j2 k1 t338 t391 t341 t342 t343 t351 t345 t341 t342 t390 t351 t345) = some r := H
         have A89 := Aside0.mk A890
         clear A890
         have H' := Aside0.mk H
         clear H
         go_wp2_with (first | ((with_reducible refine gate_dst (N := 102) rfl ?_); (try (refine gate_guard (by rfl) ?_; dsimp only)); refine Kd.R_lit (Kd.int .i64) _ 3 ?hg (N := 102) ?hd (xs := ([0, 5001] : List Int)) (inner := [.int .i64 0, .int .i64 5001]) (ok := fun _ => True) (okp := fun _ => True) ?hr ?hp (fun _ hk => hk) trivial (Below.refl _ _) (Nat.le_refl _) (by simp) ?_; (case hd => rfl); (case hg => rfl); (case hr => first | (go_simp; done) | (go_simp; rfl)); (case hp => exact (Reps.one (show Kd.M (Kd.int .i64) _ _ _ 0 [.int .i64 0] from rfl) (Reps.one (show Kd.M (Kd.int .i64) _ _ _ 5001 [.int .i64 5001] from rfl) (Reps.none _ _)))); intro v388 w90 ho91 hb hg_ hnew_; clear hg_ hnew_; (first | rw [← Ny387.out] at ho91 | (simp only [Int.reduceToNat] at ho91; rw [← Ny387.out] at ho91)); have n0_ := Aside0.mk (Kd.R_lower ho91 (below_size (by repeat (first | (with_reducible first | exact HB.out | apply below_alloc | apply pw_below_drewN | apply below_drew1 | refine below_set ?_ (IsS59.ge HI340.out) | refine below_set ?_ GE347.out | refine below_set ?_ GE374.out) | exact HB.out)))); have n1_ := Aside0.mk (blk_below (g := gb347) (o := .cells #[.int .i64 t341, .int .i64 t342, .int .i64 t343, .int .i64 t351, .int .i64 t345] 45 (0, 0)) (by (with_reducible repeat (first | refine blk_drewN ?_ _ | refine blk_drew ?_ | refine blk_alloc ?_ _)); exact BK347.out) hb); have n2_ := Aside0.mk (IsS59.below (by repeat (first | (with_reducible first | exact HI340.out | apply IsS59.alloc | apply IsS59.drewN | apply IsS59.drew | apply IsS59.set_1 | refine IsS59.far ?_ NB340_347.out _ | refine IsS59.far ?_ NB340_374.out _) | exact HI340.out)) hb); have n3_ := Aside0.mk (blk_below (g := gb374) (o := .cells #[.int .i64 t341, .int .i64 t342, .int .i64 t343, .int .i64 t351, .int .i64 t345] 45 (0, 0)) (by (with_reducible repeat (first | refine blk_drewN ?_ _ | refine blk_drew ?_ | refine blk_alloc ?_ _)); exact BK374.out) hb); have n4_ := Aside0.mk (below_step (by repeat (first | (with_reducible first | exact HB.out | apply below_alloc | apply pw_below_drewN | apply below_drew1 | refine below_set ?_ (IsS59.ge HI340.out) | refine below_set ?_ GE347.out | refine below_set ?_ GE374.out) | exact HB.out)) hb); clear BK347; clear HI340; clear BK374; clear HB; have HO389 := n0_; have BK347 := n1_; have HI340 := n2_; have BK374 := n3_; have HB := n4_; clear n0_ n1_ n2_ n3_ n4_; clear hb ho91; obtain ⟨Ao92, co92, eo92⟩ := Kd.R_slice HO389.out; subst eo92) | ((with_reducible refine gate_callee (f := 16) rfl ?_); refine goesL_ (some 103) rfl rfl Try.func16 (by kernel_rfl) rfl #[.pointer (some ⟨g340, 0, none⟩), .slice Ao92 y387.length co92] rfl (by (try simp only [List.map_toArray, List.map_cons, List.map_nil]); first | done | rfl | (simp only [List.length_drop, List.length_take]; rfl)) ?_; (with_reducible refine (made_Dice_Of.calls g340 t338 t376 _ _ y387 t390 t391 w _ ?side1 ?side2 ?side3 ?side4 ?side5 A89.out).mono ?_); (case side1 => repeat (first | (with_reducible first | exact HI340.out | apply IsS59.alloc | apply IsS59.drewN | apply IsS59.drew | apply IsS59.set_1 | refine IsS59.far ?_ NB340_347.out _ | refine IsS59.far ?_ NB340_374.out _) | exact HI340.out)); (case side2 => repeat (first | (with_reducible first | exact HB.out | apply below_alloc | apply pw_below_drewN | apply below_drew1 | refine below_set ?_ (IsS59.ge HI340.out) | refine below_set ?_ GE347.out | refine below_set ?_ GE374.out) | exact HB.out)); (case side3 => repeat (first | exact (Kd.R_reads' HO389.out).2.2 | (with_reducible refine Kd.C_alloc ?_ _) | (with_reducible refine Kd.C_drewN ?_ _) | (with_reducible refine Kd.C_drew ?_))); (case side4 => exact (Kd.R_reads' HO389.out).2.1); (case side5 => exact far_slice (IsS59.own_ne HI340.out HO389.out (by decide))); rintro e w93 ⟨rfl, hi, hb, hk⟩; refine ⟨_, rfl, ?_⟩; have n0_ := Aside0.mk (KeepBut.blk hk (g' := gb347) (o := .cells #[.int .i64 t341, .int .i64 t342, .int .i64 t343, .int .i64 t351, .int .i64 t345] 45 (0, 0)) (by (with_reducible repeat (first | refine blk_drewN ?_ _ | refine blk_drew ?_ | refine blk_alloc ?_ _)); exact BK347.out) NB347_340.out (by simp)); have n1_ := Aside0.mk (KeepBut.blk hk (g' := gb374) (o := .cells #[.int .i64 t341, .int .i64 t342, .int .i64 t343, .int .i64 t351, .int .i64 t345] 45 (0, 0)) (by (with_reducible repeat (first | refine blk_drewN ?_ _ | refine blk_drew ?_ | refine blk_alloc ?_ _)); exact BK374.out) NB374_340.out (by simp)); have n2_ := Aside0.mk (Kd.R_mono (Kd.R_keep (IsS59.apart (show IsS59 w _ g340 t338 t376 from by repeat (first | (with_reducible first | exact HI340.out | apply IsS59.alloc | apply IsS59.drewN | apply IsS59.drew | apply IsS59.set_1 | refine IsS59.far ?_ NB340_347.out _ | refine IsS59.far ?_ NB340_374.out _) | exact HI340.out)) (by (with_reducible repeat (first | apply Kd.R_alloc | apply Kd.R_drewN | apply Kd.R_drew)); exact HO389.out) (by decide)) hk (fun _ h => h.2)) (fun _ h => h.1)); have n3_ := Aside0.mk (hb); have n4_ := Aside0.mk (hi); clear BK347; clear BK374; clear HO389; clear HB; clear HI340; have BK347 := n0_; have BK374 := n1_; have HO389 := n2_; have HB := n3_; have HI340 := n4_; clear n0_ n1_ n2_ n3_ n4_; (try clear hb); (try clear hb2); (try clear hk); (try clear hi); have hnb94 := NB374_347.out; have hnc94 := NB347_374.out; have hnb95 := NB374_340.out; have hnc95 := NB340_374.out; have hcz96_0 : w93.cell? ⟨gb374, 0, none⟩ = some (.int .i64 t341) := (blk_cell BK374.out 0).trans rfl; have hcz96_1 : w93.cell? ⟨gb374, 1, none⟩ = some (.int .i64 t342) := (blk_cell BK374.out 1).trans rfl; have hcz96_2 : w93.cell? ⟨gb374, 2, none⟩ = some (.int .i64 t343) := (blk_cell BK374.out 2).trans rfl; have hcz96_3 : w93.cell? ⟨gb374, 3, none⟩ = some (.int .i64 t351) := (blk_cell BK374.out 3).trans rfl; have hcz96_4 : w93.cell? ⟨gb374, 4, none⟩ = some (.int .i64 t345) := (blk_cell BK374.out 4).trans rfl; have hfz96_0 := blk_frozen BK374.out 0; have hfz96_1 := blk_frozen BK374.out 1; have hfz96_2 := blk_frozen BK374.out 2; have hfz96_3 := blk_frozen BK374.out 3; have hfz96_4 := blk_frozen BK374.out 4))
         go_meet
         case rel => exact ⟨_, (t391), (t341), (t342), (t390), (t351), (t345), H', ⟨by have := HK1.out; first | omega | exact Nat.le_refl _⟩, ⟨by (with_reducible repeat (first | refine blk_drewN ?_ _ | refine blk_drew ?_ | refine blk_alloc ?_ _)); refine blk_far ?_ NB347_374.out _; (with_reducible repeat (first | refine blk_drewN ?_ _ | refine blk_drew ?_ | refine blk_alloc ?_ _)); exact BK347.out⟩, ⟨by (with_reducible repeat (first | refine blk_drewN ?_ _ | refine blk_drew ?_ | refine blk_alloc ?_ _)); refine blk_put (cs := #[.int .i64 t341, .int .i64 t342, .int .i64 t343, .int .i64 t351, .int .i64 t345]) ?_ 2 _ rfl; (with_reducible repeat (first | refine blk_drewN ?_ _ | refine blk_drew ?_ | refine blk_alloc ?_ _)); exact BK374.out⟩, ⟨by repeat (first | (with_reducible first | exact HI340.out | apply IsS59.alloc | apply IsS59.drewN | apply IsS59.drew | apply IsS59.set_1 | refine IsS59.far ?_ NB340_347.out _ | refine IsS59.far ?_ NB340_374.out _) | exact HI340.out)⟩, ⟨by repeat (first | (with_reducible first | exact HB.out | apply below_alloc | apply pw_below_drewN | apply below_drew1 | refine below_set ?_ (IsS59.ge HI340.out) | refine below_set ?_ GE347.out | refine below_set ?_ GE374.out) | exact HB.out)⟩⟩
        ·rw [if_neg c88] at H
         have c88b0 : (t375 == 2) = false := beq_eq_false_iff_ne.mpr c88
         have c88b1 : (t375 != 2) = true := bne_iff_ne.mpr c88
         by_cases c97 : t375 = 3
         ·rw [if_pos c97] at H
          have c97b0 : (t375 == 3) = true := beq_iff_eq.mpr c97
          have c97b1 : (t375 != 3) = false := bne_eq_false_iff_eq.mpr c97
          clear c97
          obtain ⟨y392, hy392⟩ : ∃ y_ : List Int, y_ = (([(-1), wrap64 (t342 + 1)] : List Int)) := ⟨_, rfl⟩
          replace H : ((made_Dice_Of.f t338 t376 y392).bind fun bt395 => (law37_HoistMade.j2 k1 t338 bt395.2 t341 t342 t343 t351 t345 t341 t342 t343 bt395.1 t345)) = some r := by first | (rw [hy392]; with_reducible exact H) | (have H2_ := (Option.bind_some _ _).symm.trans H; rw [hy392]; with_reducible exact H2_) | (have H2_ := (Option.bind_some _ _).symm.trans H; with_reducible exact H2_) | with_reducible exact H | (rw [hy392]; exact H) | exact H
          have Ny392 := Aside0.mk hy392
          clear hy392
          replace H := Option.bind_eq_some_iff.mp H
          obtain ⟨⟨t395, t396⟩, A980, H⟩ := H
          replace H : (law37_HoistMade.j2 k1 t338 t396 t341 t342 t343 t351 t345 t341 t342 t343 t395 t345) = some r := H
          have A98 := Aside0.mk A980
          clear A980
          have H' := Aside0.mk H
          clear H
          have hnb99 := NB347_374.out
          have hnc99 := NB374_347.out
          have hnb100 := NB347_340.out
          have hnc100 := NB340_347.out
          have hcz101_0 : w69.cell? ⟨gb347, 0, none⟩ = some (.int .i64 t341) := (blk_cell BK347.out 0).trans rfl
          have hcz101_1 : w69.cell? ⟨gb347, 1, none⟩ = some (.int .i64 t342) := (blk_cell BK347.out 1).trans rfl
          have hcz101_2 : w69.cell? ⟨gb347, 2, none⟩ = some (.int .i64 t343) := (blk_cell BK347.out 2).trans rfl
          have hcz101_3 : w69.cell? ⟨gb347, 3, none⟩ = some (.int .i64 t351) := (blk_cell BK347.out 3).trans rfl
          have hcz101_4 : w69.cell? ⟨gb347, 4, none⟩ = some (.int .i64 t345) := (blk_cell BK347.out 4).trans rfl
          have hfz101_0 := blk_frozen BK347.out 0
          have hfz101_1 := blk_frozen BK347.out 1
          have hfz101_2 := blk_frozen BK347.out 2
          have hfz101_3 := blk_frozen BK347.out 3
          have hfz101_4 := blk_frozen BK347.out 4
          go_wp2_with (first | ((with_reducible refine gate_dst (N := 111) rfl ?_); (try (refine gate_guard (by rfl) ?_; dsimp only)); refine Kd.R_lit (Kd.int .i64) _ 3 ?hg (N := 111) ?hd (xs := ([(-1), wrap64 (t342 + 1)] : List Int)) (inner := [.int .i64 (-1), .int .i64 (wrap64 (t342 + 1))]) (ok := fun _ => True) (okp := fun _ => True) ?hr ?hp (fun _ hk => hk) trivial (Below.refl _ _) (Nat.le_refl _) (by simp) ?_; (case hd => rfl); (case hg => rfl); (case hr => first | (go_simp; done) | (go_simp; rfl)); (case hp => exact (Reps.one (show Kd.M (Kd.int .i64) _ _ _ (-1) [.int .i64 (-1)] from rfl) (Reps.one (show Kd.M (Kd.int .i64) _ _ _ (wrap64 (t342 + 1)) [.int .i64 (wrap64 (t342 + 1))] from rfl) (Reps.none _ _)))); intro v393 w102 ho103 hb hg_ hnew_; clear hg_ hnew_; (first | rw [← Ny392.out] at ho103 | (simp only [Int.reduceToNat] at ho103; rw [← Ny392.out] at ho103)); have n0_ := Aside0.mk (Kd.R_lower ho103 (below_size (by repeat (first | (with_reducible first | exact HB.out | apply below_alloc | apply pw_below_drewN | apply below_drew1 | refine below_set ?_ (IsS59.ge HI340.out) | refine below_set ?_ GE347.out | refine below_set ?_ GE374.out) | exact HB.out)))); have n1_ := Aside0.mk (blk_below (g := gb347) (o := .cells #[.int .i64 t341, .int .i64 t342, .int .i64 t343, .int .i64 t351, .int .i64 t345] 45 (0, 0)) (by (with_reducible repeat (first | refine blk_drewN ?_ _ | refine blk_drew ?_ | refine blk_alloc ?_ _)); exact BK347.out) hb); have n2_ := Aside0.mk (IsS59.below (by repeat (first | (with_reducible first | exact HI340.out | apply IsS59.alloc | apply IsS59.drewN | apply IsS59.drew | apply IsS59.set_1 | refine IsS59.far ?_ NB340_347.out _ | refine IsS59.far ?_ NB340_374.out _) | exact HI340.out)) hb); have n3_ := Aside0.mk (blk_below (g := gb374) (o := .cells #[.int .i64 t341, .int .i64 t342, .int .i64 t343, .int .i64 t351, .int .i64 t345] 45 (0, 0)) (by (with_reducible repeat (first | refine blk_drewN ?_ _ | refine blk_drew ?_ | refine blk_alloc ?_ _)); exact BK374.out) hb); have n4_ := Aside0.mk (below_step (by repeat (first | (with_reducible first | exact HB.out | apply below_alloc | apply pw_below_drewN | apply below_drew1 | refine below_set ?_ (IsS59.ge HI340.out) | refine below_set ?_ GE347.out | refine below_set ?_ GE374.out) | exact HB.out)) hb); clear BK347; clear HI340; clear BK374; clear HB; have HO394 := n0_; have BK347 := n1_; have HI340 := n2_; have BK374 := n3_; have HB := n4_; clear n0_ n1_ n2_ n3_ n4_; clear hb ho103; obtain ⟨Ao104, co104, eo104⟩ := Kd.R_slice HO394.out; subst eo104) | ((with_reducible refine gate_callee (f := 16) rfl ?_); refine goesL_ (some 112) rfl rfl Try.func16 (by kernel_rfl) rfl #[.pointer (some ⟨g340, 0, none⟩), .slice Ao104 y392.length co104] rfl (by (try simp only [List.map_toArray, List.map_cons, List.map_nil]); first | done | rfl | (simp only [List.length_drop, List.length_take]; rfl)) ?_; (with_reducible refine (made_Dice_Of.calls g340 t338 t376 _ _ y392 t395 t396 w _ ?side1 ?side2 ?side3 ?side4 ?side5 A98.out).mono ?_); (case side1 => repeat (first | (with_reducible first | exact HI340.out | apply IsS59.alloc | apply IsS59.drewN | apply IsS59.drew | apply IsS59.set_1 | refine IsS59.far ?_ NB340_347.out _ | refine IsS59.far ?_ NB340_374.out _) | exact HI340.out)); (case side2 => repeat (first | (with_reducible first | exact HB.out | apply below_alloc | apply pw_below_drewN | apply below_drew1 | refine below_set ?_ (IsS59.ge HI340.out) | refine below_set ?_ GE347.out | refine below_set ?_ GE374.out) | exact HB.out)); (case side3 => repeat (first | exact (Kd.R_reads' HO394.out).2.2 | (with_reducible refine Kd.C_alloc ?_ _) | (with_reducible refine Kd.C_drewN ?_ _) | (with_reducible refine Kd.C_drew ?_))); (case side4 => exact (Kd.R_reads' HO394.out).2.1); (case side5 => exact far_slice (IsS59.own_ne HI340.out HO394.out (by decide))); rintro e w105 ⟨rfl, hi, hb, hk⟩; refine ⟨_, rfl, ?_⟩; have n0_ := Aside0.mk (KeepBut.blk hk (g' := gb347) (o := .cells #[.int .i64 t341, .int .i64 t342, .int .i64 t343, .int .i64 t351, .int .i64 t345] 45 (0, 0)) (by (with_reducible repeat (first | refine blk_drewN ?_ _ | refine blk_drew ?_ | refine blk_alloc ?_ _)); exact BK347.out) NB347_340.out (by simp)); have n1_ := Aside0.mk (KeepBut.blk hk (g' := gb374) (o := .cells #[.int .i64 t341, .int .i64 t342, .int .i64 t343, .int .i64 t351, .int .i64 t345] 45 (0, 0)) (by (with_reducible repeat (first | refine blk_drewN ?_ _ | refine blk_drew ?_ | refine blk_alloc ?_ _)); exact BK374.out) NB374_340.out (by simp)); have n2_ := Aside0.mk (Kd.R_mono (Kd.R_keep (IsS59.apart (show IsS59 w _ g340 t338 t376 from by repeat (first | (with_reducible first | exact HI340.out | apply IsS59.alloc | apply IsS59.drewN | apply IsS59.drew | apply IsS59.set_1 | refine IsS59.far ?_ NB340_347.out _ | refine IsS59.far ?_ NB340_374.out _) | exact HI340.out)) (by (with_reducible repeat (first | apply Kd.R_alloc | apply Kd.R_drewN | apply Kd.R_drew)); exact HO394.out) (by decide)) hk (fun _ h => h.2)) (fun _ h => h.1)); have n3_ := Aside0.mk (hb); have n4_ := Aside0.mk (hi); clear BK347; clear BK374; clear HO394; clear HB; clear HI340; have BK347 := n0_; have BK374 := n1_; have HO394 := n2_; have HB := n3_; have HI340 := n4_; clear n0_ n1_ n2_ n3_ n4_; (try clear hb); (try clear hb2); (try clear hk); (try clear hi); have hnb106 := NB374_340.out; have hnc106 := NB340_374.out; have hcz107_0 : w105.cell? ⟨gb374, 0, none⟩ = some (.int .i64 t341) := (blk_cell BK374.out 0).trans rfl; have hcz107_1 : w105.cell? ⟨gb374, 1, none⟩ = some (.int .i64 t342) := (blk_cell BK374.out 1).trans rfl; have hcz107_2 : w105.cell? ⟨gb374, 2, none⟩ = some (.int .i64 t343) := (blk_cell BK374.out 2).trans rfl; have hcz107_3 : w105.cell? ⟨gb374, 3, none⟩ = some (.int .i64 t351) := (blk_cell BK374.out 3).trans rfl; have hcz107_4 : w105.cell? ⟨gb374, 4, none⟩ = some (.int .i64 t345) := (blk_cell BK374.out 4).trans rfl; have hfz107_0 := blk_frozen BK374.out 0; have hfz107_1 := blk_frozen BK374.out 1; have hfz107_2 := blk_frozen BK374.out 2; have hfz107_3 := blk_frozen BK374.out 3; have hfz107_4 := blk_frozen BK374.out 4))
          go_meet
          case rel => exact ⟨_, (t396), (t341), (t342), (t343), (t395), (t345), H', ⟨by have := HK1.out; first | omega | exact Nat.le_refl _⟩, ⟨by (with_reducible repeat (first | refine blk_drewN ?_ _ | refine blk_drew ?_ | refine blk_alloc ?_ _)); refine blk_far ?_ NB347_374.out _; (with_reducible repeat (first | refine blk_drewN ?_ _ | refine blk_drew ?_ | refine blk_alloc ?_ _)); exact BK347.out⟩, ⟨by (with_reducible repeat (first | refine blk_drewN ?_ _ | refine blk_drew ?_ | refine blk_alloc ?_ _)); refine blk_put (cs := #[.int .i64 t341, .int .i64 t342, .int .i64 t343, .int .i64 t351, .int .i64 t345]) ?_ 3 _ rfl; (with_reducible repeat (first | refine blk_drewN ?_ _ | refine blk_drew ?_ | refine blk_alloc ?_ _)); exact BK374.out⟩, ⟨by repeat (first | (with_reducible first | exact HI340.out | apply IsS59.alloc | apply IsS59.drewN | apply IsS59.drew | apply IsS59.set_1 | refine IsS59.far ?_ NB340_347.out _ | refine IsS59.far ?_ NB340_374.out _) | exact HI340.out)⟩, ⟨by repeat (first | (with_reducible first | exact HB.out | apply below_alloc | apply pw_below_drewN | apply below_drew1 | refine below_set ?_ (IsS59.ge HI340.out) | refine below_set ?_ GE347.out | refine below_set ?_ GE374.out) | exact HB.out)⟩⟩
         ·rw [if_neg c97] at H
          have c97b0 : (t375 == 3) = false := beq_eq_false_iff_ne.mpr c97
          have c97b1 : (t375 != 3) = true := bne_iff_ne.mpr c97
          obtain ⟨y397, hy397⟩ : ∃ y_ : List Int, y_ = (([(-1), 21] : List Int)) := ⟨_, rfl⟩
          replace H : ((made_Dice_Of.f t338 t376 y397).bind fun bt400 => (law37_HoistMade.j2 k1 t338 bt400.2 t341 t342 t343 t351 t345 t341 t342 t343 t351 bt400.1)) = some r := by first | (rw [hy397]; with_reducible exact H) | (have H2_ := (Option.bind_some _ _).symm.trans H; rw [hy397]; with_reducible exact H2_) | (have H2_ := (Option.bind_some _ _).symm.trans H; with_reducible exact H2_) | with_reducible exact H | (rw [hy397]; exact H) | exact H
          have Ny397 := Aside0.mk hy397
          clear hy397
          replace H := Option.bind_eq_some_iff.mp H
          obtain ⟨⟨t400, t401⟩, A1080, H⟩ := H
          replace H : (law37_HoistMade.j2 k1 t338 t401 t341 t342 t343 t351 t345 t341 t342 t343 t351 t400) = some r := H
          have A108 := Aside0.mk A1080
          clear A1080
          have H' := Aside0.mk H
          clear H
          go_wp2_with (first | ((with_reducible refine gate_dst (N := 84) rfl ?_); (try (refine gate_guard (by rfl) ?_; dsimp only)); refine Kd.R_lit (Kd.int .i64) _ 3 ?hg (N := 84) ?hd (xs := ([(-1), 21] : List Int)) (inner := [.int .i64 (-1), .int .i64 21]) (ok := fun _ => True) (okp := fun _ => True) ?hr ?hp (fun _ hk => hk) trivial (Below.refl _ _) (Nat.le_refl _) (by simp) ?_; (case hd => rfl); (case hg => rfl); (case hr => first | (go_simp; done) | (go_simp; rfl)); (case hp => exact (Reps.one (show Kd.M (Kd.int .i64) _ _ _ (-1) [.int .i64 (-1)] from rfl) (Reps.one (show Kd.M (Kd.int .i64) _ _ _ 21 [.int .i64 21] from rfl) (Reps.none _ _)))); intro v398 w109 ho110 hb hg_ hnew_; clear hg_ hnew_; (first | rw [← Ny397.out] at ho110 | (simp only [Int.reduceToNat] at ho110; rw [← Ny397.out] at ho110)); have n0_ := Aside0.mk (Kd.R_lower ho110 (below_size (by repeat (first | (with_reducible first | exact HB.out | apply below_alloc | apply pw_below_drewN | apply below_drew1 | refine below_set ?_ (IsS59.ge HI340.out) | refine below_set ?_ GE347.out | refine below_set ?_ GE374.out) | exact HB.out)))); have n1_ := Aside0.mk (blk_below (g := gb347) (o := .cells #[.int .i64 t341, .int .i64 t342, .int .i64 t343, .int .i64 t351, .int .i64 t345] 45 (0, 0)) (by (with_reducible repeat (first | refine blk_drewN ?_ _ | refine blk_drew ?_ | refine blk_alloc ?_ _)); exact BK347.out) hb); have n2_ := Aside0.mk (IsS59.below (by repeat (first | (with_reducible first | exact HI340.out | apply IsS59.alloc | apply IsS59.drewN | apply IsS59.drew | apply IsS59.set_1 | refine IsS59.far ?_ NB340_347.out _ | refine IsS59.far ?_ NB340_374.out _) | exact HI340.out)) hb); have n3_ := Aside0.mk (blk_below (g := gb374) (o := .cells #[.int .i64 t341, .int .i64 t342, .int .i64 t343, .int .i64 t351, .int .i64 t345] 45 (0, 0)) (by (with_reducible repeat (first | refine blk_drewN ?_ _ | refine blk_drew ?_ | refine blk_alloc ?_ _)); exact BK374.out) hb); have n4_ := Aside0.mk (below_step (by repeat (first | (with_reducible first | exact HB.out | apply below_alloc | apply pw_below_drewN | apply below_drew1 | refine below_set ?_ (IsS59.ge HI340.out) | refine below_set ?_ GE347.out | refine below_set ?_ GE374.out) | exact HB.out)) hb); clear BK347; clear HI340; clear BK374; clear HB; have HO399 := n0_; have BK347 := n1_; have HI340 := n2_; have BK374 := n3_; have HB := n4_; clear n0_ n1_ n2_ n3_ n4_; clear hb ho110; obtain ⟨Ao111, co111, eo111⟩ := Kd.R_slice HO399.out; subst eo111) | ((with_reducible refine gate_callee (f := 16) rfl ?_); refine goesL_ (some 85) rfl rfl Try.func16 (by kernel_rfl) rfl #[.pointer (some ⟨g340, 0, none⟩), .slice Ao111 y397.length co111] rfl (by (try simp only [List.map_toArray, List.map_cons, List.map_nil]); first | done | rfl | (simp only [List.length_drop, List.length_take]; rfl)) ?_; (with_reducible refine (made_Dice_Of.calls g340 t338 t376 _ _ y397 t400 t401 w _ ?side1 ?side2 ?side3 ?side4 ?side5 A108.out).mono ?_); (case side1 => repeat (first | (with_reducible first | exact HI340.out | apply IsS59.alloc | apply IsS59.drewN | apply IsS59.drew | apply IsS59.set_1 | refine IsS59.far ?_ NB340_347.out _ | refine IsS59.far ?_ NB340_374.out _) | exact HI340.out)); (case side2 => repeat (first | (with_reducible first | exact HB.out | apply below_alloc | apply pw_below_drewN | apply below_drew1 | refine below_set ?_ (IsS59.ge HI340.out) | refine below_set ?_ GE347.out | refine below_set ?_ GE374.out) | exact HB.out)); (case side3 => repeat (first | exact (Kd.R_reads' HO399.out).2.2 | (with_reducible refine Kd.C_alloc ?_ _) | (with_reducible refine Kd.C_drewN ?_ _) | (with_reducible refine Kd.C_drew ?_))); (case side4 => exact (Kd.R_reads' HO399.out).2.1); (case side5 => exact far_slice (IsS59.own_ne HI340.out HO399.out (by decide))); rintro e w112 ⟨rfl, hi, hb, hk⟩; refine ⟨_, rfl, ?_⟩; have n0_ := Aside0.mk (KeepBut.blk hk (g' := gb347) (o := .cells #[.int .i64 t341, .int .i64 t342, .int .i64 t343, .int .i64 t351, .int .i64 t345] 45 (0, 0)) (by (with_reducible repeat (first | refine blk_drewN ?_ _ | refine blk_drew ?_ | refine blk_alloc ?_ _)); exact BK347.out) NB347_340.out (by simp)); have n1_ := Aside0.mk (KeepBut.blk hk (g' := gb374) (o := .cells #[.int .i64 t341, .int .i64 t342, .int .i64 t343, .int .i64 t351, .int .i64 t345] 45 (0, 0)) (by (with_reducible repeat (first | refine blk_drewN ?_ _ | refine blk_drew ?_ | refine blk_alloc ?_ _)); exact BK374.out) NB374_340.out (by simp)); have n2_ := Aside0.mk (Kd.R_mono (Kd.R_keep (IsS59.apart (show IsS59 w _ g340 t338 t376 from by repeat (first | (with_reducible first | exact HI340.out | apply IsS59.alloc | apply IsS59.drewN | apply IsS59.drew | apply IsS59.set_1 | refine IsS59.far ?_ NB340_347.out _ | refine IsS59.far ?_ NB340_374.out _) | exact HI340.out)) (by (with_reducible repeat (first | apply Kd.R_alloc | apply Kd.R_drewN | apply Kd.R_drew)); exact HO399.out) (by decide)) hk (fun _ h => h.2)) (fun _ h => h.1)); have n3_ := Aside0.mk (hb); have n4_ := Aside0.mk (hi); clear BK347; clear BK374; clear HO399; clear HB; clear HI340; have BK347 := n0_; have BK374 := n1_; have HO399 := n2_; have HB := n3_; have HI340 := n4_; clear n0_ n1_ n2_ n3_ n4_; (try clear hb); (try clear hb2); (try clear hk); (try clear hi); have hnb113 := NB374_347.out; have hnc113 := NB347_374.out; have hnb114 := NB374_340.out; have hnc114 := NB340_374.out; have hcz115_0 : w112.cell? ⟨gb374, 0, none⟩ = some (.int .i64 t341) := (blk_cell BK374.out 0).trans rfl; have hcz115_1 : w112.cell? ⟨gb374, 1, none⟩ = some (.int .i64 t342) := (blk_cell BK374.out 1).trans rfl; have hcz115_2 : w112.cell? ⟨gb374, 2, none⟩ = some (.int .i64 t343) := (blk_cell BK374.out 2).trans rfl; have hcz115_3 : w112.cell? ⟨gb374, 3, none⟩ = some (.int .i64 t351) := (blk_cell BK374.out 3).trans rfl; have hcz115_4 : w112.cell? ⟨gb374, 4, none⟩ = some (.int .i64 t345) := (blk_cell BK374.out 4).trans rfl; have hfz115_0 := blk_frozen BK374.out 0; have hfz115_1 := blk_frozen BK374.out 1; have hfz115_2 := blk_frozen BK374.out 2; have hfz115_3 := blk_frozen BK374.out 3; have hfz115_4 := blk_frozen BK374.out 4))
          go_meet
          case rel => exact ⟨_, (t401), (t341), (t342), (t343), (t351), (t400), H', ⟨by have := HK1.out; first | omega | exact Nat.le_refl _⟩, ⟨by (with_reducible repeat (first | refine blk_drewN ?_ _ | refine blk_drew ?_ | refine blk_alloc ?_ _)); refine blk_far ?_ NB347_374.out _; (with_reducible repeat (first | refine blk_drewN ?_ _ | refine blk_drew ?_ | refine blk_alloc ?_ _)); exact BK347.out⟩, ⟨by (with_reducible repeat (first | refine blk_drewN ?_ _ | refine blk_drew ?_ | refine blk_alloc ?_ _)); refine blk_put (cs := #[.int .i64 t341, .int .i64 t342, .int .i64 t343, .int .i64 t351, .int .i64 t345]) ?_ 4 _ rfl; (with_reducible repeat (first | refine blk_drewN ?_ _ | refine blk_drew ?_ | refine blk_alloc ?_ _)); exact BK374.out⟩, ⟨by repeat (first | (with_reducible first | exact HI340.out | apply IsS59.alloc | apply IsS59.drewN | apply IsS59.drew | apply IsS59.set_1 | refine IsS59.far ?_ NB340_347.out _ | refine IsS59.far ?_ NB340_374.out _) | exact HI340.out)⟩, ⟨by repeat (first | (with_reducible first | exact HB.out | apply below_alloc | apply pw_below_drewN | apply below_drew1 | refine below_set ?_ (IsS59.ge HI340.out) | refine below_set ?_ GE347.out | refine below_set ?_ GE374.out) | exact HB.out)⟩⟩
     case rest =>
      clear HC62; (try clear c1); (try clear c2); (try clear p2); (try clear c3); (try clear c4); (try clear c5); (try clear c6); (try clear p6); (try clear c7); (try clear c8); (try clear c9); (try clear c10); (try clear c11); (try clear c16); (try clear c17); (try clear c18); (try clear c18b0); (try clear c19); (try clear c27); (try clear c28); (try clear c29); (try clear c30); (try clear c30b0); (try clear c30b1); (try clear c32); (try clear c33); (try clear c34); (try clear c41); (try clear c46); (try clear c47); (try clear c51); (try clear c52); (try clear c63); (try clear p64); (try clear c66)
      (try clear c67); (try clear c70); (try clear c70b0); (try clear c70b1); (try clear c76); (try clear c77); (try clear c79); (try clear c79b0); (try clear c79b1); (try clear c85); (try clear c86); (try clear c88); (try clear c88b0); (try clear c88b1); (try clear c94); (try clear c95); (try clear c97); (try clear c97b0); (try clear c97b1); (try clear c99); (try clear c100); (try clear c106); (try clear c113); (try clear c114); (try clear hcz101_0); (try clear hcz101_1); (try clear hcz101_2); (try clear hcz101_3); (try clear hcz101_4); (try clear hcz107_0); (try clear hcz107_1); (try clear hcz107_2)
      (try clear hcz107_3); (try clear hcz107_4); (try clear hcz115_0); (try clear hcz115_1); (try clear hcz115_2); (try clear hcz115_3); (try clear hcz115_4); (try clear hcz48_0); (try clear hcz48_1); (try clear hcz48_2); (try clear hcz48_3); (try clear hcz48_4); (try clear hcz53_0); (try clear hcz53_1); (try clear hcz53_2); (try clear hcz64_0); (try clear hcz64_1); (try clear hcz64_2); (try clear hcz64_3); (try clear hcz64_4); (try clear hcz68_0); (try clear hcz68_1); (try clear hcz68_2); (try clear hcz68_3); (try clear hcz68_4); (try clear hcz78_0); (try clear hcz78_1); (try clear hcz78_2); (try clear hcz78_3)
      (try clear hcz78_4); (try clear hcz87_0); (try clear hcz87_1); (try clear hcz87_2); (try clear hcz87_3); (try clear hcz87_4); (try clear hcz96_0); (try clear hcz96_1); (try clear hcz96_2); (try clear hcz96_3); (try clear hcz96_4); (try clear hfz101_0); (try clear hfz101_1); (try clear hfz101_2); (try clear hfz101_3); (try clear hfz101_4); (try clear hfz107_0); (try clear hfz107_1); (try clear hfz107_2); (try clear hfz107_3); (try clear hfz107_4); (try clear hfz115_0); (try clear hfz115_1); (try clear hfz115_2); (try clear hfz115_3); (try clear hfz115_4); (try clear hfz48_0); (try clear hfz48_1)
      (try clear hfz48_2); (try clear hfz48_3); (try clear hfz48_4); (try clear hfz53_0); (try clear hfz53_1); (try clear hfz53_2); (try clear hfz64_0); (try clear hfz64_1); (try clear hfz64_2); (try clear hfz64_3); (try clear hfz64_4); (try clear hfz68_0); (try clear hfz68_1); (try clear hfz68_2); (try clear hfz68_3); (try clear hfz68_4); (try clear hfz78_0); (try clear hfz78_1); (try clear hfz78_2); (try clear hfz78_3); (try clear hfz78_4); (try clear hfz87_0); (try clear hfz87_1); (try clear hfz87_2); (try clear hfz87_3); (try clear hfz87_4); (try clear hfz96_0); (try clear hfz96_1); (try clear hfz96_2)
      (try clear hfz96_3); (try clear hfz96_4); (try clear p2); (try clear p6)
      obtain ⟨kq, x341001_61, x375000_61, x375001_61, x375002_61, x375003_61, x375004_61, HA, HJ61, BK347, BK374, HI340, HB⟩ := hcut
      cases kq with
      | zero => exact absurd HA.out (by simp [law37_HoistMade.j2])
      | succ kj61 =>
       have H := HA.out
       clear HA
       simp only [law37_HoistMade.j2] at H
       replace H := Option.bind_eq_some_iff.mp H
       obtain ⟨t402, A1160, H⟩ := H
       replace H : (if t402 = true then ((law37_agree.f kj61 x375000_61 x375001_61 x375002_61 x375003_61 x375004_61 0 0 false 0).bind fun t403 => (if t403 = true then ((made_Dice_Of.f t338 x341001_61 (([1000, 1001] : List Int))).bind fun bt407 => ((made_Dice_Of.f t338 bt407.2 (([40000, 40001] : List Int))).bind fun bt412 => ((law37_agree.f kj61 t341 t342 t343 t351 t345 (wrap64 (t341 + bt407.1)) bt412.1 false 3).bind fun t414 => (some t414)))) else (none))) else (none)) = some r := H
       have A116 := Aside0.mk A1160
       clear A1160
       by_cases c117 : t402 = true
       ·subst c117
        have H1 : ((law37_agree.f kj61 x375000_61 x375001_61 x375002_61 x375003_61 x375004_61 0 0 false 0).bind fun t403 => (if t403 = true then ((made_Dice_Of.f t338 x341001_61 (([1000, 1001] : List Int))).bind fun bt407 => ((made_Dice_Of.f t338 bt407.2 (([40000, 40001] : List Int))).bind fun bt412 => ((law37_agree.f kj61 t341 t342 t343 t351 t345 (wrap64 (t341 + bt407.1)) bt412.1 false 3).bind fun t414 => (some t414)))) else (none))) = some r := by rw [if_pos rfl] at H; exact H
        clear H
        have H := H1
        clear H1
        replace H := Option.bind_eq_some_iff.mp H
        obtain ⟨t403, A1180, H⟩ := H
        replace H : (if t403 = true then ((made_Dice_Of.f t338 x341001_61 (([1000, 1001] : List Int))).bind fun bt407 => ((made_Dice_Of.f t338 bt407.2 (([40000, 40001] : List Int))).bind fun bt412 => ((law37_agree.f kj61 t341 t342 t343 t351 t345 (wrap64 (t341 + bt407.1)) bt412.1 false 3).bind fun t414 => (some t414)))) else (none)) = some r := H
        have A118 := Aside0.mk A1180
        clear A1180
        by_cases c119 : t403 = true
        ·subst c119
         have H1 : ((made_Dice_Of.f t338 x341001_61 (([1000, 1001] : List Int))).bind fun bt407 => ((made_Dice_Of.f t338 bt407.2 (([40000, 40001] : List Int))).bind fun bt412 => ((law37_agree.f kj61 t341 t342 t343 t351 t345 (wrap64 (t341 + bt407.1)) bt412.1 false 3).bind fun t414 => (some t414)))) = some r := by rw [if_pos rfl] at H; exact H
         clear H
         have H := H1
         clear H1
         obtain ⟨y404, hy404⟩ : ∃ y_ : List Int, y_ = (([1000, 1001] : List Int)) := ⟨_, rfl⟩
         replace H : ((made_Dice_Of.f t338 x341001_61 y404).bind fun bt407 => ((made_Dice_Of.f t338 bt407.2 (([40000, 40001] : List Int))).bind fun bt412 => ((law37_agree.f kj61 t341 t342 t343 t351 t345 (wrap64 (t341 + bt407.1)) bt412.1 false 3).bind fun t414 => (some t414)))) = some r := by first | (rw [hy404]; with_reducible exact H) | (have H2_ := (Option.bind_some _ _).symm.trans H; rw [hy404]; with_reducible exact H2_) | (have H2_ := (Option.bind_some _ _).symm.trans H; with_reducible exact H2_) | with_reducible exact H | (rw [hy404]; exact H) | exact H
         have Ny404 := Aside0.mk hy404
         clear hy404
         replace H := Option.bind_eq_some_iff.mp H
         obtain ⟨⟨t407, t408⟩, A1200, H⟩ := H
         replace H : ((made_Dice_Of.f t338 t408 (([40000, 40001] : List Int))).bind fun bt412 => ((law37_agree.f kj61 t341 t342 t343 t351 t345 (wrap64 (t341 + t407)) bt412.1 false 3).bind fun t414 => (some t414))) = some r := H
         have A120 := Aside0.mk A1200
         clear A1200
         obtain ⟨y409, hy409⟩ : ∃ y_ : List Int, y_ = (([40000, 40001] : List Int)) := ⟨_, rfl⟩
         replace H : ((made_Dice_Of.f t338 t408 y409).bind fun bt412 => ((law37_agree.f kj61 t341 t342 t343 t351 t345 (wrap64 (t341 + t407)) bt412.1 false 3).bind fun t414 => (some t414))) = some r := by first | (rw [hy409]; with_reducible exact H) | (have H2_ := (Option.bind_some _ _).symm.trans H; rw [hy409]; with_reducible exact H2_) | (have H2_ := (Option.bind_some _ _).symm.trans H; with_reducible exact H2_) | with_reducible exact H | (rw [hy409]; exact H) | exact H
         have Ny409 := Aside0.mk hy409
         clear hy409
         replace H := Option.bind_eq_some_iff.mp H
         obtain ⟨⟨t412, t413⟩, A1210, H⟩ := H
         replace H : ((law37_agree.f kj61 t341 t342 t343 t351 t345 (wrap64 (t341 + t407)) t412 false 3).bind fun t414 => (some t414)) = some r := H
         have A121 := Aside0.mk A1210
         clear A1210
         replace H := Option.bind_eq_some_iff.mp H
         obtain ⟨t414, A1220, H⟩ := H
         replace H : (some t414) = some r := H
         have A122 := Aside0.mk A1220
         clear A1220
         obtain rfl := Option.some.inj H
         try go_wp2
         (try (rw [drewN_self wc]; generalize hq_ : World.drewN wc _ = wc; have n0_ : Aside0 (wc.heap[gb347]? = some (.cells #[.int .i64 t341, .int .i64 t342, .int .i64 t343, .int .i64 t351, .int .i64 t345] 45 (0, 0))) := ⟨by rw [← hq_]; exact (by (with_reducible repeat (first | refine blk_drewN ?_ _ | refine blk_drew ?_ | refine blk_alloc ?_ _)); exact BK347.out)⟩; have n1_ : Aside0 (wc.heap[gb374]? = some (.cells #[.int .i64 x375000_61, .int .i64 x375001_61, .int .i64 x375002_61, .int .i64 x375003_61, .int .i64 x375004_61] 45 (0, 0))) := ⟨by rw [← hq_]; exact (by (with_reducible repeat (first | refine blk_drewN ?_ _ | refine blk_drew ?_ | refine blk_alloc ?_ _)); exact BK374.out)⟩; have n2_ : Aside0 (IsS59 w wc g340 t338 x341001_61) := ⟨by rw [← hq_]; exact (by repeat (first | (with_reducible first | exact HI340.out | apply IsS59.alloc | apply IsS59.drewN | apply IsS59.drew | apply IsS59.set_1 | refine IsS59.far ?_ NB340_347.out _ | refine IsS59.far ?_ NB340_374.out _) | exact HI340.out))⟩; have n3_ : Aside0 (Below w.heap.size w wc) := ⟨by rw [← hq_]; exact (by repeat (first | (with_reducible first | exact HB.out | apply below_alloc | apply pw_below_drewN | apply below_drew1 | refine below_set ?_ (IsS59.ge HI340.out) | refine below_set ?_ GE347.out | refine below_set ?_ GE374.out) | exact HB.out))⟩; clear BK347 BK374 HI340 HB hq_; have BK347 := n0_; have BK374 := n1_; have HI340 := n2_; have HB := n3_; clear n0_ n1_ n2_ n3_))
         have n0_ := Aside0.mk (blk_drew BK347.out)
         have n1_ := Aside0.mk (blk_drew BK374.out)
         have n2_ := Aside0.mk (IsS59.drew HI340.out)
         have n3_ := Aside0.mk (below_drew1 HB.out)
         clear BK347; clear BK374; clear HI340; clear HB; have BK347 := n0_; have BK374 := n1_; have HI340 := n2_; have HB := n3_
         clear n0_ n1_ n2_ n3_
         refine start_ (n := 21) (S := fun w' => True) (ds := []) #[false, false, false, false, false, false, false, false, false, false, false, false, false, false, false, false, false, false, false, false, false] (by kernel_rfl) rfl rfl trivial (fun hHeld => ?_); refine with_tabW law37_HoistMade.tab26 law37_HoistMade.bits26 (fun HT_ HW_ => ?_)
         generalize wc.drew = w123 at BK347 BK374 HI340 HB hHeld ⊢
         refine inv_at [0, 1, 2, 3, 4, 5, 6, 7, 8, 9, 10, 11, 12, 13, 14, 15, 16, 17, 18, 19, 20] (fun a0_ b a w' => ∃ (v405 : Value) (v410 : Value), a = putSel a0_ b [(0, 114, .bool true), (1, 115, .bool true), (2, 116, .agg #[.int .i64 x375000_61, .int .i64 x375001_61, .int .i64 x375002_61, .int .i64 x375003_61, .int .i64 x375004_61]), (3, 117, .agg #[.int .i64 0, .int .i64 0, .bool false]), (4, 118, .bool true), (5, 119, .bool true), (6, 120, .bool true), (7, 121, .agg #[.int .i64 t341, .int .i64 t342, .int .i64 t343, .int .i64 t351, .int .i64 t345]), (8, 122, .pointer (some ⟨gb347, 0, none⟩)), (9, 123, .int .i64 t341), (10, 124, .pointer (some ⟨g340, 0, none⟩)), (11, 125, v405), (12, 126, .int .i64 t407), (13, 127, .int .i64 (wrap64 (t341 + t407))), (14, 128, .pointer (some ⟨g340, 0, none⟩)), (15, 129, v410), (16, 130, .int .i64 t412), (17, 131, .agg #[.int .i64 (wrap64 (t341 + t407)), .int .i64 t412, .bool false]), (18, 132, .bool t414), (19, 133, .bool t414), (20, 4, .bool t414)] ∧ (w'.heap[gb347]? = some (.cells #[.int .i64 t341, .int .i64 t342, .int .i64 t343, .int .i64 t351, .int .i64 t345] 45 (0, 0))) ∧ (w'.heap[gb374]? = some (.cells #[.int .i64 x375000_61, .int .i64 x375001_61, .int .i64 x375002_61, .int .i64 x375003_61, .int .i64 x375004_61] 45 (0, 0))) ∧ (b 12 = false → IsS59 w w' g340 t338 x341001_61) ∧ (Below w.heap.size w w') ∧ (b 11 = true → Kd.R (Kd.int .i64) 3 w' w.heap.size (fun _ => True) v405 y404) ∧ (b 12 = true → b 16 = false → IsS59 w w' g340 t338 t408) ∧ (b 15 = true → Kd.R (Kd.int .i64) 3 w' w.heap.size (fun _ => True) v410 y409) ∧ (b 16 = true → IsS59 w w' g340 t338 t413)) HT_.out HW_.out (by kernel_rfl) (by kernel_rfl) ?_ ?_ ?_
         ·exact ⟨.bool false, .bool false, by simp only [putSel, Bool.false_eq_true, if_false], BK347.out, BK374.out, fun _ => HI340.out, HB.out, fun h_ => absurd h_ (by decide), fun h_ => absurd h_ (by decide), fun h_ => absurd h_ (by decide), fun h_ => absurd h_ (by decide)⟩
         ·skip
          clear BK347 BK374 HB HI340
          refine steps_cons ?_ ?_
          ·rintro b a w' ⟨v405, v410, ha, Q_BK347, Q_BK374, Q_HI340, Q_HB, Q_HO406, Q_HI340_e12, Q_HO411, Q_HI340_e16⟩ hb_ hon hoff
           refine ⟨_, rfl, fun K hK => ?_⟩
           replace ha := Aside0.mk ha
           have BK347 := Aside0.mk Q_BK347
           have BK374 := Aside0.mk Q_BK374
           have HI340 := Aside0.mk (Q_HI340 (hoff 12 (by kernel_rfl)))
           have HB := Aside0.mk Q_HB
           refine goes_ Try.func25 (by kernel_rfl) rfl #[] (by first | rfl | exact wanted_on rfl rfl rfl (by assumption)) rfl rfl (by first | (simp only [List.map_toArray, List.map_cons, List.map_nil, Act.eval, Array.getD_eq_getD_getElem?, Option.getD_some]; done) | (simp only [List.map_toArray, List.map_cons, List.map_nil, Act.eval, Array.getD_eq_getD_getElem?, Option.getD_some]; rfl)) ?_
           with_reducible refine (law37_awake.calls  true _ A116.out).mono ?_
           rintro e w124 ⟨rfl, hb⟩
           refine ⟨_, rfl, ?_⟩
           have n0_ := Aside0.mk (blk_below (g := gb347) (o := .cells #[.int .i64 t341, .int .i64 t342, .int .i64 t343, .int .i64 t351, .int .i64 t345] 45 (0, 0)) (by (with_reducible repeat (first | refine blk_drewN ?_ _ | refine blk_drew ?_ | refine blk_alloc ?_ _)); exact BK347.out) hb)
           have n1_ := Aside0.mk (blk_below (g := gb374) (o := .cells #[.int .i64 x375000_61, .int .i64 x375001_61, .int .i64 x375002_61, .int .i64 x375003_61, .int .i64 x375004_61] 45 (0, 0)) (by (with_reducible repeat (first | refine blk_drewN ?_ _ | refine blk_drew ?_ | refine blk_alloc ?_ _)); exact BK374.out) hb)
           have n2_ := Aside0.mk (IsS59.below (by repeat (first | (with_reducible first | exact HI340.out | apply IsS59.alloc | apply IsS59.drewN | apply IsS59.drew | apply IsS59.set_1 | refine IsS59.far ?_ NB340_347.out _ | refine IsS59.far ?_ NB340_374.out _) | exact HI340.out)) hb)
           have n3_ := Aside0.mk (below_step (by repeat (first | (with_reducible first | exact HB.out | apply below_alloc | apply pw_below_drewN | apply below_drew1 | refine below_set ?_ (IsS59.ge HI340.out) | refine below_set ?_ GE347.out | refine below_set ?_ GE374.out) | exact HB.out)) hb)
           clear BK347; clear BK374; clear HI340; clear HB; have BK347 := n0_; have BK374 := n1_; have HI340 := n2_; have HB := n3_
           clear n0_ n1_ n2_ n3_
           (try clear hb); (try clear hb2); (try clear hk); (try clear hi)
           refine hK.out _ _ ⟨v405, v410, (by rw [ha.out]; exact putSel_upk 0 hb_ rfl rfl rfl), (by (with_reducible repeat (first | refine blk_drewN ?_ _ | refine blk_drew ?_ | refine blk_alloc ?_ _)); exact BK347.out), (by (with_reducible repeat (first | refine blk_drewN ?_ _ | refine blk_drew ?_ | refine blk_alloc ?_ _)); exact BK374.out), fun _ => (by repeat (first | (with_reducible first | exact HI340.out | apply IsS59.alloc | apply IsS59.drewN | apply IsS59.drew | apply IsS59.set_1 | refine IsS59.far ?_ NB340_347.out _ | refine IsS59.far ?_ NB340_374.out _) | exact HI340.out)), (by repeat (first | (with_reducible first | exact HB.out | apply below_alloc | apply pw_below_drewN | apply below_drew1 | refine below_set ?_ (IsS59.ge HI340.out) | refine below_set ?_ GE347.out | refine below_set ?_ GE374.out) | exact HB.out)), fun h0_ => absurd ((hoff 11 (by kernel_rfl)).symm.trans h0_) (by decide), fun h0_ _ => absurd ((hoff 12 (by kernel_rfl)).symm.trans h0_) (by decide), fun h0_ => absurd ((hoff 15 (by kernel_rfl)).symm.trans h0_) (by decide), fun h0_ => absurd ((hoff 16 (by kernel_rfl)).symm.trans h0_) (by decide)⟩
          refine steps_cons ?_ ?_
          ·rintro b a w' ⟨v405, v410, ha, Q_BK347, Q_BK374, Q_HI340, Q_HB, Q_HO406, Q_HI340_e12, Q_HO411, Q_HI340_e16⟩ hb_ hon hoff
           refine ⟨_, rfl, fun K hK => ?_⟩
           have e114 : a.tmps[114]? = some (.bool true) := by rw [ha]; exact putSel_on (e := (0, 114, .bool true)) 0 rfl rfl (hon 0 (by kernel_rfl)) rfl
           replace ha := Aside0.mk ha
           have BK347 := Aside0.mk Q_BK347
           have BK374 := Aside0.mk Q_BK374
           have HI340 := Aside0.mk (Q_HI340 (hoff 12 (by kernel_rfl)))
           have HB := Aside0.mk Q_HB
           refine value_ (w1 := w') (v := .bool true) (by rfl) rfl ?_ ?_
           ·go_simp
            (try simp only [i64_w])
            try rfl
           refine hK.out _ _ ⟨v405, v410, (by rw [ha.out]; exact putSel_upk 1 hb_ rfl rfl rfl), Q_BK347, Q_BK374, Q_HI340, Q_HB, fun h0_ => absurd ((hoff 11 (by kernel_rfl)).symm.trans h0_) (by decide), fun h0_ _ => absurd ((hoff 12 (by kernel_rfl)).symm.trans h0_) (by decide), fun h0_ => absurd ((hoff 15 (by kernel_rfl)).symm.trans h0_) (by decide), fun h0_ => absurd ((hoff 16 (by kernel_rfl)).symm.trans h0_) (by decide)⟩
          refine steps_cons ?_ ?_
          ·rintro b a w' ⟨v405, v410, ha, Q_BK347, Q_BK374, Q_HI340, Q_HB, Q_HO406, Q_HI340_e12, Q_HO411, Q_HI340_e16⟩ hb_ hon hoff
           refine ⟨_, rfl, fun K hK => ?_⟩
           have e11 : a.tmps[11]? = some (.pointer (some ⟨gb374, 0, none⟩)) := by rw [ha]; exact (putSel_off rfl).trans rfl
           have e115 : a.tmps[115]? = some (.bool true) := by rw [ha]; exact putSel_on (e := (1, 115, .bool true)) 1 rfl rfl (hon 1 (by kernel_rfl)) rfl
           replace ha := Aside0.mk ha
           have BK347 := Aside0.mk Q_BK347
           have BK374 := Aside0.mk Q_BK374
           have HI340 := Aside0.mk (Q_HI340 (hoff 12 (by kernel_rfl)))
           have HB := Aside0.mk Q_HB
           have hc0_ : w'.cell? ⟨gb374, 0, none⟩ = some (.int .i64 x375000_61) := (blk_cell BK374.out 0).trans rfl
           have hc1_ : w'.cell? ⟨gb374, 1, none⟩ = some (.int .i64 x375001_61) := (blk_cell BK374.out 1).trans rfl
           have hc2_ : w'.cell? ⟨gb374, 2, none⟩ = some (.int .i64 x375002_61) := (blk_cell BK374.out 2).trans rfl
           have hc3_ : w'.cell? ⟨gb374, 3, none⟩ = some (.int .i64 x375003_61) := (blk_cell BK374.out 3).trans rfl
           have hc4_ : w'.cell? ⟨gb374, 4, none⟩ = some (.int .i64 x375004_61) := (blk_cell BK374.out 4).trans rfl
           refine value_ (w1 := w') (v := .agg #[.int .i64 x375000_61, .int .i64 x375001_61, .int .i64 x375002_61, .int .i64 x375003_61, .int .i64 x375004_61]) (wanted_on rfl rfl rfl (e115.trans (by first | rfl | (simp [*]; done)))) rfl ?_ ?_
           ·go_simp
            (try simp only [i64_w])
            try rfl
           refine hK.out _ _ ⟨v405, v410, (by rw [ha.out]; exact putSel_upk 2 hb_ rfl rfl rfl), Q_BK347, Q_BK374, Q_HI340, Q_HB, fun h0_ => absurd ((hoff 11 (by kernel_rfl)).symm.trans h0_) (by decide), fun h0_ _ => absurd ((hoff 12 (by kernel_rfl)).symm.trans h0_) (by decide), fun h0_ => absurd ((hoff 15 (by kernel_rfl)).symm.trans h0_) (by decide), fun h0_ => absurd ((hoff 16 (by kernel_rfl)).symm.trans h0_) (by decide)⟩
          refine steps_cons ?_ ?_
          ·rintro b a w' ⟨v405, v410, ha, Q_BK347, Q_BK374, Q_HI340, Q_HB, Q_HO406, Q_HI340_e12, Q_HO411, Q_HI340_e16⟩ hb_ hon hoff
           refine ⟨_, rfl, fun K hK => ?_⟩
           have e115 : a.tmps[115]? = some (.bool true) := by rw [ha]; exact putSel_on (e := (1, 115, .bool true)) 1 rfl rfl (hon 1 (by kernel_rfl)) rfl
           replace ha := Aside0.mk ha
           have BK347 := Aside0.mk Q_BK347
           have BK374 := Aside0.mk Q_BK374
           have HI340 := Aside0.mk (Q_HI340 (hoff 12 (by kernel_rfl)))
           have HB := Aside0.mk Q_HB
           refine value_ (w1 := w') (v := .agg #[.int .i64 0, .int .i64 0, .bool false]) (wanted_on rfl rfl rfl (e115.trans (by first | rfl | (simp [*]; done)))) rfl ?_ ?_
           ·go_simp
            (try simp only [i64_w])
            try rfl
           refine hK.out _ _ ⟨v405, v410, (by rw [ha.out]; exact putSel_upk 3 hb_ rfl rfl rfl), Q_BK347, Q_BK374, Q_HI340, Q_HB, fun h0_ => absurd ((hoff 11 (by kernel_rfl)).symm.trans h0_) (by decide), fun h0_ _ => absurd ((hoff 12 (by kernel_rfl)).symm.trans h0_) (by decide), fun h0_ => absurd ((hoff 15 (by kernel_rfl)).symm.trans h0_) (by decide), fun h0_ => absurd ((hoff 16 (by kernel_rfl)).symm.trans h0_) (by decide)⟩
          refine steps_cons ?_ ?_
          ·rintro b a w' ⟨v405, v410, ha, Q_BK347, Q_BK374, Q_HI340, Q_HB, Q_HO406, Q_HI340_e12, Q_HO411, Q_HI340_e16⟩ hb_ hon hoff
           refine ⟨_, rfl, fun K hK => ?_⟩
           have e116 : a.tmps[116]? = some (.agg #[.int .i64 x375000_61, .int .i64 x375001_61, .int .i64 x375002_61, .int .i64 x375003_61, .int .i64 x375004_61]) := by rw [ha]; exact putSel_on (e := (2, 116, .agg #[.int .i64 x375000_61, .int .i64 x375001_61, .int .i64 x375002_61, .int .i64 x375003_61, .int .i64 x375004_61])) 2 rfl rfl (hon 2 (by kernel_rfl)) rfl
           have e117 : a.tmps[117]? = some (.agg #[.int .i64 0, .int .i64 0, .bool false]) := by rw [ha]; exact putSel_on (e := (3, 117, .agg #[.int .i64 0, .int .i64 0, .bool false])) 3 rfl rfl (hon 3 (by kernel_rfl)) rfl
           have e115 : a.tmps[115]? = some (.bool true) := by rw [ha]; exact putSel_on (e := (1, 115, .bool true)) 1 rfl rfl (hon 1 (by kernel_rfl)) rfl
           replace ha := Aside0.mk ha
           have BK347 := Aside0.mk Q_BK347
           have BK374 := Aside0.mk Q_BK374
           have HI340 := Aside0.mk (Q_HI340 (hoff 12 (by kernel_rfl)))
           have HB := Aside0.mk Q_HB
           refine goes_ Try.func32 (by kernel_rfl) rfl #[.agg #[.int .i64 x375000_61, .int .i64 x375001_61, .int .i64 x375002_61, .int .i64 x375003_61, .int .i64 x375004_61], .agg #[.int .i64 0, .int .i64 0, .bool false], .int .i64 0] (by first | rfl | exact wanted_on rfl rfl rfl (by assumption)) rfl rfl (by first | (simp only [List.map_toArray, List.map_cons, List.map_nil, Act.eval, Array.getD_eq_getD_getElem?, Option.getD_some, e116, e117, e115]; done) | (simp only [List.map_toArray, List.map_cons, List.map_nil, Act.eval, Array.getD_eq_getD_getElem?, Option.getD_some, e116, e117, e115]; rfl)) ?_
           with_reducible refine (law37_agree.calls kj61 x375000_61 x375001_61 x375002_61 x375003_61 x375004_61 0 0 false 0 true _ A118.out).mono ?_
           rintro e w126 ⟨rfl, hb⟩
           refine ⟨_, rfl, ?_⟩
           have n0_ := Aside0.mk (blk_below (g := gb347) (o := .cells #[.int .i64 t341, .int .i64 t342, .int .i64 t343, .int .i64 t351, .int .i64 t345] 45 (0, 0)) (by (with_reducible repeat (first | refine blk_drewN ?_ _ | refine blk_drew ?_ | refine blk_alloc ?_ _)); exact BK347.out) hb)
           have n1_ := Aside0.mk (blk_below (g := gb374) (o := .cells #[.int .i64 x375000_61, .int .i64 x375001_61, .int .i64 x375002_61, .int .i64 x375003_61, .int .i64 x375004_61] 45 (0, 0)) (by (with_reducible repeat (first | refine blk_drewN ?_ _ | refine blk_drew ?_ | refine blk_alloc ?_ _)); exact BK374.out) hb)
           have n2_ := Aside0.mk (IsS59.below (by repeat (first | (with_reducible first | exact HI340.out | apply IsS59.alloc | apply IsS59.drewN | apply IsS59.drew | apply IsS59.set_1 | refine IsS59.far ?_ NB340_347.out _ | refine IsS59.far ?_ NB340_374.out _) | exact HI340.out)) hb)
           have n3_ := Aside0.mk (below_step (by repeat (first | (with_reducible first | exact HB.out | apply below_alloc | apply pw_below_drewN | apply below_drew1 | refine below_set ?_ (IsS59.ge HI340.out) | refine below_set ?_ GE347.out | refine below_set ?_ GE374.out) | exact HB.out)) hb)
           clear BK347; clear BK374; clear HI340; clear HB; have BK347 := n0_; have BK374 := n1_; have HI340 := n2_; have HB := n3_
           clear n0_ n1_ n2_ n3_
           (try clear hb); (try clear hb2); (try clear hk); (try clear hi)
           refine hK.out _ _ ⟨v405, v410, (by rw [ha.out]; exact putSel_upk 4 hb_ rfl rfl rfl), (by (with_reducible repeat (first | refine blk_drewN ?_ _ | refine blk_drew ?_ | refine blk_alloc ?_ _)); exact BK347.out), (by (with_reducible repeat (first | refine blk_drewN ?_ _ | refine blk_drew ?_ | refine blk_alloc ?_ _)); exact BK374.out), fun _ => (by repeat (first | (with_reducible first | exact HI340.out | apply IsS59.alloc | apply IsS59.drewN | apply IsS59.drew | apply IsS59.set_1 | refine IsS59.far ?_ NB340_347.out _ | refine IsS59.far ?_ NB340_374.out _) | exact HI340.out)), (by repeat (first | (with_reducible first | exact HB.out | apply below_alloc | apply pw_below_drewN | apply below_drew1 | refine below_set ?_ (IsS59.ge HI340.out) | refine below_set ?_ GE347.out | refine below_set ?_ GE374.out) | exact HB.out)), fun h0_ => absurd ((hoff 11 (by kernel_rfl)).symm.trans h0_) (by decide), fun h0_ _ => absurd ((hoff 12 (by kernel_rfl)).symm.trans h0_) (by decide), fun h0_ => absurd ((hoff 15 (by kernel_rfl)).symm.trans h0_) (by decide), fun h0_ => absurd ((hoff 16 (by kernel_rfl)).symm.trans h0_) (by decide)⟩
          refine steps_cons ?_ ?_
          ·rintro b a w' ⟨v405, v410, ha, Q_BK347, Q_BK374, Q_HI340, Q_HB, Q_HO406, Q_HI340_e12, Q_HO411, Q_HI340_e16⟩ hb_ hon hoff
           refine ⟨_, rfl, fun K hK => ?_⟩
           have e115 : a.tmps[115]? = some (.bool true) := by rw [ha]; exact putSel_on (e := (1, 115, .bool true)) 1 rfl rfl (hon 1 (by kernel_rfl)) rfl
           have e118 : a.tmps[118]? = some (.bool true) := by rw [ha]; exact putSel_on (e := (4, 118, .bool true)) 4 rfl rfl (hon 4 (by kernel_rfl)) rfl
           replace ha := Aside0.mk ha
           have BK347 := Aside0.mk Q_BK347
           have BK374 := Aside0.mk Q_BK374
           have HI340 := Aside0.mk (Q_HI340 (hoff 12 (by kernel_rfl)))
           have HB := Aside0.mk Q_HB
           refine value_ (w1 := w') (v := .bool true) (by rfl) rfl ?_ ?_
           ·go_simp
            (try simp only [i64_w])
            try rfl
           refine hK.out _ _ ⟨v405, v410, (by rw [ha.out]; exact putSel_upk 5 hb_ rfl rfl rfl), Q_BK347, Q_BK374, Q_HI340, Q_HB, fun h0_ => absurd ((hoff 11 (by kernel_rfl)).symm.trans h0_) (by decide), fun h0_ _ => absurd ((hoff 12 (by kernel_rfl)).symm.trans h0_) (by decide), fun h0_ => absurd ((hoff 15 (by kernel_rfl)).symm.trans h0_) (by decide), fun h0_ => absurd ((hoff 16 (by kernel_rfl)).symm.trans h0_) (by decide)⟩
          refine steps_cons ?_ ?_
          ·rintro b a w' ⟨v405, v410, ha, Q_BK347, Q_BK374, Q_HI340, Q_HB, Q_HO406, Q_HI340_e12, Q_HO411, Q_HI340_e16⟩ hb_ hon hoff
           refine ⟨_, rfl, fun K hK => ?_⟩
           have e119 : a.tmps[119]? = some (.bool true) := by rw [ha]; exact putSel_on (e := (5, 119, .bool true)) 5 rfl rfl (hon 5 (by kernel_rfl)) rfl
           replace ha := Aside0.mk ha
           have BK347 := Aside0.mk Q_BK347
           have BK374 := Aside0.mk Q_BK374
           have HI340 := Aside0.mk (Q_HI340 (hoff 12 (by kernel_rfl)))
           have HB := Aside0.mk Q_HB
           refine value_ (w1 := w') (v := .bool true) (by rfl) rfl ?_ ?_
           ·go_simp
            (try simp only [i64_w])
            try rfl
           refine hK.out _ _ ⟨v405, v410, (by rw [ha.out]; exact putSel_upk 6 hb_ rfl rfl rfl), Q_BK347, Q_BK374, Q_HI340, Q_HB, fun h0_ => absurd ((hoff 11 (by kernel_rfl)).symm.trans h0_) (by decide), fun h0_ _ => absurd ((hoff 12 (by kernel_rfl)).symm.trans h0_) (by decide), fun h0_ => absurd ((hoff 15 (by kernel_rfl)).symm.trans h0_) (by decide), fun h0_ => absurd ((hoff 16 (by kernel_rfl)).symm.trans h0_) (by decide)⟩
          refine steps_cons ?_ ?_
          ·rintro b a w' ⟨v405, v410, ha, Q_BK347, Q_BK374, Q_HI340, Q_HB, Q_HO406, Q_HI340_e12, Q_HO411, Q_HI340_e16⟩ hb_ hon hoff
           refine ⟨_, rfl, fun K hK => ?_⟩
           have e6 : a.tmps[6]? = some (.pointer (some ⟨gb347, 0, none⟩)) := by rw [ha]; exact (putSel_off rfl).trans rfl
           have e120 : a.tmps[120]? = some (.bool true) := by rw [ha]; exact putSel_on (e := (6, 120, .bool true)) 6 rfl rfl (hon 6 (by kernel_rfl)) rfl
           replace ha := Aside0.mk ha
           have BK347 := Aside0.mk Q_BK347
           have BK374 := Aside0.mk Q_BK374
           have HB := Aside0.mk Q_HB
           have hc0_ : w'.cell? ⟨gb347, 0, none⟩ = some (.int .i64 t341) := (blk_cell BK347.out 0).trans rfl
           have hc1_ : w'.cell? ⟨gb347, 1, none⟩ = some (.int .i64 t342) := (blk_cell BK347.out 1).trans rfl
           have hc2_ : w'.cell? ⟨gb347, 2, none⟩ = some (.int .i64 t343) := (blk_cell BK347.out 2).trans rfl
           have hc3_ : w'.cell? ⟨gb347, 3, none⟩ = some (.int .i64 t351) := (blk_cell BK347.out 3).trans rfl
           have hc4_ : w'.cell? ⟨gb347, 4, none⟩ = some (.int .i64 t345) := (blk_cell BK347.out 4).trans rfl
           refine value_ (w1 := w') (v := .agg #[.int .i64 t341, .int .i64 t342, .int .i64 t343, .int .i64 t351, .int .i64 t345]) (wanted_on rfl rfl rfl (e120.trans (by first | rfl | (simp [*]; done)))) rfl ?_ ?_
           ·go_simp
            (try simp only [i64_w])
            try rfl
           refine hK.out _ _ ⟨v405, v410, (by rw [ha.out]; exact putSel_upk 7 hb_ rfl rfl rfl), Q_BK347, Q_BK374, Q_HI340, Q_HB, Q_HO406, Q_HI340_e12, Q_HO411, Q_HI340_e16⟩
          refine steps_cons ?_ ?_
          ·rintro b a w' ⟨v405, v410, ha, Q_BK347, Q_BK374, Q_HI340, Q_HB, Q_HO406, Q_HI340_e12, Q_HO411, Q_HI340_e16⟩ hb_ hon hoff
           refine ⟨_, rfl, fun K hK => ?_⟩
           have e6 : a.tmps[6]? = some (.pointer (some ⟨gb347, 0, none⟩)) := by rw [ha]; exact (putSel_off rfl).trans rfl
           have e120 : a.tmps[120]? = some (.bool true) := by rw [ha]; exact putSel_on (e := (6, 120, .bool true)) 6 rfl rfl (hon 6 (by kernel_rfl)) rfl
           replace ha := Aside0.mk ha
           have BK347 := Aside0.mk Q_BK347
           have BK374 := Aside0.mk Q_BK374
           have HB := Aside0.mk Q_HB
           refine value_ (w1 := w') (v := .pointer (some ⟨gb347, 0, none⟩)) (wanted_on rfl rfl rfl (e120.trans (by first | rfl | (simp [*]; done)))) rfl ?_ ?_
           ·go_simp
            (try simp only [i64_w])
            try rfl
           refine hK.out _ _ ⟨v405, v410, (by rw [ha.out]; exact putSel_upk 8 hb_ rfl rfl rfl), Q_BK347, Q_BK374, Q_HI340, Q_HB, Q_HO406, Q_HI340_e12, Q_HO411, Q_HI340_e16⟩
          refine steps_cons ?_ ?_
          ·rintro b a w' ⟨v405, v410, ha, Q_BK347, Q_BK374, Q_HI340, Q_HB, Q_HO406, Q_HI340_e12, Q_HO411, Q_HI340_e16⟩ hb_ hon hoff
           refine ⟨_, rfl, fun K hK => ?_⟩
           have e122 : a.tmps[122]? = some (.pointer (some ⟨gb347, 0, none⟩)) := by rw [ha]; exact putSel_on (e := (8, 122, .pointer (some ⟨gb347, 0, none⟩))) 8 rfl rfl (hon 8 (by kernel_rfl)) rfl
           have e120 : a.tmps[120]? = some (.bool true) := by rw [ha]; exact putSel_on (e := (6, 120, .bool true)) 6 rfl rfl (hon 6 (by kernel_rfl)) rfl
           replace ha := Aside0.mk ha
           have BK347 := Aside0.mk Q_BK347
           have BK374 := Aside0.mk Q_BK374
           have HB := Aside0.mk Q_HB
           have hc0_ : w'.cell? ⟨gb347, 0, none⟩ = some (.int .i64 t341) := (blk_cell BK347.out 0).trans rfl
           have hc1_ : w'.cell? ⟨gb347, 1, none⟩ = some (.int .i64 t342) := (blk_cell BK347.out 1).trans rfl
           have hc2_ : w'.cell? ⟨gb347, 2, none⟩ = some (.int .i64 t343) := (blk_cell BK347.out 2).trans rfl
           have hc3_ : w'.cell? ⟨gb347, 3, none⟩ = some (.int .i64 t351) := (blk_cell BK347.out 3).trans rfl
           have hc4_ : w'.cell? ⟨gb347, 4, none⟩ = some (.int .i64 t345) := (blk_cell BK347.out 4).trans rfl
           refine value_ (w1 := w') (v := .int .i64 t341) (wanted_on rfl rfl rfl (e120.trans (by first | rfl | (simp [*]; done)))) rfl ?_ ?_
           ·go_simp
            (try simp only [i64_w])
            try rfl
           refine hK.out _ _ ⟨v405, v410, (by rw [ha.out]; exact putSel_upk 9 hb_ rfl rfl rfl), Q_BK347, Q_BK374, Q_HI340, Q_HB, Q_HO406, Q_HI340_e12, Q_HO411, Q_HI340_e16⟩
          refine steps_cons ?_ ?_
          ·rintro b a w' ⟨v405, v410, ha, Q_BK347, Q_BK374, Q_HI340, Q_HB, Q_HO406, Q_HI340_e12, Q_HO411, Q_HI340_e16⟩ hb_ hon hoff
           refine ⟨_, rfl, fun K hK => ?_⟩
           have e5 : a.tmps[5]? = some (.pointer (some ⟨g340, 0, none⟩)) := by rw [ha]; exact (putSel_off rfl).trans rfl
           have e120 : a.tmps[120]? = some (.bool true) := by rw [ha]; exact putSel_on (e := (6, 120, .bool true)) 6 rfl rfl (hon 6 (by kernel_rfl)) rfl
           replace ha := Aside0.mk ha
           have BK347 := Aside0.mk Q_BK347
           have BK374 := Aside0.mk Q_BK374
           have HI340 := Aside0.mk (Q_HI340 (hoff 12 (by kernel_rfl)))
           have HB := Aside0.mk Q_HB
           refine value_ (w1 := w') (v := .pointer (some ⟨g340, 0, none⟩)) (wanted_on rfl rfl rfl (e120.trans (by first | rfl | (simp [*]; done)))) rfl ?_ ?_
           ·go_simp
            (try simp only [i64_w])
            try rfl
           refine hK.out _ _ ⟨v405, v410, (by rw [ha.out]; exact putSel_upk 10 hb_ rfl rfl rfl), Q_BK347, Q_BK374, Q_HI340, Q_HB, Q_HO406, fun h0_ _ => absurd ((hoff 12 (by kernel_rfl)).symm.trans h0_) (by decide), Q_HO411, fun h0_ => absurd ((hoff 16 (by kernel_rfl)).symm.trans h0_) (by decide)⟩
          refine steps_cons ?_ ?_
          ·rintro b a w' ⟨v405, v410, ha, Q_BK347, Q_BK374, Q_HI340, Q_HB, Q_HO406, Q_HI340_e12, Q_HO411, Q_HI340_e16⟩ hb_ hon hoff
           refine ⟨_, rfl, fun K hK => ?_⟩
           have e120 : a.tmps[120]? = some (.bool true) := by rw [ha]; exact putSel_on (e := (6, 120, .bool true)) 6 rfl rfl (hon 6 (by kernel_rfl)) rfl
           replace ha := Aside0.mk ha
           have BK347 := Aside0.mk Q_BK347
           have BK374 := Aside0.mk Q_BK374
           have HI340 := Aside0.mk (Q_HI340 (hoff 12 (by kernel_rfl)))
           have HB := Aside0.mk Q_HB
           refine Kd.R_lit_step (Kd.int .i64) _ 3 ?hg (N := 125) ?hd (xs := ([1000, 1001] : List Int)) (inner := [.int .i64 1000, .int .i64 1001]) (ok := fun _ => True) (okp := fun _ => True) ?hr ?hp (fun _ hk => hk) trivial (Below.refl _ _) (Nat.le_refl _) (by simp) ?_; (case hd => rfl); (case hg => first | rfl | exact wanted_on rfl rfl rfl (by assumption)); (case hr => first | (go_simp; done) | (go_simp; rfl)); (case hp => exact (Reps.one (show Kd.M (Kd.int .i64) _ _ _ 1000 [.int .i64 1000] from rfl) (Reps.one (show Kd.M (Kd.int .i64) _ _ _ 1001 [.int .i64 1001] from rfl) (Reps.none _ _))))
           intro v405 w127 ho128 hb hg_ hnew_
           clear hg_ hnew_
           (first | rw [← Ny404.out] at ho128 | (simp only [Int.reduceToNat] at ho128; rw [← Ny404.out] at ho128))
           have n0_ := Aside0.mk (Kd.R_lower ho128 (below_size (by repeat (first | (with_reducible first | exact HB.out | apply below_alloc | apply pw_below_drewN | apply below_drew1 | refine below_set ?_ (IsS59.ge HI340.out) | refine below_set ?_ GE347.out | refine below_set ?_ GE374.out) | exact HB.out))))
           have n1_ := Aside0.mk (blk_below (g := gb347) (o := .cells #[.int .i64 t341, .int .i64 t342, .int .i64 t343, .int .i64 t351, .int .i64 t345] 45 (0, 0)) (by (with_reducible repeat (first | refine blk_drewN ?_ _ | refine blk_drew ?_ | refine blk_alloc ?_ _)); exact BK347.out) hb)
           have n2_ := Aside0.mk (blk_below (g := gb374) (o := .cells #[.int .i64 x375000_61, .int .i64 x375001_61, .int .i64 x375002_61, .int .i64 x375003_61, .int .i64 x375004_61] 45 (0, 0)) (by (with_reducible repeat (first | refine blk_drewN ?_ _ | refine blk_drew ?_ | refine blk_alloc ?_ _)); exact BK374.out) hb)
           have n3_ := Aside0.mk (IsS59.below (by repeat (first | (with_reducible first | exact HI340.out | apply IsS59.alloc | apply IsS59.drewN | apply IsS59.drew | apply IsS59.set_1 | refine IsS59.far ?_ NB340_347.out _ | refine IsS59.far ?_ NB340_374.out _) | exact HI340.out)) hb)
           have n4_ := Aside0.mk (below_step (by repeat (first | (with_reducible first | exact HB.out | apply below_alloc | apply pw_below_drewN | apply below_drew1 | refine below_set ?_ (IsS59.ge HI340.out) | refine below_set ?_ GE347.out | refine below_set ?_ GE374.out) | exact HB.out)) hb)
           have z_HO411 := fun (h0_ : b 15 = true) => (show Kd.R (Kd.int .i64) 3 w127 w.heap.size (fun _ => True) v410 y409 from by first | exact (Kd.R_elder' (by (with_reducible repeat (first | apply Kd.R_alloc | apply Kd.R_drewN | apply Kd.R_drew)); exact (Q_HO411 h0_)) (Kd.R_base ho128) hb) | exact Kd.R_mono (Kd.R_elder' (by (with_reducible repeat (first | apply Kd.R_alloc | apply Kd.R_drewN | apply Kd.R_drew)); exact (Q_HO411 h0_)) (Kd.R_base ho128) hb) (fun _ h_ => by first | trivial | exact h_ | exact h_.1))
           clear BK347; clear BK374; clear HI340; clear HB; have HO406 := n0_; have BK347 := n1_; have BK374 := n2_; have HI340 := n3_; have HB := n4_
           clear n0_ n1_ n2_ n3_ n4_
           clear hb ho128
           refine hK.out _ _ ⟨v405, v410, (by rw [ha.out]; exact putSel_upk 11 hb_ rfl rfl rfl), (by (with_reducible repeat (first | refine blk_drewN ?_ _ | refine blk_drew ?_ | refine blk_alloc ?_ _)); exact BK347.out), (by (with_reducible repeat (first | refine blk_drewN ?_ _ | refine blk_drew ?_ | refine blk_alloc ?_ _)); exact BK374.out), fun _ => (by repeat (first | (with_reducible first | exact HI340.out | apply IsS59.alloc | apply IsS59.drewN | apply IsS59.drew | apply IsS59.set_1 | refine IsS59.far ?_ NB340_347.out _ | refine IsS59.far ?_ NB340_374.out _) | exact HI340.out)), (by repeat (first | (with_reducible first | exact HB.out | apply below_alloc | apply pw_below_drewN | apply below_drew1 | refine below_set ?_ (IsS59.ge HI340.out) | refine below_set ?_ GE347.out | refine below_set ?_ GE374.out) | exact HB.out)), fun _ => (by (with_reducible repeat (first | apply Kd.R_alloc | apply Kd.R_drewN | apply Kd.R_drew)); exact HO406.out), fun h0_ _ => absurd ((hoff 12 (by kernel_rfl)).symm.trans h0_) (by decide), z_HO411, fun h0_ => absurd ((hoff 16 (by kernel_rfl)).symm.trans h0_) (by decide)⟩
          refine steps_cons ?_ ?_
          ·rintro b a w' ⟨v405, v410, ha, Q_BK347, Q_BK374, Q_HI340, Q_HB, Q_HO406, Q_HI340_e12, Q_HO411, Q_HI340_e16⟩ hb_ hon hoff
           refine ⟨_, rfl, fun K hK => ?_⟩
           have e124 : a.tmps[124]? = some (.pointer (some ⟨g340, 0, none⟩)) := by rw [ha]; exact putSel_on (e := (10, 124, .pointer (some ⟨g340, 0, none⟩))) 10 rfl rfl (hon 10 (by kernel_rfl)) rfl
           have e125 : a.tmps[125]? = some (v405) := by rw [ha]; exact putSel_on (e := (11, 125, v405)) 11 rfl rfl (hon 11 (by kernel_rfl)) rfl
           have e120 : a.tmps[120]? = some (.bool true) := by rw [ha]; exact putSel_on (e := (6, 120, .bool true)) 6 rfl rfl (hon 6 (by kernel_rfl)) rfl
           replace ha := Aside0.mk ha
           have BK347 := Aside0.mk Q_BK347
           have BK374 := Aside0.mk Q_BK374
           have HI340 := Aside0.mk (Q_HI340 hb_)
           have HB := Aside0.mk Q_HB
           have HO406 := Aside0.mk (Q_HO406 (hon 11 (by kernel_rfl)))
           obtain ⟨Ao129, co129, eo129⟩ := Kd.R_slice HO406.out
           (first | subst eo129 | (injection eo129 with f1_ f2_ f3_; have f4_ := f1_.symm; have f5_ := f3_.symm; clear f1_ f2_ f3_; subst f4_; subst f5_))
           refine goes_ Try.func16 (by kernel_rfl) rfl #[.pointer (some ⟨g340, 0, none⟩), .slice Ao129 y404.length co129] (by first | rfl | exact wanted_on rfl rfl rfl (by assumption)) rfl rfl (by first | (simp only [List.map_toArray, List.map_cons, List.map_nil, Act.eval, Array.getD_eq_getD_getElem?, Option.getD_some, e124, e125, e120]; done) | (simp only [List.map_toArray, List.map_cons, List.map_nil, Act.eval, Array.getD_eq_getD_getElem?, Option.getD_some, e124, e125, e120]; rfl)) ?_
           with_reducible refine (made_Dice_Of.calls g340 t338 x341001_61 _ _ y404 t407 t408 w _ ?side1 ?side2 ?side3 ?side4 ?side5 A120.out).mono ?_
           (case side1 => repeat (first | (with_reducible first | exact HI340.out | apply IsS59.alloc | apply IsS59.drewN | apply IsS59.drew | apply IsS59.set_1 | refine IsS59.far ?_ NB340_347.out _ | refine IsS59.far ?_ NB340_374.out _) | exact HI340.out))
           (case side2 => repeat (first | (with_reducible first | exact HB.out | apply below_alloc | apply pw_below_drewN | apply below_drew1 | refine below_set ?_ (IsS59.ge HI340.out) | refine below_set ?_ GE347.out | refine below_set ?_ GE374.out) | exact HB.out))
           (case side3 => repeat (first | exact (Kd.R_reads' HO406.out).2.2 | (with_reducible refine Kd.C_alloc ?_ _) | (with_reducible refine Kd.C_drewN ?_ _) | (with_reducible refine Kd.C_drew ?_)))
           (case side4 => exact (Kd.R_reads' HO406.out).2.1)
           (case side5 => exact far_slice (IsS59.own_ne HI340.out HO406.out (by decide)))
           rintro e w130 ⟨rfl, hi, hb, hk⟩
           refine ⟨_, rfl, ?_⟩
           have n0_ := Aside0.mk (KeepBut.blk hk (g' := gb347) (o := .cells #[.int .i64 t341, .int .i64 t342, .int .i64 t343, .int .i64 t351, .int .i64 t345] 45 (0, 0)) (by (with_reducible repeat (first | refine blk_drewN ?_ _ | refine blk_drew ?_ | refine blk_alloc ?_ _)); exact BK347.out) NB347_340.out (by simp))
           have n1_ := Aside0.mk (KeepBut.blk hk (g' := gb374) (o := .cells #[.int .i64 x375000_61, .int .i64 x375001_61, .int .i64 x375002_61, .int .i64 x375003_61, .int .i64 x375004_61] 45 (0, 0)) (by (with_reducible repeat (first | refine blk_drewN ?_ _ | refine blk_drew ?_ | refine blk_alloc ?_ _)); exact BK374.out) NB374_340.out (by simp))
           have n2_ := Aside0.mk (Kd.R_mono (Kd.R_keep (IsS59.apart (show IsS59 w _ g340 t338 x341001_61 from by repeat (first | (with_reducible first | exact HI340.out | apply IsS59.alloc | apply IsS59.drewN | apply IsS59.drew | apply IsS59.set_1 | refine IsS59.far ?_ NB340_347.out _ | refine IsS59.far ?_ NB340_374.out _) | exact HI340.out)) (by (with_reducible repeat (first | apply Kd.R_alloc | apply Kd.R_drewN | apply Kd.R_drew)); exact HO406.out) (by decide)) hk (fun _ h => h.2)) (fun _ h => h.1))
           have n3_ := Aside0.mk (hb)
           have n4_ := Aside0.mk (hi)
           have z_HO411 := fun (h0_ : b 15 = true) => (show Kd.R (Kd.int .i64) 3 w130 w.heap.size (fun _ => True) v410 y409 from by first | exact (Kd.R_mono (Kd.R_keep (IsS59.apart (show IsS59 w _ g340 t338 x341001_61 from by repeat (first | (with_reducible first | exact HI340.out | apply IsS59.alloc | apply IsS59.drewN | apply IsS59.drew | apply IsS59.set_1 | refine IsS59.far ?_ NB340_347.out _ | refine IsS59.far ?_ NB340_374.out _) | exact HI340.out)) (by (with_reducible repeat (first | apply Kd.R_alloc | apply Kd.R_drewN | apply Kd.R_drew)); exact (Q_HO411 h0_)) (by decide)) hk (fun _ h => h.2)) (fun _ h => h.1)) | exact Kd.R_mono (Kd.R_mono (Kd.R_keep (IsS59.apart (show IsS59 w _ g340 t338 x341001_61 from by repeat (first | (with_reducible first | exact HI340.out | apply IsS59.alloc | apply IsS59.drewN | apply IsS59.drew | apply IsS59.set_1 | refine IsS59.far ?_ NB340_347.out _ | refine IsS59.far ?_ NB340_374.out _) | exact HI340.out)) (by (with_reducible repeat (first | apply Kd.R_alloc | apply Kd.R_drewN | apply Kd.R_drew)); exact (Q_HO411 h0_)) (by decide)) hk (fun _ h => h.2)) (fun _ h => h.1)) (fun _ h_ => by first | trivial | exact h_ | exact h_.1))
           clear BK347; clear BK374; clear HO406; clear HB; clear HI340; have BK347 := n0_; have BK374 := n1_; have HO406 := n2_; have HB := n3_; have HI340 := n4_
           clear n0_ n1_ n2_ n3_ n4_
           (try clear hb); (try clear hb2); (try clear hk); (try clear hi)
           refine hK.out _ _ ⟨.slice Ao129 y404.length co129, v410, (by rw [ha.out]; exact putSel_upk 12 hb_ rfl rfl rfl), (by (with_reducible repeat (first | refine blk_drewN ?_ _ | refine blk_drew ?_ | refine blk_alloc ?_ _)); exact BK347.out), (by (with_reducible repeat (first | refine blk_drewN ?_ _ | refine blk_drew ?_ | refine blk_alloc ?_ _)); exact BK374.out), fun h0_ => absurd ((up_self b 12).symm.trans h0_) (by decide), (by repeat (first | (with_reducible first | exact HB.out | apply below_alloc | apply pw_below_drewN | apply below_drew1 | refine below_set ?_ (IsS59.ge HI340.out) | refine below_set ?_ GE347.out | refine below_set ?_ GE374.out) | exact HB.out)), fun _ => (by (with_reducible repeat (first | apply Kd.R_alloc | apply Kd.R_drewN | apply Kd.R_drew)); exact HO406.out), fun _ _ => (by repeat (first | (with_reducible first | exact HI340.out | apply IsS59.alloc | apply IsS59.drewN | apply IsS59.drew | apply IsS59.set_1 | refine IsS59.far ?_ NB340_347.out _ | refine IsS59.far ?_ NB340_374.out _) | exact HI340.out)), z_HO411, fun h0_ => absurd ((hoff 16 (by kernel_rfl)).symm.trans h0_) (by decide)⟩
          refine steps_cons ?_ ?_
          ·rintro b a w' ⟨v405, v410, ha, Q_BK347, Q_BK374, Q_HI340, Q_HB, Q_HO406, Q_HI340_e12, Q_HO411, Q_HI340_e16⟩ hb_ hon hoff
           refine ⟨_, rfl, fun K hK => ?_⟩
           have e123 : a.tmps[123]? = some (.int .i64 t341) := by rw [ha]; exact putSel_on (e := (9, 123, .int .i64 t341)) 9 rfl rfl (hon 9 (by kernel_rfl)) rfl
           have e126 : a.tmps[126]? = some (.int .i64 t407) := by rw [ha]; exact putSel_on (e := (12, 126, .int .i64 t407)) 12 rfl rfl (hon 12 (by kernel_rfl)) rfl
           have e120 : a.tmps[120]? = some (.bool true) := by rw [ha]; exact putSel_on (e := (6, 120, .bool true)) 6 rfl rfl (hon 6 (by kernel_rfl)) rfl
           replace ha := Aside0.mk ha
           have BK347 := Aside0.mk Q_BK347
           have BK374 := Aside0.mk Q_BK374
           have HB := Aside0.mk Q_HB
           have HO406 := Aside0.mk (Q_HO406 (hon 11 (by kernel_rfl)))
           refine value_ (w1 := w') (v := .int .i64 (wrap64 (t341 + t407))) (wanted_on rfl rfl rfl (e120.trans (by first | rfl | (simp [*]; done)))) rfl ?_ ?_
           ·go_simp
            (try simp only [i64_w])
            try rfl
           refine hK.out _ _ ⟨v405, v410, (by rw [ha.out]; exact putSel_upk 13 hb_ rfl rfl rfl), Q_BK347, Q_BK374, fun h0_ => absurd ((hon 12 (by kernel_rfl)).symm.trans h0_) (by decide), Q_HB, Q_HO406, Q_HI340_e12, Q_HO411, Q_HI340_e16⟩
          refine steps_cons ?_ ?_
          ·rintro b a w' ⟨v405, v410, ha, Q_BK347, Q_BK374, Q_HI340, Q_HB, Q_HO406, Q_HI340_e12, Q_HO411, Q_HI340_e16⟩ hb_ hon hoff
           refine ⟨_, rfl, fun K hK => ?_⟩
           have e5 : a.tmps[5]? = some (.pointer (some ⟨g340, 0, none⟩)) := by rw [ha]; exact (putSel_off rfl).trans rfl
           have e120 : a.tmps[120]? = some (.bool true) := by rw [ha]; exact putSel_on (e := (6, 120, .bool true)) 6 rfl rfl (hon 6 (by kernel_rfl)) rfl
           replace ha := Aside0.mk ha
           have BK347 := Aside0.mk Q_BK347
           have BK374 := Aside0.mk Q_BK374
           have HB := Aside0.mk Q_HB
           refine value_ (w1 := w') (v := .pointer (some ⟨g340, 0, none⟩)) (wanted_on rfl rfl rfl (e120.trans (by first | rfl | (simp [*]; done)))) rfl ?_ ?_
           ·go_simp
            (try simp only [i64_w])
            try rfl
           refine hK.out _ _ ⟨v405, v410, (by rw [ha.out]; exact putSel_upk 14 hb_ rfl rfl rfl), Q_BK347, Q_BK374, Q_HI340, Q_HB, Q_HO406, Q_HI340_e12, Q_HO411, fun h0_ => absurd ((hoff 16 (by kernel_rfl)).symm.trans h0_) (by decide)⟩
          refine steps_cons ?_ ?_
          ·rintro b a w' ⟨v405, v410, ha, Q_BK347, Q_BK374, Q_HI340, Q_HB, Q_HO406, Q_HI340_e12, Q_HO411, Q_HI340_e16⟩ hb_ hon hoff
           refine ⟨_, rfl, fun K hK => ?_⟩
           have e120 : a.tmps[120]? = some (.bool true) := by rw [ha]; exact putSel_on (e := (6, 120, .bool true)) 6 rfl rfl (hon 6 (by kernel_rfl)) rfl
           replace ha := Aside0.mk ha
           have BK347 := Aside0.mk Q_BK347
           have BK374 := Aside0.mk Q_BK374
           have HB := Aside0.mk Q_HB
           refine Kd.R_lit_step (Kd.int .i64) _ 3 ?hg (N := 129) ?hd (xs := ([40000, 40001] : List Int)) (inner := [.int .i64 40000, .int .i64 40001]) (ok := fun _ => True) (okp := fun _ => True) ?hr ?hp (fun _ hk => hk) trivial (Below.refl _ _) (Nat.le_refl _) (by simp) ?_; (case hd => rfl); (case hg => first | rfl | exact wanted_on rfl rfl rfl (by assumption)); (case hr => first | (go_simp; done) | (go_simp; rfl)); (case hp => exact (Reps.one (show Kd.M (Kd.int .i64) _ _ _ 40000 [.int .i64 40000] from rfl) (Reps.one (show Kd.M (Kd.int .i64) _ _ _ 40001 [.int .i64 40001] from rfl) (Reps.none _ _))))
           intro v410 w127 ho128 hb hg_ hnew_
           clear hg_ hnew_
           (first | rw [← Ny409.out] at ho128 | (simp only [Int.reduceToNat] at ho128; rw [← Ny409.out] at ho128))
           have n0_ := Aside0.mk (Kd.R_lower ho128 (below_size (by repeat (first | (with_reducible first | exact HB.out | apply below_alloc | apply pw_below_drewN | apply below_drew1 | refine below_set ?_ GE347.out | refine below_set ?_ GE374.out) | exact HB.out))))
           have n1_ := Aside0.mk (blk_below (g := gb347) (o := .cells #[.int .i64 t341, .int .i64 t342, .int .i64 t343, .int .i64 t351, .int .i64 t345] 45 (0, 0)) (by (with_reducible repeat (first | refine blk_drewN ?_ _ | refine blk_drew ?_ | refine blk_alloc ?_ _)); exact BK347.out) hb)
           have n2_ := Aside0.mk (blk_below (g := gb374) (o := .cells #[.int .i64 x375000_61, .int .i64 x375001_61, .int .i64 x375002_61, .int .i64 x375003_61, .int .i64 x375004_61] 45 (0, 0)) (by (with_reducible repeat (first | refine blk_drewN ?_ _ | refine blk_drew ?_ | refine blk_alloc ?_ _)); exact BK374.out) hb)
           have n4_ := Aside0.mk (below_step (by repeat (first | (with_reducible first | exact HB.out | apply below_alloc | apply pw_below_drewN | apply below_drew1 | refine below_set ?_ GE347.out | refine below_set ?_ GE374.out) | exact HB.out)) hb)
           have z_HI340 := fun (h0_ : b 12 = false) => (show IsS59 w w127 g340 t338 x341001_61 from by first | exact (IsS59.below (by repeat (first | (with_reducible first | exact (Q_HI340 h0_) | apply IsS59.alloc | apply IsS59.drewN | apply IsS59.drew | apply IsS59.set_1 | refine IsS59.far ?_ NB340_347.out _ | refine IsS59.far ?_ NB340_374.out _) | exact (Q_HI340 h0_))) hb))
           have z_HO406 := fun (h0_ : b 11 = true) => (show Kd.R (Kd.int .i64) 3 w127 w.heap.size (fun _ => True) v405 y404 from by first | exact (Kd.R_elder' (by (with_reducible repeat (first | apply Kd.R_alloc | apply Kd.R_drewN | apply Kd.R_drew)); exact (Q_HO406 h0_)) (Kd.R_base ho128) hb) | exact Kd.R_mono (Kd.R_elder' (by (with_reducible repeat (first | apply Kd.R_alloc | apply Kd.R_drewN | apply Kd.R_drew)); exact (Q_HO406 h0_)) (Kd.R_base ho128) hb) (fun _ h_ => by first | trivial | exact h_ | exact h_.1))
           have z_HI340_e12 := fun (h0_ : b 12 = true) (h1_ : b 16 = false) => (show IsS59 w w127 g340 t338 t408 from by first | exact (IsS59.below (by repeat (first | (with_reducible first | exact (Q_HI340_e12 h0_ h1_) | apply IsS59.alloc | apply IsS59.drewN | apply IsS59.drew | apply IsS59.set_1 | refine IsS59.far ?_ NB340_347.out _ | refine IsS59.far ?_ NB340_374.out _) | exact (Q_HI340_e12 h0_ h1_))) hb))
           clear BK347; clear BK374; clear HB; have HO411 := n0_; have BK347 := n1_; have BK374 := n2_; have HB := n4_
           clear n0_ n1_ n2_ n4_
           clear hb ho128
           refine hK.out _ _ ⟨v405, v410, (by rw [ha.out]; exact putSel_upk 15 hb_ rfl rfl rfl), (by (with_reducible repeat (first | refine blk_drewN ?_ _ | refine blk_drew ?_ | refine blk_alloc ?_ _)); exact BK347.out), (by (with_reducible repeat (first | refine blk_drewN ?_ _ | refine blk_drew ?_ | refine blk_alloc ?_ _)); exact BK374.out), z_HI340, (by repeat (first | (with_reducible first | exact HB.out | apply below_alloc | apply pw_below_drewN | apply below_drew1 | refine below_set ?_ GE347.out | refine below_set ?_ GE374.out) | exact HB.out)), z_HO406, z_HI340_e12, fun _ => (by (with_reducible repeat (first | apply Kd.R_alloc | apply Kd.R_drewN | apply Kd.R_drew)); exact HO411.out), fun h0_ => absurd ((hoff 16 (by kernel_rfl)).symm.trans h0_) (by decide)⟩
          refine steps_cons ?_ ?_
          ·rintro b a w' ⟨v405, v410, ha, Q_BK347, Q_BK374, Q_HI340, Q_HB, Q_HO406, Q_HI340_e12, Q_HO411, Q_HI340_e16⟩ hb_ hon hoff
           refine ⟨_, rfl, fun K hK => ?_⟩
           have e128 : a.tmps[128]? = some (.pointer (some ⟨g340, 0, none⟩)) := by rw [ha]; exact putSel_on (e := (14, 128, .pointer (some ⟨g340, 0, none⟩))) 14 rfl rfl (hon 14 (by kernel_rfl)) rfl
           have e129 : a.tmps[129]? = some (v410) := by rw [ha]; exact putSel_on (e := (15, 129, v410)) 15 rfl rfl (hon 15 (by kernel_rfl)) rfl
           have e120 : a.tmps[120]? = some (.bool true) := by rw [ha]; exact putSel_on (e := (6, 120, .bool true)) 6 rfl rfl (hon 6 (by kernel_rfl)) rfl
           replace ha := Aside0.mk ha
           have BK347 := Aside0.mk Q_BK347
           have BK374 := Aside0.mk Q_BK374
           have HB := Aside0.mk Q_HB
           have HO406 := Aside0.mk (Q_HO406 (hon 11 (by kernel_rfl)))
           have HI340 := Aside0.mk (Q_HI340_e12 (hon 12 (by kernel_rfl)) hb_)
           have HO411 := Aside0.mk (Q_HO411 (hon 15 (by kernel_rfl)))
           obtain ⟨Ao133, co133, eo133⟩ := Kd.R_slice HO411.out
           (first | subst eo133 | (injection eo133 with f1_ f2_ f3_; have f4_ := f1_.symm; have f5_ := f3_.symm; clear f1_ f2_ f3_; subst f4_; subst f5_))
           refine goes_ Try.func16 (by kernel_rfl) rfl #[.pointer (some ⟨g340, 0, none⟩), .slice Ao133 y409.length co133] (by first | rfl | exact wanted_on rfl rfl rfl (by assumption)) rfl rfl (by first | (simp only [List.map_toArray, List.map_cons, List.map_nil, Act.eval, Array.getD_eq_getD_getElem?, Option.getD_some, e128, e129, e120]; done) | (simp only [List.map_toArray, List.map_cons, List.map_nil, Act.eval, Array.getD_eq_getD_getElem?, Option.getD_some, e128, e129, e120]; rfl)) ?_
           with_reducible refine (made_Dice_Of.calls g340 t338 t408 _ _ y409 t412 t413 w _ ?side1 ?side2 ?side3 ?side4 ?side5 A121.out).mono ?_
           (case side1 => repeat (first | (with_reducible first | exact HI340.out | apply IsS59.alloc | apply IsS59.drewN | apply IsS59.drew | apply IsS59.set_1 | refine IsS59.far ?_ NB340_347.out _ | refine IsS59.far ?_ NB340_374.out _) | exact HI340.out))
           (case side2 => repeat (first | (with_reducible first | exact HB.out | apply below_alloc | apply pw_below_drewN | apply below_drew1 | refine below_set ?_ (IsS59.ge HI340.out) | refine below_set ?_ GE347.out | refine below_set ?_ GE374.out) | exact HB.out))
           (case side3 => repeat (first | exact (Kd.R_reads' HO411.out).2.2 | (with_reducible refine Kd.C_alloc ?_ _) | (with_reducible refine Kd.C_drewN ?_ _) | (with_reducible refine Kd.C_drew ?_)))
           (case side4 => exact (Kd.R_reads' HO411.out).2.1)
           (case side5 => exact far_slice (IsS59.own_ne HI340.out HO411.out (by decide)))
           rintro e w134 ⟨rfl, hi, hb, hk⟩
           refine ⟨_, rfl, ?_⟩
           have n0_ := Aside0.mk (KeepBut.blk hk (g' := gb347) (o := .cells #[.int .i64 t341, .int .i64 t342, .int .i64 t343, .int .i64 t351, .int .i64 t345] 45 (0, 0)) (by (with_reducible repeat (first | refine blk_drewN ?_ _ | refine blk_drew ?_ | refine blk_alloc ?_ _)); exact BK347.out) NB347_340.out (by simp))
           have n1_ := Aside0.mk (KeepBut.blk hk (g' := gb374) (o := .cells #[.int .i64 x375000_61, .int .i64 x375001_61, .int .i64 x375002_61, .int .i64 x375003_61, .int .i64 x375004_61] 45 (0, 0)) (by (with_reducible repeat (first | refine blk_drewN ?_ _ | refine blk_drew ?_ | refine blk_alloc ?_ _)); exact BK374.out) NB374_340.out (by simp))
           have n2_ := Aside0.mk (Kd.R_mono (Kd.R_keep (IsS59.apart (show IsS59 w _ g340 t338 t408 from by repeat (first | (with_reducible first | exact HI340.out | apply IsS59.alloc | apply IsS59.drewN | apply IsS59.drew | apply IsS59.set_1 | refine IsS59.far ?_ NB340_347.out _ | refine IsS59.far ?_ NB340_374.out _) | exact HI340.out)) (by (with_reducible repeat (first | apply Kd.R_alloc | apply Kd.R_drewN | apply Kd.R_drew)); exact HO406.out) (by decide)) hk (fun _ h => h.2)) (fun _ h => h.1))
           have n3_ := Aside0.mk (Kd.R_mono (Kd.R_keep (IsS59.apart (show IsS59 w _ g340 t338 t408 from by repeat (first | (with_reducible first | exact HI340.out | apply IsS59.alloc | apply IsS59.drewN | apply IsS59.drew | apply IsS59.set_1 | refine IsS59.far ?_ NB340_347.out _ | refine IsS59.far ?_ NB340_374.out _) | exact HI340.out)) (by (with_reducible repeat (first | apply Kd.R_alloc | apply Kd.R_drewN | apply Kd.R_drew)); exact HO411.out) (by decide)) hk (fun _ h => h.2)) (fun _ h => h.1))
           have n4_ := Aside0.mk (hb)
           have n5_ := Aside0.mk (hi)
           clear BK347; clear BK374; clear HO406; clear HO411; clear HB; clear HI340; have BK347 := n0_; have BK374 := n1_; have HO406 := n2_; have HO411 := n3_; have HB := n4_; have HI340 := n5_
           clear n0_ n1_ n2_ n3_ n4_ n5_
           (try clear hb); (try clear hb2); (try clear hk); (try clear hi)
           refine hK.out _ _ ⟨v405, .slice Ao133 y409.length co133, (by rw [ha.out]; exact putSel_upk 16 hb_ rfl rfl rfl), (by (with_reducible repeat (first | refine blk_drewN ?_ _ | refine blk_drew ?_ | refine blk_alloc ?_ _)); exact BK347.out), (by (with_reducible repeat (first | refine blk_drewN ?_ _ | refine blk_drew ?_ | refine blk_alloc ?_ _)); exact BK374.out), fun h0_ => absurd ((hon 12 (by kernel_rfl)).symm.trans h0_) (by decide), (by repeat (first | (with_reducible first | exact HB.out | apply below_alloc | apply pw_below_drewN | apply below_drew1 | refine below_set ?_ (IsS59.ge HI340.out) | refine below_set ?_ GE347.out | refine below_set ?_ GE374.out) | exact HB.out)), fun _ => (by (with_reducible repeat (first | apply Kd.R_alloc | apply Kd.R_drewN | apply Kd.R_drew)); exact HO406.out), fun _ h1_ => absurd ((up_self b 16).symm.trans h1_) (by decide), fun _ => (by (with_reducible repeat (first | apply Kd.R_alloc | apply Kd.R_drewN | apply Kd.R_drew)); exact HO411.out), fun _ => (by repeat (first | (with_reducible first | exact HI340.out | apply IsS59.alloc | apply IsS59.drewN | apply IsS59.drew | apply IsS59.set_1 | refine IsS59.far ?_ NB340_347.out _ | refine IsS59.far ?_ NB340_374.out _) | exact HI340.out))⟩
          refine steps_cons ?_ ?_
          ·rintro b a w' ⟨v405, v410, ha, Q_BK347, Q_BK374, Q_HI340, Q_HB, Q_HO406, Q_HI340_e12, Q_HO411, Q_HI340_e16⟩ hb_ hon hoff
           refine ⟨_, rfl, fun K hK => ?_⟩
           have e127 : a.tmps[127]? = some (.int .i64 (wrap64 (t341 + t407))) := by rw [ha]; exact putSel_on (e := (13, 127, .int .i64 (wrap64 (t341 + t407)))) 13 rfl rfl (hon 13 (by kernel_rfl)) rfl
           have e130 : a.tmps[130]? = some (.int .i64 t412) := by rw [ha]; exact putSel_on (e := (16, 130, .int .i64 t412)) 16 rfl rfl (hon 16 (by kernel_rfl)) rfl
           have e120 : a.tmps[120]? = some (.bool true) := by rw [ha]; exact putSel_on (e := (6, 120, .bool true)) 6 rfl rfl (hon 6 (by kernel_rfl)) rfl
           replace ha := Aside0.mk ha
           have BK347 := Aside0.mk Q_BK347
           have BK374 := Aside0.mk Q_BK374
           have HB := Aside0.mk Q_HB
           have HO406 := Aside0.mk (Q_HO406 (hon 11 (by kernel_rfl)))
           have HO411 := Aside0.mk (Q_HO411 (hon 15 (by kernel_rfl)))
           have HI340 := Aside0.mk (Q_HI340_e16 (hon 16 (by kernel_rfl)))
           refine value_ (w1 := w') (v := .agg #[.int .i64 (wrap64 (t341 + t407)), .int .i64 t412, .bool false]) (wanted_on rfl rfl rfl (e120.trans (by first | rfl | (simp [*]; done)))) rfl ?_ ?_
           ·go_simp
            (try simp only [i64_w])
            try rfl
           refine hK.out _ _ ⟨v405, v410, (by rw [ha.out]; exact putSel_upk 17 hb_ rfl rfl rfl), Q_BK347, Q_BK374, fun h0_ => absurd ((hon 12 (by kernel_rfl)).symm.trans h0_) (by decide), Q_HB, Q_HO406, fun _ h1_ => absurd ((hon 16 (by kernel_rfl)).symm.trans h1_) (by decide), Q_HO411, Q_HI340_e16⟩
          refine steps_cons ?_ ?_
          ·rintro b a w' ⟨v405, v410, ha, Q_BK347, Q_BK374, Q_HI340, Q_HB, Q_HO406, Q_HI340_e12, Q_HO411, Q_HI340_e16⟩ hb_ hon hoff
           refine ⟨_, rfl, fun K hK => ?_⟩
           have e121 : a.tmps[121]? = some (.agg #[.int .i64 t341, .int .i64 t342, .int .i64 t343, .int .i64 t351, .int .i64 t345]) := by rw [ha]; exact putSel_on (e := (7, 121, .agg #[.int .i64 t341, .int .i64 t342, .int .i64 t343, .int .i64 t351, .int .i64 t345])) 7 rfl rfl (hon 7 (by kernel_rfl)) rfl
           have e131 : a.tmps[131]? = some (.agg #[.int .i64 (wrap64 (t341 + t407)), .int .i64 t412, .bool false]) := by rw [ha]; exact putSel_on (e := (17, 131, .agg #[.int .i64 (wrap64 (t341 + t407)), .int .i64 t412, .bool false])) 17 rfl rfl (hon 17 (by kernel_rfl)) rfl
           have e120 : a.tmps[120]? = some (.bool true) := by rw [ha]; exact putSel_on (e := (6, 120, .bool true)) 6 rfl rfl (hon 6 (by kernel_rfl)) rfl
           replace ha := Aside0.mk ha
           have BK347 := Aside0.mk Q_BK347
           have BK374 := Aside0.mk Q_BK374
           have HB := Aside0.mk Q_HB
           have HO406 := Aside0.mk (Q_HO406 (hon 11 (by kernel_rfl)))
           have HO411 := Aside0.mk (Q_HO411 (hon 15 (by kernel_rfl)))
           have HI340 := Aside0.mk (Q_HI340_e16 (hon 16 (by kernel_rfl)))
           refine goes_ Try.func32 (by kernel_rfl) rfl #[.agg #[.int .i64 t341, .int .i64 t342, .int .i64 t343, .int .i64 t351, .int .i64 t345], .agg #[.int .i64 (wrap64 (t341 + t407)), .int .i64 t412, .bool false], .int .i64 3] (by first | rfl | exact wanted_on rfl rfl rfl (by assumption)) rfl rfl (by first | (simp only [List.map_toArray, List.map_cons, List.map_nil, Act.eval, Array.getD_eq_getD_getElem?, Option.getD_some, e121, e131, e120]; done) | (simp only [List.map_toArray, List.map_cons, List.map_nil, Act.eval, Array.getD_eq_getD_getElem?, Option.getD_some, e121, e131, e120]; rfl)) ?_
           with_reducible refine (law37_agree.calls kj61 t341 t342 t343 t351 t345 (wrap64 (t341 + t407)) t412 false 3 t414 _ A122.out).mono ?_
           rintro e w135 ⟨rfl, hb⟩
           refine ⟨_, rfl, ?_⟩
           have n0_ := Aside0.mk (Kd.R_below (by (with_reducible repeat (first | apply Kd.R_alloc | apply Kd.R_drewN | apply Kd.R_drew)); exact HO406.out) hb)
           have n1_ := Aside0.mk (Kd.R_below (by (with_reducible repeat (first | apply Kd.R_alloc | apply Kd.R_drewN | apply Kd.R_drew)); exact HO411.out) hb)
           have n2_ := Aside0.mk (blk_below (g := gb347) (o := .cells #[.int .i64 t341, .int .i64 t342, .int .i64 t343, .int .i64 t351, .int .i64 t345] 45 (0, 0)) (by (with_reducible repeat (first | refine blk_drewN ?_ _ | refine blk_drew ?_ | refine blk_alloc ?_ _)); exact BK347.out) hb)
           have n3_ := Aside0.mk (blk_below (g := gb374) (o := .cells #[.int .i64 x375000_61, .int .i64 x375001_61, .int .i64 x375002_61, .int .i64 x375003_61, .int .i64 x375004_61] 45 (0, 0)) (by (with_reducible repeat (first | refine blk_drewN ?_ _ | refine blk_drew ?_ | refine blk_alloc ?_ _)); exact BK374.out) hb)
           have n4_ := Aside0.mk (IsS59.below (by repeat (first | (with_reducible first | exact HI340.out | apply IsS59.alloc | apply IsS59.drewN | apply IsS59.drew | apply IsS59.set_1 | refine IsS59.far ?_ NB340_347.out _ | refine IsS59.far ?_ NB340_374.out _) | exact HI340.out)) hb)
           have n5_ := Aside0.mk (below_step (by repeat (first | (with_reducible first | exact HB.out | apply below_alloc | apply pw_below_drewN | apply below_drew1 | refine below_set ?_ (IsS59.ge HI340.out) | refine below_set ?_ GE347.out | refine below_set ?_ GE374.out) | exact HB.out)) hb)
           clear HO406; clear HO411; clear BK347; clear BK374; clear HI340; clear HB; have HO406 := n0_; have HO411 := n1_; have BK347 := n2_; have BK374 := n3_; have HI340 := n4_; have HB := n5_
           clear n0_ n1_ n2_ n3_ n4_ n5_
           (try clear hb); (try clear hb2); (try clear hk); (try clear hi)
           refine hK.out _ _ ⟨v405, v410, (by rw [ha.out]; exact putSel_upk 18 hb_ rfl rfl rfl), (by (with_reducible repeat (first | refine blk_drewN ?_ _ | refine blk_drew ?_ | refine blk_alloc ?_ _)); exact BK347.out), (by (with_reducible repeat (first | refine blk_drewN ?_ _ | refine blk_drew ?_ | refine blk_alloc ?_ _)); exact BK374.out), fun h0_ => absurd ((hon 12 (by kernel_rfl)).symm.trans h0_) (by decide), (by repeat (first | (with_reducible first | exact HB.out | apply below_alloc | apply pw_below_drewN | apply below_drew1 | refine below_set ?_ (IsS59.ge HI340.out) | refine below_set ?_ GE347.out | refine below_set ?_ GE374.out) | exact HB.out)), fun _ => (by (with_reducible repeat (first | apply Kd.R_alloc | apply Kd.R_drewN | apply Kd.R_drew)); exact HO406.out), fun _ h1_ => absurd ((hon 16 (by kernel_rfl)).symm.trans h1_) (by decide), fun _ => (by (with_reducible repeat (first | apply Kd.R_alloc | apply Kd.R_drewN | apply Kd.R_drew)); exact HO411.out), fun _ => (by repeat (first | (with_reducible first | exact HI340.out | apply IsS59.alloc | apply IsS59.drewN | apply IsS59.drew | apply IsS59.set_1 | refine IsS59.far ?_ NB340_347.out _ | refine IsS59.far ?_ NB340_374.out _) | exact HI340.out))⟩
          refine steps_cons ?_ ?_
          ·rintro b a w' ⟨v405, v410, ha, Q_BK347, Q_BK374, Q_HI340, Q_HB, Q_HO406, Q_HI340_e12, Q_HO411, Q_HI340_e16⟩ hb_ hon hoff
           refine ⟨_, rfl, fun K hK => ?_⟩
           have e120 : a.tmps[120]? = some (.bool true) := by rw [ha]; exact putSel_on (e := (6, 120, .bool true)) 6 rfl rfl (hon 6 (by kernel_rfl)) rfl
           have e132 : a.tmps[132]? = some (.bool t414) := by rw [ha]; exact putSel_on (e := (18, 132, .bool t414)) 18 rfl rfl (hon 18 (by kernel_rfl)) rfl
           replace ha := Aside0.mk ha
           have BK347 := Aside0.mk Q_BK347
           have BK374 := Aside0.mk Q_BK374
           have HB := Aside0.mk Q_HB
           have HO406 := Aside0.mk (Q_HO406 (hon 11 (by kernel_rfl)))
           have HO411 := Aside0.mk (Q_HO411 (hon 15 (by kernel_rfl)))
           have HI340 := Aside0.mk (Q_HI340_e16 (hon 16 (by kernel_rfl)))
           refine value_ (w1 := w') (v := .bool t414) (by rfl) rfl ?_ ?_
           ·go_simp
            (try simp only [i64_w])
            try rfl
           refine hK.out _ _ ⟨v405, v410, (by rw [ha.out]; exact putSel_upk 19 hb_ rfl rfl rfl), Q_BK347, Q_BK374, fun h0_ => absurd ((hon 12 (by kernel_rfl)).symm.trans h0_) (by decide), Q_HB, Q_HO406, fun _ h1_ => absurd ((hon 16 (by kernel_rfl)).symm.trans h1_) (by decide), Q_HO411, Q_HI340_e16⟩
          refine steps_cons ?_ ?_
          ·rintro b a w' ⟨v405, v410, ha, Q_BK347, Q_BK374, Q_HI340, Q_HB, Q_HO406, Q_HI340_e12, Q_HO411, Q_HI340_e16⟩ hb_ hon hoff
           refine ⟨_, rfl, fun K hK => ?_⟩
           have e133 : a.tmps[133]? = some (.bool t414) := by rw [ha]; exact putSel_on (e := (19, 133, .bool t414)) 19 rfl rfl (hon 19 (by kernel_rfl)) rfl
           replace ha := Aside0.mk ha
           have BK347 := Aside0.mk Q_BK347
           have BK374 := Aside0.mk Q_BK374
           have HB := Aside0.mk Q_HB
           have HO406 := Aside0.mk (Q_HO406 (hon 11 (by kernel_rfl)))
           have HO411 := Aside0.mk (Q_HO411 (hon 15 (by kernel_rfl)))
           have HI340 := Aside0.mk (Q_HI340_e16 (hon 16 (by kernel_rfl)))
           refine value_ (w1 := w') (v := .bool t414) (by rfl) rfl ?_ ?_
           ·go_simp
            (try simp only [i64_w])
            try rfl
           refine hK.out _ _ ⟨v405, v410, (by rw [ha.out]; exact putSel_upk 20 hb_ rfl rfl rfl), Q_BK347, Q_BK374, fun h0_ => absurd ((hon 12 (by kernel_rfl)).symm.trans h0_) (by decide), Q_HB, Q_HO406, fun _ h1_ => absurd ((hon 16 (by kernel_rfl)).symm.trans h1_) (by decide), Q_HO411, Q_HI340_e16⟩
          exact steps_nil
         rintro b a w135 hall ⟨v405, v410, ha, Q_BK347, Q_BK374, Q_HI340, Q_HB, Q_HO406, Q_HI340_e12, Q_HO411, Q_HI340_e16⟩
         clear BK347 BK374 HB HI340
         have hb0_ := hall 0 (by kernel_rfl)
         have hb1_ := hall 1 (by kernel_rfl)
         have hb2_ := hall 2 (by kernel_rfl)
         have hb3_ := hall 3 (by kernel_rfl)
         have hb4_ := hall 4 (by kernel_rfl)
         have hb5_ := hall 5 (by kernel_rfl)
         have hb6_ := hall 6 (by kernel_rfl)
         have hb7_ := hall 7 (by kernel_rfl)
         have hb8_ := hall 8 (by kernel_rfl)
         have hb9_ := hall 9 (by kernel_rfl)
         have hb10_ := hall 10 (by kernel_rfl)
         have hb11_ := hall 11 (by kernel_rfl)
         have hb12_ := hall 12 (by kernel_rfl)
         have hb13_ := hall 13 (by kernel_rfl)
         have hb14_ := hall 14 (by kernel_rfl)
         have hb15_ := hall 15 (by kernel_rfl)
         have hb16_ := hall 16 (by kernel_rfl)
         have hb17_ := hall 17 (by kernel_rfl)
         have hb18_ := hall 18 (by kernel_rfl)
         have hb19_ := hall 19 (by kernel_rfl)
         have hb20_ := hall 20 (by kernel_rfl)
         subst ha
         simp only [putSel, hb0_, hb1_, hb2_, hb3_, hb4_, hb5_, hb6_, hb7_, hb8_, hb9_, hb10_, hb11_, hb12_, hb13_, hb14_, hb15_, hb16_, hb17_, hb18_, hb19_, hb20_, if_true, Act.put, List.setIfInBounds_toArray, List.set_cons_zero, List.set_cons_succ]
         have BK347 := Aside0.mk Q_BK347
         clear Q_BK347
         have BK374 := Aside0.mk Q_BK374
         clear Q_BK374; clear Q_HI340
         have HB := Aside0.mk Q_HB
         clear Q_HB
         have HO406 := Aside0.mk (Q_HO406 hb11_)
         clear Q_HO406; clear Q_HI340_e12
         have HO411 := Aside0.mk (Q_HO411 hb15_)
         clear Q_HO411
         have HI340 := Aside0.mk (Q_HI340_e16 hb16_)
         clear Q_HI340_e16
         clear hall hb0_ hb1_ hb2_ hb3_ hb4_ hb5_ hb6_ hb7_ hb8_ hb9_ hb10_ hb11_ hb12_ hb13_ hb14_ hb15_ hb16_ hb17_ hb18_ hb19_ hb20_
         try go_wp2
         go_ret
         exact ⟨by first | rfl | (simp [errW_none, errW_some] <;> rfl) | (simp [*, errW_none, errW_some] <;> rfl), by repeat (first | (with_reducible first | exact HB.out | apply below_alloc | apply pw_below_drewN | apply below_drew1 | refine below_set ?_ (IsS59.ge HI340.out) | refine below_set ?_ GE347.out | refine below_set ?_ GE374.out) | exact HB.out)⟩
        ·replace c119 := Bool.eq_false_iff.mpr c119
         subst c119
         have H1 : (none) = some r := by rw [if_neg (show ¬ (false = true) by decide)] at H; exact H
         clear H
         have H := H1
         clear H1
         exact absurd H (by simp)
       ·replace c117 := Bool.eq_false_iff.mpr c117
        subst c117
        have H1 : (none) = some r := by rw [if_neg (show ¬ (false = true) by decide)] at H; exact H
        clear H
        have H := H1
        clear H1
        exact absurd H (by simp)
 ·replace c4 := Bool.eq_false_iff.mpr c4
  subst c4
  have H1 : ((law37_awake.f).bind fun t337 => (some t337)) = some r := by rw [if_neg (show ¬ (false = true) by decide)] at H; exact H
  clear H
  have H := H1
  clear H1
  replace H := Option.bind_eq_some_iff.mp H
  obtain ⟨t337, A1360, H⟩ := H
  replace H : (some t337) = some r := H
  have A136 := Aside0.mk A1360
  clear A1360
  obtain rfl := Option.some.inj H
  go_enter Try.func11, Try.ntmps11
  go_wp2_with (first | ((with_reducible refine gate_callee (f := 14) rfl ?_); refine goesL_ (some 13) rfl rfl Try.func14 (by kernel_rfl) rfl #[.slice A0 l0.length c0] rfl (by (try simp only [List.map_toArray, List.map_cons, List.map_nil]); first | done | rfl | (simp only [List.length_drop, List.length_take]; rfl)) ?_; (with_reducible refine (made_Light.calls _ _ l0 false _ ?side1 ?side2 A3.out).mono ?_); (case side1 => repeat (first | exact HR0.out | (with_reducible refine Kd.C_alloc ?_ _) | (with_reducible refine Kd.C_drewN ?_ _) | (with_reducible refine Kd.C_drew ?_))); (case side2 => exact HC0.out); rintro e w' ⟨rfl, ⟨nd, rfl⟩⟩; refine ⟨_, rfl, ?_⟩) | ((with_reducible refine gate_callee (f := 25) rfl ?_); refine goesL_ (some 15) rfl rfl Try.func25 (by kernel_rfl) rfl #[] rfl (by (try simp only [List.map_toArray, List.map_cons, List.map_nil]); first | done | rfl | (simp only [List.length_drop, List.length_take]; rfl)) ?_; (with_reducible refine (law37_awake.calls  t337 _ A136.out).mono ?_); rintro e w137 ⟨rfl, hb⟩; refine ⟨_, rfl, ?_⟩; have n0_ := Aside0.mk (below_step (by repeat (first | (with_reducible first | exact HB.out | apply below_alloc | apply pw_below_drewN | apply below_drew1) | exact HB.out)) hb); clear HB; have HB := n0_; clear n0_; (try clear hb); (try clear hb2); (try clear hk); (try clear hi)))
  go_ret
  exact ⟨by first | rfl | (simp [errW_none, errW_some] <;> rfl) | (simp [*, errW_none, errW_some] <;> rfl), by repeat (first | (with_reducible first | exact HB.out | apply below_alloc | apply pw_below_drewN | apply below_drew1) | exact HB.out)⟩

/-- THE ONE PURE STATEMENT of law37_HoistMade: yours. -/
def law37_HoistMade.Pure : Prop := ∀ (l0 : List Int) (a1 : Int), l0.length ≤ maxLen → l0.length * 8 ≤ 140737488351232 → (∀ x ∈ l0, (Lit.int .i64 x).wf = true) → (Lit.int .i64 a1).wf = true → ∃ k, law37_HoistMade.f k l0 a1 = some true
theorem law37_HoistMade.walk (P : law37_HoistMade.Pure) (a0 : Option Addr) (len0 cap0 : Nat) (z0 : List Int) (a1 : Int) (w : World) (w0 : (a0 = none ∧ len0 = 0 ∧ cap0 = 0 ∧ z0 = []) ∨ ∃ x, a0 = some x ∧ len0 ≤ cap0 ∧ cap0 ≤ maxLen ∧ z0.length = cap0 ∧ (∀ i, i < z0.length → w.cell? (x.add i) = some (.int .i64 (z0.getD i 0))) ∧ ∀ n ∈ z0, (Lit.int .i64 n).wf = true) (y0 : len0 * 8 ≤ 140737488351232) (w1 : (Lit.int .i64 a1).wf = true) :
  Calls Try.prog 11 #[.slice a0 len0 cap0, .int .i64 a1] w fun e w' => e = .returned (.bool true) ∧ Below w.heap.size w w' := by
 obtain ⟨l0, rfl, hr0, hm0, hw0, hc0⟩ := ReadsInt.ofRowC w0
 obtain ⟨k, h⟩ := P l0 a1 hm0 y0 hw0 w1
 refine (law37_HoistMade.calls k _ _ l0 a1 true w (Kd.C_of_reads (d := (0 : Int)) (h1 := fun _ => rfl) hr0) hc0 h).mono ?_
 rintro e w' ⟨rfl, hd⟩
 exact ⟨rfl, hd⟩

end Go.Proofs.Ytcebojamjllmjaa.PHoist
