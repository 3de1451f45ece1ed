-- written by wip/myprint.py (the kit's print over hand-proved contracts)
import Derived.Test.YtcebojamjllmjaaPHoistx0
import Derived.Test.YtcebojamjllmjaaPHoistx2
import Derived.Test.YtcebojamjllmjaaPHoistx3
import Derived.Test.YtcebojamjllmjaaPHoistx4
import Derived.Test.YtcebojamjllmjaaPHoistx7
import Derived.Test.YtcebojamjllmjaaPHoistx8
import Derived.Test.YtcebojamjllmjaaPHoistx9
import Derived.Test.YtcebojamjllmjaaHHoist
namespace Go.Proofs.Ytcebojamjllmjaa.PHoist
open Go.RowKit Go.Proofs.YtcebojamjllmjaaW.PrintWords Go.Proofs.YtcebojamjllmjaaW.PrintLast Go.Proofs.YtcebojamjllmjaaW.PrintMore
attribute [local go_sem] max2_int min2_int max_two min_two max_three min_three max_four min_four   -- for this text's walks alone
set_option linter.unusedVariables false
set_option linter.unusedSimpArgs false

open Go.Proofs.Ytcebojamjllmjaa.HandH
/-! ### law37_HoistStops: function 7 -/
mutual
def law37_HoistStops.j0 : Nat → Int → Int → Bool → List Int → Int → Int → Int → Int → Int → Int → Option (Bool)
 | 0, _, _, _, _, _, _, _, _, _, _ => none
 | k + 1, x1, x2, x61, x193000, x193001, x200000, x200001, x200002, x200003, x200004 => if x61 = true then (none) else ((made_Mod.f x1 (wrap64 (x200000 + 1))).bind fun t207 => ((made_Mod.f x2 40000).bind fun t208 => (law37_HoistStops.l0 k 0 x193000 x193001 x200000 x200001 x200002 x200003 x200004 t207 (wrap64 (t208 - 20000)) true)))
def law37_HoistStops.l0 : Nat → Int → List Int → Int → Int → Int → Int → Int → Int → Int → Int → Bool → Option (Bool)
 | 0, _, _, _, _, _, _, _, _, _, _, _ => none
 | k + 1, x13, x193000, x193001, x200000, x200001, x200002, x200003, x200004, x210000, x210001, x210002 => if x200002 = 0 then (none) else (if x13 ≤ (wrap64 ((wrap64 (Int.tdiv (20000 : Int) x200002)) + 1)) then (law37_HoistStops.j2 k x13 (decide (x13 < 300)) x193000 x193001 x200000 x200001 x200002 x200003 x200004 x210000 x210001 x210002) else (law37_HoistStops.j2 k x13 false x193000 x193001 x200000 x200001 x200002 x200003 x200004 x210000 x210001 x210002))
def law37_HoistStops.j2 : Nat → Int → Bool → List Int → Int → Int → Int → Int → Int → Int → Int → Int → Bool → Option (Bool)
 | 0, _, _, _, _, _, _, _, _, _, _, _, _ => none
 | k + 1, x13, x80, x193000, x193001, x200000, x200001, x200002, x200003, x200004, x210000, x210001, x210002 => if x80 = true then ((made_Dice_Of.f x193000 x193001 (([0, 5000, (-5000)] : List Int))).bind fun bt213 => ((hoist_Tick.f x200000 x200001 x200002 x200003 x200004 x210000 x210001 x210002 bt213.1).bind fun bt215 => (if bt215.2.2.2 = 0 then (if bt215.2.2.1 = true then (law37_HoistStops.j3 k x13 (decide ((mx bt215.2.1 (wrap64 (-bt215.2.1))) > (mx x210001 (wrap64 (-x210001))))) x193000 bt213.2 x200000 x200001 x200002 x200003 x200004 bt215.1 bt215.2.1 bt215.2.2.1) else (law37_HoistStops.j3 k x13 true x193000 bt213.2 x200000 x200001 x200002 x200003 x200004 bt215.1 bt215.2.1 bt215.2.2.1)) else (law37_HoistStops.j3 k x13 true x193000 bt213.2 x200000 x200001 x200002 x200003 x200004 bt215.1 bt215.2.1 bt215.2.2.1)))) else ((law37_awake.f).bind fun t220 => (if t220 = true then (if x210001 = 0 then (some true) else (if x200002 = 0 then (none) else (some (decide ((wrap64 ((wrap64 (Int.tdiv (20000 : Int) x200002)) + 1)) ≥ 300))))) else (none)))
def law37_HoistStops.j3 : Nat → Int → Bool → List Int → Int → Int → Int → Int → Int → Int → Int → Int → Bool → Option (Bool)
 | 0, _, _, _, _, _, _, _, _, _, _, _, _ => none
 | k + 1, x13, x113, x193000, x193001, x200000, x200001, x200002, x200003, x200004, x220000, x220001, x220002 => if x113 = true then (none) else (law37_HoistStops.l0 k (wrap64 (x13 + 1)) x193000 x193001 x200000 x200001 x200002 x200003 x200004 x220000 x220001 x220002)
end
def law37_HoistStops.f (k : Nat) (l0 : List Int) (a1 : Int) (a2 : Int) : Option (Bool) := (made_Light.f l0).bind fun t188 => (if t188 = true then ((made_Roll.f l0).bind fun bt190 => ((law37_made1.f bt190.1 bt190.2).bind fun bt193 => ((made_Mod.f a1 (wrap64 (bt193.1 + 1))).bind fun t200 => ((hoist_Limit.f bt193.1 bt193.2.1 bt193.2.2.1 bt193.2.2.2.1 bt193.2.2.2.2.1 t200).bind fun t201 => ((made_Mod.f a2 (mx 1 (wrap64 (t201 + 1)))).bind fun t202 => (if t201 < 0 then (law37_HoistStops.j0 k a1 a2 true bt190.1 bt193.2.2.2.2.2 bt193.1 bt193.2.1 bt193.2.2.1 bt193.2.2.2.1 bt193.2.2.2.2.1) else ((hoist_Stop.f bt193.1 bt193.2.1 bt193.2.2.1 bt193.2.2.2.1 bt193.2.2.2.2.1 t202).bind fun t203 => (if t203 > t200 then (law37_HoistStops.j0 k a1 a2 true bt190.1 bt193.2.2.2.2.2 bt193.1 bt193.2.1 bt193.2.2.1 bt193.2.2.2.1 bt193.2.2.2.2.1) else ((made_Dice_Next.f bt190.1 bt193.2.2.2.2.2 1000).bind fun bt204 => ((hoist_Limit.f bt193.1 bt193.2.1 bt193.2.2.1 bt193.2.2.2.1 bt193.2.2.2.2.1 (wrap64 (t200 + bt204.1))).bind fun t206 => (if t206 < t201 then (law37_HoistStops.j0 k a1 a2 true bt190.1 bt204.2 bt193.1 bt193.2.1 bt193.2.2.1 bt193.2.2.2.1 bt193.2.2.2.2.1) else (law37_HoistStops.j0 k a1 a2 (decide (t201 > bt193.2.1)) bt190.1 bt204.2 bt193.1 bt193.2.1 bt193.2.2.1 bt193.2.2.2.1 bt193.2.2.2.2.1)))))))))))) else ((law37_awake.f).bind fun t189 => (some t189)))
theorem law37_HoistStops.mono_l : ∀ k, (∀ y0 y1 y2 y3 y4 y5 y6 y7 y8 y9, LeO (law37_HoistStops.j0 k y0 y1 y2 y3 y4 y5 y6 y7 y8 y9) (law37_HoistStops.j0 (k + 1) y0 y1 y2 y3 y4 y5 y6 y7 y8 y9)) ∧ (∀ y0 y1 y2 y3 y4 y5 y6 y7 y8 y9 y10, LeO (law37_HoistStops.l0 k y0 y1 y2 y3 y4 y5 y6 y7 y8 y9 y10) (law37_HoistStops.l0 (k + 1) y0 y1 y2 y3 y4 y5 y6 y7 y8 y9 y10)) ∧ (∀ y0 y1 y2 y3 y4 y5 y6 y7 y8 y9 y10 y11, LeO (law37_HoistStops.j2 k y0 y1 y2 y3 y4 y5 y6 y7 y8 y9 y10 y11) (law37_HoistStops.j2 (k + 1) y0 y1 y2 y3 y4 y5 y6 y7 y8 y9 y10 y11)) ∧ (∀ y0 y1 y2 y3 y4 y5 y6 y7 y8 y9 y10 y11, LeO (law37_HoistStops.j3 k y0 y1 y2 y3 y4 y5 y6 y7 y8 y9 y10 y11) (law37_HoistStops.j3 (k + 1) y0 y1 y2 y3 y4 y5 y6 y7 y8 y9 y10 y11))
 | 0 => ⟨fun _ _ _ _ _ _ _ _ _ _ r h => by simp [law37_HoistStops.j0] at h, fun _ _ _ _ _ _ _ _ _ _ _ r h => by simp [law37_HoistStops.l0] at h, fun _ _ _ _ _ _ _ _ _ _ _ _ r h => by simp [law37_HoistStops.j2] at h, fun _ _ _ _ _ _ _ _ _ _ _ _ r h => by simp [law37_HoistStops.j3] at h⟩
 | k + 1 => by
  obtain ⟨ih0, ih1, ih2, ih3⟩ := law37_HoistStops.mono_l k
  refine ⟨?_, ?_, ?_, ?_⟩
  ·intro y0 y1 y2 y3 y4 y5 y6 y7 y8 y9
   unfold law37_HoistStops.j0
   repeat' first
   | (with_reducible exact ih0 _ _ _ _ _ _ _ _ _ _)
   | (with_reducible exact ih1 _ _ _ _ _ _ _ _ _ _ _)
   | (with_reducible exact ih2 _ _ _ _ _ _ _ _ _ _ _ _)
   | (with_reducible exact ih3 _ _ _ _ _ _ _ _ _ _ _ _)
   | (with_reducible exact LeO.refl _)
   | (with_reducible exact LeO.none _)
   | (with_reducible refine LeO.ite ?_ ?_)
   | (with_reducible refine LeO.bind ?_ (fun _ => ?_))
   | exact ih0 _ _ _ _ _ _ _ _ _ _
   | exact ih1 _ _ _ _ _ _ _ _ _ _ _
   | exact ih2 _ _ _ _ _ _ _ _ _ _ _ _
   | exact ih3 _ _ _ _ _ _ _ _ _ _ _ _
   | exact LeO.none _
   | refine LeO.ite ?_ ?_
   | refine LeO.bind ?_ (fun _ => ?_)
  ·intro y0 y1 y2 y3 y4 y5 y6 y7 y8 y9 y10
   unfold law37_HoistStops.l0
   repeat' first
   | (with_reducible exact ih0 _ _ _ _ _ _ _ _ _ _)
   | (with_reducible exact ih1 _ _ _ _ _ _ _ _ _ _ _)
   | (with_reducible exact ih2 _ _ _ _ _ _ _ _ _ _ _ _)
   | (with_reducible exact ih3 _ _ _ _ _ _ _ _ _ _ _ _)
   | (with_reducible exact LeO.refl _)
   | (with_reducible exact LeO.none _)
   | (with_reducible refine LeO.ite ?_ ?_)
   | (with_reducible refine LeO.bind ?_ (fun _ => ?_))
   | exact ih0 _ _ _ _ _ _ _ _ _ _
   | exact ih1 _ _ _ _ _ _ _ _ _ _ _
   | exact ih2 _ _ _ _ _ _ _ _ _ _ _ _
   | exact ih3 _ _ _ _ _ _ _ _ _ _ _ _
   | exact LeO.none _
   | refine LeO.ite ?_ ?_
   | refine LeO.bind ?_ (fun _ => ?_)
  ·intro y0 y1 y2 y3 y4 y5 y6 y7 y8 y9 y10 y11
   unfold law37_HoistStops.j2
   repeat' first
   | (with_reducible exact ih0 _ _ _ _ _ _ _ _ _ _)
   | (with_reducible exact ih1 _ _ _ _ _ _ _ _ _ _ _)
   | (with_reducible exact ih2 _ _ _ _ _ _ _ _ _ _ _ _)
   | (with_reducible exact ih3 _ _ _ _ _ _ _ _ _ _ _ _)
   | (with_reducible exact LeO.refl _)
   | (with_reducible exact LeO.none _)
   | (with_reducible refine LeO.ite ?_ ?_)
   | (with_reducible refine LeO.bind ?_ (fun _ => ?_))
   | exact ih0 _ _ _ _ _ _ _ _ _ _
   | exact ih1 _ _ _ _ _ _ _ _ _ _ _
   | exact ih2 _ _ _ _ _ _ _ _ _ _ _ _
   | exact ih3 _ _ _ _ _ _ _ _ _ _ _ _
   | exact LeO.none _
   | refine LeO.ite ?_ ?_
   | refine LeO.bind ?_ (fun _ => ?_)
  ·intro y0 y1 y2 y3 y4 y5 y6 y7 y8 y9 y10 y11
   unfold law37_HoistStops.j3
   repeat' first
   | (with_reducible exact ih0 _ _ _ _ _ _ _ _ _ _)
   | (with_reducible exact ih1 _ _ _ _ _ _ _ _ _ _ _)
   | (with_reducible exact ih2 _ _ _ _ _ _ _ _ _ _ _ _)
   | (with_reducible exact ih3 _ _ _ _ _ _ _ _ _ _ _ _)
   | (with_reducible exact LeO.refl _)
   | (with_reducible exact LeO.none _)
   | (with_reducible refine LeO.ite ?_ ?_)
   | (with_reducible refine LeO.bind ?_ (fun _ => ?_))
   | exact ih0 _ _ _ _ _ _ _ _ _ _
   | exact ih1 _ _ _ _ _ _ _ _ _ _ _
   | exact ih2 _ _ _ _ _ _ _ _ _ _ _ _
   | exact ih3 _ _ _ _ _ _ _ _ _ _ _ _
   | exact LeO.none _
   | refine LeO.ite ?_ ?_
   | refine LeO.bind ?_ (fun _ => ?_)
theorem law37_HoistStops.mono : ∀ a0 a1 a2 k, LeO (law37_HoistStops.f k a0 a1 a2) (law37_HoistStops.f (k + 1) a0 a1 a2) := by
 intro a0 a1 a2 k
 obtain ⟨ih0, ih1, ih2, ih3⟩ := law37_HoistStops.mono_l k
 unfold law37_HoistStops.f
 repeat' first
   | (with_reducible exact ih0 _ _ _ _ _ _ _ _ _ _)
   | (with_reducible exact ih1 _ _ _ _ _ _ _ _ _ _ _)
   | (with_reducible exact ih2 _ _ _ _ _ _ _ _ _ _ _ _)
   | (with_reducible exact ih3 _ _ _ _ _ _ _ _ _ _ _ _)
   | (with_reducible exact LeO.refl _)
   | (with_reducible exact LeO.none _)
   | (with_reducible refine LeO.ite ?_ ?_)
   | (with_reducible refine LeO.bind ?_ (fun _ => ?_))
   | exact ih0 _ _ _ _ _ _ _ _ _ _
   | exact ih1 _ _ _ _ _ _ _ _ _ _ _
   | exact ih2 _ _ _ _ _ _ _ _ _ _ _ _
   | exact ih3 _ _ _ _ _ _ _ _ _ _ _ _
   | exact LeO.none _
   | refine LeO.ite ?_ ?_
   | refine LeO.bind ?_ (fun _ => ?_)
def law37_HoistStops.T8 : Bool × List (List Nat × List Nat) := (true, [([], []), ([0], [0]), ([1], [1]), ([2], [2]), ([2], [2]), ([3, 4, 2, 2], [2, 3, 4]), ([2], [2]), ([5, 6, 2], [2, 5, 6]), ([2, 7], [2, 7]), ([8, 5], [8]), ([9], [9]), ([9], [9]), ([9], [9]), ([12, 9, 9], [9, 12]), ([11, 13, 9], [9, 11, 13]), ([10, 14, 13, 9], [9, 10, 14]), ([9], [9]), ([15, 16, 9], [9, 15, 16]), ([9, 17], [9, 17]), ([18, 15], [18]), ([19], [19]), ([19], [19]), ([21, 19], [19, 21]), ([20, 22, 19], [19, 20, 22]), ([19, 23], [19, 23])])
def law37_HoistStops.B8 : List Nat := [0, 1, 3, 7, 7, 31, 7, 127, 255, 511, 1023, 1023, 1023, 5119, 15359, 32767, 1023, 131071, 262143, 524287, 1048575, 1048575, 3145727, 8388607, 16777215]
theorem law37_HoistStops.tab8 : rtab .any (opsOf Try.f7 8) = law37_HoistStops.T8 := by kernel_rfl
theorem law37_HoistStops.bits8 : waitsOk law37_HoistStops.T8.2 law37_HoistStops.B8 = true := by kernel_rfl
def law37_HoistStops.T14 : Bool × List (List Nat × List Nat) := (true, [([], []), ([], []), ([], []), ([], []), ([2, 3], [2, 3]), ([0, 1, 4, 4], [0, 1, 4]), ([5], [5]), ([6], [6]), ([6], [6]), ([], []), ([9, 7, 5, 0, 1, 2, 3, 4, 5, 6, 7, 9], [7, 9]), ([8, 10, 0, 1, 2, 3, 4, 5, 6, 7, 8, 9, 10], [8])])
def law37_HoistStops.B14 : List Nat := [0, 0, 0, 0, 12, 31, 63, 127, 127, 0, 767, 2047]
theorem law37_HoistStops.tab14 : rtab .any (opsOf Try.f7 14) = law37_HoistStops.T14 := by kernel_rfl
theorem law37_HoistStops.bits14 : waitsOk law37_HoistStops.T14.2 law37_HoistStops.B14 = true := by kernel_rfl
set_option maxHeartbeats 8000000 in
set_option maxRecDepth 100000 in
theorem law37_HoistStops.calls (k : Nat) (A0 : Option Addr) (c0 : Nat) (l0 : List Int) (a1 : Int) (a2 : Int) (r : Bool) (w : World) (hr0 : Kd.C (Kd.int .i64) w A0 l0.length l0) (hc0 : l0.length ≤ c0) (h : law37_HoistStops.f k l0 a1 a2 = some r) :
  Calls Try.prog 7 #[.slice A0 l0.length c0, .int .i64 a1, .int .i64 a2] w fun e w' => e = .returned (.bool r) ∧ Below w.heap.size w w' := by
 have hu45 := Try.underlying45
 have hu50 := Try.underlying50
 have HR0 := Aside0.mk hr0
 have HC0 := Aside0.mk hc0
 clear hr0 hc0
 have HB := Aside0.mk (Below.refl w.heap.size w)
 have H : ((made_Light.f l0).bind fun t188 => (if t188 = true then ((made_Roll.f l0).bind fun bt190 => ((law37_made1.f bt190.1 bt190.2).bind fun bt193 => ((made_Mod.f a1 (wrap64 (bt193.1 + 1))).bind fun t200 => ((hoist_Limit.f bt193.1 bt193.2.1 bt193.2.2.1 bt193.2.2.2.1 bt193.2.2.2.2.1 t200).bind fun t201 => ((made_Mod.f a2 (mx 1 (wrap64 (t201 + 1)))).bind fun t202 => (if t201 < 0 then (law37_HoistStops.j0 k a1 a2 true bt190.1 bt193.2.2.2.2.2 bt193.1 bt193.2.1 bt193.2.2.1 bt193.2.2.2.1 bt193.2.2.2.2.1) else ((hoist_Stop.f bt193.1 bt193.2.1 bt193.2.2.1 bt193.2.2.2.1 bt193.2.2.2.2.1 t202).bind fun t203 => (if t203 > t200 then (law37_HoistStops.j0 k a1 a2 true bt190.1 bt193.2.2.2.2.2 bt193.1 bt193.2.1 bt193.2.2.1 bt193.2.2.2.1 bt193.2.2.2.2.1) else ((made_Dice_Next.f bt190.1 bt193.2.2.2.2.2 1000).bind fun bt204 => ((hoist_Limit.f bt193.1 bt193.2.1 bt193.2.2.1 bt193.2.2.2.1 bt193.2.2.2.2.1 (wrap64 (t200 + bt204.1))).bind fun t206 => (if t206 < t201 then (law37_HoistStops.j0 k a1 a2 true bt190.1 bt204.2 bt193.1 bt193.2.1 bt193.2.2.1 bt193.2.2.2.1 bt193.2.2.2.2.1) else (law37_HoistStops.j0 k a1 a2 (decide (t201 > bt193.2.1)) bt190.1 bt204.2 bt193.1 bt193.2.1 bt193.2.2.1 bt193.2.2.2.1 bt193.2.2.2.2.1)))))))))))) else ((law37_awake.f).bind fun t189 => (some t189)))) = some r := h
 clear h
 replace H := Option.bind_eq_some_iff.mp H
 obtain ⟨t188, A40, H⟩ := H
 replace H : (if t188 = true then ((made_Roll.f l0).bind fun bt190 => ((law37_made1.f bt190.1 bt190.2).bind fun bt193 => ((made_Mod.f a1 (wrap64 (bt193.1 + 1))).bind fun t200 => ((hoist_Limit.f bt193.1 bt193.2.1 bt193.2.2.1 bt193.2.2.2.1 bt193.2.2.2.2.1 t200).bind fun t201 => ((made_Mod.f a2 (mx 1 (wrap64 (t201 + 1)))).bind fun t202 => (if t201 < 0 then (law37_HoistStops.j0 k a1 a2 true bt190.1 bt193.2.2.2.2.2 bt193.1 bt193.2.1 bt193.2.2.1 bt193.2.2.2.1 bt193.2.2.2.2.1) else ((hoist_Stop.f bt193.1 bt193.2.1 bt193.2.2.1 bt193.2.2.2.1 bt193.2.2.2.2.1 t202).bind fun t203 => (if t203 > t200 then (law37_HoistStops.j0 k a1 a2 true bt190.1 bt193.2.2.2.2.2 bt193.1 bt193.2.1 bt193.2.2.1 bt193.2.2.2.1 bt193.2.2.2.2.1) else ((made_Dice_Next.f bt190.1 bt193.2.2.2.2.2 1000).bind fun bt204 => ((hoist_Limit.f bt193.1 bt193.2.1 bt193.2.2.1 bt193.2.2.2.1 bt193.2.2.2.2.1 (wrap64 (t200 + bt204.1))).bind fun t206 => (if t206 < t201 then (law37_HoistStops.j0 k a1 a2 true bt190.1 bt204.2 bt193.1 bt193.2.1 bt193.2.2.1 bt193.2.2.2.1 bt193.2.2.2.2.1) else (law37_HoistStops.j0 k a1 a2 (decide (t201 > bt193.2.1)) bt190.1 bt204.2 bt193.1 bt193.2.1 bt193.2.2.1 bt193.2.2.2.1 bt193.2.2.2.2.1)))))))))))) else ((law37_awake.f).bind fun t189 => (some t189))) = some r := H
 have A4 := Aside0.mk A40
 clear A40
 by_cases c5 : t188 = true
 ·subst c5
  have H1 : ((made_Roll.f l0).bind fun bt190 => ((law37_made1.f bt190.1 bt190.2).bind fun bt193 => ((made_Mod.f a1 (wrap64 (bt193.1 + 1))).bind fun t200 => ((hoist_Limit.f bt193.1 bt193.2.1 bt193.2.2.1 bt193.2.2.2.1 bt193.2.2.2.2.1 t200).bind fun t201 => ((made_Mod.f a2 (mx 1 (wrap64 (t201 + 1)))).bind fun t202 => (if t201 < 0 then (law37_HoistStops.j0 k a1 a2 true bt190.1 bt193.2.2.2.2.2 bt193.1 bt193.2.1 bt193.2.2.1 bt193.2.2.2.1 bt193.2.2.2.2.1) else ((hoist_Stop.f bt193.1 bt193.2.1 bt193.2.2.1 bt193.2.2.2.1 bt193.2.2.2.2.1 t202).bind fun t203 => (if t203 > t200 then (law37_HoistStops.j0 k a1 a2 true bt190.1 bt193.2.2.2.2.2 bt193.1 bt193.2.1 bt193.2.2.1 bt193.2.2.2.1 bt193.2.2.2.2.1) else ((made_Dice_Next.f bt190.1 bt193.2.2.2.2.2 1000).bind fun bt204 => ((hoist_Limit.f bt193.1 bt193.2.1 bt193.2.2.1 bt193.2.2.2.1 bt193.2.2.2.2.1 (wrap64 (t200 + bt204.1))).bind fun t206 => (if t206 < t201 then (law37_HoistStops.j0 k a1 a2 true bt190.1 bt204.2 bt193.1 bt193.2.1 bt193.2.2.1 bt193.2.2.2.1 bt193.2.2.2.2.1) else (law37_HoistStops.j0 k a1 a2 (decide (t201 > bt193.2.1)) bt190.1 bt204.2 bt193.1 bt193.2.1 bt193.2.2.1 bt193.2.2.2.1 bt193.2.2.2.2.1)))))))))))) = some r := by rw [if_pos rfl] at H; exact H
  clear H
  have H := H1
  clear H1
  replace H := Option.bind_eq_some_iff.mp H
  obtain ⟨⟨t190, t191⟩, A60, H⟩ := H
  replace H : ((law37_made1.f t190 t191).bind fun bt193 => ((made_Mod.f a1 (wrap64 (bt193.1 + 1))).bind fun t200 => ((hoist_Limit.f bt193.1 bt193.2.1 bt193.2.2.1 bt193.2.2.2.1 bt193.2.2.2.2.1 t200).bind fun t201 => ((made_Mod.f a2 (mx 1 (wrap64 (t201 + 1)))).bind fun t202 => (if t201 < 0 then (law37_HoistStops.j0 k a1 a2 true t190 bt193.2.2.2.2.2 bt193.1 bt193.2.1 bt193.2.2.1 bt193.2.2.2.1 bt193.2.2.2.2.1) else ((hoist_Stop.f bt193.1 bt193.2.1 bt193.2.2.1 bt193.2.2.2.1 bt193.2.2.2.2.1 t202).bind fun t203 => (if t203 > t200 then (law37_HoistStops.j0 k a1 a2 true t190 bt193.2.2.2.2.2 bt193.1 bt193.2.1 bt193.2.2.1 bt193.2.2.2.1 bt193.2.2.2.2.1) else ((made_Dice_Next.f t190 bt193.2.2.2.2.2 1000).bind fun bt204 => ((hoist_Limit.f bt193.1 bt193.2.1 bt193.2.2.1 bt193.2.2.2.1 bt193.2.2.2.2.1 (wrap64 (t200 + bt204.1))).bind fun t206 => (if t206 < t201 then (law37_HoistStops.j0 k a1 a2 true t190 bt204.2 bt193.1 bt193.2.1 bt193.2.2.1 bt193.2.2.2.1 bt193.2.2.2.2.1) else (law37_HoistStops.j0 k a1 a2 (decide (t201 > bt193.2.1)) t190 bt204.2 bt193.1 bt193.2.1 bt193.2.2.1 bt193.2.2.2.1 bt193.2.2.2.2.1))))))))))) = some r := H
  have A6 := Aside0.mk A60
  clear A60
  replace H := Option.bind_eq_some_iff.mp H
  obtain ⟨⟨t193, t194, t195, t196, t197, t198⟩, A70, H⟩ := H
  replace H : ((made_Mod.f a1 (wrap64 (t193 + 1))).bind fun t200 => ((hoist_Limit.f t193 t194 t195 t196 t197 t200).bind fun t201 => ((made_Mod.f a2 (mx 1 (wrap64 (t201 + 1)))).bind fun t202 => (if t201 < 0 then (law37_HoistStops.j0 k a1 a2 true t190 t198 t193 t194 t195 t196 t197) else ((hoist_Stop.f t193 t194 t195 t196 t197 t202).bind fun t203 => (if t203 > t200 then (law37_HoistStops.j0 k a1 a2 true t190 t198 t193 t194 t195 t196 t197) else ((made_Dice_Next.f t190 t198 1000).bind fun bt204 => ((hoist_Limit.f t193 t194 t195 t196 t197 (wrap64 (t200 + bt204.1))).bind fun t206 => (if t206 < t201 then (law37_HoistStops.j0 k a1 a2 true t190 bt204.2 t193 t194 t195 t196 t197) else (law37_HoistStops.j0 k a1 a2 (decide (t201 > t194)) t190 bt204.2 t193 t194 t195 t196 t197)))))))))) = some r := H
  have A7 := Aside0.mk A70
  clear A70
  replace H := Option.bind_eq_some_iff.mp H
  obtain ⟨t200, A80, H⟩ := H
  replace H : ((hoist_Limit.f t193 t194 t195 t196 t197 t200).bind fun t201 => ((made_Mod.f a2 (mx 1 (wrap64 (t201 + 1)))).bind fun t202 => (if t201 < 0 then (law37_HoistStops.j0 k a1 a2 true t190 t198 t193 t194 t195 t196 t197) else ((hoist_Stop.f t193 t194 t195 t196 t197 t202).bind fun t203 => (if t203 > t200 then (law37_HoistStops.j0 k a1 a2 true t190 t198 t193 t194 t195 t196 t197) else ((made_Dice_Next.f t190 t198 1000).bind fun bt204 => ((hoist_Limit.f t193 t194 t195 t196 t197 (wrap64 (t200 + bt204.1))).bind fun t206 => (if t206 < t201 then (law37_HoistStops.j0 k a1 a2 true t190 bt204.2 t193 t194 t195 t196 t197) else (law37_HoistStops.j0 k a1 a2 (decide (t201 > t194)) t190 bt204.2 t193 t194 t195 t196 t197))))))))) = some r := H
  have A8 := Aside0.mk A80
  clear A80
  replace H := Option.bind_eq_some_iff.mp H
  obtain ⟨t201, A90, H⟩ := H
  replace H : ((made_Mod.f a2 (mx 1 (wrap64 (t201 + 1)))).bind fun t202 => (if t201 < 0 then (law37_HoistStops.j0 k a1 a2 true t190 t198 t193 t194 t195 t196 t197) else ((hoist_Stop.f t193 t194 t195 t196 t197 t202).bind fun t203 => (if t203 > t200 then (law37_HoistStops.j0 k a1 a2 true t190 t198 t193 t194 t195 t196 t197) else ((made_Dice_Next.f t190 t198 1000).bind fun bt204 => ((hoist_Limit.f t193 t194 t195 t196 t197 (wrap64 (t200 + bt204.1))).bind fun t206 => (if t206 < t201 then (law37_HoistStops.j0 k a1 a2 true t190 bt204.2 t193 t194 t195 t196 t197) else (law37_HoistStops.j0 k a1 a2 (decide (t201 > t194)) t190 bt204.2 t193 t194 t195 t196 t197)))))))) = some r := H
  have A9 := Aside0.mk A90
  clear A90
  obtain ⟨ji10, hji10⟩ : ∃ j_ : Int, (mx 1 (wrap64 (t201 + 1))) = j_ := ⟨_, rfl⟩
  replace H : ((made_Mod.f a2 (ji10)).bind fun t202 => (if t201 < 0 then (law37_HoistStops.j0 k a1 a2 true t190 t198 t193 t194 t195 t196 t197) else ((hoist_Stop.f t193 t194 t195 t196 t197 t202).bind fun t203 => (if t203 > t200 then (law37_HoistStops.j0 k a1 a2 true t190 t198 t193 t194 t195 t196 t197) else ((made_Dice_Next.f t190 t198 1000).bind fun bt204 => ((hoist_Limit.f t193 t194 t195 t196 t197 (wrap64 (t200 + bt204.1))).bind fun t206 => (if t206 < t201 then (law37_HoistStops.j0 k a1 a2 true t190 bt204.2 t193 t194 t195 t196 t197) else (law37_HoistStops.j0 k a1 a2 (decide (t201 > t194)) t190 bt204.2 t193 t194 t195 t196 t197)))))))) = some r := by first | (rw [hji10] at H; exact H) | (simp only [hji10] at H ⊢; exact H)
  (try rw [hji10] at A4)
  (try rw [hji10] at A6)
  (try rw [hji10] at A7)
  (try rw [hji10] at A8)
  (try rw [hji10] at A9)
  (try (have hji10l : 1 ≤ ji10 := by (rw [← hji10]; unfold mx; (repeat' split) <;> omega)))
  (try (have hji10m : 0 ≤ ji10 := by omega))
  have hji10_ : (if 1 < (wrap64 (t201 + 1)) then (wrap64 (t201 + 1)) else 1) = ji10 := hji10
  replace H := Option.bind_eq_some_iff.mp H
  obtain ⟨t202, A110, H⟩ := H
  replace H : (if t201 < 0 then (law37_HoistStops.j0 k a1 a2 true t190 t198 t193 t194 t195 t196 t197) else ((hoist_Stop.f t193 t194 t195 t196 t197 t202).bind fun t203 => (if t203 > t200 then (law37_HoistStops.j0 k a1 a2 true t190 t198 t193 t194 t195 t196 t197) else ((made_Dice_Next.f t190 t198 1000).bind fun bt204 => ((hoist_Limit.f t193 t194 t195 t196 t197 (wrap64 (t200 + bt204.1))).bind fun t206 => (if t206 < t201 then (law37_HoistStops.j0 k a1 a2 true t190 bt204.2 t193 t194 t195 t196 t197) else (law37_HoistStops.j0 k a1 a2 (decide (t201 > t194)) t190 bt204.2 t193 t194 t195 t196 t197))))))) = some r := H
  have A11 := Aside0.mk A110
  clear A110
  have HC12 := Aside0.mk H
  clear H
  go_enter Try.func7, Try.ntmps7
  go_upto_region 8 with (first | ((with_reducible refine gate_callee (f := 14) rfl ?_); refine goesL_ (some 17) rfl rfl Try.func14 (by kernel_rfl) rfl #[.slice A0 l0.length c0] rfl (by (try simp only [List.map_toArray, List.map_cons, List.map_nil]); first | done | rfl | (simp only [List.length_drop, List.length_take]; rfl)) ?_; (with_reducible refine (made_Light.calls _ _ l0 true _ ?side1 ?side2 A4.out).mono ?_); (case side1 => repeat (first | exact HR0.out | (with_reducible refine Kd.C_alloc ?_ _) | (with_reducible refine Kd.C_drewN ?_ _) | (with_reducible refine Kd.C_drew ?_))); (case side2 => exact HC0.out); rintro e w' ⟨rfl, ⟨nd, rfl⟩⟩; refine ⟨_, rfl, ?_⟩) | ((with_reducible refine gate_callee (f := 15) rfl ?_); refine goesL_ (some 21) rfl rfl Try.func15 (by kernel_rfl) rfl #[.slice A0 l0.length c0] rfl (by (try simp only [List.map_toArray, List.map_cons, List.map_nil]); first | done | rfl | (simp only [List.length_drop, List.length_take]; rfl)) ?_; (with_reducible refine (made_Roll.calls _ _ l0 t190 t191 w _ ?side1 ?side2 ?side3 A6.out).mono ?_); (case side1 => repeat (first | (with_reducible first | exact HB.out | apply below_alloc | apply pw_below_drewN | apply below_drew1) | exact HB.out)); (case side2 => exact HR0.out); (case side3 => exact HC0.out); rintro e w13 ⟨g192, rfl, hi, hb, hb2⟩; refine ⟨_, rfl, ?_⟩; have n0_ := Aside0.mk (hb); have n1_ := Aside0.mk (hi); clear HB; have HB := n0_; have HI192 := n1_; clear n0_ n1_; (try clear hb); (try clear hb2); (try clear hk); (try clear hi)) | ((with_reducible refine gate_callee (f := 26) rfl ?_); refine goesL_ (some 23) rfl rfl Try.func26 (by kernel_rfl) rfl #[.pointer (some ⟨g192, 0, none⟩)] rfl (by (try simp only [List.map_toArray, List.map_cons, List.map_nil]); first | done | rfl | (simp only [List.length_drop, List.length_take]; rfl)) ?_; (with_reducible refine (law37_made1.calls g192 t190 t191 t193 t194 t195 t196 t197 t198 w _ ?side1 ?side2 A7.out).mono ?_); (case side1 => repeat (first | (with_reducible first | exact HI192.out | apply IsS59.alloc | apply IsS59.drewN | apply IsS59.drew | apply IsS59.set_1) | exact HI192.out)); (case side2 => repeat (first | (with_reducible first | exact HB.out | apply below_alloc | apply pw_below_drewN | apply below_drew1 | refine below_set ?_ (IsS59.ge HI192.out)) | exact HB.out)); rintro e w14 ⟨rfl, hi, hb, hk⟩; refine ⟨_, rfl, ?_⟩; have n0_ := Aside0.mk (hb); have n1_ := Aside0.mk (hi); clear HB; clear HI192; have HB := n0_; have HI192 := n1_; clear n0_ n1_; (try clear hb); (try clear hb2); (try clear hk); (try clear hi)) | ((with_reducible refine gate_dst (N := 8) rfl ?_); (try (refine gate_guard (by rfl) ?_; dsimp only)); refine box_event ?hg (N := 8) ?hd (cs := #[.int .i64 0, .int .i64 0, .int .i64 0, .int .i64 0, .int .i64 0]) (t := 45) ?hr ?_; (case hd => rfl); (case hg => rfl); (case hr => first | (go_simp; done) | (go_simp; rfl)); intro gb199 hg w15 hbox hb; have n0_ := Aside0.mk (IsS59.below (by repeat (first | (with_reducible first | exact HI192.out | apply IsS59.alloc | apply IsS59.drewN | apply IsS59.drew | apply IsS59.set_1) | exact HI192.out)) hb); have n1_ := Aside0.mk (below_step (by repeat (first | (with_reducible first | exact HB.out | apply below_alloc | apply pw_below_drewN | apply below_drew1 | refine below_set ?_ (IsS59.ge HI192.out)) | exact HB.out)) hb); have n2_ := Aside0.mk (hbox); have n3_ := Aside0.mk ((by rw [hg]; exact (below_size (by repeat (first | (with_reducible first | exact HB.out | apply below_alloc | apply pw_below_drewN | apply below_drew1 | refine below_set ?_ (IsS59.ge HI192.out)) | exact HB.out))) : w.heap.size ≤ gb199)); have n4_ := Aside0.mk ((by rw [hg]; exact (below_size (by repeat (first | (with_reducible first | exact HB.out | apply below_alloc | apply pw_below_drewN | apply below_drew1 | refine below_set ?_ (IsS59.ge HI192.out)) | exact HB.out))) : w.heap.size ≤ gb199)); have n5_ := Aside0.mk ((by rw [hg]; exact Nat.ne_of_lt (IsS59.lt (show IsS59 w _ g192 t190 t198 from by repeat (first | (with_reducible first | exact HI192.out | apply IsS59.alloc | apply IsS59.drewN | apply IsS59.drew | apply IsS59.set_1) | exact HI192.out))) : g192 ≠ gb199)); have n6_ := Aside0.mk ((by rw [hg]; exact Nat.ne_of_gt (IsS59.lt (show IsS59 w _ g192 t190 t198 from by repeat (first | (with_reducible first | exact HI192.out | apply IsS59.alloc | apply IsS59.drewN | apply IsS59.drew | apply IsS59.set_1) | exact HI192.out))) : gb199 ≠ g192)); clear HI192; clear HB; have HI192 := n0_; have HB := n1_; have BK199 := n2_; have GW199 := n3_; have GE199 := n4_; have NB192_199 := n5_; have NB199_192 := n6_; clear n0_ n1_ n2_ n3_ n4_ n5_ n6_; clear hb hbox hg; have hnb16 := NB199_192.out; have hnc16 := NB192_199.out; have hcz17_0 : w15.cell? ⟨gb199, 0, none⟩ = some (.int .i64 0) := (blk_cell BK199.out 0).trans rfl; have hcz17_1 : w15.cell? ⟨gb199, 1, none⟩ = some (.int .i64 0) := (blk_cell BK199.out 1).trans rfl; have hcz17_2 : w15.cell? ⟨gb199, 2, none⟩ = some (.int .i64 0) := (blk_cell BK199.out 2).trans rfl; have hcz17_3 : w15.cell? ⟨gb199, 3, none⟩ = some (.int .i64 0) := (blk_cell BK199.out 3).trans rfl; have hcz17_4 : w15.cell? ⟨gb199, 4, none⟩ = some (.int .i64 0) := (blk_cell BK199.out 4).trans rfl; have hfz17_0 := blk_frozen BK199.out 0; have hfz17_1 := blk_frozen BK199.out 1; have hfz17_2 := blk_frozen BK199.out 2; have hfz17_3 := blk_frozen BK199.out 3; have hfz17_4 := blk_frozen BK199.out 4) | ((with_reducible refine gate_callee (f := 27) rfl ?_); refine goesL_ (some 28) rfl rfl Try.func27 (by kernel_rfl) rfl #[.int .i64 a1, .int .i64 (wrap64 (t193 + 1))] rfl (by (try simp only [List.map_toArray, List.map_cons, List.map_nil]); first | done | rfl | (simp only [List.length_drop, List.length_take]; rfl)) ?_; (with_reducible refine (made_Mod.calls a1 (wrap64 (t193 + 1)) t200 _ A8.out).mono ?_); rintro e w' ⟨rfl, ⟨nd, rfl⟩⟩; refine ⟨_, rfl, ?_⟩) | ((with_reducible refine gate_callee (f := 28) rfl ?_); refine goesL_ (some 31) rfl rfl Try.func28 (by kernel_rfl) rfl #[.agg #[.int .i64 t193, .int .i64 t194, .int .i64 t195, .int .i64 t196, .int .i64 t197], .int .i64 t200] rfl (by (try simp only [List.map_toArray, List.map_cons, List.map_nil]); first | done | rfl | (simp only [List.length_drop, List.length_take]; rfl)) ?_; (with_reducible refine (hoist_Limit.calls t193 t194 t195 t196 t197 t200 t201 _ A9.out).mono ?_); rintro e w18 ⟨rfl, hb⟩; refine ⟨_, rfl, ?_⟩; have n0_ := Aside0.mk (IsS59.below (show IsS59 w _ g192 t190 t198 from by repeat (first | (with_reducible first | exact HI192.out | apply IsS59.alloc | apply IsS59.drewN | apply IsS59.drew | apply IsS59.set_1 | refine IsS59.far ?_ NB192_199.out _) | exact HI192.out)) hb); have n1_ := Aside0.mk (blk_below (g := gb199) (o := .cells #[.int .i64 t193, .int .i64 t194, .int .i64 t195, .int .i64 t196, .int .i64 t197] 45 (0, 0)) (by (with_reducible repeat (first | refine blk_drewN ?_ _ | refine blk_drew ?_ | refine blk_alloc ?_ _)); refine blk_put (cs := #[.int .i64 t193, .int .i64 t194, .int .i64 t195, .int .i64 t196, .int .i64 0]) ?_ 4 _ rfl; (with_reducible repeat (first | refine blk_drewN ?_ _ | refine blk_drew ?_ | refine blk_alloc ?_ _)); refine blk_put (cs := #[.int .i64 t193, .int .i64 t194, .int .i64 t195, .int .i64 0, .int .i64 0]) ?_ 3 _ rfl; (with_reducible repeat (first | refine blk_drewN ?_ _ | refine blk_drew ?_ | refine blk_alloc ?_ _)); refine blk_put (cs := #[.int .i64 t193, .int .i64 t194, .int .i64 0, .int .i64 0, .int .i64 0]) ?_ 2 _ rfl; (with_reducible repeat (first | refine blk_drewN ?_ _ | refine blk_drew ?_ | refine blk_alloc ?_ _)); refine blk_put (cs := #[.int .i64 t193, .int .i64 0, .int .i64 0, .int .i64 0, .int .i64 0]) ?_ 1 _ rfl; (with_reducible repeat (first | refine blk_drewN ?_ _ | refine blk_drew ?_ | refine blk_alloc ?_ _)); refine blk_put (cs := #[.int .i64 0, .int .i64 0, .int .i64 0, .int .i64 0, .int .i64 0]) ?_ 0 _ rfl; (with_reducible repeat (first | refine blk_drewN ?_ _ | refine blk_drew ?_ | refine blk_alloc ?_ _)); exact BK199.out) hb); have n2_ := Aside0.mk (below_step (by repeat (first | (with_reducible first | exact HB.out | apply below_alloc | apply pw_below_drewN | apply below_drew1 | refine below_set ?_ (IsS59.ge HI192.out) | refine below_set ?_ GE199.out) | exact HB.out)) hb); clear HI192; clear BK199; clear HB; have HI192 := n0_; have BK199 := n1_; have HB := n2_; clear n0_ n1_ n2_; (try clear hb); (try clear hb2); (try clear hk); (try clear hi)) | ((with_reducible refine gate_callee (f := 27) rfl ?_); refine goesL_ (some 36) rfl rfl Try.func27 (by kernel_rfl) rfl #[.int .i64 a2, .int .i64 ji10] rfl (by (try simp only [List.map_toArray, List.map_cons, List.map_nil]); first | done | (simp only [hji10]; rfl) | rfl | (simp only [List.length_drop, List.length_take]; rfl)) ?_; (with_reducible refine (made_Mod.calls a2 ji10 t202 _ A11.out).mono ?_); rintro e w' ⟨rfl, ⟨nd, rfl⟩⟩; refine ⟨_, rfl, ?_⟩))
  (try simp only [Act.put, List.setIfInBounds_toArray, List.set_cons_zero, List.set_cons_succ])
  go_cut [61] (fun v61 wc => ∃ (kq : Nat) (x61_11 : Bool) (x193001_11 : Int), v61 = .bool x61_11 ∧ Aside0 (law37_HoistStops.j0 kq a1 a2 x61_11 t190 x193001_11 t193 t194 t195 t196 t197 = some r) ∧ Aside0 (kq ≤ k) ∧ Aside0 (wc.heap[gb199]? = some (.cells #[.int .i64 t193, .int .i64 t194, .int .i64 t195, .int .i64 t196, .int .i64 t197] 45 (0, 0))) ∧ Aside0 (IsS59 w wc g192 t190 x193001_11) ∧ Aside0 (Below w.heap.size w wc))
  case first =>
   have H := HC12.out
   clear HC12
   by_cases c19 : t201 < 0
   ·rw [if_pos c19] at H
    have c19b0 : decide (t201 < 0) = true := decide_eq_true c19
    clear c19
    (first | rw [c19b0] | (simp only [i64_w, i32_w]; rw [c19b0]) | skip)
    have H' := Aside0.mk H
    clear H
    try go_wp2
    (try (rw [drewN_self w18]; generalize hq_ : World.drewN w18 _ = w18; have n0_ : Aside0 (w18.heap[gb199]? = some (.cells #[.int .i64 t193, .int .i64 t194, .int .i64 t195, .int .i64 t196, .int .i64 t197] 45 (0, 0))) := ⟨by rw [← hq_]; exact (by (with_reducible repeat (first | refine blk_drewN ?_ _ | refine blk_drew ?_ | refine blk_alloc ?_ _)); exact BK199.out)⟩; have n1_ : Aside0 (IsS59 w w18 g192 t190 t198) := ⟨by rw [← hq_]; exact (by repeat (first | (with_reducible first | exact HI192.out | apply IsS59.alloc | apply IsS59.drewN | apply IsS59.drew | apply IsS59.set_1 | refine IsS59.far ?_ NB192_199.out _) | exact HI192.out))⟩; have n2_ : Aside0 (Below w.heap.size w w18) := ⟨by rw [← hq_]; exact (by repeat (first | (with_reducible first | exact HB.out | apply below_alloc | apply pw_below_drewN | apply below_drew1 | refine below_set ?_ (IsS59.ge HI192.out) | refine below_set ?_ GE199.out) | exact HB.out))⟩; clear BK199 HI192 HB hq_; have BK199 := n0_; have HI192 := n1_; have HB := n2_; clear n0_ n1_ n2_))
    have n0_ := Aside0.mk (blk_drew BK199.out)
    have n1_ := Aside0.mk (IsS59.drew HI192.out)
    have n2_ := Aside0.mk (below_drew1 HB.out)
    clear BK199; clear HI192; clear HB; have BK199 := n0_; have HI192 := n1_; have HB := n2_
    clear n0_ n1_ n2_
    refine start_ (n := 25) (S := fun w' => True) (ds := []) D25m0 (by kernel_rfl) rfl rfl trivial (fun hHeld => ?_); refine with_tabW law37_HoistStops.tab8 law37_HoistStops.bits8 (fun HT_ HW_ => ?_)
    generalize w18.drew = w20 at BK199 HI192 HB hHeld ⊢
    refine pure_ (i := 0) (N := some 37) (v := ?_) (a' := ?_) D25m1 rfl rfl (any_of HT_.out (by kernel_rfl)) (fun _ _ _ h => h) (Or.inl ⟨by rfl, ?_⟩) ?_ ?_
    rotate_left; ·intro w'; go_simp; with_reducible rfl
    rotate_left; ·simp only [Act.put, sZ1, sZ2, sZ3, i64_w, i32_w]; rfl
    refine pure_ (i := 1) (N := some 38) (v := ?_) (a' := ?_) D25m3 rfl rfl (any_of HT_.out (by kernel_rfl)) (fun _ _ _ h => h) (Or.inl ⟨by rfl, ?_⟩) ?_ ?_
    rotate_left; ·intro w'; go_simp; with_reducible rfl
    rotate_left; ·simp only [Act.put, sZ1, sZ2, sZ3, i64_w, i32_w]; rfl
    refine pure_ (i := 2) (N := some 39) (v := ?_) (a' := ?_) D25m7 rfl rfl (any_of HT_.out (by kernel_rfl)) (fun _ _ _ h => h) (Or.inl ⟨by rfl, ?_⟩) ?_ ?_
    rotate_left; ·intro w'; go_simp; with_reducible rfl
    rotate_left; ·simp only [Act.put, sZ1, sZ2, sZ3, i64_w, i32_w]; rfl
    refine pure_ (i := 3) (N := some 40) (v := undef) (a' := ?_) D25mf rfl rfl (any_of HT_.out (by kernel_rfl)) (fun _ _ _ h => h) (Or.inr ⟨by rfl, rfl⟩) ?_ ?_
    rotate_left; ·simp only [Act.put, sZ1, sZ2, sZ3, i64_w, i32_w]; rfl
    refine pure_ (i := 4) (N := some 41) (v := undef) (a' := ?_) D25m1f rfl rfl (any_of HT_.out (by kernel_rfl)) (fun _ _ _ h => h) (Or.inr ⟨by rfl, rfl⟩) ?_ ?_
    rotate_left; ·simp only [Act.put, sZ1, sZ2, sZ3, i64_w, i32_w]; rfl
    refine pure_ (i := 5) (N := some 42) (v := undef) (a' := ?_) D25m3f rfl rfl (any_of HT_.out (by kernel_rfl)) (fun _ _ _ h => h) (Or.inr ⟨by rfl, rfl⟩) ?_ ?_
    rotate_left; ·simp only [Act.put, sZ1, sZ2, sZ3, i64_w, i32_w]; rfl
    refine pure_ (i := 6) (N := some 43) (v := undef) (a' := ?_) D25m7f rfl rfl (any_of HT_.out (by kernel_rfl)) (fun _ _ _ h => h) (Or.inr ⟨by rfl, rfl⟩) ?_ ?_
    rotate_left; ·simp only [Act.put, sZ1, sZ2, sZ3, i64_w, i32_w]; rfl
    refine pure_ (i := 7) (N := some 44) (v := undef) (a' := ?_) D25mff rfl rfl (any_of HT_.out (by kernel_rfl)) (fun _ _ _ h => h) (Or.inr ⟨by rfl, rfl⟩) ?_ ?_
    rotate_left; ·simp only [Act.put, sZ1, sZ2, sZ3, i64_w, i32_w]; rfl
    refine pure_ (i := 8) (N := some 45) (v := ?_) (a' := ?_) D25m1ff rfl rfl (any_of HT_.out (by kernel_rfl)) (fun _ _ _ h => h) (Or.inl ⟨by rfl, ?_⟩) ?_ ?_
    rotate_left; ·intro w'; go_simp; with_reducible rfl
    rotate_left; ·simp only [Act.put, sZ1, sZ2, sZ3, i64_w, i32_w]; rfl
    refine pure_ (i := 9) (N := some 46) (v := ?_) (a' := ?_) D25m3ff rfl rfl (any_of HT_.out (by kernel_rfl)) (fun _ _ _ h => h) (Or.inl ⟨by rfl, ?_⟩) ?_ ?_
    rotate_left; ·intro w'; go_simp; with_reducible rfl
    rotate_left; ·simp only [Act.put, sZ1, sZ2, sZ3, i64_w, i32_w]; rfl
    refine pure_ (i := 10) (N := some 47) (v := undef) (a' := ?_) D25m7ff rfl rfl (any_of HT_.out (by kernel_rfl)) (fun _ _ _ h => h) (Or.inr ⟨by rfl, rfl⟩) ?_ ?_
    rotate_left; ·simp only [Act.put, sZ1, sZ2, sZ3, i64_w, i32_w]; rfl
    refine pure_ (i := 11) (N := some 48) (v := undef) (a' := ?_) D25mfff rfl rfl (any_of HT_.out (by kernel_rfl)) (fun _ _ _ h => h) (Or.inr ⟨by rfl, rfl⟩) ?_ ?_
    rotate_left; ·simp only [Act.put, sZ1, sZ2, sZ3, i64_w, i32_w]; rfl
    refine pure_ (i := 12) (N := some 49) (v := undef) (a' := ?_) D25m1fff rfl rfl (any_of HT_.out (by kernel_rfl)) (fun _ _ _ h => h) (Or.inr ⟨by rfl, rfl⟩) ?_ ?_
    rotate_left; ·simp only [Act.put, sZ1, sZ2, sZ3, i64_w, i32_w]; rfl
    refine pure_ (i := 13) (N := some 50) (v := undef) (a' := ?_) D25m3fff rfl rfl (any_of HT_.out (by kernel_rfl)) (fun _ _ _ h => h) (Or.inr ⟨by rfl, rfl⟩) ?_ ?_
    rotate_left; ·simp only [Act.put, sZ1, sZ2, sZ3, i64_w, i32_w]; rfl
    refine pure_ (i := 14) (N := some 51) (v := undef) (a' := ?_) D25m7fff rfl rfl (any_of HT_.out (by kernel_rfl)) (fun _ _ _ h => h) (Or.inr ⟨by rfl, rfl⟩) ?_ ?_
    rotate_left; ·simp only [Act.put, sZ1, sZ2, sZ3, i64_w, i32_w]; rfl
    refine pure_ (i := 15) (N := some 52) (v := undef) (a' := ?_) D25mffff rfl rfl (any_of HT_.out (by kernel_rfl)) (fun _ _ _ h => h) (Or.inr ⟨by rfl, rfl⟩) ?_ ?_
    rotate_left; ·simp only [Act.put, sZ1, sZ2, sZ3, i64_w, i32_w]; rfl
    refine pure_ (i := 16) (N := some 53) (v := undef) (a' := ?_) D25m1ffff rfl rfl (any_of HT_.out (by kernel_rfl)) (fun _ _ _ h => h) (Or.inr ⟨by rfl, rfl⟩) ?_ ?_
    rotate_left; ·simp only [Act.put, sZ1, sZ2, sZ3, i64_w, i32_w]; rfl
    refine pure_ (i := 17) (N := some 54) (v := undef) (a' := ?_) D25m3ffff rfl rfl (any_of HT_.out (by kernel_rfl)) (fun _ _ _ h => h) (Or.inr ⟨by rfl, rfl⟩) ?_ ?_
    rotate_left; ·simp only [Act.put, sZ1, sZ2, sZ3, i64_w, i32_w]; rfl
    refine pure_ (i := 18) (N := some 55) (v := ?_) (a' := ?_) D25m7ffff rfl rfl (any_of HT_.out (by kernel_rfl)) (fun _ _ _ h => h) (Or.inl ⟨by rfl, ?_⟩) ?_ ?_
    rotate_left; ·intro w'; go_simp; with_reducible rfl
    rotate_left; ·simp only [Act.put, sZ1, sZ2, sZ3, i64_w, i32_w]; rfl
    refine pure_ (i := 19) (N := some 56) (v := ?_) (a' := ?_) D25mfffff rfl rfl (any_of HT_.out (by kernel_rfl)) (fun _ _ _ h => h) (Or.inl ⟨by rfl, ?_⟩) ?_ ?_
    rotate_left; ·intro w'; go_simp; with_reducible rfl
    rotate_left; ·simp only [Act.put, sZ1, sZ2, sZ3, i64_w, i32_w]; rfl
    refine pure_ (i := 20) (N := some 57) (v := undef) (a' := ?_) D25m1fffff rfl rfl (any_of HT_.out (by kernel_rfl)) (fun _ _ _ h => h) (Or.inr ⟨by rfl, rfl⟩) ?_ ?_
    rotate_left; ·simp only [Act.put, sZ1, sZ2, sZ3, i64_w, i32_w]; rfl
    refine pure_ (i := 21) (N := some 58) (v := undef) (a' := ?_) D25m3fffff rfl rfl (any_of HT_.out (by kernel_rfl)) (fun _ _ _ h => h) (Or.inr ⟨by rfl, rfl⟩) ?_ ?_
    rotate_left; ·simp only [Act.put, sZ1, sZ2, sZ3, i64_w, i32_w]; rfl
    refine pure_ (i := 22) (N := some 59) (v := undef) (a' := ?_) D25m7fffff rfl rfl (any_of HT_.out (by kernel_rfl)) (fun _ _ _ h => h) (Or.inr ⟨by rfl, rfl⟩) ?_ ?_
    rotate_left; ·simp only [Act.put, sZ1, sZ2, sZ3, i64_w, i32_w]; rfl
    refine pure_ (i := 23) (N := some 60) (v := undef) (a' := ?_) D25mffffff rfl rfl (any_of HT_.out (by kernel_rfl)) (fun _ _ _ h => h) (Or.inr ⟨by rfl, rfl⟩) ?_ ?_
    rotate_left; ·simp only [Act.put, sZ1, sZ2, sZ3, i64_w, i32_w]; rfl
    refine pure_ (i := 24) (N := some 61) (v := ?_) (a' := ?_) D25m1ffffff rfl rfl (any_of HT_.out (by kernel_rfl)) (fun _ _ _ h => h) (Or.inl ⟨by rfl, ?_⟩) ?_ ?_
    rotate_left; ·intro w'; go_simp; with_reducible rfl
    rotate_left; ·simp only [Act.put, sZ1, sZ2, sZ3, i64_w, i32_w]; rfl
    refine done_ (done_of HT_.out (by kernel_rfl)) ?_
    try go_wp2
    go_meet
    case rel => exact ⟨_, (true), (t198), (by first | rfl | (simp; done) | (simp [*]; done)), H', ⟨by first | omega | exact Nat.le_refl _⟩, ⟨by (with_reducible repeat (first | refine blk_drewN ?_ _ | refine blk_drew ?_ | refine blk_alloc ?_ _)); exact BK199.out⟩, ⟨by repeat (first | (with_reducible first | exact HI192.out | apply IsS59.alloc | apply IsS59.drewN | apply IsS59.drew | apply IsS59.set_1 | refine IsS59.far ?_ NB192_199.out _) | exact HI192.out)⟩, ⟨by repeat (first | (with_reducible first | exact HB.out | apply below_alloc | apply pw_below_drewN | apply below_drew1 | refine below_set ?_ (IsS59.ge HI192.out) | refine below_set ?_ GE199.out) | exact HB.out)⟩⟩
   ·rw [if_neg c19] at H
    have c19b0 : decide (t201 < 0) = false := decide_eq_false c19
    clear c19
    (first | rw [c19b0] | (simp only [i64_w, i32_w]; rw [c19b0]) | skip)
    replace H := Option.bind_eq_some_iff.mp H
    obtain ⟨t203, A210, H⟩ := H
    replace H : (if t203 > t200 then (law37_HoistStops.j0 k a1 a2 true t190 t198 t193 t194 t195 t196 t197) else ((made_Dice_Next.f t190 t198 1000).bind fun bt204 => ((hoist_Limit.f t193 t194 t195 t196 t197 (wrap64 (t200 + bt204.1))).bind fun t206 => (if t206 < t201 then (law37_HoistStops.j0 k a1 a2 true t190 bt204.2 t193 t194 t195 t196 t197) else (law37_HoistStops.j0 k a1 a2 (decide (t201 > t194)) t190 bt204.2 t193 t194 t195 t196 t197))))) = some r := H
    have A21 := Aside0.mk A210
    clear A210
    by_cases c22 : t203 > t200
    ·rw [if_pos c22] at H
     have c22b0 : decide (t200 < t203) = true := decide_eq_true c22
     clear c22
     have H' := Aside0.mk H
     clear H
     try go_wp2
     (try (rw [drewN_self w18]; generalize hq_ : World.drewN w18 _ = w18; have n0_ : Aside0 (w18.heap[gb199]? = some (.cells #[.int .i64 t193, .int .i64 t194, .int .i64 t195, .int .i64 t196, .int .i64 t197] 45 (0, 0))) := ⟨by rw [← hq_]; exact (by (with_reducible repeat (first | refine blk_drewN ?_ _ | refine blk_drew ?_ | refine blk_alloc ?_ _)); exact BK199.out)⟩; have n1_ : Aside0 (IsS59 w w18 g192 t190 t198) := ⟨by rw [← hq_]; exact (by repeat (first | (with_reducible first | exact HI192.out | apply IsS59.alloc | apply IsS59.drewN | apply IsS59.drew | apply IsS59.set_1 | refine IsS59.far ?_ NB192_199.out _) | exact HI192.out))⟩; have n2_ : Aside0 (Below w.heap.size w w18) := ⟨by rw [← hq_]; exact (by repeat (first | (with_reducible first | exact HB.out | apply below_alloc | apply pw_below_drewN | apply below_drew1 | refine below_set ?_ (IsS59.ge HI192.out) | refine below_set ?_ GE199.out) | exact HB.out))⟩; clear BK199 HI192 HB hq_; have BK199 := n0_; have HI192 := n1_; have HB := n2_; clear n0_ n1_ n2_))
     have n0_ := Aside0.mk (blk_drew BK199.out)
     have n1_ := Aside0.mk (IsS59.drew HI192.out)
     have n2_ := Aside0.mk (below_drew1 HB.out)
     clear BK199; clear HI192; clear HB; have BK199 := n0_; have HI192 := n1_; have HB := n2_
     clear n0_ n1_ n2_
     refine start_ (n := 25) (S := fun w' => w'.cell? ⟨gb199, 0, none⟩ = some (.int .i64 t193) ∧ w'.cell? ⟨gb199, 1, none⟩ = some (.int .i64 t194) ∧ w'.cell? ⟨gb199, 2, none⟩ = some (.int .i64 t195) ∧ w'.cell? ⟨gb199, 3, none⟩ = some (.int .i64 t196) ∧ w'.cell? ⟨gb199, 4, none⟩ = some (.int .i64 t197)) (ds := []) D25m0 (by kernel_rfl) rfl rfl ⟨(blk_cell BK199.out 0).trans rfl, (blk_cell BK199.out 1).trans rfl, (blk_cell BK199.out 2).trans rfl, (blk_cell BK199.out 3).trans rfl, (blk_cell BK199.out 4).trans rfl⟩ (fun hHeld => ?_); refine with_tabW law37_HoistStops.tab8 law37_HoistStops.bits8 (fun HT_ HW_ => ?_)
     generalize w18.drew = w23 at BK199 HI192 HB hHeld ⊢
     refine pure_ (i := 0) (N := some 37) (v := ?_) (a' := ?_) D25m1 rfl rfl (any_of HT_.out (by kernel_rfl)) (fun _ _ _ h => h) (Or.inl ⟨by rfl, ?_⟩) ?_ ?_
     rotate_left; ·intro w'; go_simp; with_reducible rfl
     rotate_left; ·simp only [Act.put, sZ1, sZ2, sZ3, i64_w, i32_w]; rfl
     refine pure_ (i := 1) (N := some 38) (v := ?_) (a' := ?_) D25m3 rfl rfl (any_of HT_.out (by kernel_rfl)) (fun _ _ _ h => h) (Or.inl ⟨by rfl, ?_⟩) ?_ ?_
     rotate_left; ·intro w'; go_simp; with_reducible rfl
     rotate_left; ·simp only [Act.put, sZ1, sZ2, sZ3, i64_w, i32_w]; rfl
     refine pure_ (i := 2) (N := some 39) (v := ?_) (a' := ?_) D25m7 rfl rfl (any_of HT_.out (by kernel_rfl)) (fun _ _ _ h => h) (Or.inl ⟨by rfl, ?_⟩) ?_ ?_
     rotate_left; ·intro w'; go_simp; with_reducible rfl
     rotate_left; ·simp only [Act.put, sZ1, sZ2, sZ3, i64_w, i32_w]; rfl
     refine pure_ (i := 4) (N := some 41) (v := ?_) (a' := ?_) D25m17 rfl rfl (any_of HT_.out (by kernel_rfl)) (fun _ _ _ h => h) (Or.inl ⟨by rfl, ?_⟩) ?_ ?_
     rotate_left; ·intro w'; go_simp; with_reducible rfl
     rotate_left; ·simp only [Act.put, sZ1, sZ2, sZ3, i64_w, i32_w]; rfl
     refine pure_ (i := 6) (N := some 43) (v := ?_) (a' := ?_) D25m57 rfl rfl (any_of HT_.out (by kernel_rfl)) (fun _ _ _ h => h) (Or.inl ⟨by rfl, ?_⟩) ?_ ?_
     rotate_left; ·intro w'; go_simp; with_reducible rfl
     rotate_left; ·simp only [Act.put, sZ1, sZ2, sZ3, i64_w, i32_w]; rfl
     refine take_ (i := 3) (N := some 40) (v := ?_) (a' := ?_) D25m5f rfl rfl (take_ofW HT_.out HW_.out (by kernel_rfl)) (fun _ _ _ h => h) (Or.inl ⟨by rfl, ?_⟩) hHeld ?_ ?_
     rotate_left; ·rintro w' ⟨s0, s1, s2, s3, s4⟩; go_simp; with_reducible rfl
     rotate_left; ·simp only [Act.put, sZ1, sZ2, sZ3, i64_w, i32_w]; rfl
     refine one_ (i := 5) (N := some 42) D25m7f rfl rfl (one_of HT_.out (by kernel_rfl)) (by decide) (fun K hK => ?_)
     refine goes_ Try.func29 (by kernel_rfl) rfl #[.agg #[.int .i64 t193, .int .i64 t194, .int .i64 t195, .int .i64 t196, .int .i64 t197], .int .i64 t202] (by rfl) rfl rfl (by (try simp only [List.map_toArray, List.map_cons, List.map_nil]); first | done | rfl | (simp only [List.length_drop, List.length_take]; rfl)) ?_
     with_reducible refine (hoist_Stop.calls t193 t194 t195 t196 t197 t202 t203 _ A21.out).mono ?_
     rintro e w24 ⟨rfl, hb⟩
     refine ⟨_, rfl, ?_⟩
     have n0_ := Aside0.mk (IsS59.below (by repeat (first | (with_reducible first | exact HI192.out | apply IsS59.alloc | apply IsS59.drewN | apply IsS59.drew | apply IsS59.set_1 | refine IsS59.far ?_ NB192_199.out _) | exact HI192.out)) hb)
     have n1_ := Aside0.mk (blk_below (g := gb199) (o := .cells #[.int .i64 t193, .int .i64 t194, .int .i64 t195, .int .i64 t196, .int .i64 t197] 45 (0, 0)) (by (with_reducible repeat (first | refine blk_drewN ?_ _ | refine blk_drew ?_ | refine blk_alloc ?_ _)); exact BK199.out) hb)
     have n2_ := Aside0.mk (below_step (by repeat (first | (with_reducible first | exact HB.out | apply below_alloc | apply pw_below_drewN | apply below_drew1 | refine below_set ?_ (IsS59.ge HI192.out) | refine below_set ?_ GE199.out) | exact HB.out)) hb)
     clear HI192; clear BK199; clear HB; have HI192 := n0_; have BK199 := n1_; have HB := n2_
     clear n0_ n1_ n2_
     (try clear hb); (try clear hb2); (try clear hk); (try clear hi)
     refine hK.out _ _ ⟨(blk_cell BK199.out 0).trans rfl, (blk_cell BK199.out 1).trans rfl, (blk_cell BK199.out 2).trans rfl, (blk_cell BK199.out 3).trans rfl, (blk_cell BK199.out 4).trans rfl⟩ (fun hHeld => ?_)
     clear hK K
     refine norm_ (a' := ?_) ?_ ?_
     rotate_left
     ·show Act.put _ (some 42) _ = _
      simp only [Act.put, sZ1, sZ2, sZ3, i64_w, i32_w]
      rfl
     refine pure_ (i := 7) (N := some 44) (v := ?_) (a' := ?_) D25mff rfl rfl (any_of HT_.out (by kernel_rfl)) (fun _ _ _ h => h) (Or.inl ⟨by rfl, ?_⟩) ?_ ?_
     rotate_left; ·intro w'; go_simp; with_reducible rfl
     rotate_left; ·simp only [Act.put, sZ1, sZ2, sZ3, i64_w, i32_w]; rfl
     refine pure_ (i := 8) (N := some 45) (v := ?_) (a' := ?_) D25m1ff rfl rfl (any_of HT_.out (by kernel_rfl)) (fun _ _ _ h => h) (Or.inl ⟨by rfl, ?_⟩) ?_ ?_
     rotate_left; ·intro w'; go_simp; with_reducible rfl
     rotate_left; ·simp only [Act.put, sZ1, sZ2, sZ3, i64_w, i32_w]; rfl
     refine pure_ (i := 9) (N := some 46) (v := ?_) (a' := ?_) D25m3ff rfl rfl (any_of HT_.out (by kernel_rfl)) (fun _ _ _ h => h) (Or.inl ⟨by rfl, ?_⟩) ?_ ?_
     rotate_left; ·intro w'; go_simp; with_reducible rfl
     rotate_left; ·simp only [Act.put, sZ1, sZ2, sZ3, i64_w, i32_w]; rfl
     refine pure_ (i := 10) (N := some 47) (v := undef) (a' := ?_) D25m7ff rfl rfl (any_of HT_.out (by kernel_rfl)) (fun _ _ _ h => h) (Or.inr ⟨by rfl, rfl⟩) ?_ ?_
     rotate_left; ·simp only [Act.put, sZ1, sZ2, sZ3, i64_w, i32_w]; rfl
     refine pure_ (i := 11) (N := some 48) (v := undef) (a' := ?_) D25mfff rfl rfl (any_of HT_.out (by kernel_rfl)) (fun _ _ _ h => h) (Or.inr ⟨by rfl, rfl⟩) ?_ ?_
     rotate_left; ·simp only [Act.put, sZ1, sZ2, sZ3, i64_w, i32_w]; rfl
     refine pure_ (i := 12) (N := some 49) (v := undef) (a' := ?_) D25m1fff rfl rfl (any_of HT_.out (by kernel_rfl)) (fun _ _ _ h => h) (Or.inr ⟨by rfl, rfl⟩) ?_ ?_
     rotate_left; ·simp only [Act.put, sZ1, sZ2, sZ3, i64_w, i32_w]; rfl
     refine pure_ (i := 13) (N := some 50) (v := undef) (a' := ?_) D25m3fff rfl rfl (any_of HT_.out (by kernel_rfl)) (fun _ _ _ h => h) (Or.inr ⟨by rfl, rfl⟩) ?_ ?_
     rotate_left; ·simp only [Act.put, sZ1, sZ2, sZ3, i64_w, i32_w]; rfl
     refine pure_ (i := 14) (N := some 51) (v := undef) (a' := ?_) D25m7fff rfl rfl (any_of HT_.out (by kernel_rfl)) (fun _ _ _ h => h) (Or.inr ⟨by rfl, rfl⟩) ?_ ?_
     rotate_left; ·simp only [Act.put, sZ1, sZ2, sZ3, i64_w, i32_w]; rfl
     refine pure_ (i := 15) (N := some 52) (v := undef) (a' := ?_) D25mffff rfl rfl (any_of HT_.out (by kernel_rfl)) (fun _ _ _ h => h) (Or.inr ⟨by rfl, rfl⟩) ?_ ?_
     rotate_left; ·simp only [Act.put, sZ1, sZ2, sZ3, i64_w, i32_w]; rfl
     refine pure_ (i := 16) (N := some 53) (v := undef) (a' := ?_) D25m1ffff rfl rfl (any_of HT_.out (by kernel_rfl)) (fun _ _ _ h => h) (Or.inr ⟨by rfl, rfl⟩) ?_ ?_
     rotate_left; ·simp only [Act.put, sZ1, sZ2, sZ3, i64_w, i32_w]; rfl
     refine pure_ (i := 17) (N := some 54) (v := undef) (a' := ?_) D25m3ffff rfl rfl (any_of HT_.out (by kernel_rfl)) (fun _ _ _ h => h) (Or.inr ⟨by rfl, rfl⟩) ?_ ?_
     rotate_left; ·simp only [Act.put, sZ1, sZ2, sZ3, i64_w, i32_w]; rfl
     refine pure_ (i := 18) (N := some 55) (v := ?_) (a' := ?_) D25m7ffff rfl rfl (any_of HT_.out (by kernel_rfl)) (fun _ _ _ h => h) (Or.inl ⟨by rfl, ?_⟩) ?_ ?_
     rotate_left; ·intro w'; go_simp; with_reducible rfl
     rotate_left; ·simp only [Act.put, sZ1, sZ2, sZ3, i64_w, i32_w]; rfl
     refine pure_ (i := 19) (N := some 56) (v := ?_) (a' := ?_) D25mfffff rfl rfl (any_of HT_.out (by kernel_rfl)) (fun _ _ _ h => h) (Or.inl ⟨by rfl, ?_⟩) ?_ ?_
     rotate_left; ·intro w'; go_simp; with_reducible rfl
     rotate_left; ·simp only [Act.put, sZ1, sZ2, sZ3, i64_w, i32_w]; rfl
     refine pure_ (i := 20) (N := some 57) (v := undef) (a' := ?_) D25m1fffff rfl rfl (any_of HT_.out (by kernel_rfl)) (fun _ _ _ h => h) (Or.inr ⟨by rfl, rfl⟩) ?_ ?_
     rotate_left; ·simp only [Act.put, sZ1, sZ2, sZ3, i64_w, i32_w]; rfl
     refine pure_ (i := 21) (N := some 58) (v := undef) (a' := ?_) D25m3fffff rfl rfl (any_of HT_.out (by kernel_rfl)) (fun _ _ _ h => h) (Or.inr ⟨by rfl, rfl⟩) ?_ ?_
     rotate_left; ·simp only [Act.put, sZ1, sZ2, sZ3, i64_w, i32_w]; rfl
     refine pure_ (i := 22) (N := some 59) (v := undef) (a' := ?_) D25m7fffff rfl rfl (any_of HT_.out (by kernel_rfl)) (fun _ _ _ h => h) (Or.inr ⟨by rfl, rfl⟩) ?_ ?_
     rotate_left; ·simp only [Act.put, sZ1, sZ2, sZ3, i64_w, i32_w]; rfl
     refine pure_ (i := 23) (N := some 60) (v := undef) (a' := ?_) D25mffffff rfl rfl (any_of HT_.out (by kernel_rfl)) (fun _ _ _ h => h) (Or.inr ⟨by rfl, rfl⟩) ?_ ?_
     rotate_left; ·simp only [Act.put, sZ1, sZ2, sZ3, i64_w, i32_w]; rfl
     refine pure_ (i := 24) (N := some 61) (v := ?_) (a' := ?_) D25m1ffffff rfl rfl (any_of HT_.out (by kernel_rfl)) (fun _ _ _ h => h) (Or.inl ⟨by rfl, ?_⟩) ?_ ?_
     rotate_left; ·intro w'; go_simp; with_reducible rfl
     rotate_left; ·simp only [Act.put, sZ1, sZ2, sZ3, i64_w, i32_w]; rfl
     refine done_ (done_of HT_.out (by kernel_rfl)) ?_
     try go_wp2
     go_meet
     case rel => exact ⟨_, (true), (t198), (by first | rfl | (simp; done) | (simp [*]; done)), H', ⟨by first | omega | exact Nat.le_refl _⟩, ⟨by (with_reducible repeat (first | refine blk_drewN ?_ _ | refine blk_drew ?_ | refine blk_alloc ?_ _)); exact BK199.out⟩, ⟨by repeat (first | (with_reducible first | exact HI192.out | apply IsS59.alloc | apply IsS59.drewN | apply IsS59.drew | apply IsS59.set_1 | refine IsS59.far ?_ NB192_199.out _) | exact HI192.out)⟩, ⟨by repeat (first | (with_reducible first | exact HB.out | apply below_alloc | apply pw_below_drewN | apply below_drew1 | refine below_set ?_ (IsS59.ge HI192.out) | refine below_set ?_ GE199.out) | exact HB.out)⟩⟩
    ·rw [if_neg c22] at H
     have c22b0 : decide (t200 < t203) = false := decide_eq_false c22
     clear c22
     replace H := Option.bind_eq_some_iff.mp H
     obtain ⟨⟨t204, t205⟩, A250, H⟩ := H
     replace H : ((hoist_Limit.f t193 t194 t195 t196 t197 (wrap64 (t200 + t204))).bind fun t206 => (if t206 < t201 then (law37_HoistStops.j0 k a1 a2 true t190 t205 t193 t194 t195 t196 t197) else (law37_HoistStops.j0 k a1 a2 (decide (t201 > t194)) t190 t205 t193 t194 t195 t196 t197))) = some r := H
     have A25 := Aside0.mk A250
     clear A250
     replace H := Option.bind_eq_some_iff.mp H
     obtain ⟨t206, A260, H⟩ := H
     replace H : (if t206 < t201 then (law37_HoistStops.j0 k a1 a2 true t190 t205 t193 t194 t195 t196 t197) else (law37_HoistStops.j0 k a1 a2 (decide (t201 > t194)) t190 t205 t193 t194 t195 t196 t197)) = some r := H
     have A26 := Aside0.mk A260
     clear A260
     by_cases c27 : t206 < t201
     ·rw [if_pos c27] at H
      have c27b0 : decide (t206 < t201) = true := decide_eq_true c27
      clear c27
      have H' := Aside0.mk H
      clear H
      try go_wp2
      (try (rw [drewN_self w18]; generalize hq_ : World.drewN w18 _ = w18; have n0_ : Aside0 (w18.heap[gb199]? = some (.cells #[.int .i64 t193, .int .i64 t194, .int .i64 t195, .int .i64 t196, .int .i64 t197] 45 (0, 0))) := ⟨by rw [← hq_]; exact (by (with_reducible repeat (first | refine blk_drewN ?_ _ | refine blk_drew ?_ | refine blk_alloc ?_ _)); exact BK199.out)⟩; have n1_ : Aside0 (IsS59 w w18 g192 t190 t198) := ⟨by rw [← hq_]; exact (by repeat (first | (with_reducible first | exact HI192.out | apply IsS59.alloc | apply IsS59.drewN | apply IsS59.drew | apply IsS59.set_1 | refine IsS59.far ?_ NB192_199.out _) | exact HI192.out))⟩; have n2_ : Aside0 (Below w.heap.size w w18) := ⟨by rw [← hq_]; exact (by repeat (first | (with_reducible first | exact HB.out | apply below_alloc | apply pw_below_drewN | apply below_drew1 | refine below_set ?_ (IsS59.ge HI192.out) | refine below_set ?_ GE199.out) | exact HB.out))⟩; clear BK199 HI192 HB hq_; have BK199 := n0_; have HI192 := n1_; have HB := n2_; clear n0_ n1_ n2_))
      have n0_ := Aside0.mk (blk_drew BK199.out)
      have n1_ := Aside0.mk (IsS59.drew HI192.out)
      have n2_ := Aside0.mk (below_drew1 HB.out)
      clear BK199; clear HI192; clear HB; have BK199 := n0_; have HI192 := n1_; have HB := n2_
      clear n0_ n1_ n2_
      refine start_ (n := 25) (S := fun w' => w'.cell? ⟨gb199, 0, none⟩ = some (.int .i64 t193) ∧ w'.cell? ⟨gb199, 1, none⟩ = some (.int .i64 t194) ∧ w'.cell? ⟨gb199, 2, none⟩ = some (.int .i64 t195) ∧ w'.cell? ⟨gb199, 3, none⟩ = some (.int .i64 t196) ∧ w'.cell? ⟨gb199, 4, none⟩ = some (.int .i64 t197)) (ds := []) D25m0 (by kernel_rfl) rfl rfl ⟨(blk_cell BK199.out 0).trans rfl, (blk_cell BK199.out 1).trans rfl, (blk_cell BK199.out 2).trans rfl, (blk_cell BK199.out 3).trans rfl, (blk_cell BK199.out 4).trans rfl⟩ (fun hHeld => ?_); refine with_tabW law37_HoistStops.tab8 law37_HoistStops.bits8 (fun HT_ HW_ => ?_)
      generalize w18.drew = w28 at BK199 HI192 HB hHeld ⊢
      refine pure_ (i := 0) (N := some 37) (v := ?_) (a' := ?_) D25m1 rfl rfl (any_of HT_.out (by kernel_rfl)) (fun _ _ _ h => h) (Or.inl ⟨by rfl, ?_⟩) ?_ ?_
      rotate_left; ·intro w'; go_simp; with_reducible rfl
      rotate_left; ·simp only [Act.put, sZ1, sZ2, sZ3, i64_w, i32_w]; rfl
      refine pure_ (i := 1) (N := some 38) (v := ?_) (a' := ?_) D25m3 rfl rfl (any_of HT_.out (by kernel_rfl)) (fun _ _ _ h => h) (Or.inl ⟨by rfl, ?_⟩) ?_ ?_
      rotate_left; ·intro w'; go_simp; with_reducible rfl
      rotate_left; ·simp only [Act.put, sZ1, sZ2, sZ3, i64_w, i32_w]; rfl
      refine pure_ (i := 2) (N := some 39) (v := ?_) (a' := ?_) D25m7 rfl rfl (any_of HT_.out (by kernel_rfl)) (fun _ _ _ h => h) (Or.inl ⟨by rfl, ?_⟩) ?_ ?_
      rotate_left; ·intro w'; go_simp; with_reducible rfl
      rotate_left; ·simp only [Act.put, sZ1, sZ2, sZ3, i64_w, i32_w]; rfl
      refine pure_ (i := 4) (N := some 41) (v := ?_) (a' := ?_) D25m17 rfl rfl (any_of HT_.out (by kernel_rfl)) (fun _ _ _ h => h) (Or.inl ⟨by rfl, ?_⟩) ?_ ?_
      rotate_left; ·intro w'; go_simp; with_reducible rfl
      rotate_left; ·simp only [Act.put, sZ1, sZ2, sZ3, i64_w, i32_w]; rfl
      refine pure_ (i := 6) (N := some 43) (v := ?_) (a' := ?_) D25m57 rfl rfl (any_of HT_.out (by kernel_rfl)) (fun _ _ _ h => h) (Or.inl ⟨by rfl, ?_⟩) ?_ ?_
      rotate_left; ·intro w'; go_simp; with_reducible rfl
      rotate_left; ·simp only [Act.put, sZ1, sZ2, sZ3, i64_w, i32_w]; rfl
      refine take_ (i := 3) (N := some 40) (v := ?_) (a' := ?_) D25m5f rfl rfl (take_ofW HT_.out HW_.out (by kernel_rfl)) (fun _ _ _ h => h) (Or.inl ⟨by rfl, ?_⟩) hHeld ?_ ?_
      rotate_left; ·rintro w' ⟨s0, s1, s2, s3, s4⟩; go_simp; with_reducible rfl
      rotate_left; ·simp only [Act.put, sZ1, sZ2, sZ3, i64_w, i32_w]; rfl
      refine one_ (i := 5) (N := some 42) D25m7f rfl rfl (one_of HT_.out (by kernel_rfl)) (by decide) (fun K hK => ?_)
      refine goes_ Try.func29 (by kernel_rfl) rfl #[.agg #[.int .i64 t193, .int .i64 t194, .int .i64 t195, .int .i64 t196, .int .i64 t197], .int .i64 t202] (by rfl) rfl rfl (by (try simp only [List.map_toArray, List.map_cons, List.map_nil]); first | done | rfl | (simp only [List.length_drop, List.length_take]; rfl)) ?_
      with_reducible refine (hoist_Stop.calls t193 t194 t195 t196 t197 t202 t203 _ A21.out).mono ?_
      rintro e w29 ⟨rfl, hb⟩
      refine ⟨_, rfl, ?_⟩
      have n0_ := Aside0.mk (IsS59.below (by repeat (first | (with_reducible first | exact HI192.out | apply IsS59.alloc | apply IsS59.drewN | apply IsS59.drew | apply IsS59.set_1 | refine IsS59.far ?_ NB192_199.out _) | exact HI192.out)) hb)
      have n1_ := Aside0.mk (blk_below (g := gb199) (o := .cells #[.int .i64 t193, .int .i64 t194, .int .i64 t195, .int .i64 t196, .int .i64 t197] 45 (0, 0)) (by (with_reducible repeat (first | refine blk_drewN ?_ _ | refine blk_drew ?_ | refine blk_alloc ?_ _)); exact BK199.out) hb)
      have n2_ := Aside0.mk (below_step (by repeat (first | (with_reducible first | exact HB.out | apply below_alloc | apply pw_below_drewN | apply below_drew1 | refine below_set ?_ (IsS59.ge HI192.out) | refine below_set ?_ GE199.out) | exact HB.out)) hb)
      clear HI192; clear BK199; clear HB; have HI192 := n0_; have BK199 := n1_; have HB := n2_
      clear n0_ n1_ n2_
      (try clear hb); (try clear hb2); (try clear hk); (try clear hi)
      refine hK.out _ _ ⟨(blk_cell BK199.out 0).trans rfl, (blk_cell BK199.out 1).trans rfl, (blk_cell BK199.out 2).trans rfl, (blk_cell BK199.out 3).trans rfl, (blk_cell BK199.out 4).trans rfl⟩ (fun hHeld => ?_)
      clear hK K
      refine norm_ (a' := ?_) ?_ ?_
      rotate_left
      ·show Act.put _ (some 42) _ = _
       simp only [Act.put, sZ1, sZ2, sZ3, i64_w, i32_w]
       rfl
      refine pure_ (i := 7) (N := some 44) (v := ?_) (a' := ?_) D25mff rfl rfl (any_of HT_.out (by kernel_rfl)) (fun _ _ _ h => h) (Or.inl ⟨by rfl, ?_⟩) ?_ ?_
      rotate_left; ·intro w'; go_simp; with_reducible rfl
      rotate_left; ·simp only [Act.put, sZ1, sZ2, sZ3, i64_w, i32_w]; rfl
      refine pure_ (i := 8) (N := some 45) (v := ?_) (a' := ?_) D25m1ff rfl rfl (any_of HT_.out (by kernel_rfl)) (fun _ _ _ h => h) (Or.inl ⟨by rfl, ?_⟩) ?_ ?_
      rotate_left; ·intro w'; go_simp; with_reducible rfl
      rotate_left; ·simp only [Act.put, sZ1, sZ2, sZ3, i64_w, i32_w]; rfl
      refine pure_ (i := 9) (N := some 46) (v := ?_) (a' := ?_) D25m3ff rfl rfl (any_of HT_.out (by kernel_rfl)) (fun _ _ _ h => h) (Or.inl ⟨by rfl, ?_⟩) ?_ ?_
      rotate_left; ·intro w'; go_simp; with_reducible rfl
      rotate_left; ·simp only [Act.put, sZ1, sZ2, sZ3, i64_w, i32_w]; rfl
      refine pure_ (i := 11) (N := some 48) (v := ?_) (a' := ?_) D25mbff rfl rfl (any_of HT_.out (by kernel_rfl)) (fun _ _ _ h => h) (Or.inl ⟨by rfl, ?_⟩) ?_ ?_
      rotate_left; ·intro w'; go_simp; with_reducible rfl
      rotate_left; ·simp only [Act.put, sZ1, sZ2, sZ3, i64_w, i32_w]; rfl
      refine pure_ (i := 12) (N := some 49) (v := ?_) (a' := ?_) D25m1bff rfl rfl (any_of HT_.out (by kernel_rfl)) (fun _ _ _ h => h) (Or.inl ⟨by rfl, ?_⟩) ?_ ?_
      rotate_left; ·intro w'; go_simp; with_reducible rfl
      rotate_left; ·simp only [Act.put, sZ1, sZ2, sZ3, i64_w, i32_w]; rfl
      refine pure_ (i := 16) (N := some 53) (v := ?_) (a' := ?_) D25m11bff rfl rfl (any_of HT_.out (by kernel_rfl)) (fun _ _ _ h => h) (Or.inl ⟨by rfl, ?_⟩) ?_ ?_
      rotate_left; ·intro w'; go_simp; with_reducible rfl
      rotate_left; ·simp only [Act.put, sZ1, sZ2, sZ3, i64_w, i32_w]; rfl
      refine take_ (i := 10) (N := some 47) (v := ?_) (a' := ?_) D25m11fff rfl rfl (take_ofW HT_.out HW_.out (by kernel_rfl)) (fun _ _ _ h => h) (Or.inl ⟨by rfl, ?_⟩) hHeld ?_ ?_
      rotate_left; ·rintro w' ⟨s0, s1, s2, s3, s4⟩; go_simp; with_reducible rfl
      rotate_left; ·simp only [Act.put, sZ1, sZ2, sZ3, i64_w, i32_w]; rfl
      refine one_ (i := 13) (N := some 50) D25m13fff rfl rfl (one_of HT_.out (by kernel_rfl)) (by decide) (fun K hK => ?_)
      refine goes_ Try.func17 (by kernel_rfl) rfl #[.pointer (some ⟨g192, 0, none⟩), .int .i64 1000] (by rfl) rfl rfl (by (try simp only [List.map_toArray, List.map_cons, List.map_nil]); first | done | rfl | (simp only [List.length_drop, List.length_take]; rfl)) ?_
      with_reducible refine (made_Dice_Next.calls g192 t190 t198 1000 t204 t205 w _ ?side1 ?side2 A25.out).mono ?_
      (case side1 => repeat (first | (with_reducible first | exact HI192.out | apply IsS59.alloc | apply IsS59.drewN | apply IsS59.drew | apply IsS59.set_1 | refine IsS59.far ?_ NB192_199.out _) | exact HI192.out))
      (case side2 => repeat (first | (with_reducible first | exact HB.out | apply below_alloc | apply pw_below_drewN | apply below_drew1 | refine below_set ?_ (IsS59.ge HI192.out) | refine below_set ?_ GE199.out) | exact HB.out))
      rintro e w30 ⟨rfl, hi, hb, hk⟩
      refine ⟨_, rfl, ?_⟩
      have n0_ := Aside0.mk (KeepBut.blk hk (g' := gb199) (o := .cells #[.int .i64 t193, .int .i64 t194, .int .i64 t195, .int .i64 t196, .int .i64 t197] 45 (0, 0)) (by (with_reducible repeat (first | refine blk_drewN ?_ _ | refine blk_drew ?_ | refine blk_alloc ?_ _)); exact BK199.out) NB199_192.out (by simp))
      have n1_ := Aside0.mk (hb)
      have n2_ := Aside0.mk (hi)
      clear BK199; clear HB; clear HI192; have BK199 := n0_; have HB := n1_; have HI192 := n2_
      clear n0_ n1_ n2_
      (try clear hb); (try clear hb2); (try clear hk); (try clear hi)
      refine hK.out _ _ ⟨(blk_cell BK199.out 0).trans rfl, (blk_cell BK199.out 1).trans rfl, (blk_cell BK199.out 2).trans rfl, (blk_cell BK199.out 3).trans rfl, (blk_cell BK199.out 4).trans rfl⟩ (fun hHeld => ?_)
      clear hK K
      refine norm_ (a' := ?_) ?_ ?_
      rotate_left
      ·show Act.put _ (some 50) _ = _
       simp only [Act.put, sZ1, sZ2, sZ3, i64_w, i32_w]
       rfl
      refine pure_ (i := 14) (N := some 51) (v := ?_) (a' := ?_) D25m17fff rfl rfl (any_of HT_.out (by kernel_rfl)) (fun _ _ _ h => h) (Or.inl ⟨by rfl, ?_⟩) ?_ ?_
      rotate_left; ·intro w'; go_simp; with_reducible rfl
      rotate_left; ·simp only [Act.put, sZ1, sZ2, sZ3, i64_w, i32_w]; rfl
      refine one_ (i := 15) (N := some 52) D25m1ffff rfl rfl (one_of HT_.out (by kernel_rfl)) (by decide) (fun K hK => ?_)
      refine goes_ Try.func28 (by kernel_rfl) rfl #[.agg #[.int .i64 t193, .int .i64 t194, .int .i64 t195, .int .i64 t196, .int .i64 t197], .int .i64 (wrap64 (t200 + t204))] (by rfl) rfl rfl (by (try simp only [List.map_toArray, List.map_cons, List.map_nil]); first | done | rfl | (simp only [List.length_drop, List.length_take]; rfl)) ?_
      with_reducible refine (hoist_Limit.calls t193 t194 t195 t196 t197 (wrap64 (t200 + t204)) t206 _ A26.out).mono ?_
      rintro e w31 ⟨rfl, hb⟩
      refine ⟨_, rfl, ?_⟩
      have n0_ := Aside0.mk (IsS59.below (by repeat (first | (with_reducible first | exact HI192.out | apply IsS59.alloc | apply IsS59.drewN | apply IsS59.drew | apply IsS59.set_1 | refine IsS59.far ?_ NB192_199.out _) | exact HI192.out)) hb)
      have n1_ := Aside0.mk (blk_below (g := gb199) (o := .cells #[.int .i64 t193, .int .i64 t194, .int .i64 t195, .int .i64 t196, .int .i64 t197] 45 (0, 0)) (by (with_reducible repeat (first | refine blk_drewN ?_ _ | refine blk_drew ?_ | refine blk_alloc ?_ _)); exact BK199.out) hb)
      have n2_ := Aside0.mk (below_step (by repeat (first | (with_reducible first | exact HB.out | apply below_alloc | apply pw_below_drewN | apply below_drew1 | refine below_set ?_ (IsS59.ge HI192.out) | refine below_set ?_ GE199.out) | exact HB.out)) hb)
      clear HI192; clear BK199; clear HB; have HI192 := n0_; have BK199 := n1_; have HB := n2_
      clear n0_ n1_ n2_
      (try clear hb); (try clear hb2); (try clear hk); (try clear hi)
      refine hK.out _ _ ⟨(blk_cell BK199.out 0).trans rfl, (blk_cell BK199.out 1).trans rfl, (blk_cell BK199.out 2).trans rfl, (blk_cell BK199.out 3).trans rfl, (blk_cell BK199.out 4).trans rfl⟩ (fun hHeld => ?_)
      clear hK K
      refine norm_ (a' := ?_) ?_ ?_
      rotate_left
      ·show Act.put _ (some 52) _ = _
       simp only [Act.put, sZ1, sZ2, sZ3, i64_w, i32_w]
       rfl
      refine pure_ (i := 17) (N := some 54) (v := ?_) (a' := ?_) D25m3ffff rfl rfl (any_of HT_.out (by kernel_rfl)) (fun _ _ _ h => h) (Or.inl ⟨by rfl, ?_⟩) ?_ ?_
      rotate_left; ·intro w'; go_simp; with_reducible rfl
      rotate_left; ·simp only [Act.put, sZ1, sZ2, sZ3, i64_w, i32_w]; rfl
      refine pure_ (i := 18) (N := some 55) (v := ?_) (a' := ?_) D25m7ffff rfl rfl (any_of HT_.out (by kernel_rfl)) (fun _ _ _ h => h) (Or.inl ⟨by rfl, ?_⟩) ?_ ?_
      rotate_left; ·intro w'; go_simp; with_reducible rfl
      rotate_left; ·simp only [Act.put, sZ1, sZ2, sZ3, i64_w, i32_w]; rfl
      refine pure_ (i := 19) (N := some 56) (v := ?_) (a' := ?_) D25mfffff rfl rfl (any_of HT_.out (by kernel_rfl)) (fun _ _ _ h => h) (Or.inl ⟨by rfl, ?_⟩) ?_ ?_
      rotate_left; ·intro w'; go_simp; with_reducible rfl
      rotate_left; ·simp only [Act.put, sZ1, sZ2, sZ3, i64_w, i32_w]; rfl
      refine pure_ (i := 20) (N := some 57) (v := undef) (a' := ?_) D25m1fffff rfl rfl (any_of HT_.out (by kernel_rfl)) (fun _ _ _ h => h) (Or.inr ⟨by rfl, rfl⟩) ?_ ?_
      rotate_left; ·simp only [Act.put, sZ1, sZ2, sZ3, i64_w, i32_w]; rfl
      refine pure_ (i := 21) (N := some 58) (v := undef) (a' := ?_) D25m3fffff rfl rfl (any_of HT_.out (by kernel_rfl)) (fun _ _ _ h => h) (Or.inr ⟨by rfl, rfl⟩) ?_ ?_
      rotate_left; ·simp only [Act.put, sZ1, sZ2, sZ3, i64_w, i32_w]; rfl
      refine pure_ (i := 22) (N := some 59) (v := undef) (a' := ?_) D25m7fffff rfl rfl (any_of HT_.out (by kernel_rfl)) (fun _ _ _ h => h) (Or.inr ⟨by rfl, rfl⟩) ?_ ?_
      rotate_left; ·simp only [Act.put, sZ1, sZ2, sZ3, i64_w, i32_w]; rfl
      refine pure_ (i := 23) (N := some 60) (v := undef) (a' := ?_) D25mffffff rfl rfl (any_of HT_.out (by kernel_rfl)) (fun _ _ _ h => h) (Or.inr ⟨by rfl, rfl⟩) ?_ ?_
      rotate_left; ·simp only [Act.put, sZ1, sZ2, sZ3, i64_w, i32_w]; rfl
      refine pure_ (i := 24) (N := some 61) (v := ?_) (a' := ?_) D25m1ffffff rfl rfl (any_of HT_.out (by kernel_rfl)) (fun _ _ _ h => h) (Or.inl ⟨by rfl, ?_⟩) ?_ ?_
      rotate_left; ·intro w'; go_simp; with_reducible rfl
      rotate_left; ·simp only [Act.put, sZ1, sZ2, sZ3, i64_w, i32_w]; rfl
      refine done_ (done_of HT_.out (by kernel_rfl)) ?_
      try go_wp2
      go_meet
      case rel => exact ⟨_, (true), (t205), (by first | rfl | (simp; done) | (simp [*]; done)), H', ⟨by first | omega | exact Nat.le_refl _⟩, ⟨by (with_reducible repeat (first | refine blk_drewN ?_ _ | refine blk_drew ?_ | refine blk_alloc ?_ _)); exact BK199.out⟩, ⟨by repeat (first | (with_reducible first | exact HI192.out | apply IsS59.alloc | apply IsS59.drewN | apply IsS59.drew | apply IsS59.set_1 | refine IsS59.far ?_ NB192_199.out _) | exact HI192.out)⟩, ⟨by repeat (first | (with_reducible first | exact HB.out | apply below_alloc | apply pw_below_drewN | apply below_drew1 | refine below_set ?_ (IsS59.ge HI192.out) | refine below_set ?_ GE199.out) | exact HB.out)⟩⟩
     ·rw [if_neg c27] at H
      have c27b0 : decide (t206 < t201) = false := decide_eq_false c27
      clear c27
      have H' := Aside0.mk H
      clear H
      try go_wp2
      (try (rw [drewN_self w18]; generalize hq_ : World.drewN w18 _ = w18; have n0_ : Aside0 (w18.heap[gb199]? = some (.cells #[.int .i64 t193, .int .i64 t194, .int .i64 t195, .int .i64 t196, .int .i64 t197] 45 (0, 0))) := ⟨by rw [← hq_]; exact (by (with_reducible repeat (first | refine blk_drewN ?_ _ | refine blk_drew ?_ | refine blk_alloc ?_ _)); exact BK199.out)⟩; have n1_ : Aside0 (IsS59 w w18 g192 t190 t198) := ⟨by rw [← hq_]; exact (by repeat (first | (with_reducible first | exact HI192.out | apply IsS59.alloc | apply IsS59.drewN | apply IsS59.drew | apply IsS59.set_1 | refine IsS59.far ?_ NB192_199.out _) | exact HI192.out))⟩; have n2_ : Aside0 (Below w.heap.size w w18) := ⟨by rw [← hq_]; exact (by repeat (first | (with_reducible first | exact HB.out | apply below_alloc | apply pw_below_drewN | apply below_drew1 | refine below_set ?_ (IsS59.ge HI192.out) | refine below_set ?_ GE199.out) | exact HB.out))⟩; clear BK199 HI192 HB hq_; have BK199 := n0_; have HI192 := n1_; have HB := n2_; clear n0_ n1_ n2_))
      have n0_ := Aside0.mk (blk_drew BK199.out)
      have n1_ := Aside0.mk (IsS59.drew HI192.out)
      have n2_ := Aside0.mk (below_drew1 HB.out)
      clear BK199; clear HI192; clear HB; have BK199 := n0_; have HI192 := n1_; have HB := n2_
      clear n0_ n1_ n2_
      refine start_ (n := 25) (S := fun w' => w'.cell? ⟨gb199, 0, none⟩ = some (.int .i64 t193) ∧ w'.cell? ⟨gb199, 1, none⟩ = some (.int .i64 t194) ∧ w'.cell? ⟨gb199, 2, none⟩ = some (.int .i64 t195) ∧ w'.cell? ⟨gb199, 3, none⟩ = some (.int .i64 t196) ∧ w'.cell? ⟨gb199, 4, none⟩ = some (.int .i64 t197)) (ds := []) D25m0 (by kernel_rfl) rfl rfl ⟨(blk_cell BK199.out 0).trans rfl, (blk_cell BK199.out 1).trans rfl, (blk_cell BK199.out 2).trans rfl, (blk_cell BK199.out 3).trans rfl, (blk_cell BK199.out 4).trans rfl⟩ (fun hHeld => ?_); refine with_tabW law37_HoistStops.tab8 law37_HoistStops.bits8 (fun HT_ HW_ => ?_)
      generalize w18.drew = w32 at BK199 HI192 HB hHeld ⊢
      refine pure_ (i := 0) (N := some 37) (v := ?_) (a' := ?_) D25m1 rfl rfl (any_of HT_.out (by kernel_rfl)) (fun _ _ _ h => h) (Or.inl ⟨by rfl, ?_⟩) ?_ ?_
      rotate_left; ·intro w'; go_simp; with_reducible rfl
      rotate_left; ·simp only [Act.put, sZ1, sZ2, sZ3, i64_w, i32_w]; rfl
      refine pure_ (i := 1) (N := some 38) (v := ?_) (a' := ?_) D25m3 rfl rfl (any_of HT_.out (by kernel_rfl)) (fun _ _ _ h => h) (Or.inl ⟨by rfl, ?_⟩) ?_ ?_
      rotate_left; ·intro w'; go_simp; with_reducible rfl
      rotate_left; ·simp only [Act.put, sZ1, sZ2, sZ3, i64_w, i32_w]; rfl
      refine pure_ (i := 2) (N := some 39) (v := ?_) (a' := ?_) D25m7 rfl rfl (any_of HT_.out (by kernel_rfl)) (fun _ _ _ h => h) (Or.inl ⟨by rfl, ?_⟩) ?_ ?_
      rotate_left; ·intro w'; go_simp; with_reducible rfl
      rotate_left; ·simp only [Act.put, sZ1, sZ2, sZ3, i64_w, i32_w]; rfl
      refine pure_ (i := 4) (N := some 41) (v := ?_) (a' := ?_) D25m17 rfl rfl (any_of HT_.out (by kernel_rfl)) (fun _ _ _ h => h) (Or.inl ⟨by rfl, ?_⟩) ?_ ?_
      rotate_left; ·intro w'; go_simp; with_reducible rfl
      rotate_left; ·simp only [Act.put, sZ1, sZ2, sZ3, i64_w, i32_w]; rfl
      refine pure_ (i := 6) (N := some 43) (v := ?_) (a' := ?_) D25m57 rfl rfl (any_of HT_.out (by kernel_rfl)) (fun _ _ _ h => h) (Or.inl ⟨by rfl, ?_⟩) ?_ ?_
      rotate_left; ·intro w'; go_simp; with_reducible rfl
      rotate_left; ·simp only [Act.put, sZ1, sZ2, sZ3, i64_w, i32_w]; rfl
      refine take_ (i := 3) (N := some 40) (v := ?_) (a' := ?_) D25m5f rfl rfl (take_ofW HT_.out HW_.out (by kernel_rfl)) (fun _ _ _ h => h) (Or.inl ⟨by rfl, ?_⟩) hHeld ?_ ?_
      rotate_left; ·rintro w' ⟨s0, s1, s2, s3, s4⟩; go_simp; with_reducible rfl
      rotate_left; ·simp only [Act.put, sZ1, sZ2, sZ3, i64_w, i32_w]; rfl
      refine one_ (i := 5) (N := some 42) D25m7f rfl rfl (one_of HT_.out (by kernel_rfl)) (by decide) (fun K hK => ?_)
      refine goes_ Try.func29 (by kernel_rfl) rfl #[.agg #[.int .i64 t193, .int .i64 t194, .int .i64 t195, .int .i64 t196, .int .i64 t197], .int .i64 t202] (by rfl) rfl rfl (by (try simp only [List.map_toArray, List.map_cons, List.map_nil]); first | done | rfl | (simp only [List.length_drop, List.length_take]; rfl)) ?_
      with_reducible refine (hoist_Stop.calls t193 t194 t195 t196 t197 t202 t203 _ A21.out).mono ?_
      rintro e w33 ⟨rfl, hb⟩
      refine ⟨_, rfl, ?_⟩
      have n0_ := Aside0.mk (IsS59.below (by repeat (first | (with_reducible first | exact HI192.out | apply IsS59.alloc | apply IsS59.drewN | apply IsS59.drew | apply IsS59.set_1 | refine IsS59.far ?_ NB192_199.out _) | exact HI192.out)) hb)
      have n1_ := Aside0.mk (blk_below (g := gb199) (o := .cells #[.int .i64 t193, .int .i64 t194, .int .i64 t195, .int .i64 t196, .int .i64 t197] 45 (0, 0)) (by (with_reducible repeat (first | refine blk_drewN ?_ _ | refine blk_drew ?_ | refine blk_alloc ?_ _)); exact BK199.out) hb)
      have n2_ := Aside0.mk (below_step (by repeat (first | (with_reducible first | exact HB.out | apply below_alloc | apply pw_below_drewN | apply below_drew1 | refine below_set ?_ (IsS59.ge HI192.out) | refine below_set ?_ GE199.out) | exact HB.out)) hb)
      clear HI192; clear BK199; clear HB; have HI192 := n0_; have BK199 := n1_; have HB := n2_
      clear n0_ n1_ n2_
      (try clear hb); (try clear hb2); (try clear hk); (try clear hi)
      refine hK.out _ _ ⟨(blk_cell BK199.out 0).trans rfl, (blk_cell BK199.out 1).trans rfl, (blk_cell BK199.out 2).trans rfl, (blk_cell BK199.out 3).trans rfl, (blk_cell BK199.out 4).trans rfl⟩ (fun hHeld => ?_)
      clear hK K
      refine norm_ (a' := ?_) ?_ ?_
      rotate_left
      ·show Act.put _ (some 42) _ = _
       simp only [Act.put, sZ1, sZ2, sZ3, i64_w, i32_w]
       rfl
      refine pure_ (i := 7) (N := some 44) (v := ?_) (a' := ?_) D25mff rfl rfl (any_of HT_.out (by kernel_rfl)) (fun _ _ _ h => h) (Or.inl ⟨by rfl, ?_⟩) ?_ ?_
      rotate_left; ·intro w'; go_simp; with_reducible rfl
      rotate_left; ·simp only [Act.put, sZ1, sZ2, sZ3, i64_w, i32_w]; rfl
      refine pure_ (i := 8) (N := some 45) (v := ?_) (a' := ?_) D25m1ff rfl rfl (any_of HT_.out (by kernel_rfl)) (fun _ _ _ h => h) (Or.inl ⟨by rfl, ?_⟩) ?_ ?_
      rotate_left; ·intro w'; go_simp; with_reducible rfl
      rotate_left; ·simp only [Act.put, sZ1, sZ2, sZ3, i64_w, i32_w]; rfl
      refine pure_ (i := 9) (N := some 46) (v := ?_) (a' := ?_) D25m3ff rfl rfl (any_of HT_.out (by kernel_rfl)) (fun _ _ _ h => h) (Or.inl ⟨by rfl, ?_⟩) ?_ ?_
      rotate_left; ·intro w'; go_simp; with_reducible rfl
      rotate_left; ·simp only [Act.put, sZ1, sZ2, sZ3, i64_w, i32_w]; rfl
      refine pure_ (i := 11) (N := some 48) (v := ?_) (a' := ?_) D25mbff rfl rfl (any_of HT_.out (by kernel_rfl)) (fun _ _ _ h => h) (Or.inl ⟨by rfl, ?_⟩) ?_ ?_
      rotate_left; ·intro w'; go_simp; with_reducible rfl
      rotate_left; ·simp only [Act.put, sZ1, sZ2, sZ3, i64_w, i32_w]; rfl
      refine pure_ (i := 12) (N := some 49) (v := ?_) (a' := ?_) D25m1bff rfl rfl (any_of HT_.out (by kernel_rfl)) (fun _ _ _ h => h) (Or.inl ⟨by rfl, ?_⟩) ?_ ?_
      rotate_left; ·intro w'; go_simp; with_reducible rfl
      rotate_left; ·simp only [Act.put, sZ1, sZ2, sZ3, i64_w, i32_w]; rfl
      refine pure_ (i := 16) (N := some 53) (v := ?_) (a' := ?_) D25m11bff rfl rfl (any_of HT_.out (by kernel_rfl)) (fun _ _ _ h => h) (Or.inl ⟨by rfl, ?_⟩) ?_ ?_
      rotate_left; ·intro w'; go_simp; with_reducible rfl
      rotate_left; ·simp only [Act.put, sZ1, sZ2, sZ3, i64_w, i32_w]; rfl
      refine take_ (i := 10) (N := some 47) (v := ?_) (a' := ?_) D25m11fff rfl rfl (take_ofW HT_.out HW_.out (by kernel_rfl)) (fun _ _ _ h => h) (Or.inl ⟨by rfl, ?_⟩) hHeld ?_ ?_
      rotate_left; ·rintro w' ⟨s0, s1, s2, s3, s4⟩; go_simp; with_reducible rfl
      rotate_left; ·simp only [Act.put, sZ1, sZ2, sZ3, i64_w, i32_w]; rfl
      refine one_ (i := 13) (N := some 50) D25m13fff rfl rfl (one_of HT_.out (by kernel_rfl)) (by decide) (fun K hK => ?_)
      refine goes_ Try.func17 (by kernel_rfl) rfl #[.pointer (some ⟨g192, 0, none⟩), .int .i64 1000] (by rfl) rfl rfl (by (try simp only [List.map_toArray, List.map_cons, List.map_nil]); first | done | rfl | (simp only [List.length_drop, List.length_take]; rfl)) ?_
      with_reducible refine (made_Dice_Next.calls g192 t190 t198 1000 t204 t205 w _ ?side1 ?side2 A25.out).mono ?_
      (case side1 => repeat (first | (with_reducible first | exact HI192.out | apply IsS59.alloc | apply IsS59.drewN | apply IsS59.drew | apply IsS59.set_1 | refine IsS59.far ?_ NB192_199.out _) | exact HI192.out))
      (case side2 => repeat (first | (with_reducible first | exact HB.out | apply below_alloc | apply pw_below_drewN | apply below_drew1 | refine below_set ?_ (IsS59.ge HI192.out) | refine below_set ?_ GE199.out) | exact HB.out))
      rintro e w34 ⟨rfl, hi, hb, hk⟩
      refine ⟨_, rfl, ?_⟩
      have n0_ := Aside0.mk (KeepBut.blk hk (g' := gb199) (o := .cells #[.int .i64 t193, .int .i64 t194, .int .i64 t195, .int .i64 t196, .int .i64 t197] 45 (0, 0)) (by (with_reducible repeat (first | refine blk_drewN ?_ _ | refine blk_drew ?_ | refine blk_alloc ?_ _)); exact BK199.out) NB199_192.out (by simp))
      have n1_ := Aside0.mk (hb)
      have n2_ := Aside0.mk (hi)
      clear BK199; clear HB; clear HI192; have BK199 := n0_; have HB := n1_; have HI192 := n2_
      clear n0_ n1_ n2_
      (try clear hb); (try clear hb2); (try clear hk); (try clear hi)
      refine hK.out _ _ ⟨(blk_cell BK199.out 0).trans rfl, (blk_cell BK199.out 1).trans rfl, (blk_cell BK199.out 2).trans rfl, (blk_cell BK199.out 3).trans rfl, (blk_cell BK199.out 4).trans rfl⟩ (fun hHeld => ?_)
      clear hK K
      refine norm_ (a' := ?_) ?_ ?_
      rotate_left
      ·show Act.put _ (some 50) _ = _
       simp only [Act.put, sZ1, sZ2, sZ3, i64_w, i32_w]
       rfl
      refine pure_ (i := 14) (N := some 51) (v := ?_) (a' := ?_) D25m17fff rfl rfl (any_of HT_.out (by kernel_rfl)) (fun _ _ _ h => h) (Or.inl ⟨by rfl, ?_⟩) ?_ ?_
      rotate_left; ·intro w'; go_simp; with_reducible rfl
      rotate_left; ·simp only [Act.put, sZ1, sZ2, sZ3, i64_w, i32_w]; rfl
      refine one_ (i := 15) (N := some 52) D25m1ffff rfl rfl (one_of HT_.out (by kernel_rfl)) (by decide) (fun K hK => ?_)
      refine goes_ Try.func28 (by kernel_rfl) rfl #[.agg #[.int .i64 t193, .int .i64 t194, .int .i64 t195, .int .i64 t196, .int .i64 t197], .int .i64 (wrap64 (t200 + t204))] (by rfl) rfl rfl (by (try simp only [List.map_toArray, List.map_cons, List.map_nil]); first | done | rfl | (simp only [List.length_drop, List.length_take]; rfl)) ?_
      with_reducible refine (hoist_Limit.calls t193 t194 t195 t196 t197 (wrap64 (t200 + t204)) t206 _ A26.out).mono ?_
      rintro e w35 ⟨rfl, hb⟩
      refine ⟨_, rfl, ?_⟩
      have n0_ := Aside0.mk (IsS59.below (by repeat (first | (with_reducible first | exact HI192.out | apply IsS59.alloc | apply IsS59.drewN | apply IsS59.drew | apply IsS59.set_1 | refine IsS59.far ?_ NB192_199.out _) | exact HI192.out)) hb)
      have n1_ := Aside0.mk (blk_below (g := gb199) (o := .cells #[.int .i64 t193, .int .i64 t194, .int .i64 t195, .int .i64 t196, .int .i64 t197] 45 (0, 0)) (by (with_reducible repeat (first | refine blk_drewN ?_ _ | refine blk_drew ?_ | refine blk_alloc ?_ _)); exact BK199.out) hb)
      have n2_ := Aside0.mk (below_step (by repeat (first | (with_reducible first | exact HB.out | apply below_alloc | apply pw_below_drewN | apply below_drew1 | refine below_set ?_ (IsS59.ge HI192.out) | refine below_set ?_ GE199.out) | exact HB.out)) hb)
      clear HI192; clear BK199; clear HB; have HI192 := n0_; have BK199 := n1_; have HB := n2_
      clear n0_ n1_ n2_
      (try clear hb); (try clear hb2); (try clear hk); (try clear hi)
      refine hK.out _ _ ⟨(blk_cell BK199.out 0).trans rfl, (blk_cell BK199.out 1).trans rfl, (blk_cell BK199.out 2).trans rfl, (blk_cell BK199.out 3).trans rfl, (blk_cell BK199.out 4).trans rfl⟩ (fun hHeld => ?_)
      clear hK K
      refine norm_ (a' := ?_) ?_ ?_
      rotate_left
      ·show Act.put _ (some 52) _ = _
       simp only [Act.put, sZ1, sZ2, sZ3, i64_w, i32_w]
       rfl
      refine pure_ (i := 17) (N := some 54) (v := ?_) (a' := ?_) D25m3ffff rfl rfl (any_of HT_.out (by kernel_rfl)) (fun _ _ _ h => h) (Or.inl ⟨by rfl, ?_⟩) ?_ ?_
      rotate_left; ·intro w'; go_simp; with_reducible rfl
      rotate_left; ·simp only [Act.put, sZ1, sZ2, sZ3, i64_w, i32_w]; rfl
      refine pure_ (i := 18) (N := some 55) (v := ?_) (a' := ?_) D25m7ffff rfl rfl (any_of HT_.out (by kernel_rfl)) (fun _ _ _ h => h) (Or.inl ⟨by rfl, ?_⟩) ?_ ?_
      rotate_left; ·intro w'; go_simp; with_reducible rfl
      rotate_left; ·simp only [Act.put, sZ1, sZ2, sZ3, i64_w, i32_w]; rfl
      refine pure_ (i := 19) (N := some 56) (v := ?_) (a' := ?_) D25mfffff rfl rfl (any_of HT_.out (by kernel_rfl)) (fun _ _ _ h => h) (Or.inl ⟨by rfl, ?_⟩) ?_ ?_
      rotate_left; ·intro w'; go_simp; with_reducible rfl
      rotate_left; ·simp only [Act.put, sZ1, sZ2, sZ3, i64_w, i32_w]; rfl
      refine pure_ (i := 20) (N := some 57) (v := ?_) (a' := ?_) D25m1fffff rfl rfl (any_of HT_.out (by kernel_rfl)) (fun _ _ _ h => h) (Or.inl ⟨by rfl, ?_⟩) ?_ ?_
      rotate_left; ·intro w'; go_simp; with_reducible rfl
      rotate_left; ·simp only [Act.put, sZ1, sZ2, sZ3, i64_w, i32_w]; rfl
      refine pure_ (i := 21) (N := some 58) (v := ?_) (a' := ?_) D25m3fffff rfl rfl (any_of HT_.out (by kernel_rfl)) (fun _ _ _ h => h) (Or.inl ⟨by rfl, ?_⟩) ?_ ?_
      rotate_left; ·intro w'; go_simp; with_reducible rfl
      rotate_left; ·simp only [Act.put, sZ1, sZ2, sZ3, i64_w, i32_w]; rfl
      refine take_ (i := 22) (N := some 59) (v := ?_) (a' := ?_) D25m7fffff rfl rfl (take_ofW HT_.out HW_.out (by kernel_rfl)) (fun _ _ _ h => h) (Or.inl ⟨by rfl, ?_⟩) hHeld ?_ ?_
      rotate_left; ·rintro w' ⟨s0, s1, s2, s3, s4⟩; go_simp; with_reducible rfl
      rotate_left; ·simp only [Act.put, sZ1, sZ2, sZ3, i64_w, i32_w]; rfl
      refine pure_ (i := 23) (N := some 60) (v := ?_) (a' := ?_) D25mffffff rfl rfl (any_of HT_.out (by kernel_rfl)) (fun _ _ _ h => h) (Or.inl ⟨by rfl, ?_⟩) ?_ ?_
      rotate_left; ·intro w'; go_simp; with_reducible rfl
      rotate_left; ·simp only [Act.put, sZ1, sZ2, sZ3, i64_w, i32_w]; rfl
      refine pure_ (i := 24) (N := some 61) (v := ?_) (a' := ?_) D25m1ffffff rfl rfl (any_of HT_.out (by kernel_rfl)) (fun _ _ _ h => h) (Or.inl ⟨by rfl, ?_⟩) ?_ ?_
      rotate_left; ·intro w'; go_simp; with_reducible rfl
      rotate_left; ·simp only [Act.put, sZ1, sZ2, sZ3, i64_w, i32_w]; rfl
      refine done_ (done_of HT_.out (by kernel_rfl)) ?_
      try go_wp2
      go_meet
      case rel => exact ⟨_, (decide (t201 > t194)), (t205), (by first | rfl | (simp; done) | (simp [*]; done)), H', ⟨by first | omega | exact Nat.le_refl _⟩, ⟨by (with_reducible repeat (first | refine blk_drewN ?_ _ | refine blk_drew ?_ | refine blk_alloc ?_ _)); exact BK199.out⟩, ⟨by repeat (first | (with_reducible first | exact HI192.out | apply IsS59.alloc | apply IsS59.drewN | apply IsS59.drew | apply IsS59.set_1 | refine IsS59.far ?_ NB192_199.out _) | exact HI192.out)⟩, ⟨by repeat (first | (with_reducible first | exact HB.out | apply below_alloc | apply pw_below_drewN | apply below_drew1 | refine below_set ?_ (IsS59.ge HI192.out) | refine below_set ?_ GE199.out) | exact HB.out)⟩⟩
  case rest =>
   clear HC12; (try clear c1); (try clear c2); (try clear p2); (try clear p6); (try clear c17); (try clear c22); (try clear c22b0); (try clear c27); (try clear c27b0); (try clear c28); (try clear c29)
   obtain ⟨kq, x61_11, x193001_11, rfl, HA, HJ11, BK199, HI192, HB⟩ := hcut
   cases kq with
   | zero => exact absurd HA.out (by simp [law37_HoistStops.j0])
   | succ kj11 =>
    have H := HA.out
    clear HA
    simp only [law37_HoistStops.j0] at H
    by_cases c36 : x61_11 = true
    ·subst c36
     have H1 : (none) = some r := by rw [if_pos rfl] at H; exact H
     clear H
     have H := H1
     clear H1
     exact absurd H (by simp)
    ·replace c36 := Bool.eq_false_iff.mpr c36
     subst c36
     have H1 : ((made_Mod.f a1 (wrap64 (t193 + 1))).bind fun t207 => ((made_Mod.f a2 40000).bind fun t208 => (law37_HoistStops.l0 kj11 0 t190 x193001_11 t193 t194 t195 t196 t197 t207 (wrap64 (t208 - 20000)) true))) = some r := by rw [if_neg (show ¬ (false = true) by decide)] at H; exact H
     clear H
     have H := H1
     clear H1
     replace H := Option.bind_eq_some_iff.mp H
     obtain ⟨t207, A370, H⟩ := H
     replace H : ((made_Mod.f a2 40000).bind fun t208 => (law37_HoistStops.l0 kj11 0 t190 x193001_11 t193 t194 t195 t196 t197 t207 (wrap64 (t208 - 20000)) true)) = some r := H
     have A37 := Aside0.mk A370
     clear A370
     replace H := Option.bind_eq_some_iff.mp H
     obtain ⟨t208, A380, H⟩ := H
     replace H : (law37_HoistStops.l0 kj11 0 t190 x193001_11 t193 t194 t195 t196 t197 t207 (wrap64 (t208 - 20000)) true) = some r := H
     have A38 := Aside0.mk A380
     clear A380
     have H' := Aside0.mk H
     clear H
     have hnb39 := NB199_192.out
     have hnc39 := NB192_199.out
     have hcz40_0 : wc.cell? ⟨gb199, 0, none⟩ = some (.int .i64 t193) := (blk_cell BK199.out 0).trans rfl
     have hcz40_1 : wc.cell? ⟨gb199, 1, none⟩ = some (.int .i64 t194) := (blk_cell BK199.out 1).trans rfl
     have hcz40_2 : wc.cell? ⟨gb199, 2, none⟩ = some (.int .i64 t195) := (blk_cell BK199.out 2).trans rfl
     have hcz40_3 : wc.cell? ⟨gb199, 3, none⟩ = some (.int .i64 t196) := (blk_cell BK199.out 3).trans rfl
     have hcz40_4 : wc.cell? ⟨gb199, 4, none⟩ = some (.int .i64 t197) := (blk_cell BK199.out 4).trans rfl
     have hfz40_0 := blk_frozen BK199.out 0
     have hfz40_1 := blk_frozen BK199.out 1
     have hfz40_2 := blk_frozen BK199.out 2
     have hfz40_3 := blk_frozen BK199.out 3
     have hfz40_4 := blk_frozen BK199.out 4
     go_wp2_with (first | ((with_reducible refine gate_callee (f := 27) rfl ?_); refine goesL_ (some 66) rfl rfl Try.func27 (by kernel_rfl) rfl #[.int .i64 a1, .int .i64 (wrap64 (t193 + 1))] rfl (by (try simp only [List.map_toArray, List.map_cons, List.map_nil]); first | done | rfl | (simp only [List.length_drop, List.length_take]; rfl)) ?_; (with_reducible refine (made_Mod.calls a1 (wrap64 (t193 + 1)) t207 _ A37.out).mono ?_); rintro e w' ⟨rfl, ⟨nd, rfl⟩⟩; refine ⟨_, rfl, ?_⟩; (try (rw [drewN_self wc]; generalize hq_ : World.drewN wc _ = wc; have n0_ : Aside0 (wc.heap[gb199]? = some (.cells #[.int .i64 t193, .int .i64 t194, .int .i64 t195, .int .i64 t196, .int .i64 t197] 45 (0, 0))) := ⟨by rw [← hq_]; exact (by (with_reducible repeat (first | refine blk_drewN ?_ _ | refine blk_drew ?_ | refine blk_alloc ?_ _)); exact BK199.out)⟩; have n1_ : Aside0 (IsS59 w wc g192 t190 x193001_11) := ⟨by rw [← hq_]; exact (by repeat (first | (with_reducible first | exact HI192.out | apply IsS59.alloc | apply IsS59.drewN | apply IsS59.drew | apply IsS59.set_1 | refine IsS59.far ?_ NB192_199.out _) | exact HI192.out))⟩; have n2_ : Aside0 (Below w.heap.size w wc) := ⟨by rw [← hq_]; exact (by repeat (first | (with_reducible first | exact HB.out | apply below_alloc | apply pw_below_drewN | apply below_drew1 | refine below_set ?_ (IsS59.ge HI192.out) | refine below_set ?_ GE199.out) | exact HB.out))⟩; clear BK199 HI192 HB hq_; have BK199 := n0_; have HI192 := n1_; have HB := n2_; clear n0_ n1_ n2_))) | ((with_reducible refine gate_callee (f := 27) rfl ?_); refine goesL_ (some 68) rfl rfl Try.func27 (by kernel_rfl) rfl #[.int .i64 a2, .int .i64 40000] rfl (by (try simp only [List.map_toArray, List.map_cons, List.map_nil]); first | done | rfl | (simp only [List.length_drop, List.length_take]; rfl)) ?_; (with_reducible refine (made_Mod.calls a2 40000 t208 _ A38.out).mono ?_); rintro e w' ⟨rfl, ⟨nd, rfl⟩⟩; refine ⟨_, rfl, ?_⟩; (try (rw [drewN_self wc]; generalize hq_ : World.drewN wc _ = wc; have n0_ : Aside0 (wc.heap[gb199]? = some (.cells #[.int .i64 t193, .int .i64 t194, .int .i64 t195, .int .i64 t196, .int .i64 t197] 45 (0, 0))) := ⟨by rw [← hq_]; exact (by (with_reducible repeat (first | refine blk_drewN ?_ _ | refine blk_drew ?_ | refine blk_alloc ?_ _)); exact BK199.out)⟩; have n1_ : Aside0 (IsS59 w wc g192 t190 x193001_11) := ⟨by rw [← hq_]; exact (by repeat (first | (with_reducible first | exact HI192.out | apply IsS59.alloc | apply IsS59.drewN | apply IsS59.drew | apply IsS59.set_1 | refine IsS59.far ?_ NB192_199.out _) | exact HI192.out))⟩; have n2_ : Aside0 (Below w.heap.size w wc) := ⟨by rw [← hq_]; exact (by repeat (first | (with_reducible first | exact HB.out | apply below_alloc | apply pw_below_drewN | apply below_drew1 | refine below_set ?_ (IsS59.ge HI192.out) | refine below_set ?_ GE199.out) | exact HB.out))⟩; clear BK199 HI192 HB hq_; have BK199 := n0_; have HI192 := n1_; have HB := n2_; clear n0_ n1_ n2_))) | ((with_reducible refine gate_dst (N := 12) rfl ?_); (try (refine gate_guard (by rfl) ?_; dsimp only)); refine box_event ?hg (N := 12) ?hd (cs := #[.int .i64 0, .int .i64 0, .bool false]) (t := 50) ?hr ?_; (case hd => rfl); (case hg => rfl); (case hr => first | (go_simp; done) | (go_simp; rfl)); intro gb209 hg w41 hbox hb; have n0_ := Aside0.mk (blk_below (g := gb199) (o := .cells #[.int .i64 t193, .int .i64 t194, .int .i64 t195, .int .i64 t196, .int .i64 t197] 45 (0, 0)) (by (with_reducible repeat (first | refine blk_drewN ?_ _ | refine blk_drew ?_ | refine blk_alloc ?_ _)); exact BK199.out) hb); have n1_ := Aside0.mk (IsS59.below (by repeat (first | (with_reducible first | exact HI192.out | apply IsS59.alloc | apply IsS59.drewN | apply IsS59.drew | apply IsS59.set_1 | refine IsS59.far ?_ NB192_199.out _) | exact HI192.out)) hb); have n2_ := Aside0.mk (below_step (by repeat (first | (with_reducible first | exact HB.out | apply below_alloc | apply pw_below_drewN | apply below_drew1 | refine below_set ?_ (IsS59.ge HI192.out) | refine below_set ?_ GE199.out) | exact HB.out)) hb); have n3_ := Aside0.mk (hbox); have n4_ := Aside0.mk ((by rw [hg]; exact (below_size (by repeat (first | (with_reducible first | exact HB.out | apply below_alloc | apply pw_below_drewN | apply below_drew1 | refine below_set ?_ (IsS59.ge HI192.out) | refine below_set ?_ GE199.out) | exact HB.out))) : w.heap.size ≤ gb209)); have n5_ := Aside0.mk ((by rw [hg]; exact (below_size (by repeat (first | (with_reducible first | exact HB.out | apply below_alloc | apply pw_below_drewN | apply below_drew1 | refine below_set ?_ (IsS59.ge HI192.out) | refine below_set ?_ GE199.out) | exact HB.out))) : w.heap.size ≤ gb209)); have n6_ := Aside0.mk ((by rw [hg]; exact Nat.ne_of_lt (blk_lt (g := gb199) (o := .cells #[.int .i64 t193, .int .i64 t194, .int .i64 t195, .int .i64 t196, .int .i64 t197] 45 (0, 0)) (by (with_reducible repeat (first | refine blk_drewN ?_ _ | refine blk_drew ?_ | refine blk_alloc ?_ _)); exact BK199.out)) : gb199 ≠ gb209)); have n7_ := Aside0.mk ((by rw [hg]; exact Nat.ne_of_gt (blk_lt (g := gb199) (o := .cells #[.int .i64 t193, .int .i64 t194, .int .i64 t195, .int .i64 t196, .int .i64 t197] 45 (0, 0)) (by (with_reducible repeat (first | refine blk_drewN ?_ _ | refine blk_drew ?_ | refine blk_alloc ?_ _)); exact BK199.out)) : gb209 ≠ gb199)); have n8_ := Aside0.mk ((by rw [hg]; exact Nat.ne_of_lt (IsS59.lt (show IsS59 w _ g192 t190 x193001_11 from by repeat (first | (with_reducible first | exact HI192.out | apply IsS59.alloc | apply IsS59.drewN | apply IsS59.drew | apply IsS59.set_1 | refine IsS59.far ?_ NB192_199.out _) | exact HI192.out))) : g192 ≠ gb209)); have n9_ := Aside0.mk ((by rw [hg]; exact Nat.ne_of_gt (IsS59.lt (show IsS59 w _ g192 t190 x193001_11 from by repeat (first | (with_reducible first | exact HI192.out | apply IsS59.alloc | apply IsS59.drewN | apply IsS59.drew | apply IsS59.set_1 | refine IsS59.far ?_ NB192_199.out _) | exact HI192.out))) : gb209 ≠ g192)); clear BK199; clear HI192; clear HB; have BK199 := n0_; have HI192 := n1_; have HB := n2_; have BK209 := n3_; have GW209 := n4_; have GE209 := n5_; have NB199_209 := n6_; have NB209_199 := n7_; have NB192_209 := n8_; have NB209_192 := n9_; clear n0_ n1_ n2_ n3_ n4_ n5_ n6_ n7_ n8_ n9_; clear hb hbox hg; have hnb42 := NB209_199.out; have hnc42 := NB199_209.out; have hnb43 := NB209_192.out; have hnc43 := NB192_209.out; have hcz44_0 : w41.cell? ⟨gb209, 0, none⟩ = some (.int .i64 0) := (blk_cell BK209.out 0).trans rfl; have hcz44_1 : w41.cell? ⟨gb209, 1, none⟩ = some (.int .i64 0) := (blk_cell BK209.out 1).trans rfl; have hcz44_2 : w41.cell? ⟨gb209, 2, none⟩ = some (.bool false) := (blk_cell BK209.out 2).trans rfl; have hfz44_0 := blk_frozen BK209.out 0; have hfz44_1 := blk_frozen BK209.out 1; have hfz44_2 := blk_frozen BK209.out 2))
     go_loopg [13] kj11 (fun kq v13 w' => ∃ (x13_2 : Int) (x193001_2 : Int) (x210000_2 : Int) (x210001_2 : Int) (x210002_2 : Bool), v13 = .int .i64 x13_2 ∧ Aside0 (law37_HoistStops.l0 kq x13_2 t190 x193001_2 t193 t194 t195 t196 t197 x210000_2 x210001_2 x210002_2 = some r) ∧ Aside0 (kq ≤ kj11) ∧ Aside0 (w'.heap[gb199]? = some (.cells #[.int .i64 t193, .int .i64 t194, .int .i64 t195, .int .i64 t196, .int .i64 t197] 45 (0, 0))) ∧ Aside0 (w'.heap[gb209]? = some (.cells #[.int .i64 x210000_2, .int .i64 x210001_2, .bool x210002_2] 50 (0, 0))) ∧ Aside0 (IsS59 w w' g192 t190 x193001_2) ∧ Aside0 (Below w.heap.size w w'))
     case atStart => exact ⟨(0), (x193001_11), (t207), (wrap64 (t208 - 20000)), (true), (by first | rfl | (simp; done) | (simp [*]; done)), H', ⟨Nat.le_refl _⟩, ⟨by (with_reducible repeat (first | refine blk_drewN ?_ _ | refine blk_drew ?_ | refine blk_alloc ?_ _)); refine blk_far ?_ NB199_209.out _; (with_reducible repeat (first | refine blk_drewN ?_ _ | refine blk_drew ?_ | refine blk_alloc ?_ _)); refine blk_far ?_ NB199_209.out _; (with_reducible repeat (first | refine blk_drewN ?_ _ | refine blk_drew ?_ | refine blk_alloc ?_ _)); refine blk_far ?_ NB199_209.out _; (with_reducible repeat (first | refine blk_drewN ?_ _ | refine blk_drew ?_ | refine blk_alloc ?_ _)); exact BK199.out⟩, ⟨by (with_reducible repeat (first | refine blk_drewN ?_ _ | refine blk_drew ?_ | refine blk_alloc ?_ _)); refine blk_put (cs := #[.int .i64 t207, .int .i64 (wrap64 (t208 - 20000)), .bool false]) ?_ 2 _ rfl; (with_reducible repeat (first | refine blk_drewN ?_ _ | refine blk_drew ?_ | refine blk_alloc ?_ _)); refine blk_put (cs := #[.int .i64 t207, .int .i64 0, .bool false]) ?_ 1 _ rfl; (with_reducible repeat (first | refine blk_drewN ?_ _ | refine blk_drew ?_ | refine blk_alloc ?_ _)); refine blk_put (cs := #[.int .i64 0, .int .i64 0, .bool false]) ?_ 0 _ rfl; (with_reducible repeat (first | refine blk_drewN ?_ _ | refine blk_drew ?_ | refine blk_alloc ?_ _)); exact BK209.out⟩, ⟨by repeat (first | (with_reducible first | exact HI192.out | apply IsS59.alloc | apply IsS59.drewN | apply IsS59.drew | apply IsS59.set_1 | refine IsS59.far ?_ NB192_199.out _ | refine IsS59.far ?_ NB192_209.out _) | exact HI192.out)⟩, ⟨by repeat (first | (with_reducible first | exact HB.out | apply below_alloc | apply pw_below_drewN | apply below_drew1 | refine below_set ?_ (IsS59.ge HI192.out) | refine below_set ?_ GE199.out | refine below_set ?_ GE209.out) | exact HB.out)⟩⟩
     case round =>
      clear H'; (try clear c1); (try clear c2); (try clear p2); (try clear c3); (try clear c4); (try clear p6); (try clear c17); (try clear c22); (try clear c22b0); (try clear c27); (try clear c27b0); (try clear c28); (try clear c29); (try clear c36); (try clear c39); (try clear c42); (try clear c43); (try clear hcz40_0); (try clear hcz40_1); (try clear hcz40_2); (try clear hcz40_3); (try clear hcz40_4); (try clear hcz44_0); (try clear hcz44_1); (try clear hcz44_2); (try clear hfz40_0); (try clear hfz40_1); (try clear hfz40_2); (try clear hfz40_3); (try clear hfz40_4); (try clear hfz44_0); (try clear hfz44_1)
      (try clear hfz44_2); (try clear p2); (try clear p6)
      obtain ⟨x13_2, x193001_2, x210000_2, x210001_2, x210002_2, rfl, HA, HK2, BK199, BK209, HI192, HB⟩ := hrel
      cases gk with
      | zero => exact absurd HA.out (by simp [law37_HoistStops.l0])
      | succ k2 =>
       have H := HA.out
       clear HA
       simp only [law37_HoistStops.l0] at H
       have HC45 := Aside0.mk H
       clear H
       go_upto_region 12 with (fail)
       go_cut [80] (fun v80 wc => ∃ (kq : Nat) (x80_44 : Bool), v80 = .bool x80_44 ∧ Aside0 (law37_HoistStops.j2 kq x13_2 x80_44 t190 x193001_2 t193 t194 t195 t196 t197 x210000_2 x210001_2 x210002_2 = some r) ∧ Aside0 (kq ≤ k2) ∧ Aside0 (wc.heap[gb199]? = some (.cells #[.int .i64 t193, .int .i64 t194, .int .i64 t195, .int .i64 t196, .int .i64 t197] 45 (0, 0))) ∧ Aside0 (wc.heap[gb209]? = some (.cells #[.int .i64 x210000_2, .int .i64 x210001_2, .bool x210002_2] 50 (0, 0))) ∧ Aside0 (IsS59 w wc g192 t190 x193001_2) ∧ Aside0 (Below w.heap.size w wc))
       case first =>
        have H := HC45.out
        clear HC45
        by_cases c46 : t195 = 0
        ·rw [if_pos c46] at H
         exact absurd H (by simp)
        ·rw [if_neg c46] at H
         have c46b0 : (t195 == 0) = false := beq_eq_false_iff_ne.mpr c46
         have c46b1 : (t195 != 0) = true := bne_iff_ne.mpr c46
         (first | rw [c46b0] | (simp only [i64_w, i32_w]; rw [c46b0]) | skip)
         by_cases c47 : x13_2 ≤ (wrap64 ((wrap64 (Int.tdiv (20000 : Int) t195)) + 1))
         ·rw [if_pos c47] at H
          have c47b0 : decide (x13_2 ≤ (wrap64 ((wrap64 (Int.tdiv (20000 : Int) t195)) + 1))) = true := decide_eq_true c47
          clear c47
          have H' := Aside0.mk H
          clear H
          have hnb48 := NB199_209.out
          have hnc48 := NB209_199.out
          have hnb49 := NB199_192.out
          have hnc49 := NB192_199.out
          have hcz50_0 : wr.cell? ⟨gb199, 0, none⟩ = some (.int .i64 t193) := (blk_cell BK199.out 0).trans rfl
          have hcz50_1 : wr.cell? ⟨gb199, 1, none⟩ = some (.int .i64 t194) := (blk_cell BK199.out 1).trans rfl
          have hcz50_2 : wr.cell? ⟨gb199, 2, none⟩ = some (.int .i64 t195) := (blk_cell BK199.out 2).trans rfl
          have hcz50_3 : wr.cell? ⟨gb199, 3, none⟩ = some (.int .i64 t196) := (blk_cell BK199.out 3).trans rfl
          have hcz50_4 : wr.cell? ⟨gb199, 4, none⟩ = some (.int .i64 t197) := (blk_cell BK199.out 4).trans rfl
          have hfz50_0 := blk_frozen BK199.out 0
          have hfz50_1 := blk_frozen BK199.out 1
          have hfz50_2 := blk_frozen BK199.out 2
          have hfz50_3 := blk_frozen BK199.out 3
          have hfz50_4 := blk_frozen BK199.out 4
          go_wp2
          go_meet
          case rel => exact ⟨_, (decide (x13_2 < 300)), (by first | rfl | (simp; done) | (simp [*]; done)), H', ⟨by have := HJ11.out; have := HK2.out; first | omega | exact Nat.le_refl _⟩, ⟨by (with_reducible repeat (first | refine blk_drewN ?_ _ | refine blk_drew ?_ | refine blk_alloc ?_ _)); exact BK199.out⟩, ⟨by (with_reducible repeat (first | refine blk_drewN ?_ _ | refine blk_drew ?_ | refine blk_alloc ?_ _)); exact BK209.out⟩, ⟨by repeat (first | (with_reducible first | exact HI192.out | apply IsS59.alloc | apply IsS59.drewN | apply IsS59.drew | apply IsS59.set_1 | refine IsS59.far ?_ NB192_199.out _ | refine IsS59.far ?_ NB192_209.out _) | exact HI192.out)⟩, ⟨by repeat (first | (with_reducible first | exact HB.out | apply below_alloc | apply pw_below_drewN | apply below_drew1 | refine below_set ?_ (IsS59.ge HI192.out) | refine below_set ?_ GE199.out | refine below_set ?_ GE209.out) | exact HB.out)⟩⟩
         ·rw [if_neg c47] at H
          have c47b0 : decide (x13_2 ≤ (wrap64 ((wrap64 (Int.tdiv (20000 : Int) t195)) + 1))) = false := decide_eq_false c47
          clear c47
          have H' := Aside0.mk H
          clear H
          have hnb51 := NB199_209.out
          have hnc51 := NB209_199.out
          have hnb52 := NB199_192.out
          have hnc52 := NB192_199.out
          have hcz53_0 : wr.cell? ⟨gb199, 0, none⟩ = some (.int .i64 t193) := (blk_cell BK199.out 0).trans rfl
          have hcz53_1 : wr.cell? ⟨gb199, 1, none⟩ = some (.int .i64 t194) := (blk_cell BK199.out 1).trans rfl
          have hcz53_2 : wr.cell? ⟨gb199, 2, none⟩ = some (.int .i64 t195) := (blk_cell BK199.out 2).trans rfl
          have hcz53_3 : wr.cell? ⟨gb199, 3, none⟩ = some (.int .i64 t196) := (blk_cell BK199.out 3).trans rfl
          have hcz53_4 : wr.cell? ⟨gb199, 4, none⟩ = some (.int .i64 t197) := (blk_cell BK199.out 4).trans rfl
          have hfz53_0 := blk_frozen BK199.out 0
          have hfz53_1 := blk_frozen BK199.out 1
          have hfz53_2 := blk_frozen BK199.out 2
          have hfz53_3 := blk_frozen BK199.out 3
          have hfz53_4 := blk_frozen BK199.out 4
          go_wp2
          go_meet
          case rel => exact ⟨_, (false), (by first | rfl | (simp; done) | (simp [*]; done)), H', ⟨by have := HJ11.out; have := HK2.out; first | omega | exact Nat.le_refl _⟩, ⟨by (with_reducible repeat (first | refine blk_drewN ?_ _ | refine blk_drew ?_ | refine blk_alloc ?_ _)); exact BK199.out⟩, ⟨by (with_reducible repeat (first | refine blk_drewN ?_ _ | refine blk_drew ?_ | refine blk_alloc ?_ _)); exact BK209.out⟩, ⟨by repeat (first | (with_reducible first | exact HI192.out | apply IsS59.alloc | apply IsS59.drewN | apply IsS59.drew | apply IsS59.set_1 | refine IsS59.far ?_ NB192_199.out _ | refine IsS59.far ?_ NB192_209.out _) | exact HI192.out)⟩, ⟨by repeat (first | (with_reducible first | exact HB.out | apply below_alloc | apply pw_below_drewN | apply below_drew1 | refine below_set ?_ (IsS59.ge HI192.out) | refine below_set ?_ GE199.out | refine below_set ?_ GE209.out) | exact HB.out)⟩⟩
       case rest =>
        clear HC45; (try clear c1); (try clear c2); (try clear p2); (try clear c3); (try clear c4); (try clear c5); (try clear p6); (try clear c17); (try clear c22); (try clear c22b0); (try clear c27); (try clear c27b0); (try clear c28); (try clear c29); (try clear c36); (try clear c39); (try clear c42); (try clear c43); (try clear c46); (try clear c46b0); (try clear c46b1); (try clear c47); (try clear c47b0); (try clear c48); (try clear c49); (try clear c51); (try clear c52); (try clear hcz40_0); (try clear hcz40_1); (try clear hcz40_2); (try clear hcz40_3); (try clear hcz40_4); (try clear hcz44_0)
        (try clear hcz44_1); (try clear hcz44_2); (try clear hcz50_0); (try clear hcz50_1); (try clear hcz50_2); (try clear hcz50_3); (try clear hcz50_4); (try clear hcz53_0); (try clear hcz53_1); (try clear hcz53_2); (try clear hcz53_3); (try clear hcz53_4); (try clear hfz40_0); (try clear hfz40_1); (try clear hfz40_2); (try clear hfz40_3); (try clear hfz40_4); (try clear hfz44_0); (try clear hfz44_1); (try clear hfz44_2); (try clear hfz50_0); (try clear hfz50_1); (try clear hfz50_2); (try clear hfz50_3); (try clear hfz50_4); (try clear hfz53_0); (try clear hfz53_1); (try clear hfz53_2); (try clear hfz53_3)
        (try clear hfz53_4); (try clear p2); (try clear p6)
        obtain ⟨kq, x80_44, rfl, HA, HJ44, BK199, BK209, HI192, HB⟩ := hcut
        cases kq with
        | zero => exact absurd HA.out (by simp [law37_HoistStops.j2])
        | succ kj44 =>
         have H := HA.out
         clear HA
         simp only [law37_HoistStops.j2] at H
         by_cases c54 : x80_44 = true
         ·subst c54
          have H1 : ((made_Dice_Of.f t190 x193001_2 (([0, 5000, (-5000)] : List Int))).bind fun bt213 => ((hoist_Tick.f t193 t194 t195 t196 t197 x210000_2 x210001_2 x210002_2 bt213.1).bind fun bt215 => (if bt215.2.2.2 = 0 then (if bt215.2.2.1 = true then (law37_HoistStops.j3 kj44 x13_2 (decide ((mx bt215.2.1 (wrap64 (-bt215.2.1))) > (mx x210001_2 (wrap64 (-x210001_2))))) t190 bt213.2 t193 t194 t195 t196 t197 bt215.1 bt215.2.1 bt215.2.2.1) else (law37_HoistStops.j3 kj44 x13_2 true t190 bt213.2 t193 t194 t195 t196 t197 bt215.1 bt215.2.1 bt215.2.2.1)) else (law37_HoistStops.j3 kj44 x13_2 true t190 bt213.2 t193 t194 t195 t196 t197 bt215.1 bt215.2.1 bt215.2.2.1)))) = some r := by rw [if_pos rfl] at H; exact H
          clear H
          have H := H1
          clear H1
          obtain ⟨y210, hy210⟩ : ∃ y_ : List Int, y_ = (([0, 5000, (-5000)] : List Int)) := ⟨_, rfl⟩
          replace H : ((made_Dice_Of.f t190 x193001_2 y210).bind fun bt213 => ((hoist_Tick.f t193 t194 t195 t196 t197 x210000_2 x210001_2 x210002_2 bt213.1).bind fun bt215 => (if bt215.2.2.2 = 0 then (if bt215.2.2.1 = true then (law37_HoistStops.j3 kj44 x13_2 (decide ((mx bt215.2.1 (wrap64 (-bt215.2.1))) > (mx x210001_2 (wrap64 (-x210001_2))))) t190 bt213.2 t193 t194 t195 t196 t197 bt215.1 bt215.2.1 bt215.2.2.1) else (law37_HoistStops.j3 kj44 x13_2 true t190 bt213.2 t193 t194 t195 t196 t197 bt215.1 bt215.2.1 bt215.2.2.1)) else (law37_HoistStops.j3 kj44 x13_2 true t190 bt213.2 t193 t194 t195 t196 t197 bt215.1 bt215.2.1 bt215.2.2.1)))) = some r := by first | (rw [hy210]; with_reducible exact H) | (have H2_ := (Option.bind_some _ _).symm.trans H; rw [hy210]; with_reducible exact H2_) | (have H2_ := (Option.bind_some _ _).symm.trans H; with_reducible exact H2_) | with_reducible exact H | (rw [hy210]; exact H) | exact H
          have Ny210 := Aside0.mk hy210
          clear hy210
          replace H := Option.bind_eq_some_iff.mp H
          obtain ⟨⟨t213, t214⟩, A550, H⟩ := H
          replace H : ((hoist_Tick.f t193 t194 t195 t196 t197 x210000_2 x210001_2 x210002_2 t213).bind fun bt215 => (if bt215.2.2.2 = 0 then (if bt215.2.2.1 = true then (law37_HoistStops.j3 kj44 x13_2 (decide ((mx bt215.2.1 (wrap64 (-bt215.2.1))) > (mx x210001_2 (wrap64 (-x210001_2))))) t190 t214 t193 t194 t195 t196 t197 bt215.1 bt215.2.1 bt215.2.2.1) else (law37_HoistStops.j3 kj44 x13_2 true t190 t214 t193 t194 t195 t196 t197 bt215.1 bt215.2.1 bt215.2.2.1)) else (law37_HoistStops.j3 kj44 x13_2 true t190 t214 t193 t194 t195 t196 t197 bt215.1 bt215.2.1 bt215.2.2.1))) = some r := H
          have A55 := Aside0.mk A550
          clear A550
          replace H := Option.bind_eq_some_iff.mp H
          obtain ⟨⟨t215, t216, t217, t218⟩, A560, H⟩ := H
          replace H : (if t218 = 0 then (if t217 = true then (law37_HoistStops.j3 kj44 x13_2 (decide ((mx t216 (wrap64 (-t216))) > (mx x210001_2 (wrap64 (-x210001_2))))) t190 t214 t193 t194 t195 t196 t197 t215 t216 t217) else (law37_HoistStops.j3 kj44 x13_2 true t190 t214 t193 t194 t195 t196 t197 t215 t216 t217)) else (law37_HoistStops.j3 kj44 x13_2 true t190 t214 t193 t194 t195 t196 t197 t215 t216 t217)) = some r := H
          have A56 := Aside0.mk A560
          clear A560
          have HC57 := Aside0.mk H
          clear H
          try go_wp2
          (try (rw [drewN_self wc]; generalize hq_ : World.drewN wc _ = wc; have n0_ : Aside0 (wc.heap[gb199]? = some (.cells #[.int .i64 t193, .int .i64 t194, .int .i64 t195, .int .i64 t196, .int .i64 t197] 45 (0, 0))) := ⟨by rw [← hq_]; exact (by (with_reducible repeat (first | refine blk_drewN ?_ _ | refine blk_drew ?_ | refine blk_alloc ?_ _)); exact BK199.out)⟩; have n1_ : Aside0 (wc.heap[gb209]? = some (.cells #[.int .i64 x210000_2, .int .i64 x210001_2, .bool x210002_2] 50 (0, 0))) := ⟨by rw [← hq_]; exact (by (with_reducible repeat (first | refine blk_drewN ?_ _ | refine blk_drew ?_ | refine blk_alloc ?_ _)); exact BK209.out)⟩; have n2_ : Aside0 (IsS59 w wc g192 t190 x193001_2) := ⟨by rw [← hq_]; exact (by repeat (first | (with_reducible first | exact HI192.out | apply IsS59.alloc | apply IsS59.drewN | apply IsS59.drew | apply IsS59.set_1 | refine IsS59.far ?_ NB192_199.out _ | refine IsS59.far ?_ NB192_209.out _) | exact HI192.out))⟩; have n3_ : Aside0 (Below w.heap.size w wc) := ⟨by rw [← hq_]; exact (by repeat (first | (with_reducible first | exact HB.out | apply below_alloc | apply pw_below_drewN | apply below_drew1 | refine below_set ?_ (IsS59.ge HI192.out) | refine below_set ?_ GE199.out | refine below_set ?_ GE209.out) | exact HB.out))⟩; clear BK199 BK209 HI192 HB hq_; have BK199 := n0_; have BK209 := n1_; have HI192 := n2_; have HB := n3_; clear n0_ n1_ n2_ n3_))
          have n0_ := Aside0.mk (blk_drew BK199.out)
          have n1_ := Aside0.mk (blk_drew BK209.out)
          have n2_ := Aside0.mk (IsS59.drew HI192.out)
          have n3_ := Aside0.mk (below_drew1 HB.out)
          clear BK199; clear BK209; clear HI192; clear HB; have BK199 := n0_; have BK209 := n1_; have HI192 := n2_; have HB := n3_
          clear n0_ n1_ n2_ n3_
          refine start_ (n := 12) (S := fun w' => w'.cell? ⟨gb199, 0, none⟩ = some (.int .i64 t193) ∧ w'.cell? ⟨gb199, 1, none⟩ = some (.int .i64 t194) ∧ w'.cell? ⟨gb199, 2, none⟩ = some (.int .i64 t195) ∧ w'.cell? ⟨gb199, 3, none⟩ = some (.int .i64 t196) ∧ w'.cell? ⟨gb199, 4, none⟩ = some (.int .i64 t197) ∧ w'.cell? ⟨gb209, 0, none⟩ = some (.int .i64 x210000_2) ∧ w'.cell? ⟨gb209, 1, none⟩ = some (.int .i64 x210001_2) ∧ w'.cell? ⟨gb209, 2, none⟩ = some (.bool x210002_2)) (ds := []) D12m0 (by kernel_rfl) rfl rfl ⟨(blk_cell BK199.out 0).trans rfl, (blk_cell BK199.out 1).trans rfl, (blk_cell BK199.out 2).trans rfl, (blk_cell BK199.out 3).trans rfl, (blk_cell BK199.out 4).trans rfl, (blk_cell BK209.out 0).trans rfl, (blk_cell BK209.out 1).trans rfl, (blk_cell BK209.out 2).trans rfl⟩ (fun hHeld => ?_); refine with_tabW law37_HoistStops.tab14 law37_HoistStops.bits14 (fun HT_ HW_ => ?_)
          generalize wc.drew = w58 at BK199 BK209 HI192 HB hHeld ⊢
          refine pure_ (i := 2) (N := some 86) (v := ?_) (a' := ?_) D12m4 rfl rfl (any_of HT_.out (by kernel_rfl)) (fun _ _ _ h => h) (Or.inl ⟨by rfl, ?_⟩) ?_ ?_
          rotate_left; ·intro w'; go_simp; with_reducible rfl
          rotate_left; ·simp only [Act.put, sZ1, sZ2, sZ3, i64_w, i32_w]; rfl
          refine take_ (i := 0) (N := some 84) (v := ?_) (a' := ?_) D12m5 rfl rfl (take_ofW HT_.out HW_.out (by kernel_rfl)) (fun _ _ _ h => h) (Or.inl ⟨by rfl, ?_⟩) hHeld ?_ ?_
          rotate_left; ·rintro w' ⟨s0, s1, s2, s3, s4, s5, s6, s7⟩; go_simp; with_reducible rfl
          rotate_left; ·simp only [Act.put, sZ1, sZ2, sZ3, i64_w, i32_w]; rfl
          refine take_ (i := 1) (N := some 85) (v := ?_) (a' := ?_) D12m7 rfl rfl (take_ofW HT_.out HW_.out (by kernel_rfl)) (fun _ _ _ h => h) (Or.inl ⟨by rfl, ?_⟩) hHeld ?_ ?_
          rotate_left; ·rintro w' ⟨s0, s1, s2, s3, s4, s5, s6, s7⟩; go_simp; with_reducible rfl
          rotate_left; ·simp only [Act.put, sZ1, sZ2, sZ3, i64_w, i32_w]; rfl
          refine join_ (σ := Value × Nat) 2 D12m3ff (fun s_ => [(87, s_.1), (88, .int .i64 t213), (89, .tuple #[.agg #[.int .i64 t215, .int .i64 t216, .bool t217], .int .i64 t218]), (14, .pointer (some ⟨s_.2, 0, none⟩)), (83, .tuple #[.agg #[.int .i64 t215, .int .i64 t216, .bool t217], .int .i64 t218]), (90, .agg #[.int .i64 t215, .int .i64 t216, .bool t217]), (91, .int .i64 t218)]) (fun s_ w' => (w'.cell? ⟨gb199, 0, none⟩ = some (.int .i64 t193) ∧ w'.cell? ⟨gb199, 1, none⟩ = some (.int .i64 t194) ∧ w'.cell? ⟨gb199, 2, none⟩ = some (.int .i64 t195) ∧ w'.cell? ⟨gb199, 3, none⟩ = some (.int .i64 t196) ∧ w'.cell? ⟨gb199, 4, none⟩ = some (.int .i64 t197) ∧ w'.cell? ⟨gb209, 0, none⟩ = some (.int .i64 x210000_2) ∧ w'.cell? ⟨gb209, 1, none⟩ = some (.int .i64 x210001_2) ∧ w'.cell? ⟨gb209, 2, none⟩ = some (.bool x210002_2)) ∧ (Kd.R (Kd.int .i64) 3 w' w.heap.size (fun _ => True) s_.1 y210) ∧ (w'.heap[gb199]? = some (.cells #[.int .i64 t193, .int .i64 t194, .int .i64 t195, .int .i64 t196, .int .i64 t197] 45 (0, 0))) ∧ (w'.heap[gb209]? = some (.cells #[.int .i64 x210000_2, .int .i64 x210001_2, .bool x210002_2] 50 (0, 0))) ∧ (w'.heap[s_.2]? = some (.cells #[.int .i64 0, .int .i64 0, .bool false] 50 (0, 0))) ∧ (w.heap.size ≤ s_.2) ∧ (w.heap.size ≤ s_.2) ∧ (g192 ≠ s_.2) ∧ (s_.2 ≠ g192) ∧ (gb199 ≠ s_.2) ∧ (s_.2 ≠ gb199) ∧ (gb209 ≠ s_.2) ∧ (s_.2 ≠ gb209) ∧ (IsS59 w w' g192 t190 t214) ∧ (Below w.heap.size w w')) ?_ ?_
          rotate_left
          ·intro hCont
           refine two_ (i := 3) (j := 9) (Ni := some 87) (Nj := some 14) D12mf D12m207 rfl rfl rfl rfl (two_of HT_.out (by kernel_rfl)) (by decide) (by decide) (fun K hK => ?_) (fun K hK => ?_)
           ·skip
            refine Kd.R_lit_step (Kd.int .i64) _ 3 ?hg (N := 87) ?hd (xs := ([0, 5000, (-5000)] : List Int)) (inner := [.int .i64 0, .int .i64 5000, .int .i64 (-5000)]) (ok := fun _ => True) (okp := fun _ => True) ?hr ?hp (fun _ hk => hk) trivial (Below.refl _ _) (Nat.le_refl _) (by simp) ?_; (case hd => rfl); (case hg => rfl); (case hr => first | (go_simp; done) | (go_simp; rfl)); (case hp => exact (Reps.one (show Kd.M (Kd.int .i64) _ _ _ 0 [.int .i64 0] from rfl) (Reps.one (show Kd.M (Kd.int .i64) _ _ _ 5000 [.int .i64 5000] from rfl) (Reps.one (show Kd.M (Kd.int .i64) _ _ _ (-5000) [.int .i64 (-5000)] from rfl) (Reps.none _ _)))))
            intro v211 w59 ho60 hb hg_ hnew_
            clear hg_ hnew_
            (first | rw [← Ny210.out] at ho60 | (simp only [Int.reduceToNat] at ho60; rw [← Ny210.out] at ho60))
            have n0_ := Aside0.mk (Kd.R_lower ho60 (below_size (by repeat (first | (with_reducible first | exact HB.out | apply below_alloc | apply pw_below_drewN | apply below_drew1 | refine below_set ?_ (IsS59.ge HI192.out) | refine below_set ?_ GE199.out | refine below_set ?_ GE209.out) | exact HB.out))))
            have n1_ := Aside0.mk (blk_below (g := gb199) (o := .cells #[.int .i64 t193, .int .i64 t194, .int .i64 t195, .int .i64 t196, .int .i64 t197] 45 (0, 0)) (by (with_reducible repeat (first | refine blk_drewN ?_ _ | refine blk_drew ?_ | refine blk_alloc ?_ _)); exact BK199.out) hb)
            have n2_ := Aside0.mk (blk_below (g := gb209) (o := .cells #[.int .i64 x210000_2, .int .i64 x210001_2, .bool x210002_2] 50 (0, 0)) (by (with_reducible repeat (first | refine blk_drewN ?_ _ | refine blk_drew ?_ | refine blk_alloc ?_ _)); exact BK209.out) hb)
            have n3_ := Aside0.mk (IsS59.below (by repeat (first | (with_reducible first | exact HI192.out | apply IsS59.alloc | apply IsS59.drewN | apply IsS59.drew | apply IsS59.set_1 | refine IsS59.far ?_ NB192_199.out _ | refine IsS59.far ?_ NB192_209.out _) | exact HI192.out)) hb)
            have n4_ := Aside0.mk (below_step (by repeat (first | (with_reducible first | exact HB.out | apply below_alloc | apply pw_below_drewN | apply below_drew1 | refine below_set ?_ (IsS59.ge HI192.out) | refine below_set ?_ GE199.out | refine below_set ?_ GE209.out) | exact HB.out)) hb)
            clear BK199; clear BK209; clear HI192; clear HB; have HO212 := n0_; have BK199 := n1_; have BK209 := n2_; have HI192 := n3_; have HB := n4_
            clear n0_ n1_ n2_ n3_ n4_
            clear hb ho60
            obtain ⟨Ao61, co61, eo61⟩ := Kd.R_slice HO212.out
            (first | subst eo61 | (injection eo61 with f1_ f2_ f3_; have f4_ := f1_.symm; have f5_ := f3_.symm; clear f1_ f2_ f3_; subst f4_; subst f5_))
            refine hK.out _ _ ⟨(blk_cell BK199.out 0).trans rfl, (blk_cell BK199.out 1).trans rfl, (blk_cell BK199.out 2).trans rfl, (blk_cell BK199.out 3).trans rfl, (blk_cell BK199.out 4).trans rfl, (blk_cell BK209.out 0).trans rfl, (blk_cell BK209.out 1).trans rfl, (blk_cell BK209.out 2).trans rfl⟩ (fun hHeld => ?_)
            clear hK K
            refine norm_ (a' := ?_) ?_ ?_
            rotate_left
            ·show Act.put _ (some 87) _ = _
             simp only [Act.put, sZ1, sZ2, sZ3, i64_w, i32_w]
             rfl
            refine two_ (i := 4) (j := 9) (Ni := some 88) (Nj := some 14) D12m1f D12m20f rfl rfl rfl rfl (two_of HT_.out (by kernel_rfl)) (by decide) (by decide) (fun K hK => ?_) (fun K hK => ?_)
            ·skip
             refine goes_ Try.func16 (by kernel_rfl) rfl #[.pointer (some ⟨g192, 0, none⟩), .slice Ao61 y210.length co61] (by rfl) rfl rfl (by (try simp only [List.map_toArray, List.map_cons, List.map_nil]); first | done | rfl | (simp only [List.length_drop, List.length_take]; rfl)) ?_
             with_reducible refine (made_Dice_Of.calls g192 t190 x193001_2 _ _ y210 t213 t214 w _ ?side1 ?side2 ?side3 ?side4 ?side5 A55.out).mono ?_
             (case side1 => repeat (first | (with_reducible first | exact HI192.out | apply IsS59.alloc | apply IsS59.drewN | apply IsS59.drew | apply IsS59.set_1 | refine IsS59.far ?_ NB192_199.out _ | refine IsS59.far ?_ NB192_209.out _) | exact HI192.out))
             (case side2 => repeat (first | (with_reducible first | exact HB.out | apply below_alloc | apply pw_below_drewN | apply below_drew1 | refine below_set ?_ (IsS59.ge HI192.out) | refine below_set ?_ GE199.out | refine below_set ?_ GE209.out) | exact HB.out))
             (case side3 => repeat (first | exact (Kd.R_reads' HO212.out).2.2 | (with_reducible refine Kd.C_alloc ?_ _) | (with_reducible refine Kd.C_drewN ?_ _) | (with_reducible refine Kd.C_drew ?_)))
             (case side4 => exact (Kd.R_reads' HO212.out).2.1)
             (case side5 => exact far_slice (IsS59.own_ne HI192.out HO212.out (by decide)))
             rintro e w62 ⟨rfl, hi, hb, hk⟩
             refine ⟨_, rfl, ?_⟩
             have n0_ := Aside0.mk (KeepBut.blk hk (g' := gb199) (o := .cells #[.int .i64 t193, .int .i64 t194, .int .i64 t195, .int .i64 t196, .int .i64 t197] 45 (0, 0)) (by (with_reducible repeat (first | refine blk_drewN ?_ _ | refine blk_drew ?_ | refine blk_alloc ?_ _)); exact BK199.out) NB199_192.out (by simp))
             have n1_ := Aside0.mk (KeepBut.blk hk (g' := gb209) (o := .cells #[.int .i64 x210000_2, .int .i64 x210001_2, .bool x210002_2] 50 (0, 0)) (by (with_reducible repeat (first | refine blk_drewN ?_ _ | refine blk_drew ?_ | refine blk_alloc ?_ _)); exact BK209.out) NB209_192.out (by simp))
             have n2_ := Aside0.mk (Kd.R_mono (Kd.R_keep (IsS59.apart (show IsS59 w _ g192 t190 x193001_2 from by repeat (first | (with_reducible first | exact HI192.out | apply IsS59.alloc | apply IsS59.drewN | apply IsS59.drew | apply IsS59.set_1 | refine IsS59.far ?_ NB192_199.out _ | refine IsS59.far ?_ NB192_209.out _) | exact HI192.out)) (by (with_reducible repeat (first | apply Kd.R_alloc | apply Kd.R_drewN | apply Kd.R_drew)); exact HO212.out) (by decide)) hk (fun _ h => h.2)) (fun _ h => h.1))
             have n3_ := Aside0.mk (hb)
             have n4_ := Aside0.mk (hi)
             clear BK199; clear BK209; clear HO212; clear HB; clear HI192; have BK199 := n0_; have BK209 := n1_; have HO212 := n2_; have HB := n3_; have HI192 := n4_
             clear n0_ n1_ n2_ n3_ n4_
             (try clear hb); (try clear hb2); (try clear hk); (try clear hi)
             refine hK.out _ _ ⟨(blk_cell BK199.out 0).trans rfl, (blk_cell BK199.out 1).trans rfl, (blk_cell BK199.out 2).trans rfl, (blk_cell BK199.out 3).trans rfl, (blk_cell BK199.out 4).trans rfl, (blk_cell BK209.out 0).trans rfl, (blk_cell BK209.out 1).trans rfl, (blk_cell BK209.out 2).trans rfl⟩ (fun hHeld => ?_)
             clear hK K
             refine norm_ (a' := ?_) ?_ ?_
             rotate_left
             ·show Act.put _ (some 88) _ = _
              simp only [Act.put, sZ1, sZ2, sZ3, i64_w, i32_w]
              rfl
             refine two_ (i := 5) (j := 9) (Ni := some 89) (Nj := some 14) D12m3f D12m21f rfl rfl rfl rfl (two_of HT_.out (by kernel_rfl)) (by decide) (by decide) (fun K hK => ?_) (fun K hK => ?_)
             ·skip
              refine goes_ Try.func30 (by kernel_rfl) rfl #[.agg #[.int .i64 t193, .int .i64 t194, .int .i64 t195, .int .i64 t196, .int .i64 t197], .agg #[.int .i64 x210000_2, .int .i64 x210001_2, .bool x210002_2], .int .i64 t213] (by rfl) rfl rfl (by (try simp only [List.map_toArray, List.map_cons, List.map_nil]); first | done | rfl | (simp only [List.length_drop, List.length_take]; rfl)) ?_
              with_reducible refine (hoist_Tick.calls t193 t194 t195 t196 t197 x210000_2 x210001_2 x210002_2 t213 t215 t216 t217 t218 _ A56.out).mono ?_
              rintro e w63 ⟨rfl, hb⟩
              refine ⟨_, rfl, ?_⟩
              have n0_ := Aside0.mk (Kd.R_below (by (with_reducible repeat (first | apply Kd.R_alloc | apply Kd.R_drewN | apply Kd.R_drew)); exact HO212.out) hb)
              have n1_ := Aside0.mk (blk_below (g := gb199) (o := .cells #[.int .i64 t193, .int .i64 t194, .int .i64 t195, .int .i64 t196, .int .i64 t197] 45 (0, 0)) (by (with_reducible repeat (first | refine blk_drewN ?_ _ | refine blk_drew ?_ | refine blk_alloc ?_ _)); exact BK199.out) hb)
              have n2_ := Aside0.mk (blk_below (g := gb209) (o := .cells #[.int .i64 x210000_2, .int .i64 x210001_2, .bool x210002_2] 50 (0, 0)) (by (with_reducible repeat (first | refine blk_drewN ?_ _ | refine blk_drew ?_ | refine blk_alloc ?_ _)); exact BK209.out) hb)
              have n3_ := Aside0.mk (IsS59.below (by repeat (first | (with_reducible first | exact HI192.out | apply IsS59.alloc | apply IsS59.drewN | apply IsS59.drew | apply IsS59.set_1 | refine IsS59.far ?_ NB192_199.out _ | refine IsS59.far ?_ NB192_209.out _) | exact HI192.out)) hb)
              have n4_ := Aside0.mk (below_step (by repeat (first | (with_reducible first | exact HB.out | apply below_alloc | apply pw_below_drewN | apply below_drew1 | refine below_set ?_ (IsS59.ge HI192.out) | refine below_set ?_ GE199.out | refine below_set ?_ GE209.out) | exact HB.out)) hb)
              clear HO212; clear BK199; clear BK209; clear HI192; clear HB; have HO212 := n0_; have BK199 := n1_; have BK209 := n2_; have HI192 := n3_; have HB := n4_
              clear n0_ n1_ n2_ n3_ n4_
              (try clear hb); (try clear hb2); (try clear hk); (try clear hi)
              refine hK.out _ _ ⟨(blk_cell BK199.out 0).trans rfl, (blk_cell BK199.out 1).trans rfl, (blk_cell BK199.out 2).trans rfl, (blk_cell BK199.out 3).trans rfl, (blk_cell BK199.out 4).trans rfl, (blk_cell BK209.out 0).trans rfl, (blk_cell BK209.out 1).trans rfl, (blk_cell BK209.out 2).trans rfl⟩ (fun hHeld => ?_)
              clear hK K
              refine norm_ (a' := ?_) ?_ ?_
              rotate_left
              ·show Act.put _ (some 89) _ = _
               simp only [Act.put, sZ1, sZ2, sZ3, i64_w, i32_w]
               rfl
              refine pure_ (i := 6) (N := some 83) (v := ?_) (a' := ?_) D12m7f rfl rfl (any_of HT_.out (by kernel_rfl)) (fun _ _ _ h => h) (Or.inl ⟨by rfl, ?_⟩) ?_ ?_
              rotate_left; ·intro w'; go_simp; with_reducible rfl
              rotate_left; ·simp only [Act.put, sZ1, sZ2, sZ3, i64_w, i32_w]; rfl
              refine pure_ (i := 7) (N := some 90) (v := ?_) (a' := ?_) D12mff rfl rfl (any_of HT_.out (by kernel_rfl)) (fun _ _ _ h => h) (Or.inl ⟨by rfl, ?_⟩) ?_ ?_
              rotate_left; ·intro w'; go_simp; with_reducible rfl
              rotate_left; ·simp only [Act.put, sZ1, sZ2, sZ3, i64_w, i32_w]; rfl
              refine pure_ (i := 8) (N := some 91) (v := ?_) (a' := ?_) D12m1ff rfl rfl (any_of HT_.out (by kernel_rfl)) (fun _ _ _ h => h) (Or.inl ⟨by rfl, ?_⟩) ?_ ?_
              rotate_left; ·intro w'; go_simp; with_reducible rfl
              rotate_left; ·simp only [Act.put, sZ1, sZ2, sZ3, i64_w, i32_w]; rfl
              refine one_ (i := 9) (N := some 14) D12m3ff rfl rfl (one_of HT_.out (by kernel_rfl)) (by decide) (fun K hK => ?_)
              refine box_step ?hg (N := 14) ?hd (cs := #[.int .i64 0, .int .i64 0, .bool false]) (t := 50) ?hr ?_; (case hd => rfl); (case hg => rfl); (case hr => first | (go_simp; done) | (go_simp; rfl))
              intro gb219 hg w64 hbox hb
              have n0_ := Aside0.mk (Kd.R_below (by (with_reducible repeat (first | apply Kd.R_alloc | apply Kd.R_drewN | apply Kd.R_drew)); exact HO212.out) hb)
              have n1_ := Aside0.mk (blk_below (g := gb199) (o := .cells #[.int .i64 t193, .int .i64 t194, .int .i64 t195, .int .i64 t196, .int .i64 t197] 45 (0, 0)) (by (with_reducible repeat (first | refine blk_drewN ?_ _ | refine blk_drew ?_ | refine blk_alloc ?_ _)); exact BK199.out) hb)
              have n2_ := Aside0.mk (blk_below (g := gb209) (o := .cells #[.int .i64 x210000_2, .int .i64 x210001_2, .bool x210002_2] 50 (0, 0)) (by (with_reducible repeat (first | refine blk_drewN ?_ _ | refine blk_drew ?_ | refine blk_alloc ?_ _)); exact BK209.out) hb)
              have n3_ := Aside0.mk (IsS59.below (by repeat (first | (with_reducible first | exact HI192.out | apply IsS59.alloc | apply IsS59.drewN | apply IsS59.drew | apply IsS59.set_1 | refine IsS59.far ?_ NB192_199.out _ | refine IsS59.far ?_ NB192_209.out _) | exact HI192.out)) hb)
              have n4_ := Aside0.mk (below_step (by repeat (first | (with_reducible first | exact HB.out | apply below_alloc | apply pw_below_drewN | apply below_drew1 | refine below_set ?_ (IsS59.ge HI192.out) | refine below_set ?_ GE199.out | refine below_set ?_ GE209.out) | exact HB.out)) hb)
              have n5_ := Aside0.mk (hbox)
              have n6_ := Aside0.mk ((by rw [hg]; exact (below_size (by repeat (first | (with_reducible first | exact HB.out | apply below_alloc | apply pw_below_drewN | apply below_drew1 | refine below_set ?_ (IsS59.ge HI192.out) | refine below_set ?_ GE199.out | refine below_set ?_ GE209.out) | exact HB.out))) : w.heap.size ≤ gb219))
              have n7_ := Aside0.mk ((by rw [hg]; exact (below_size (by repeat (first | (with_reducible first | exact HB.out | apply below_alloc | apply pw_below_drewN | apply below_drew1 | refine below_set ?_ (IsS59.ge HI192.out) | refine below_set ?_ GE199.out | refine below_set ?_ GE209.out) | exact HB.out))) : w.heap.size ≤ gb219))
              have n8_ := Aside0.mk ((by rw [hg]; exact Nat.ne_of_lt (blk_lt (g := gb199) (o := .cells #[.int .i64 t193, .int .i64 t194, .int .i64 t195, .int .i64 t196, .int .i64 t197] 45 (0, 0)) (by (with_reducible repeat (first | refine blk_drewN ?_ _ | refine blk_drew ?_ | refine blk_alloc ?_ _)); exact BK199.out)) : gb199 ≠ gb219))
              have n9_ := Aside0.mk ((by rw [hg]; exact Nat.ne_of_gt (blk_lt (g := gb199) (o := .cells #[.int .i64 t193, .int .i64 t194, .int .i64 t195, .int .i64 t196, .int .i64 t197] 45 (0, 0)) (by (with_reducible repeat (first | refine blk_drewN ?_ _ | refine blk_drew ?_ | refine blk_alloc ?_ _)); exact BK199.out)) : gb219 ≠ gb199))
              have n10_ := Aside0.mk ((by rw [hg]; exact Nat.ne_of_lt (blk_lt (g := gb209) (o := .cells #[.int .i64 x210000_2, .int .i64 x210001_2, .bool x210002_2] 50 (0, 0)) (by (with_reducible repeat (first | refine blk_drewN ?_ _ | refine blk_drew ?_ | refine blk_alloc ?_ _)); exact BK209.out)) : gb209 ≠ gb219))
              have n11_ := Aside0.mk ((by rw [hg]; exact Nat.ne_of_gt (blk_lt (g := gb209) (o := .cells #[.int .i64 x210000_2, .int .i64 x210001_2, .bool x210002_2] 50 (0, 0)) (by (with_reducible repeat (first | refine blk_drewN ?_ _ | refine blk_drew ?_ | refine blk_alloc ?_ _)); exact BK209.out)) : gb219 ≠ gb209))
              have n12_ := Aside0.mk ((by rw [hg]; exact Nat.ne_of_lt (IsS59.lt (show IsS59 w _ g192 t190 t214 from by repeat (first | (with_reducible first | exact HI192.out | apply IsS59.alloc | apply IsS59.drewN | apply IsS59.drew | apply IsS59.set_1 | refine IsS59.far ?_ NB192_199.out _ | refine IsS59.far ?_ NB192_209.out _) | exact HI192.out))) : g192 ≠ gb219))
              have n13_ := Aside0.mk ((by rw [hg]; exact Nat.ne_of_gt (IsS59.lt (show IsS59 w _ g192 t190 t214 from by repeat (first | (with_reducible first | exact HI192.out | apply IsS59.alloc | apply IsS59.drewN | apply IsS59.drew | apply IsS59.set_1 | refine IsS59.far ?_ NB192_199.out _ | refine IsS59.far ?_ NB192_209.out _) | exact HI192.out))) : gb219 ≠ g192))
              clear HO212; clear BK199; clear BK209; clear HI192; clear HB; have HO212 := n0_; have BK199 := n1_; have BK209 := n2_; have HI192 := n3_; have HB := n4_; have BK219 := n5_; have GW219 := n6_; have GE219 := n7_; have NB199_219 := n8_; have NB219_199 := n9_; have NB209_219 := n10_; have NB219_209 := n11_; have NB192_219 := n12_; have NB219_192 := n13_
              clear n0_ n1_ n2_ n3_ n4_ n5_ n6_ n7_ n8_ n9_ n10_ n11_ n12_ n13_
              clear hb hbox hg
              refine hK.out _ _ ⟨(blk_cell BK199.out 0).trans rfl, (blk_cell BK199.out 1).trans rfl, (blk_cell BK199.out 2).trans rfl, (blk_cell BK199.out 3).trans rfl, (blk_cell BK199.out 4).trans rfl, (blk_cell BK209.out 0).trans rfl, (blk_cell BK209.out 1).trans rfl, (blk_cell BK209.out 2).trans rfl⟩ (fun hHeld => ?_)
              clear hK K
              refine norm_ (a' := ?_) ?_ ?_
              rotate_left
              ·show Act.put _ (some 14) _ = _
               simp only [Act.put, sZ1, sZ2, sZ3, i64_w, i32_w]
               rfl
              exact norm_ (by simp only [putAll, Act.put, List.setIfInBounds_toArray, List.set_cons_zero, List.set_cons_succ]) (hCont (.slice Ao61 y210.length co61, gb219) _ ⟨hHeld, (by (with_reducible repeat (first | apply Kd.R_alloc | apply Kd.R_drewN | apply Kd.R_drew)); exact HO212.out), (by (with_reducible repeat (first | refine blk_drewN ?_ _ | refine blk_drew ?_ | refine blk_alloc ?_ _)); exact BK199.out), (by (with_reducible repeat (first | refine blk_drewN ?_ _ | refine blk_drew ?_ | refine blk_alloc ?_ _)); exact BK209.out), (by (with_reducible repeat (first | refine blk_drewN ?_ _ | refine blk_drew ?_ | refine blk_alloc ?_ _)); exact BK219.out), GW219.out, GE219.out, NB192_219.out, NB219_192.out, NB199_219.out, NB219_199.out, NB209_219.out, NB219_209.out, (by repeat (first | (with_reducible first | exact HI192.out | apply IsS59.alloc | apply IsS59.drewN | apply IsS59.drew | apply IsS59.set_1 | refine IsS59.far ?_ NB192_199.out _ | refine IsS59.far ?_ NB192_209.out _ | refine IsS59.far ?_ NB192_219.out _) | exact HI192.out)), (by repeat (first | (with_reducible first | exact HB.out | apply below_alloc | apply pw_below_drewN | apply below_drew1 | refine below_set ?_ (IsS59.ge HI192.out) | refine below_set ?_ GE199.out | refine below_set ?_ GE209.out | refine below_set ?_ GE219.out) | exact HB.out))⟩)
             ·skip
              refine box_step ?hg (N := 14) ?hd (cs := #[.int .i64 0, .int .i64 0, .bool false]) (t := 50) ?hr ?_; (case hd => rfl); (case hg => rfl); (case hr => first | (go_simp; done) | (go_simp; rfl))
              intro gb219 hg w63 hbox hb
              have n0_ := Aside0.mk (Kd.R_below (by (with_reducible repeat (first | apply Kd.R_alloc | apply Kd.R_drewN | apply Kd.R_drew)); exact HO212.out) hb)
              have n1_ := Aside0.mk (blk_below (g := gb199) (o := .cells #[.int .i64 t193, .int .i64 t194, .int .i64 t195, .int .i64 t196, .int .i64 t197] 45 (0, 0)) (by (with_reducible repeat (first | refine blk_drewN ?_ _ | refine blk_drew ?_ | refine blk_alloc ?_ _)); exact BK199.out) hb)
              have n2_ := Aside0.mk (blk_below (g := gb209) (o := .cells #[.int .i64 x210000_2, .int .i64 x210001_2, .bool x210002_2] 50 (0, 0)) (by (with_reducible repeat (first | refine blk_drewN ?_ _ | refine blk_drew ?_ | refine blk_alloc ?_ _)); exact BK209.out) hb)
              have n3_ := Aside0.mk (IsS59.below (by repeat (first | (with_reducible first | exact HI192.out | apply IsS59.alloc | apply IsS59.drewN | apply IsS59.drew | apply IsS59.set_1 | refine IsS59.far ?_ NB192_199.out _ | refine IsS59.far ?_ NB192_209.out _) | exact HI192.out)) hb)
              have n4_ := Aside0.mk (below_step (by repeat (first | (with_reducible first | exact HB.out | apply below_alloc | apply pw_below_drewN | apply below_drew1 | refine below_set ?_ (IsS59.ge HI192.out) | refine below_set ?_ GE199.out | refine below_set ?_ GE209.out) | exact HB.out)) hb)
              have n5_ := Aside0.mk (hbox)
              have n6_ := Aside0.mk ((by rw [hg]; exact (below_size (by repeat (first | (with_reducible first | exact HB.out | apply below_alloc | apply pw_below_drewN | apply below_drew1 | refine below_set ?_ (IsS59.ge HI192.out) | refine below_set ?_ GE199.out | refine below_set ?_ GE209.out) | exact HB.out))) : w.heap.size ≤ gb219))
              have n7_ := Aside0.mk ((by rw [hg]; exact (below_size (by repeat (first | (with_reducible first | exact HB.out | apply below_alloc | apply pw_below_drewN | apply below_drew1 | refine below_set ?_ (IsS59.ge HI192.out) | refine below_set ?_ GE199.out | refine below_set ?_ GE209.out) | exact HB.out))) : w.heap.size ≤ gb219))
              have n8_ := Aside0.mk ((by rw [hg]; exact Nat.ne_of_lt (blk_lt (g := gb199) (o := .cells #[.int .i64 t193, .int .i64 t194, .int .i64 t195, .int .i64 t196, .int .i64 t197] 45 (0, 0)) (by (with_reducible repeat (first | refine blk_drewN ?_ _ | refine blk_drew ?_ | refine blk_alloc ?_ _)); exact BK199.out)) : gb199 ≠ gb219))
              have n9_ := Aside0.mk ((by rw [hg]; exact Nat.ne_of_gt (blk_lt (g := gb199) (o := .cells #[.int .i64 t193, .int .i64 t194, .int .i64 t195, .int .i64 t196, .int .i64 t197] 45 (0, 0)) (by (with_reducible repeat (first | refine blk_drewN ?_ _ | refine blk_drew ?_ | refine blk_alloc ?_ _)); exact BK199.out)) : gb219 ≠ gb199))
              have n10_ := Aside0.mk ((by rw [hg]; exact Nat.ne_of_lt (blk_lt (g := gb209) (o := .cells #[.int .i64 x210000_2, .int .i64 x210001_2, .bool x210002_2] 50 (0, 0)) (by (with_reducible repeat (first | refine blk_drewN ?_ _ | refine blk_drew ?_ | refine blk_alloc ?_ _)); exact BK209.out)) : gb209 ≠ gb219))
              have n11_ := Aside0.mk ((by rw [hg]; exact Nat.ne_of_gt (blk_lt (g := gb209) (o := .cells #[.int .i64 x210000_2, .int .i64 x210001_2, .bool x210002_2] 50 (0, 0)) (by (with_reducible repeat (first | refine blk_drewN ?_ _ | refine blk_drew ?_ | refine blk_alloc ?_ _)); exact BK209.out)) : gb219 ≠ gb209))
              have n12_ := Aside0.mk ((by rw [hg]; exact Nat.ne_of_lt (IsS59.lt (show IsS59 w _ g192 t190 t214 from by repeat (first | (with_reducible first | exact HI192.out | apply IsS59.alloc | apply IsS59.drewN | apply IsS59.drew | apply IsS59.set_1 | refine IsS59.far ?_ NB192_199.out _ | refine IsS59.far ?_ NB192_209.out _) | exact HI192.out))) : g192 ≠ gb219))
              have n13_ := Aside0.mk ((by rw [hg]; exact Nat.ne_of_gt (IsS59.lt (show IsS59 w _ g192 t190 t214 from by repeat (first | (with_reducible first | exact HI192.out | apply IsS59.alloc | apply IsS59.drewN | apply IsS59.drew | apply IsS59.set_1 | refine IsS59.far ?_ NB192_199.out _ | refine IsS59.far ?_ NB192_209.out _) | exact HI192.out))) : gb219 ≠ g192))
              clear HO212; clear BK199; clear BK209; clear HI192; clear HB; have HO212 := n0_; have BK199 := n1_; have BK209 := n2_; have HI192 := n3_; have HB := n4_; have BK219 := n5_; have GW219 := n6_; have GE219 := n7_; have NB199_219 := n8_; have NB219_199 := n9_; have NB209_219 := n10_; have NB219_209 := n11_; have NB192_219 := n12_; have NB219_192 := n13_
              clear n0_ n1_ n2_ n3_ n4_ n5_ n6_ n7_ n8_ n9_ n10_ n11_ n12_ n13_
              clear hb hbox hg
              refine hK.out _ _ ⟨(blk_cell BK199.out 0).trans rfl, (blk_cell BK199.out 1).trans rfl, (blk_cell BK199.out 2).trans rfl, (blk_cell BK199.out 3).trans rfl, (blk_cell BK199.out 4).trans rfl, (blk_cell BK209.out 0).trans rfl, (blk_cell BK209.out 1).trans rfl, (blk_cell BK209.out 2).trans rfl⟩ (fun hHeld => ?_)
              clear hK K
              refine norm_ (a' := ?_) ?_ ?_
              rotate_left
              ·show Act.put _ (some 14) _ = _
               simp only [Act.put, sZ1, sZ2, sZ3, i64_w, i32_w]
               rfl
              refine one_ (i := 5) (N := some 89) D12m23f rfl rfl (one_of HT_.out (by kernel_rfl)) (by decide) (fun K hK => ?_)
              refine goes_ Try.func30 (by kernel_rfl) rfl #[.agg #[.int .i64 t193, .int .i64 t194, .int .i64 t195, .int .i64 t196, .int .i64 t197], .agg #[.int .i64 x210000_2, .int .i64 x210001_2, .bool x210002_2], .int .i64 t213] (by rfl) rfl rfl (by (try simp only [List.map_toArray, List.map_cons, List.map_nil]); first | done | rfl | (simp only [List.length_drop, List.length_take]; rfl)) ?_
              with_reducible refine (hoist_Tick.calls t193 t194 t195 t196 t197 x210000_2 x210001_2 x210002_2 t213 t215 t216 t217 t218 _ A56.out).mono ?_
              rintro e w64 ⟨rfl, hb⟩
              refine ⟨_, rfl, ?_⟩
              have n0_ := Aside0.mk (Kd.R_below (by (with_reducible repeat (first | apply Kd.R_alloc | apply Kd.R_drewN | apply Kd.R_drew)); exact HO212.out) hb)
              have n1_ := Aside0.mk (blk_below (g := gb199) (o := .cells #[.int .i64 t193, .int .i64 t194, .int .i64 t195, .int .i64 t196, .int .i64 t197] 45 (0, 0)) (by (with_reducible repeat (first | refine blk_drewN ?_ _ | refine blk_drew ?_ | refine blk_alloc ?_ _)); exact BK199.out) hb)
              have n2_ := Aside0.mk (blk_below (g := gb209) (o := .cells #[.int .i64 x210000_2, .int .i64 x210001_2, .bool x210002_2] 50 (0, 0)) (by (with_reducible repeat (first | refine blk_drewN ?_ _ | refine blk_drew ?_ | refine blk_alloc ?_ _)); exact BK209.out) hb)
              have n3_ := Aside0.mk (IsS59.below (by repeat (first | (with_reducible first | exact HI192.out | apply IsS59.alloc | apply IsS59.drewN | apply IsS59.drew | apply IsS59.set_1 | refine IsS59.far ?_ NB192_199.out _ | refine IsS59.far ?_ NB192_209.out _ | refine IsS59.far ?_ NB192_219.out _) | exact HI192.out)) hb)
              have n4_ := Aside0.mk (blk_below (g := gb219) (o := .cells #[.int .i64 0, .int .i64 0, .bool false] 50 (0, 0)) (by (with_reducible repeat (first | refine blk_drewN ?_ _ | refine blk_drew ?_ | refine blk_alloc ?_ _)); exact BK219.out) hb)
              have n5_ := Aside0.mk (below_step (by repeat (first | (with_reducible first | exact HB.out | apply below_alloc | apply pw_below_drewN | apply below_drew1 | refine below_set ?_ (IsS59.ge HI192.out) | refine below_set ?_ GE199.out | refine below_set ?_ GE209.out | refine below_set ?_ GE219.out) | exact HB.out)) hb)
              clear HO212; clear BK199; clear BK209; clear HI192; clear BK219; clear HB; have HO212 := n0_; have BK199 := n1_; have BK209 := n2_; have HI192 := n3_; have BK219 := n4_; have HB := n5_
              clear n0_ n1_ n2_ n3_ n4_ n5_
              (try clear hb); (try clear hb2); (try clear hk); (try clear hi)
              refine hK.out _ _ ⟨(blk_cell BK199.out 0).trans rfl, (blk_cell BK199.out 1).trans rfl, (blk_cell BK199.out 2).trans rfl, (blk_cell BK199.out 3).trans rfl, (blk_cell BK199.out 4).trans rfl, (blk_cell BK209.out 0).trans rfl, (blk_cell BK209.out 1).trans rfl, (blk_cell BK209.out 2).trans rfl⟩ (fun hHeld => ?_)
              clear hK K
              refine norm_ (a' := ?_) ?_ ?_
              rotate_left
              ·show Act.put _ (some 89) _ = _
               simp only [Act.put, sZ1, sZ2, sZ3, i64_w, i32_w]
               rfl
              refine pure_ (i := 6) (N := some 83) (v := ?_) (a' := ?_) D12m27f rfl rfl (any_of HT_.out (by kernel_rfl)) (fun _ _ _ h => h) (Or.inl ⟨by rfl, ?_⟩) ?_ ?_
              rotate_left; ·intro w'; go_simp; with_reducible rfl
              rotate_left; ·simp only [Act.put, sZ1, sZ2, sZ3, i64_w, i32_w]; rfl
              refine pure_ (i := 7) (N := some 90) (v := ?_) (a' := ?_) D12m2ff rfl rfl (any_of HT_.out (by kernel_rfl)) (fun _ _ _ h => h) (Or.inl ⟨by rfl, ?_⟩) ?_ ?_
              rotate_left; ·intro w'; go_simp; with_reducible rfl
              rotate_left; ·simp only [Act.put, sZ1, sZ2, sZ3, i64_w, i32_w]; rfl
              refine pure_ (i := 8) (N := some 91) (v := ?_) (a' := ?_) D12m3ff rfl rfl (any_of HT_.out (by kernel_rfl)) (fun _ _ _ h => h) (Or.inl ⟨by rfl, ?_⟩) ?_ ?_
              rotate_left; ·intro w'; go_simp; with_reducible rfl
              rotate_left; ·simp only [Act.put, sZ1, sZ2, sZ3, i64_w, i32_w]; rfl
              exact norm_ (by simp only [putAll, Act.put, List.setIfInBounds_toArray, List.set_cons_zero, List.set_cons_succ]) (hCont (.slice Ao61 y210.length co61, gb219) _ ⟨hHeld, (by (with_reducible repeat (first | apply Kd.R_alloc | apply Kd.R_drewN | apply Kd.R_drew)); exact HO212.out), (by (with_reducible repeat (first | refine blk_drewN ?_ _ | refine blk_drew ?_ | refine blk_alloc ?_ _)); exact BK199.out), (by (with_reducible repeat (first | refine blk_drewN ?_ _ | refine blk_drew ?_ | refine blk_alloc ?_ _)); exact BK209.out), (by (with_reducible repeat (first | refine blk_drewN ?_ _ | refine blk_drew ?_ | refine blk_alloc ?_ _)); exact BK219.out), GW219.out, GE219.out, NB192_219.out, NB219_192.out, NB199_219.out, NB219_199.out, NB209_219.out, NB219_209.out, (by repeat (first | (with_reducible first | exact HI192.out | apply IsS59.alloc | apply IsS59.drewN | apply IsS59.drew | apply IsS59.set_1 | refine IsS59.far ?_ NB192_199.out _ | refine IsS59.far ?_ NB192_209.out _ | refine IsS59.far ?_ NB192_219.out _) | exact HI192.out)), (by repeat (first | (with_reducible first | exact HB.out | apply below_alloc | apply pw_below_drewN | apply below_drew1 | refine below_set ?_ (IsS59.ge HI192.out) | refine below_set ?_ GE199.out | refine below_set ?_ GE209.out | refine below_set ?_ GE219.out) | exact HB.out))⟩)
            ·skip
             refine box_step ?hg (N := 14) ?hd (cs := #[.int .i64 0, .int .i64 0, .bool false]) (t := 50) ?hr ?_; (case hd => rfl); (case hg => rfl); (case hr => first | (go_simp; done) | (go_simp; rfl))
             intro gb219 hg w61 hbox hb
             have n0_ := Aside0.mk (Kd.R_below (by (with_reducible repeat (first | apply Kd.R_alloc | apply Kd.R_drewN | apply Kd.R_drew)); exact HO212.out) hb)
             have n1_ := Aside0.mk (blk_below (g := gb199) (o := .cells #[.int .i64 t193, .int .i64 t194, .int .i64 t195, .int .i64 t196, .int .i64 t197] 45 (0, 0)) (by (with_reducible repeat (first | refine blk_drewN ?_ _ | refine blk_drew ?_ | refine blk_alloc ?_ _)); exact BK199.out) hb)
             have n2_ := Aside0.mk (blk_below (g := gb209) (o := .cells #[.int .i64 x210000_2, .int .i64 x210001_2, .bool x210002_2] 50 (0, 0)) (by (with_reducible repeat (first | refine blk_drewN ?_ _ | refine blk_drew ?_ | refine blk_alloc ?_ _)); exact BK209.out) hb)
             have n3_ := Aside0.mk (IsS59.below (by repeat (first | (with_reducible first | exact HI192.out | apply IsS59.alloc | apply IsS59.drewN | apply IsS59.drew | apply IsS59.set_1 | refine IsS59.far ?_ NB192_199.out _ | refine IsS59.far ?_ NB192_209.out _) | exact HI192.out)) hb)
             have n4_ := Aside0.mk (below_step (by repeat (first | (with_reducible first | exact HB.out | apply below_alloc | apply pw_below_drewN | apply below_drew1 | refine below_set ?_ (IsS59.ge HI192.out) | refine below_set ?_ GE199.out | refine below_set ?_ GE209.out) | exact HB.out)) hb)
             have n5_ := Aside0.mk (hbox)
             have n6_ := Aside0.mk ((by rw [hg]; exact (below_size (by repeat (first | (with_reducible first | exact HB.out | apply below_alloc | apply pw_below_drewN | apply below_drew1 | refine below_set ?_ (IsS59.ge HI192.out) | refine below_set ?_ GE199.out | refine below_set ?_ GE209.out) | exact HB.out))) : w.heap.size ≤ gb219))
             have n7_ := Aside0.mk ((by rw [hg]; exact (below_size (by repeat (first | (with_reducible first | exact HB.out | apply below_alloc | apply pw_below_drewN | apply below_drew1 | refine below_set ?_ (IsS59.ge HI192.out) | refine below_set ?_ GE199.out | refine below_set ?_ GE209.out) | exact HB.out))) : w.heap.size ≤ gb219))
             have n8_ := Aside0.mk ((by rw [hg]; exact Nat.ne_of_lt (blk_lt (g := gb199) (o := .cells #[.int .i64 t193, .int .i64 t194, .int .i64 t195, .int .i64 t196, .int .i64 t197] 45 (0, 0)) (by (with_reducible repeat (first | refine blk_drewN ?_ _ | refine blk_drew ?_ | refine blk_alloc ?_ _)); exact BK199.out)) : gb199 ≠ gb219))
             have n9_ := Aside0.mk ((by rw [hg]; exact Nat.ne_of_gt (blk_lt (g := gb199) (o := .cells #[.int .i64 t193, .int .i64 t194, .int .i64 t195, .int .i64 t196, .int .i64 t197] 45 (0, 0)) (by (with_reducible repeat (first | refine blk_drewN ?_ _ | refine blk_drew ?_ | refine blk_alloc ?_ _)); exact BK199.out)) : gb219 ≠ gb199))
             have n10_ := Aside0.mk ((by rw [hg]; exact Nat.ne_of_lt (blk_lt (g := gb209) (o := .cells #[.int .i64 x210000_2, .int .i64 x210001_2, .bool x210002_2] 50 (0, 0)) (by (with_reducible repeat (first | refine blk_drewN ?_ _ | refine blk_drew ?_ | refine blk_alloc ?_ _)); exact BK209.out)) : gb209 ≠ gb219))
             have n11_ := Aside0.mk ((by rw [hg]; exact Nat.ne_of_gt (blk_lt (g := gb209) (o := .cells #[.int .i64 x210000_2, .int .i64 x210001_2, .bool x210002_2] 50 (0, 0)) (by (with_reducible repeat (first | refine blk_drewN ?_ _ | refine blk_drew ?_ | refine blk_alloc ?_ _)); exact BK209.out)) : gb219 ≠ gb209))
             have n12_ := Aside0.mk ((by rw [hg]; exact Nat.ne_of_lt (IsS59.lt (show IsS59 w _ g192 t190 x193001_2 from by repeat (first | (with_reducible first | exact HI192.out | apply IsS59.alloc | apply IsS59.drewN | apply IsS59.drew | apply IsS59.set_1 | refine IsS59.far ?_ NB192_199.out _ | refine IsS59.far ?_ NB192_209.out _) | exact HI192.out))) : g192 ≠ gb219))
             have n13_ := Aside0.mk ((by rw [hg]; exact Nat.ne_of_gt (IsS59.lt (show IsS59 w _ g192 t190 x193001_2 from by repeat (first | (with_reducible first | exact HI192.out | apply IsS59.alloc | apply IsS59.drewN | apply IsS59.drew | apply IsS59.set_1 | refine IsS59.far ?_ NB192_199.out _ | refine IsS59.far ?_ NB192_209.out _) | exact HI192.out))) : gb219 ≠ g192))
             clear HO212; clear BK199; clear BK209; clear HI192; clear HB; have HO212 := n0_; have BK199 := n1_; have BK209 := n2_; have HI192 := n3_; have HB := n4_; have BK219 := n5_; have GW219 := n6_; have GE219 := n7_; have NB199_219 := n8_; have NB219_199 := n9_; have NB209_219 := n10_; have NB219_209 := n11_; have NB192_219 := n12_; have NB219_192 := n13_
             clear n0_ n1_ n2_ n3_ n4_ n5_ n6_ n7_ n8_ n9_ n10_ n11_ n12_ n13_
             clear hb hbox hg
             obtain ⟨Ao62, co62, eo62⟩ := Kd.R_slice HO212.out
             (first | subst eo62 | (injection eo62 with f1_ f2_ f3_; have f4_ := f1_.symm; have f5_ := f3_.symm; clear f1_ f2_ f3_; subst f4_; subst f5_))
             refine hK.out _ _ ⟨(blk_cell BK199.out 0).trans rfl, (blk_cell BK199.out 1).trans rfl, (blk_cell BK199.out 2).trans rfl, (blk_cell BK199.out 3).trans rfl, (blk_cell BK199.out 4).trans rfl, (blk_cell BK209.out 0).trans rfl, (blk_cell BK209.out 1).trans rfl, (blk_cell BK209.out 2).trans rfl⟩ (fun hHeld => ?_)
             clear hK K
             refine norm_ (a' := ?_) ?_ ?_
             rotate_left
             ·show Act.put _ (some 14) _ = _
              simp only [Act.put, sZ1, sZ2, sZ3, i64_w, i32_w]
              rfl
             refine one_ (i := 4) (N := some 88) D12m21f rfl rfl (one_of HT_.out (by kernel_rfl)) (by decide) (fun K hK => ?_)
             refine goes_ Try.func16 (by kernel_rfl) rfl #[.pointer (some ⟨g192, 0, none⟩), .slice Ao62 y210.length co62] (by rfl) rfl rfl (by (try simp only [List.map_toArray, List.map_cons, List.map_nil]); first | done | rfl | (simp only [List.length_drop, List.length_take]; rfl)) ?_
             with_reducible refine (made_Dice_Of.calls g192 t190 x193001_2 _ _ y210 t213 t214 w _ ?side1 ?side2 ?side3 ?side4 ?side5 A55.out).mono ?_
             (case side1 => repeat (first | (with_reducible first | exact HI192.out | apply IsS59.alloc | apply IsS59.drewN | apply IsS59.drew | apply IsS59.set_1 | refine IsS59.far ?_ NB192_199.out _ | refine IsS59.far ?_ NB192_209.out _ | refine IsS59.far ?_ NB192_219.out _) | exact HI192.out))
             (case side2 => repeat (first | (with_reducible first | exact HB.out | apply below_alloc | apply pw_below_drewN | apply below_drew1 | refine below_set ?_ (IsS59.ge HI192.out) | refine below_set ?_ GE199.out | refine below_set ?_ GE209.out | refine below_set ?_ GE219.out) | exact HB.out))
             (case side3 => repeat (first | exact (Kd.R_reads' HO212.out).2.2 | (with_reducible refine Kd.C_alloc ?_ _) | (with_reducible refine Kd.C_drewN ?_ _) | (with_reducible refine Kd.C_drew ?_)))
             (case side4 => exact (Kd.R_reads' HO212.out).2.1)
             (case side5 => exact far_slice (IsS59.own_ne HI192.out HO212.out (by decide)))
             rintro e w63 ⟨rfl, hi, hb, hk⟩
             refine ⟨_, rfl, ?_⟩
             have n0_ := Aside0.mk (KeepBut.blk hk (g' := gb199) (o := .cells #[.int .i64 t193, .int .i64 t194, .int .i64 t195, .int .i64 t196, .int .i64 t197] 45 (0, 0)) (by (with_reducible repeat (first | refine blk_drewN ?_ _ | refine blk_drew ?_ | refine blk_alloc ?_ _)); exact BK199.out) NB199_192.out (by simp))
             have n1_ := Aside0.mk (KeepBut.blk hk (g' := gb209) (o := .cells #[.int .i64 x210000_2, .int .i64 x210001_2, .bool x210002_2] 50 (0, 0)) (by (with_reducible repeat (first | refine blk_drewN ?_ _ | refine blk_drew ?_ | refine blk_alloc ?_ _)); exact BK209.out) NB209_192.out (by simp))
             have n2_ := Aside0.mk (Kd.R_mono (Kd.R_keep (IsS59.apart (show IsS59 w _ g192 t190 x193001_2 from by repeat (first | (with_reducible first | exact HI192.out | apply IsS59.alloc | apply IsS59.drewN | apply IsS59.drew | apply IsS59.set_1 | refine IsS59.far ?_ NB192_199.out _ | refine IsS59.far ?_ NB192_209.out _ | refine IsS59.far ?_ NB192_219.out _) | exact HI192.out)) (by (with_reducible repeat (first | apply Kd.R_alloc | apply Kd.R_drewN | apply Kd.R_drew)); exact HO212.out) (by decide)) hk (fun _ h => h.2)) (fun _ h => h.1))
             have n3_ := Aside0.mk (KeepBut.blk hk (g' := gb219) (o := .cells #[.int .i64 0, .int .i64 0, .bool false] 50 (0, 0)) (by (with_reducible repeat (first | refine blk_drewN ?_ _ | refine blk_drew ?_ | refine blk_alloc ?_ _)); exact BK219.out) NB219_192.out (by simp))
             have n4_ := Aside0.mk (hb)
             have n5_ := Aside0.mk (hi)
             clear BK199; clear BK209; clear HO212; clear BK219; clear HB; clear HI192; have BK199 := n0_; have BK209 := n1_; have HO212 := n2_; have BK219 := n3_; have HB := n4_; have HI192 := n5_
             clear n0_ n1_ n2_ n3_ n4_ n5_
             (try clear hb); (try clear hb2); (try clear hk); (try clear hi)
             refine hK.out _ _ ⟨(blk_cell BK199.out 0).trans rfl, (blk_cell BK199.out 1).trans rfl, (blk_cell BK199.out 2).trans rfl, (blk_cell BK199.out 3).trans rfl, (blk_cell BK199.out 4).trans rfl, (blk_cell BK209.out 0).trans rfl, (blk_cell BK209.out 1).trans rfl, (blk_cell BK209.out 2).trans rfl⟩ (fun hHeld => ?_)
             clear hK K
             refine norm_ (a' := ?_) ?_ ?_
             rotate_left
             ·show Act.put _ (some 88) _ = _
              simp only [Act.put, sZ1, sZ2, sZ3, i64_w, i32_w]
              rfl
             refine one_ (i := 5) (N := some 89) D12m23f rfl rfl (one_of HT_.out (by kernel_rfl)) (by decide) (fun K hK => ?_)
             refine goes_ Try.func30 (by kernel_rfl) rfl #[.agg #[.int .i64 t193, .int .i64 t194, .int .i64 t195, .int .i64 t196, .int .i64 t197], .agg #[.int .i64 x210000_2, .int .i64 x210001_2, .bool x210002_2], .int .i64 t213] (by rfl) rfl rfl (by (try simp only [List.map_toArray, List.map_cons, List.map_nil]); first | done | rfl | (simp only [List.length_drop, List.length_take]; rfl)) ?_
             with_reducible refine (hoist_Tick.calls t193 t194 t195 t196 t197 x210000_2 x210001_2 x210002_2 t213 t215 t216 t217 t218 _ A56.out).mono ?_
             rintro e w64 ⟨rfl, hb⟩
             refine ⟨_, rfl, ?_⟩
             have n0_ := Aside0.mk (Kd.R_below (by (with_reducible repeat (first | apply Kd.R_alloc | apply Kd.R_drewN | apply Kd.R_drew)); exact HO212.out) hb)
             have n1_ := Aside0.mk (blk_below (g := gb199) (o := .cells #[.int .i64 t193, .int .i64 t194, .int .i64 t195, .int .i64 t196, .int .i64 t197] 45 (0, 0)) (by (with_reducible repeat (first | refine blk_drewN ?_ _ | refine blk_drew ?_ | refine blk_alloc ?_ _)); exact BK199.out) hb)
             have n2_ := Aside0.mk (blk_below (g := gb209) (o := .cells #[.int .i64 x210000_2, .int .i64 x210001_2, .bool x210002_2] 50 (0, 0)) (by (with_reducible repeat (first | refine blk_drewN ?_ _ | refine blk_drew ?_ | refine blk_alloc ?_ _)); exact BK209.out) hb)
             have n3_ := Aside0.mk (IsS59.below (by repeat (first | (with_reducible first | exact HI192.out | apply IsS59.alloc | apply IsS59.drewN | apply IsS59.drew | apply IsS59.set_1 | refine IsS59.far ?_ NB192_199.out _ | refine IsS59.far ?_ NB192_209.out _ | refine IsS59.far ?_ NB192_219.out _) | exact HI192.out)) hb)
             have n4_ := Aside0.mk (blk_below (g := gb219) (o := .cells #[.int .i64 0, .int .i64 0, .bool false] 50 (0, 0)) (by (with_reducible repeat (first | refine blk_drewN ?_ _ | refine blk_drew ?_ | refine blk_alloc ?_ _)); exact BK219.out) hb)
             have n5_ := Aside0.mk (below_step (by repeat (first | (with_reducible first | exact HB.out | apply below_alloc | apply pw_below_drewN | apply below_drew1 | refine below_set ?_ (IsS59.ge HI192.out) | refine below_set ?_ GE199.out | refine below_set ?_ GE209.out | refine below_set ?_ GE219.out) | exact HB.out)) hb)
             clear HO212; clear BK199; clear BK209; clear HI192; clear BK219; clear HB; have HO212 := n0_; have BK199 := n1_; have BK209 := n2_; have HI192 := n3_; have BK219 := n4_; have HB := n5_
             clear n0_ n1_ n2_ n3_ n4_ n5_
             (try clear hb); (try clear hb2); (try clear hk); (try clear hi)
             refine hK.out _ _ ⟨(blk_cell BK199.out 0).trans rfl, (blk_cell BK199.out 1).trans rfl, (blk_cell BK199.out 2).trans rfl, (blk_cell BK199.out 3).trans rfl, (blk_cell BK199.out 4).trans rfl, (blk_cell BK209.out 0).trans rfl, (blk_cell BK209.out 1).trans rfl, (blk_cell BK209.out 2).trans rfl⟩ (fun hHeld => ?_)
             clear hK K
             refine norm_ (a' := ?_) ?_ ?_
             rotate_left
             ·show Act.put _ (some 89) _ = _
              simp only [Act.put, sZ1, sZ2, sZ3, i64_w, i32_w]
              rfl
             refine pure_ (i := 6) (N := some 83) (v := ?_) (a' := ?_) D12m27f rfl rfl (any_of HT_.out (by kernel_rfl)) (fun _ _ _ h => h) (Or.inl ⟨by rfl, ?_⟩) ?_ ?_
             rotate_left; ·intro w'; go_simp; with_reducible rfl
             rotate_left; ·simp only [Act.put, sZ1, sZ2, sZ3, i64_w, i32_w]; rfl
             refine pure_ (i := 7) (N := some 90) (v := ?_) (a' := ?_) D12m2ff rfl rfl (any_of HT_.out (by kernel_rfl)) (fun _ _ _ h => h) (Or.inl ⟨by rfl, ?_⟩) ?_ ?_
             rotate_left; ·intro w'; go_simp; with_reducible rfl
             rotate_left; ·simp only [Act.put, sZ1, sZ2, sZ3, i64_w, i32_w]; rfl
             refine pure_ (i := 8) (N := some 91) (v := ?_) (a' := ?_) D12m3ff rfl rfl (any_of HT_.out (by kernel_rfl)) (fun _ _ _ h => h) (Or.inl ⟨by rfl, ?_⟩) ?_ ?_
             rotate_left; ·intro w'; go_simp; with_reducible rfl
             rotate_left; ·simp only [Act.put, sZ1, sZ2, sZ3, i64_w, i32_w]; rfl
             exact norm_ (by simp only [putAll, Act.put, List.setIfInBounds_toArray, List.set_cons_zero, List.set_cons_succ]) (hCont (.slice Ao62 y210.length co62, gb219) _ ⟨hHeld, (by (with_reducible repeat (first | apply Kd.R_alloc | apply Kd.R_drewN | apply Kd.R_drew)); exact HO212.out), (by (with_reducible repeat (first | refine blk_drewN ?_ _ | refine blk_drew ?_ | refine blk_alloc ?_ _)); exact BK199.out), (by (with_reducible repeat (first | refine blk_drewN ?_ _ | refine blk_drew ?_ | refine blk_alloc ?_ _)); exact BK209.out), (by (with_reducible repeat (first | refine blk_drewN ?_ _ | refine blk_drew ?_ | refine blk_alloc ?_ _)); exact BK219.out), GW219.out, GE219.out, NB192_219.out, NB219_192.out, NB199_219.out, NB219_199.out, NB209_219.out, NB219_209.out, (by repeat (first | (with_reducible first | exact HI192.out | apply IsS59.alloc | apply IsS59.drewN | apply IsS59.drew | apply IsS59.set_1 | refine IsS59.far ?_ NB192_199.out _ | refine IsS59.far ?_ NB192_209.out _ | refine IsS59.far ?_ NB192_219.out _) | exact HI192.out)), (by repeat (first | (with_reducible first | exact HB.out | apply below_alloc | apply pw_below_drewN | apply below_drew1 | refine below_set ?_ (IsS59.ge HI192.out) | refine below_set ?_ GE199.out | refine below_set ?_ GE209.out | refine below_set ?_ GE219.out) | exact HB.out))⟩)
           ·skip
            refine box_step ?hg (N := 14) ?hd (cs := #[.int .i64 0, .int .i64 0, .bool false]) (t := 50) ?hr ?_; (case hd => rfl); (case hg => rfl); (case hr => first | (go_simp; done) | (go_simp; rfl))
            intro gb219 hg w59 hbox hb
            have n0_ := Aside0.mk (blk_below (g := gb199) (o := .cells #[.int .i64 t193, .int .i64 t194, .int .i64 t195, .int .i64 t196, .int .i64 t197] 45 (0, 0)) (by (with_reducible repeat (first | refine blk_drewN ?_ _ | refine blk_drew ?_ | refine blk_alloc ?_ _)); exact BK199.out) hb)
            have n1_ := Aside0.mk (blk_below (g := gb209) (o := .cells #[.int .i64 x210000_2, .int .i64 x210001_2, .bool x210002_2] 50 (0, 0)) (by (with_reducible repeat (first | refine blk_drewN ?_ _ | refine blk_drew ?_ | refine blk_alloc ?_ _)); exact BK209.out) hb)
            have n2_ := Aside0.mk (IsS59.below (by repeat (first | (with_reducible first | exact HI192.out | apply IsS59.alloc | apply IsS59.drewN | apply IsS59.drew | apply IsS59.set_1 | refine IsS59.far ?_ NB192_199.out _ | refine IsS59.far ?_ NB192_209.out _) | exact HI192.out)) hb)
            have n3_ := Aside0.mk (below_step (by repeat (first | (with_reducible first | exact HB.out | apply below_alloc | apply pw_below_drewN | apply below_drew1 | refine below_set ?_ (IsS59.ge HI192.out) | refine below_set ?_ GE199.out | refine below_set ?_ GE209.out) | exact HB.out)) hb)
            have n4_ := Aside0.mk (hbox)
            have n5_ := Aside0.mk ((by rw [hg]; exact (below_size (by repeat (first | (with_reducible first | exact HB.out | apply below_alloc | apply pw_below_drewN | apply below_drew1 | refine below_set ?_ (IsS59.ge HI192.out) | refine below_set ?_ GE199.out | refine below_set ?_ GE209.out) | exact HB.out))) : w.heap.size ≤ gb219))
            have n6_ := Aside0.mk ((by rw [hg]; exact (below_size (by repeat (first | (with_reducible first | exact HB.out | apply below_alloc | apply pw_below_drewN | apply below_drew1 | refine below_set ?_ (IsS59.ge HI192.out) | refine below_set ?_ GE199.out | refine below_set ?_ GE209.out) | exact HB.out))) : w.heap.size ≤ gb219))
            have n7_ := Aside0.mk ((by rw [hg]; exact Nat.ne_of_lt (blk_lt (g := gb199) (o := .cells #[.int .i64 t193, .int .i64 t194, .int .i64 t195, .int .i64 t196, .int .i64 t197] 45 (0, 0)) (by (with_reducible repeat (first | refine blk_drewN ?_ _ | refine blk_drew ?_ | refine blk_alloc ?_ _)); exact BK199.out)) : gb199 ≠ gb219))
            have n8_ := Aside0.mk ((by rw [hg]; exact Nat.ne_of_gt (blk_lt (g := gb199) (o := .cells #[.int .i64 t193, .int .i64 t194, .int .i64 t195, .int .i64 t196, .int .i64 t197] 45 (0, 0)) (by (with_reducible repeat (first | refine blk_drewN ?_ _ | refine blk_drew ?_ | refine blk_alloc ?_ _)); exact BK199.out)) : gb219 ≠ gb199))
            have n9_ := Aside0.mk ((by rw [hg]; exact Nat.ne_of_lt (blk_lt (g := gb209) (o := .cells #[.int .i64 x210000_2, .int .i64 x210001_2, .bool x210002_2] 50 (0, 0)) (by (with_reducible repeat (first | refine blk_drewN ?_ _ | refine blk_drew ?_ | refine blk_alloc ?_ _)); exact BK209.out)) : gb209 ≠ gb219))
            have n10_ := Aside0.mk ((by rw [hg]; exact Nat.ne_of_gt (blk_lt (g := gb209) (o := .cells #[.int .i64 x210000_2, .int .i64 x210001_2, .bool x210002_2] 50 (0, 0)) (by (with_reducible repeat (first | refine blk_drewN ?_ _ | refine blk_drew ?_ | refine blk_alloc ?_ _)); exact BK209.out)) : gb219 ≠ gb209))
            have n11_ := Aside0.mk ((by rw [hg]; exact Nat.ne_of_lt (IsS59.lt (show IsS59 w _ g192 t190 x193001_2 from by repeat (first | (with_reducible first | exact HI192.out | apply IsS59.alloc | apply IsS59.drewN | apply IsS59.drew | apply IsS59.set_1 | refine IsS59.far ?_ NB192_199.out _ | refine IsS59.far ?_ NB192_209.out _) | exact HI192.out))) : g192 ≠ gb219))
            have n12_ := Aside0.mk ((by rw [hg]; exact Nat.ne_of_gt (IsS59.lt (show IsS59 w _ g192 t190 x193001_2 from by repeat (first | (with_reducible first | exact HI192.out | apply IsS59.alloc | apply IsS59.drewN | apply IsS59.drew | apply IsS59.set_1 | refine IsS59.far ?_ NB192_199.out _ | refine IsS59.far ?_ NB192_209.out _) | exact HI192.out))) : gb219 ≠ g192))
            clear BK199; clear BK209; clear HI192; clear HB; have BK199 := n0_; have BK209 := n1_; have HI192 := n2_; have HB := n3_; have BK219 := n4_; have GW219 := n5_; have GE219 := n6_; have NB199_219 := n7_; have NB219_199 := n8_; have NB209_219 := n9_; have NB219_209 := n10_; have NB192_219 := n11_; have NB219_192 := n12_
            clear n0_ n1_ n2_ n3_ n4_ n5_ n6_ n7_ n8_ n9_ n10_ n11_ n12_
            clear hb hbox hg
            refine hK.out _ _ ⟨(blk_cell BK199.out 0).trans rfl, (blk_cell BK199.out 1).trans rfl, (blk_cell BK199.out 2).trans rfl, (blk_cell BK199.out 3).trans rfl, (blk_cell BK199.out 4).trans rfl, (blk_cell BK209.out 0).trans rfl, (blk_cell BK209.out 1).trans rfl, (blk_cell BK209.out 2).trans rfl⟩ (fun hHeld => ?_)
            clear hK K
            refine norm_ (a' := ?_) ?_ ?_
            rotate_left
            ·show Act.put _ (some 14) _ = _
             simp only [Act.put, sZ1, sZ2, sZ3, i64_w, i32_w]
             rfl
            refine one_ (i := 3) (N := some 87) D12m20f rfl rfl (one_of HT_.out (by kernel_rfl)) (by decide) (fun K hK => ?_)
            refine Kd.R_lit_step (Kd.int .i64) _ 3 ?hg (N := 87) ?hd (xs := ([0, 5000, (-5000)] : List Int)) (inner := [.int .i64 0, .int .i64 5000, .int .i64 (-5000)]) (ok := fun _ => True) (okp := fun _ => True) ?hr ?hp (fun _ hk => hk) trivial (Below.refl _ _) (Nat.le_refl _) (by simp) ?_; (case hd => rfl); (case hg => rfl); (case hr => first | (go_simp; done) | (go_simp; rfl)); (case hp => exact (Reps.one (show Kd.M (Kd.int .i64) _ _ _ 0 [.int .i64 0] from rfl) (Reps.one (show Kd.M (Kd.int .i64) _ _ _ 5000 [.int .i64 5000] from rfl) (Reps.one (show Kd.M (Kd.int .i64) _ _ _ (-5000) [.int .i64 (-5000)] from rfl) (Reps.none _ _)))))
            intro v211 w60 ho61 hb hg_ hnew_
            clear hg_ hnew_
            (first | rw [← Ny210.out] at ho61 | (simp only [Int.reduceToNat] at ho61; rw [← Ny210.out] at ho61))
            have n0_ := Aside0.mk (Kd.R_lower ho61 (below_size (by repeat (first | (with_reducible first | exact HB.out | apply below_alloc | apply pw_below_drewN | apply below_drew1 | refine below_set ?_ (IsS59.ge HI192.out) | refine below_set ?_ GE199.out | refine below_set ?_ GE209.out | refine below_set ?_ GE219.out) | exact HB.out))))
            have n1_ := Aside0.mk (blk_below (g := gb199) (o := .cells #[.int .i64 t193, .int .i64 t194, .int .i64 t195, .int .i64 t196, .int .i64 t197] 45 (0, 0)) (by (with_reducible repeat (first | refine blk_drewN ?_ _ | refine blk_drew ?_ | refine blk_alloc ?_ _)); exact BK199.out) hb)
            have n2_ := Aside0.mk (blk_below (g := gb209) (o := .cells #[.int .i64 x210000_2, .int .i64 x210001_2, .bool x210002_2] 50 (0, 0)) (by (with_reducible repeat (first | refine blk_drewN ?_ _ | refine blk_drew ?_ | refine blk_alloc ?_ _)); exact BK209.out) hb)
            have n3_ := Aside0.mk (IsS59.below (by repeat (first | (with_reducible first | exact HI192.out | apply IsS59.alloc | apply IsS59.drewN | apply IsS59.drew | apply IsS59.set_1 | refine IsS59.far ?_ NB192_199.out _ | refine IsS59.far ?_ NB192_209.out _ | refine IsS59.far ?_ NB192_219.out _) | exact HI192.out)) hb)
            have n4_ := Aside0.mk (blk_below (g := gb219) (o := .cells #[.int .i64 0, .int .i64 0, .bool false] 50 (0, 0)) (by (with_reducible repeat (first | refine blk_drewN ?_ _ | refine blk_drew ?_ | refine blk_alloc ?_ _)); exact BK219.out) hb)
            have n5_ := Aside0.mk (below_step (by repeat (first | (with_reducible first | exact HB.out | apply below_alloc | apply pw_below_drewN | apply below_drew1 | refine below_set ?_ (IsS59.ge HI192.out) | refine below_set ?_ GE199.out | refine below_set ?_ GE209.out | refine below_set ?_ GE219.out) | exact HB.out)) hb)
            clear BK199; clear BK209; clear HI192; clear BK219; clear HB; have HO212 := n0_; have BK199 := n1_; have BK209 := n2_; have HI192 := n3_; have BK219 := n4_; have HB := n5_
            clear n0_ n1_ n2_ n3_ n4_ n5_
            clear hb ho61
            obtain ⟨Ao62, co62, eo62⟩ := Kd.R_slice HO212.out
            (first | subst eo62 | (injection eo62 with f1_ f2_ f3_; have f4_ := f1_.symm; have f5_ := f3_.symm; clear f1_ f2_ f3_; subst f4_; subst f5_))
            refine hK.out _ _ ⟨(blk_cell BK199.out 0).trans rfl, (blk_cell BK199.out 1).trans rfl, (blk_cell BK199.out 2).trans rfl, (blk_cell BK199.out 3).trans rfl, (blk_cell BK199.out 4).trans rfl, (blk_cell BK209.out 0).trans rfl, (blk_cell BK209.out 1).trans rfl, (blk_cell BK209.out 2).trans rfl⟩ (fun hHeld => ?_)
            clear hK K
            refine norm_ (a' := ?_) ?_ ?_
            rotate_left
            ·show Act.put _ (some 87) _ = _
             simp only [Act.put, sZ1, sZ2, sZ3, i64_w, i32_w]
             rfl
            refine one_ (i := 4) (N := some 88) D12m21f rfl rfl (one_of HT_.out (by kernel_rfl)) (by decide) (fun K hK => ?_)
            refine goes_ Try.func16 (by kernel_rfl) rfl #[.pointer (some ⟨g192, 0, none⟩), .slice Ao62 y210.length co62] (by rfl) rfl rfl (by (try simp only [List.map_toArray, List.map_cons, List.map_nil]); first | done | rfl | (simp only [List.length_drop, List.length_take]; rfl)) ?_
            with_reducible refine (made_Dice_Of.calls g192 t190 x193001_2 _ _ y210 t213 t214 w _ ?side1 ?side2 ?side3 ?side4 ?side5 A55.out).mono ?_
            (case side1 => repeat (first | (with_reducible first | exact HI192.out | apply IsS59.alloc | apply IsS59.drewN | apply IsS59.drew | apply IsS59.set_1 | refine IsS59.far ?_ NB192_199.out _ | refine IsS59.far ?_ NB192_209.out _ | refine IsS59.far ?_ NB192_219.out _) | exact HI192.out))
            (case side2 => repeat (first | (with_reducible first | exact HB.out | apply below_alloc | apply pw_below_drewN | apply below_drew1 | refine below_set ?_ (IsS59.ge HI192.out) | refine below_set ?_ GE199.out | refine below_set ?_ GE209.out | refine below_set ?_ GE219.out) | exact HB.out))
            (case side3 => repeat (first | exact (Kd.R_reads' HO212.out).2.2 | (with_reducible refine Kd.C_alloc ?_ _) | (with_reducible refine Kd.C_drewN ?_ _) | (with_reducible refine Kd.C_drew ?_)))
            (case side4 => exact (Kd.R_reads' HO212.out).2.1)
            (case side5 => exact far_slice (IsS59.own_ne HI192.out HO212.out (by decide)))
            rintro e w63 ⟨rfl, hi, hb, hk⟩
            refine ⟨_, rfl, ?_⟩
            have n0_ := Aside0.mk (KeepBut.blk hk (g' := gb199) (o := .cells #[.int .i64 t193, .int .i64 t194, .int .i64 t195, .int .i64 t196, .int .i64 t197] 45 (0, 0)) (by (with_reducible repeat (first | refine blk_drewN ?_ _ | refine blk_drew ?_ | refine blk_alloc ?_ _)); exact BK199.out) NB199_192.out (by simp))
            have n1_ := Aside0.mk (KeepBut.blk hk (g' := gb209) (o := .cells #[.int .i64 x210000_2, .int .i64 x210001_2, .bool x210002_2] 50 (0, 0)) (by (with_reducible repeat (first | refine blk_drewN ?_ _ | refine blk_drew ?_ | refine blk_alloc ?_ _)); exact BK209.out) NB209_192.out (by simp))
            have n2_ := Aside0.mk (KeepBut.blk hk (g' := gb219) (o := .cells #[.int .i64 0, .int .i64 0, .bool false] 50 (0, 0)) (by (with_reducible repeat (first | refine blk_drewN ?_ _ | refine blk_drew ?_ | refine blk_alloc ?_ _)); exact BK219.out) NB219_192.out (by simp))
            have n3_ := Aside0.mk (Kd.R_mono (Kd.R_keep (IsS59.apart (show IsS59 w _ g192 t190 x193001_2 from by repeat (first | (with_reducible first | exact HI192.out | apply IsS59.alloc | apply IsS59.drewN | apply IsS59.drew | apply IsS59.set_1 | refine IsS59.far ?_ NB192_199.out _ | refine IsS59.far ?_ NB192_209.out _ | refine IsS59.far ?_ NB192_219.out _) | exact HI192.out)) (by (with_reducible repeat (first | apply Kd.R_alloc | apply Kd.R_drewN | apply Kd.R_drew)); exact HO212.out) (by decide)) hk (fun _ h => h.2)) (fun _ h => h.1))
            have n4_ := Aside0.mk (hb)
            have n5_ := Aside0.mk (hi)
            clear BK199; clear BK209; clear BK219; clear HO212; clear HB; clear HI192; have BK199 := n0_; have BK209 := n1_; have BK219 := n2_; have HO212 := n3_; have HB := n4_; have HI192 := n5_
            clear n0_ n1_ n2_ n3_ n4_ n5_
            (try clear hb); (try clear hb2); (try clear hk); (try clear hi)
            refine hK.out _ _ ⟨(blk_cell BK199.out 0).trans rfl, (blk_cell BK199.out 1).trans rfl, (blk_cell BK199.out 2).trans rfl, (blk_cell BK199.out 3).trans rfl, (blk_cell BK199.out 4).trans rfl, (blk_cell BK209.out 0).trans rfl, (blk_cell BK209.out 1).trans rfl, (blk_cell BK209.out 2).trans rfl⟩ (fun hHeld => ?_)
            clear hK K
            refine norm_ (a' := ?_) ?_ ?_
            rotate_left
            ·show Act.put _ (some 88) _ = _
             simp only [Act.put, sZ1, sZ2, sZ3, i64_w, i32_w]
             rfl
            refine one_ (i := 5) (N := some 89) D12m23f rfl rfl (one_of HT_.out (by kernel_rfl)) (by decide) (fun K hK => ?_)
            refine goes_ Try.func30 (by kernel_rfl) rfl #[.agg #[.int .i64 t193, .int .i64 t194, .int .i64 t195, .int .i64 t196, .int .i64 t197], .agg #[.int .i64 x210000_2, .int .i64 x210001_2, .bool x210002_2], .int .i64 t213] (by rfl) rfl rfl (by (try simp only [List.map_toArray, List.map_cons, List.map_nil]); first | done | rfl | (simp only [List.length_drop, List.length_take]; rfl)) ?_
            with_reducible refine (hoist_Tick.calls t193 t194 t195 t196 t197 x210000_2 x210001_2 x210002_2 t213 t215 t216 t217 t218 _ A56.out).mono ?_
            rintro e w64 ⟨rfl, hb⟩
            refine ⟨_, rfl, ?_⟩
            have n0_ := Aside0.mk (Kd.R_below (by (with_reducible repeat (first | apply Kd.R_alloc | apply Kd.R_drewN | apply Kd.R_drew)); exact HO212.out) hb)
            have n1_ := Aside0.mk (blk_below (g := gb199) (o := .cells #[.int .i64 t193, .int .i64 t194, .int .i64 t195, .int .i64 t196, .int .i64 t197] 45 (0, 0)) (by (with_reducible repeat (first | refine blk_drewN ?_ _ | refine blk_drew ?_ | refine blk_alloc ?_ _)); exact BK199.out) hb)
            have n2_ := Aside0.mk (blk_below (g := gb209) (o := .cells #[.int .i64 x210000_2, .int .i64 x210001_2, .bool x210002_2] 50 (0, 0)) (by (with_reducible repeat (first | refine blk_drewN ?_ _ | refine blk_drew ?_ | refine blk_alloc ?_ _)); exact BK209.out) hb)
            have n3_ := Aside0.mk (IsS59.below (by repeat (first | (with_reducible first | exact HI192.out | apply IsS59.alloc | apply IsS59.drewN | apply IsS59.drew | apply IsS59.set_1 | refine IsS59.far ?_ NB192_199.out _ | refine IsS59.far ?_ NB192_209.out _ | refine IsS59.far ?_ NB192_219.out _) | exact HI192.out)) hb)
            have n4_ := Aside0.mk (blk_below (g := gb219) (o := .cells #[.int .i64 0, .int .i64 0, .bool false] 50 (0, 0)) (by (with_reducible repeat (first | refine blk_drewN ?_ _ | refine blk_drew ?_ | refine blk_alloc ?_ _)); exact BK219.out) hb)
            have n5_ := Aside0.mk (below_step (by repeat (first | (with_reducible first | exact HB.out | apply below_alloc | apply pw_below_drewN | apply below_drew1 | refine below_set ?_ (IsS59.ge HI192.out) | refine below_set ?_ GE199.out | refine below_set ?_ GE209.out | refine below_set ?_ GE219.out) | exact HB.out)) hb)
            clear HO212; clear BK199; clear BK209; clear HI192; clear BK219; clear HB; have HO212 := n0_; have BK199 := n1_; have BK209 := n2_; have HI192 := n3_; have BK219 := n4_; have HB := n5_
            clear n0_ n1_ n2_ n3_ n4_ n5_
            (try clear hb); (try clear hb2); (try clear hk); (try clear hi)
            refine hK.out _ _ ⟨(blk_cell BK199.out 0).trans rfl, (blk_cell BK199.out 1).trans rfl, (blk_cell BK199.out 2).trans rfl, (blk_cell BK199.out 3).trans rfl, (blk_cell BK199.out 4).trans rfl, (blk_cell BK209.out 0).trans rfl, (blk_cell BK209.out 1).trans rfl, (blk_cell BK209.out 2).trans rfl⟩ (fun hHeld => ?_)
            clear hK K
            refine norm_ (a' := ?_) ?_ ?_
            rotate_left
            ·show Act.put _ (some 89) _ = _
             simp only [Act.put, sZ1, sZ2, sZ3, i64_w, i32_w]
             rfl
            refine pure_ (i := 6) (N := some 83) (v := ?_) (a' := ?_) D12m27f rfl rfl (any_of HT_.out (by kernel_rfl)) (fun _ _ _ h => h) (Or.inl ⟨by rfl, ?_⟩) ?_ ?_
            rotate_left; ·intro w'; go_simp; with_reducible rfl
            rotate_left; ·simp only [Act.put, sZ1, sZ2, sZ3, i64_w, i32_w]; rfl
            refine pure_ (i := 7) (N := some 90) (v := ?_) (a' := ?_) D12m2ff rfl rfl (any_of HT_.out (by kernel_rfl)) (fun _ _ _ h => h) (Or.inl ⟨by rfl, ?_⟩) ?_ ?_
            rotate_left; ·intro w'; go_simp; with_reducible rfl
            rotate_left; ·simp only [Act.put, sZ1, sZ2, sZ3, i64_w, i32_w]; rfl
            refine pure_ (i := 8) (N := some 91) (v := ?_) (a' := ?_) D12m3ff rfl rfl (any_of HT_.out (by kernel_rfl)) (fun _ _ _ h => h) (Or.inl ⟨by rfl, ?_⟩) ?_ ?_
            rotate_left; ·intro w'; go_simp; with_reducible rfl
            rotate_left; ·simp only [Act.put, sZ1, sZ2, sZ3, i64_w, i32_w]; rfl
            exact norm_ (by simp only [putAll, Act.put, List.setIfInBounds_toArray, List.set_cons_zero, List.set_cons_succ]) (hCont (.slice Ao62 y210.length co62, gb219) _ ⟨hHeld, (by (with_reducible repeat (first | apply Kd.R_alloc | apply Kd.R_drewN | apply Kd.R_drew)); exact HO212.out), (by (with_reducible repeat (first | refine blk_drewN ?_ _ | refine blk_drew ?_ | refine blk_alloc ?_ _)); exact BK199.out), (by (with_reducible repeat (first | refine blk_drewN ?_ _ | refine blk_drew ?_ | refine blk_alloc ?_ _)); exact BK209.out), (by (with_reducible repeat (first | refine blk_drewN ?_ _ | refine blk_drew ?_ | refine blk_alloc ?_ _)); exact BK219.out), GW219.out, GE219.out, NB192_219.out, NB219_192.out, NB199_219.out, NB219_199.out, NB209_219.out, NB219_209.out, (by repeat (first | (with_reducible first | exact HI192.out | apply IsS59.alloc | apply IsS59.drewN | apply IsS59.drew | apply IsS59.set_1 | refine IsS59.far ?_ NB192_199.out _ | refine IsS59.far ?_ NB192_209.out _ | refine IsS59.far ?_ NB192_219.out _) | exact HI192.out)), (by repeat (first | (with_reducible first | exact HB.out | apply below_alloc | apply pw_below_drewN | apply below_drew1 | refine below_set ?_ (IsS59.ge HI192.out) | refine below_set ?_ GE199.out | refine below_set ?_ GE209.out | refine below_set ?_ GE219.out) | exact HB.out))⟩)
          rintro ⟨v211, gb219⟩ w65 ⟨hS_, h0_, h1_, h2_, h3_, h4_, h5_, h6_, h7_, h8_, h9_, h10_, h11_, h12_, h13_⟩
          have n0_ : Aside0 (Kd.R (Kd.int .i64) 3 w65 w.heap.size (fun _ => True) v211 y210) := ⟨h0_⟩
          have n1_ : Aside0 (w65.heap[gb199]? = some (.cells #[.int .i64 t193, .int .i64 t194, .int .i64 t195, .int .i64 t196, .int .i64 t197] 45 (0, 0))) := ⟨h1_⟩
          have n2_ : Aside0 (w65.heap[gb209]? = some (.cells #[.int .i64 x210000_2, .int .i64 x210001_2, .bool x210002_2] 50 (0, 0))) := ⟨h2_⟩
          have n3_ : Aside0 (w65.heap[gb219]? = some (.cells #[.int .i64 0, .int .i64 0, .bool false] 50 (0, 0))) := ⟨h3_⟩
          have n4_ : Aside0 (w.heap.size ≤ gb219) := ⟨h4_⟩
          have n5_ : Aside0 (w.heap.size ≤ gb219) := ⟨h5_⟩
          have n6_ : Aside0 (g192 ≠ gb219) := ⟨h6_⟩
          have n7_ : Aside0 (gb219 ≠ g192) := ⟨h7_⟩
          have n8_ : Aside0 (gb199 ≠ gb219) := ⟨h8_⟩
          have n9_ : Aside0 (gb219 ≠ gb199) := ⟨h9_⟩
          have n10_ : Aside0 (gb209 ≠ gb219) := ⟨h10_⟩
          have n11_ : Aside0 (gb219 ≠ gb209) := ⟨h11_⟩
          have n12_ : Aside0 (IsS59 w w65 g192 t190 t214) := ⟨h12_⟩
          have n13_ : Aside0 (Below w.heap.size w w65) := ⟨h13_⟩
          clear BK199; clear BK209; clear HI192; clear HB
          clear h0_ h1_ h2_ h3_ h4_ h5_ h6_ h7_ h8_ h9_ h10_ h11_ h12_ h13_
          have HO212 := n0_; have BK199 := n1_; have BK209 := n2_; have BK219 := n3_; have GW219 := n4_; have GE219 := n5_; have NB192_219 := n6_; have NB219_192 := n7_; have NB199_219 := n8_; have NB219_199 := n9_; have NB209_219 := n10_; have NB219_209 := n11_; have HI192 := n12_; have HB := n13_
          clear n0_ n1_ n2_ n3_ n4_ n5_ n6_ n7_ n8_ n9_ n10_ n11_ n12_ n13_
          have hHeld : w65.cell? ⟨gb199, 0, none⟩ = some (.int .i64 t193) ∧ w65.cell? ⟨gb199, 1, none⟩ = some (.int .i64 t194) ∧ w65.cell? ⟨gb199, 2, none⟩ = some (.int .i64 t195) ∧ w65.cell? ⟨gb199, 3, none⟩ = some (.int .i64 t196) ∧ w65.cell? ⟨gb199, 4, none⟩ = some (.int .i64 t197) ∧ w65.cell? ⟨gb209, 0, none⟩ = some (.int .i64 x210000_2) ∧ w65.cell? ⟨gb209, 1, none⟩ = some (.int .i64 x210001_2) ∧ w65.cell? ⟨gb209, 2, none⟩ = some (.bool x210002_2) := hS_
          refine norm_ (a' := ?_) ?_ ?_
          rotate_left
          ·simp only [putAll, Act.put, List.setIfInBounds_toArray, List.set_cons_zero, List.set_cons_succ]
           rfl
          refine one_ (i := 10) (N := none) D12m7ff rfl rfl (one_of HT_.out (by kernel_rfl)) (by decide) (fun K hK => ?_)
          have hs66 : w65.cell? ⟨gb219, 0, none⟩ = some (.int .i64 0) := (blk_cell BK219.out 0).trans rfl
          have hfs66 := blk_frozen BK219.out 0
          have hns66_0 := NB199_219.out
          have hns66_1 := NB209_219.out
          have hms66_0 := NB219_199.out
          have hms66_1 := NB219_209.out
          have hs67 : w65.cell? ⟨gb219, 1, none⟩ = some (.int .i64 0) := (blk_cell BK219.out 1).trans rfl
          have hfs67 := blk_frozen BK219.out 1
          have hns67_0 := NB199_219.out
          have hns67_1 := NB209_219.out
          have hms67_0 := NB219_199.out
          have hms67_1 := NB219_209.out
          have hs68 : w65.cell? ⟨gb219, 2, none⟩ = some (.bool false) := (blk_cell BK219.out 2).trans rfl
          have hfs68 := blk_frozen BK219.out 2
          have hns68_0 := NB199_219.out
          have hns68_1 := NB209_219.out
          have hms68_0 := NB219_199.out
          have hms68_1 := NB219_209.out
          refine skip_ (w1 := ?_) (by rfl) rfl ?_ ?_
          rotate_left
          ·go_simp
           rfl
          refine hK.out _ _ ⟨((cell_far (p := ⟨gb219, _, none⟩) NB199_219.out _).trans (((cell_far (p := ⟨gb219, _, none⟩) NB199_219.out _).trans (((cell_far (p := ⟨gb219, _, none⟩) NB199_219.out _).trans (hHeld.1)))))), ((cell_far (p := ⟨gb219, _, none⟩) NB199_219.out _).trans (((cell_far (p := ⟨gb219, _, none⟩) NB199_219.out _).trans (((cell_far (p := ⟨gb219, _, none⟩) NB199_219.out _).trans (hHeld.2.1)))))), ((cell_far (p := ⟨gb219, _, none⟩) NB199_219.out _).trans (((cell_far (p := ⟨gb219, _, none⟩) NB199_219.out _).trans (((cell_far (p := ⟨gb219, _, none⟩) NB199_219.out _).trans (hHeld.2.2.1)))))), ((cell_far (p := ⟨gb219, _, none⟩) NB199_219.out _).trans (((cell_far (p := ⟨gb219, _, none⟩) NB199_219.out _).trans (((cell_far (p := ⟨gb219, _, none⟩) NB199_219.out _).trans (hHeld.2.2.2.1)))))), ((cell_far (p := ⟨gb219, _, none⟩) NB199_219.out _).trans (((cell_far (p := ⟨gb219, _, none⟩) NB199_219.out _).trans (((cell_far (p := ⟨gb219, _, none⟩) NB199_219.out _).trans (hHeld.2.2.2.2.1)))))), ((cell_far (p := ⟨gb219, _, none⟩) NB209_219.out _).trans (((cell_far (p := ⟨gb219, _, none⟩) NB209_219.out _).trans (((cell_far (p := ⟨gb219, _, none⟩) NB209_219.out _).trans (hHeld.2.2.2.2.2.1)))))), ((cell_far (p := ⟨gb219, _, none⟩) NB209_219.out _).trans (((cell_far (p := ⟨gb219, _, none⟩) NB209_219.out _).trans (((cell_far (p := ⟨gb219, _, none⟩) NB209_219.out _).trans (hHeld.2.2.2.2.2.2.1)))))), ((cell_far (p := ⟨gb219, _, none⟩) NB209_219.out _).trans (((cell_far (p := ⟨gb219, _, none⟩) NB209_219.out _).trans (((cell_far (p := ⟨gb219, _, none⟩) NB209_219.out _).trans (hHeld.2.2.2.2.2.2.2))))))⟩ (fun hHeld => ?_)
          clear hK K
          refine pure_ (i := 11) (N := some 15) (v := ?_) (a' := ?_) D12mfff rfl rfl (any_of HT_.out (by kernel_rfl)) (fun _ _ _ h => h) (Or.inl ⟨by rfl, ?_⟩) ?_ ?_
          rotate_left; ·intro w'; go_simp; with_reducible rfl
          rotate_left; ·simp only [Act.put, sZ1, sZ2, sZ3, i64_w, i32_w]; rfl
          refine done_ (done_of HT_.out (by kernel_rfl)) ?_
          go_upto_region 15 with (fail)
          go_cut [113] (fun v113 wc => ∃ (kq : Nat) (x113_56 : Bool), v113 = .bool x113_56 ∧ Aside0 (law37_HoistStops.j3 kq x13_2 x113_56 t190 t214 t193 t194 t195 t196 t197 t215 t216 t217 = some r) ∧ Aside0 (kq ≤ kj44) ∧ Aside0 (wc.heap[gb199]? = some (.cells #[.int .i64 t193, .int .i64 t194, .int .i64 t195, .int .i64 t196, .int .i64 t197] 45 (0, 0))) ∧ Aside0 (wc.heap[gb209]? = some (.cells #[.int .i64 x210000_2, .int .i64 x210001_2, .bool x210002_2] 50 (0, 0))) ∧ Aside0 (wc.heap[gb219]? = some (.cells #[.int .i64 t215, .int .i64 t216, .bool t217] 50 (0, 0))) ∧ Aside0 (IsS59 w wc g192 t190 t214) ∧ Aside0 (Below w.heap.size w wc))
          case first =>
           have H := HC57.out
           clear HC57
           by_cases c69 : t218 = 0
           ·rw [if_pos c69] at H
            have c69b0 : (t218 == 0) = true := beq_iff_eq.mpr c69
            have c69b1 : (t218 != 0) = false := bne_eq_false_iff_eq.mpr c69
            clear c69
            (first | rw [c69b0] | (simp only [i64_w, i32_w]; rw [c69b0]) | skip)
            by_cases c70 : t217 = true
            ·subst c70
             have H1 : (law37_HoistStops.j3 kj44 x13_2 (decide ((mx t216 (wrap64 (-t216))) > (mx x210001_2 (wrap64 (-x210001_2))))) t190 t214 t193 t194 t195 t196 t197 t215 t216 true) = some r := by rw [if_pos rfl] at H; exact H
             clear H
             have H := H1
             clear H1
             obtain ⟨ji71, hji71⟩ : ∃ j_ : Int, (mx t216 (wrap64 (-t216))) = j_ := ⟨_, rfl⟩
             replace H : (law37_HoistStops.j3 kj44 x13_2 (decide ((ji71) > (mx x210001_2 (wrap64 (-x210001_2))))) t190 t214 t193 t194 t195 t196 t197 t215 t216 true) = some r := by first | (rw [hji71] at H; exact H) | (simp only [hji71] at H ⊢; exact H)
             have hji71_ : (if t216 < (wrap64 (-t216)) then (wrap64 (-t216)) else t216) = ji71 := hji71
             obtain ⟨ji72, hji72⟩ : ∃ j_ : Int, (mx x210001_2 (wrap64 (-x210001_2))) = j_ := ⟨_, rfl⟩
             replace H : (law37_HoistStops.j3 kj44 x13_2 (decide ((ji71) > (ji72))) t190 t214 t193 t194 t195 t196 t197 t215 t216 true) = some r := by first | (rw [hji72] at H; exact H) | (simp only [hji72] at H ⊢; exact H)
             have hji72_ : (if x210001_2 < (wrap64 (-x210001_2)) then (wrap64 (-x210001_2)) else x210001_2) = ji72 := hji72
             have H' := Aside0.mk H
             clear H
             have hnb73 := NB219_199.out
             have hnc73 := NB199_219.out
             have hnb74 := NB219_209.out
             have hnc74 := NB209_219.out
             have hnb75 := NB219_192.out
             have hnc75 := NB192_219.out
             have hcz76_0 : w65.cell? ⟨gb219, 0, none⟩ = some (.int .i64 0) := (blk_cell BK219.out 0).trans rfl
             have hcz76_1 : w65.cell? ⟨gb219, 1, none⟩ = some (.int .i64 0) := (blk_cell BK219.out 1).trans rfl
             have hcz76_2 : w65.cell? ⟨gb219, 2, none⟩ = some (.bool false) := (blk_cell BK219.out 2).trans rfl
             have hfz76_0 := blk_frozen BK219.out 0
             have hfz76_1 := blk_frozen BK219.out 1
             have hfz76_2 := blk_frozen BK219.out 2
             have hnb77 := NB209_199.out
             have hnc77 := NB199_209.out
             have hnb78 := NB209_192.out
             have hnc78 := NB192_209.out
             have hcz79_0 : w65.cell? ⟨gb209, 0, none⟩ = some (.int .i64 x210000_2) := (blk_cell BK209.out 0).trans rfl
             have hcz79_1 : w65.cell? ⟨gb209, 1, none⟩ = some (.int .i64 x210001_2) := (blk_cell BK209.out 1).trans rfl
             have hcz79_2 : w65.cell? ⟨gb209, 2, none⟩ = some (.bool x210002_2) := (blk_cell BK209.out 2).trans rfl
             have hfz79_0 := blk_frozen BK209.out 0
             have hfz79_1 := blk_frozen BK209.out 1
             have hfz79_2 := blk_frozen BK209.out 2
             go_wp2
             go_meet
             case rel => exact ⟨_, (decide ((ji71) > (ji72))), (by first | rfl | (simp; done) | (simp only [← hji71, ← hji72] <;> (first | rfl | simp)) | (simp [*]; done)), H', ⟨by have := HJ11.out; have := HK2.out; have := HJ44.out; first | omega | exact Nat.le_refl _⟩, ⟨by (with_reducible repeat (first | refine blk_drewN ?_ _ | refine blk_drew ?_ | refine blk_alloc ?_ _)); refine blk_far ?_ NB199_219.out _; (with_reducible repeat (first | refine blk_drewN ?_ _ | refine blk_drew ?_ | refine blk_alloc ?_ _)); refine blk_far ?_ NB199_219.out _; (with_reducible repeat (first | refine blk_drewN ?_ _ | refine blk_drew ?_ | refine blk_alloc ?_ _)); refine blk_far ?_ NB199_219.out _; (with_reducible repeat (first | refine blk_drewN ?_ _ | refine blk_drew ?_ | refine blk_alloc ?_ _)); exact BK199.out⟩, ⟨by (with_reducible repeat (first | refine blk_drewN ?_ _ | refine blk_drew ?_ | refine blk_alloc ?_ _)); refine blk_far ?_ NB209_219.out _; (with_reducible repeat (first | refine blk_drewN ?_ _ | refine blk_drew ?_ | refine blk_alloc ?_ _)); refine blk_far ?_ NB209_219.out _; (with_reducible repeat (first | refine blk_drewN ?_ _ | refine blk_drew ?_ | refine blk_alloc ?_ _)); refine blk_far ?_ NB209_219.out _; (with_reducible repeat (first | refine blk_drewN ?_ _ | refine blk_drew ?_ | refine blk_alloc ?_ _)); exact BK209.out⟩, ⟨by (with_reducible repeat (first | refine blk_drewN ?_ _ | refine blk_drew ?_ | refine blk_alloc ?_ _)); refine blk_put (cs := #[.int .i64 t215, .int .i64 t216, .bool false]) ?_ 2 _ rfl; (with_reducible repeat (first | refine blk_drewN ?_ _ | refine blk_drew ?_ | refine blk_alloc ?_ _)); refine blk_put (cs := #[.int .i64 t215, .int .i64 0, .bool false]) ?_ 1 _ rfl; (with_reducible repeat (first | refine blk_drewN ?_ _ | refine blk_drew ?_ | refine blk_alloc ?_ _)); refine blk_put (cs := #[.int .i64 0, .int .i64 0, .bool false]) ?_ 0 _ rfl; (with_reducible repeat (first | refine blk_drewN ?_ _ | refine blk_drew ?_ | refine blk_alloc ?_ _)); exact BK219.out⟩, ⟨by repeat (first | (with_reducible first | exact HI192.out | apply IsS59.alloc | apply IsS59.drewN | apply IsS59.drew | apply IsS59.set_1 | refine IsS59.far ?_ NB192_199.out _ | refine IsS59.far ?_ NB192_209.out _ | refine IsS59.far ?_ NB192_219.out _) | exact HI192.out)⟩, ⟨by repeat (first | (with_reducible first | exact HB.out | apply below_alloc | apply pw_below_drewN | apply below_drew1 | refine below_set ?_ (IsS59.ge HI192.out) | refine below_set ?_ GE199.out | refine below_set ?_ GE209.out | refine below_set ?_ GE219.out) | exact HB.out)⟩⟩
            ·replace c70 := Bool.eq_false_iff.mpr c70
             subst c70
             have H1 : (law37_HoistStops.j3 kj44 x13_2 true t190 t214 t193 t194 t195 t196 t197 t215 t216 false) = some r := by rw [if_neg (show ¬ (false = true) by decide)] at H; exact H
             clear H
             have H := H1
             clear H1
             have H' := Aside0.mk H
             clear H
             have hnb80 := NB219_199.out
             have hnc80 := NB199_219.out
             have hnb81 := NB219_209.out
             have hnc81 := NB209_219.out
             have hnb82 := NB219_192.out
             have hnc82 := NB192_219.out
             have hcz83_0 : w65.cell? ⟨gb219, 0, none⟩ = some (.int .i64 0) := (blk_cell BK219.out 0).trans rfl
             have hcz83_1 : w65.cell? ⟨gb219, 1, none⟩ = some (.int .i64 0) := (blk_cell BK219.out 1).trans rfl
             have hcz83_2 : w65.cell? ⟨gb219, 2, none⟩ = some (.bool false) := (blk_cell BK219.out 2).trans rfl
             have hfz83_0 := blk_frozen BK219.out 0
             have hfz83_1 := blk_frozen BK219.out 1
             have hfz83_2 := blk_frozen BK219.out 2
             go_wp2
             go_meet
             case rel => exact ⟨_, (true), (by first | rfl | (simp; done) | (simp [*]; done)), H', ⟨by have := HJ11.out; have := HK2.out; have := HJ44.out; first | omega | exact Nat.le_refl _⟩, ⟨by (with_reducible repeat (first | refine blk_drewN ?_ _ | refine blk_drew ?_ | refine blk_alloc ?_ _)); refine blk_far ?_ NB199_219.out _; (with_reducible repeat (first | refine blk_drewN ?_ _ | refine blk_drew ?_ | refine blk_alloc ?_ _)); refine blk_far ?_ NB199_219.out _; (with_reducible repeat (first | refine blk_drewN ?_ _ | refine blk_drew ?_ | refine blk_alloc ?_ _)); refine blk_far ?_ NB199_219.out _; (with_reducible repeat (first | refine blk_drewN ?_ _ | refine blk_drew ?_ | refine blk_alloc ?_ _)); exact BK199.out⟩, ⟨by (with_reducible repeat (first | refine blk_drewN ?_ _ | refine blk_drew ?_ | refine blk_alloc ?_ _)); refine blk_far ?_ NB209_219.out _; (with_reducible repeat (first | refine blk_drewN ?_ _ | refine blk_drew ?_ | refine blk_alloc ?_ _)); refine blk_far ?_ NB209_219.out _; (with_reducible repeat (first | refine blk_drewN ?_ _ | refine blk_drew ?_ | refine blk_alloc ?_ _)); refine blk_far ?_ NB209_219.out _; (with_reducible repeat (first | refine blk_drewN ?_ _ | refine blk_drew ?_ | refine blk_alloc ?_ _)); exact BK209.out⟩, ⟨by (with_reducible repeat (first | refine blk_drewN ?_ _ | refine blk_drew ?_ | refine blk_alloc ?_ _)); refine blk_put (cs := #[.int .i64 t215, .int .i64 t216, .bool false]) ?_ 2 _ rfl; (with_reducible repeat (first | refine blk_drewN ?_ _ | refine blk_drew ?_ | refine blk_alloc ?_ _)); refine blk_put (cs := #[.int .i64 t215, .int .i64 0, .bool false]) ?_ 1 _ rfl; (with_reducible repeat (first | refine blk_drewN ?_ _ | refine blk_drew ?_ | refine blk_alloc ?_ _)); refine blk_put (cs := #[.int .i64 0, .int .i64 0, .bool false]) ?_ 0 _ rfl; (with_reducible repeat (first | refine blk_drewN ?_ _ | refine blk_drew ?_ | refine blk_alloc ?_ _)); exact BK219.out⟩, ⟨by repeat (first | (with_reducible first | exact HI192.out | apply IsS59.alloc | apply IsS59.drewN | apply IsS59.drew | apply IsS59.set_1 | refine IsS59.far ?_ NB192_199.out _ | refine IsS59.far ?_ NB192_209.out _ | refine IsS59.far ?_ NB192_219.out _) | exact HI192.out)⟩, ⟨by repeat (first | (with_reducible first | exact HB.out | apply below_alloc | apply pw_below_drewN | apply below_drew1 | refine below_set ?_ (IsS59.ge HI192.out) | refine below_set ?_ GE199.out | refine below_set ?_ GE209.out | refine below_set ?_ GE219.out) | exact HB.out)⟩⟩
           ·rw [if_neg c69] at H
            have c69b0 : (t218 == 0) = false := beq_eq_false_iff_ne.mpr c69
            have c69b1 : (t218 != 0) = true := bne_iff_ne.mpr c69
            (first | rw [c69b0] | (simp only [i64_w, i32_w]; rw [c69b0]) | skip)
            have H' := Aside0.mk H
            clear H
            go_wp2
            go_meet
            case rel => exact ⟨_, (true), (by first | rfl | (simp; done) | (simp [*]; done)), H', ⟨by have := HJ11.out; have := HK2.out; have := HJ44.out; first | omega | exact Nat.le_refl _⟩, ⟨by (with_reducible repeat (first | refine blk_drewN ?_ _ | refine blk_drew ?_ | refine blk_alloc ?_ _)); refine blk_far ?_ NB199_219.out _; (with_reducible repeat (first | refine blk_drewN ?_ _ | refine blk_drew ?_ | refine blk_alloc ?_ _)); refine blk_far ?_ NB199_219.out _; (with_reducible repeat (first | refine blk_drewN ?_ _ | refine blk_drew ?_ | refine blk_alloc ?_ _)); refine blk_far ?_ NB199_219.out _; (with_reducible repeat (first | refine blk_drewN ?_ _ | refine blk_drew ?_ | refine blk_alloc ?_ _)); exact BK199.out⟩, ⟨by (with_reducible repeat (first | refine blk_drewN ?_ _ | refine blk_drew ?_ | refine blk_alloc ?_ _)); refine blk_far ?_ NB209_219.out _; (with_reducible repeat (first | refine blk_drewN ?_ _ | refine blk_drew ?_ | refine blk_alloc ?_ _)); refine blk_far ?_ NB209_219.out _; (with_reducible repeat (first | refine blk_drewN ?_ _ | refine blk_drew ?_ | refine blk_alloc ?_ _)); refine blk_far ?_ NB209_219.out _; (with_reducible repeat (first | refine blk_drewN ?_ _ | refine blk_drew ?_ | refine blk_alloc ?_ _)); exact BK209.out⟩, ⟨by (with_reducible repeat (first | refine blk_drewN ?_ _ | refine blk_drew ?_ | refine blk_alloc ?_ _)); refine blk_put (cs := #[.int .i64 t215, .int .i64 t216, .bool false]) ?_ 2 _ rfl; (with_reducible repeat (first | refine blk_drewN ?_ _ | refine blk_drew ?_ | refine blk_alloc ?_ _)); refine blk_put (cs := #[.int .i64 t215, .int .i64 0, .bool false]) ?_ 1 _ rfl; (with_reducible repeat (first | refine blk_drewN ?_ _ | refine blk_drew ?_ | refine blk_alloc ?_ _)); refine blk_put (cs := #[.int .i64 0, .int .i64 0, .bool false]) ?_ 0 _ rfl; (with_reducible repeat (first | refine blk_drewN ?_ _ | refine blk_drew ?_ | refine blk_alloc ?_ _)); exact BK219.out⟩, ⟨by repeat (first | (with_reducible first | exact HI192.out | apply IsS59.alloc | apply IsS59.drewN | apply IsS59.drew | apply IsS59.set_1 | refine IsS59.far ?_ NB192_199.out _ | refine IsS59.far ?_ NB192_209.out _ | refine IsS59.far ?_ NB192_219.out _) | exact HI192.out)⟩, ⟨by repeat (first | (with_reducible first | exact HB.out | apply below_alloc | apply pw_below_drewN | apply below_drew1 | refine below_set ?_ (IsS59.ge HI192.out) | refine below_set ?_ GE199.out | refine below_set ?_ GE209.out | refine below_set ?_ GE219.out) | exact HB.out)⟩⟩
          case rest =>
           clear HC57; (try clear c1); (try clear p2); (try clear c3); (try clear c6); (try clear p6); (try clear c7); (try clear c8); (try clear c16); (try clear c30); (try clear p64); (try clear c69); (try clear c69b0); (try clear c69b1); (try clear c70); (try clear c73); (try clear c74); (try clear c75); (try clear c77); (try clear c78); (try clear c80); (try clear c81); (try clear c82); (try clear hcz76_0); (try clear hcz76_1); (try clear hcz76_2); (try clear hcz79_0); (try clear hcz79_1); (try clear hcz79_2); (try clear hcz83_0); (try clear hcz83_1); (try clear hcz83_2); (try clear hfz76_0)
           (try clear hfz76_1); (try clear hfz76_2); (try clear hfz79_0); (try clear hfz79_1); (try clear hfz79_2); (try clear hfz83_0); (try clear hfz83_1); (try clear hfz83_2)
           obtain ⟨kq, x113_56, rfl, HA, HJ56, BK199, BK209, BK219, HI192, HB⟩ := hcut
           cases kq with
           | zero => exact absurd HA.out (by simp [law37_HoistStops.j3])
           | succ kj56 =>
            have H := HA.out
            clear HA
            simp only [law37_HoistStops.j3] at H
            by_cases c84 : x113_56 = true
            ·subst c84
             have H1 : (none) = some r := by rw [if_pos rfl] at H; exact H
             clear H
             have H := H1
             clear H1
             exact absurd H (by simp)
            ·replace c84 := Bool.eq_false_iff.mpr c84
             subst c84
             have H1 : (law37_HoistStops.l0 kj56 (wrap64 (x13_2 + 1)) t190 t214 t193 t194 t195 t196 t197 t215 t216 t217) = some r := by rw [if_neg (show ¬ (false = true) by decide)] at H; exact H
             clear H
             have H := H1
             clear H1
             have H' := Aside0.mk H
             clear H
             have hnb85 := NB219_199.out
             have hnc85 := NB199_219.out
             have hnb86 := NB219_209.out
             have hnc86 := NB209_219.out
             have hnb87 := NB219_192.out
             have hnc87 := NB192_219.out
             have hcz88_0 : wc.cell? ⟨gb219, 0, none⟩ = some (.int .i64 t215) := (blk_cell BK219.out 0).trans rfl
             have hcz88_1 : wc.cell? ⟨gb219, 1, none⟩ = some (.int .i64 t216) := (blk_cell BK219.out 1).trans rfl
             have hcz88_2 : wc.cell? ⟨gb219, 2, none⟩ = some (.bool t217) := (blk_cell BK219.out 2).trans rfl
             have hfz88_0 := blk_frozen BK219.out 0
             have hfz88_1 := blk_frozen BK219.out 1
             have hfz88_2 := blk_frozen BK219.out 2
             have hnb89 := NB209_199.out
             have hnc89 := NB199_209.out
             have hnb90 := NB209_192.out
             have hnc90 := NB192_209.out
             have hcz91_0 : wc.cell? ⟨gb209, 0, none⟩ = some (.int .i64 x210000_2) := (blk_cell BK209.out 0).trans rfl
             have hcz91_1 : wc.cell? ⟨gb209, 1, none⟩ = some (.int .i64 x210001_2) := (blk_cell BK209.out 1).trans rfl
             have hcz91_2 : wc.cell? ⟨gb209, 2, none⟩ = some (.bool x210002_2) := (blk_cell BK209.out 2).trans rfl
             have hfz91_0 := blk_frozen BK209.out 0
             have hfz91_1 := blk_frozen BK209.out 1
             have hfz91_2 := blk_frozen BK209.out 2
             go_wp2
             go_roundg kj56
             case measure => have := HJ11.out; have := HK2.out; have := HJ44.out; have := HJ56.out; omega
             case rel => exact ⟨(wrap64 (x13_2 + 1)), (t214), (t215), (t216), (t217), (by first | rfl | (simp; done) | (simp [*]; done)), H', ⟨by have := HJ11.out; have := HK2.out; have := HJ44.out; have := HJ56.out; omega⟩, ⟨by (with_reducible repeat (first | refine blk_drewN ?_ _ | refine blk_drew ?_ | refine blk_alloc ?_ _)); refine blk_far ?_ NB199_209.out _; (with_reducible repeat (first | refine blk_drewN ?_ _ | refine blk_drew ?_ | refine blk_alloc ?_ _)); refine blk_far ?_ NB199_209.out _; (with_reducible repeat (first | refine blk_drewN ?_ _ | refine blk_drew ?_ | refine blk_alloc ?_ _)); refine blk_far ?_ NB199_209.out _; (with_reducible repeat (first | refine blk_drewN ?_ _ | refine blk_drew ?_ | refine blk_alloc ?_ _)); exact BK199.out⟩, ⟨by (with_reducible repeat (first | refine blk_drewN ?_ _ | refine blk_drew ?_ | refine blk_alloc ?_ _)); refine blk_put (cs := #[.int .i64 t215, .int .i64 t216, .bool x210002_2]) ?_ 2 _ rfl; (with_reducible repeat (first | refine blk_drewN ?_ _ | refine blk_drew ?_ | refine blk_alloc ?_ _)); refine blk_put (cs := #[.int .i64 t215, .int .i64 x210001_2, .bool x210002_2]) ?_ 1 _ rfl; (with_reducible repeat (first | refine blk_drewN ?_ _ | refine blk_drew ?_ | refine blk_alloc ?_ _)); refine blk_put (cs := #[.int .i64 x210000_2, .int .i64 x210001_2, .bool x210002_2]) ?_ 0 _ rfl; (with_reducible repeat (first | refine blk_drewN ?_ _ | refine blk_drew ?_ | refine blk_alloc ?_ _)); exact BK209.out⟩, ⟨by repeat (first | (with_reducible first | exact HI192.out | apply IsS59.alloc | apply IsS59.drewN | apply IsS59.drew | apply IsS59.set_1 | refine IsS59.far ?_ NB192_199.out _ | refine IsS59.far ?_ NB192_209.out _ | refine IsS59.far ?_ NB192_219.out _) | exact HI192.out)⟩, ⟨by repeat (first | (with_reducible first | exact HB.out | apply below_alloc | apply pw_below_drewN | apply below_drew1 | refine below_set ?_ (IsS59.ge HI192.out) | refine below_set ?_ GE199.out | refine below_set ?_ GE209.out | refine below_set ?_ GE219.out) | exact HB.out)⟩⟩
         ·replace c54 := Bool.eq_false_iff.mpr c54
          subst c54
          have H1 : ((law37_awake.f).bind fun t220 => (if t220 = true then (if x210001_2 = 0 then (some true) else (if t195 = 0 then (none) else (some (decide ((wrap64 ((wrap64 (Int.tdiv (20000 : Int) t195)) + 1)) ≥ 300))))) else (none))) = some r := by rw [if_neg (show ¬ (false = true) by decide)] at H; exact H
          clear H
          have H := H1
          clear H1
          replace H := Option.bind_eq_some_iff.mp H
          obtain ⟨t220, A920, H⟩ := H
          replace H : (if t220 = true then (if x210001_2 = 0 then (some true) else (if t195 = 0 then (none) else (some (decide ((wrap64 ((wrap64 (Int.tdiv (20000 : Int) t195)) + 1)) ≥ 300))))) else (none)) = some r := H
          have A92 := Aside0.mk A920
          clear A920
          by_cases c93 : t220 = true
          ·subst c93
           have H1 : (if x210001_2 = 0 then (some true) else (if t195 = 0 then (none) else (some (decide ((wrap64 ((wrap64 (Int.tdiv (20000 : Int) t195)) + 1)) ≥ 300))))) = some r := by rw [if_pos rfl] at H; exact H
           clear H
           have H := H1
           clear H1
           by_cases c94 : x210001_2 = 0
           ·rw [if_pos c94] at H
            have c94b0 : (x210001_2 == 0) = true := beq_iff_eq.mpr c94
            have c94b1 : (x210001_2 != 0) = false := bne_eq_false_iff_eq.mpr c94
            clear c94
            obtain rfl := Option.some.inj H
            go_wp2_with (first | ((with_reducible refine gate_callee (f := 25) rfl ?_); refine goesL_ (some 115) rfl rfl Try.func25 (by kernel_rfl) rfl #[] rfl (by (try simp only [List.map_toArray, List.map_cons, List.map_nil]); first | done | rfl | (simp only [List.length_drop, List.length_take]; rfl)) ?_; (with_reducible refine (law37_awake.calls  true _ A92.out).mono ?_); rintro e w95 ⟨rfl, hb⟩; refine ⟨_, rfl, ?_⟩; have n0_ := Aside0.mk (blk_below (g := gb199) (o := .cells #[.int .i64 t193, .int .i64 t194, .int .i64 t195, .int .i64 t196, .int .i64 t197] 45 (0, 0)) (by (with_reducible repeat (first | refine blk_drewN ?_ _ | refine blk_drew ?_ | refine blk_alloc ?_ _)); exact BK199.out) hb); have n1_ := Aside0.mk (blk_below (g := gb209) (o := .cells #[.int .i64 x210000_2, .int .i64 x210001_2, .bool x210002_2] 50 (0, 0)) (by (with_reducible repeat (first | refine blk_drewN ?_ _ | refine blk_drew ?_ | refine blk_alloc ?_ _)); exact BK209.out) hb); have n2_ := Aside0.mk (IsS59.below (by repeat (first | (with_reducible first | exact HI192.out | apply IsS59.alloc | apply IsS59.drewN | apply IsS59.drew | apply IsS59.set_1 | refine IsS59.far ?_ NB192_199.out _ | refine IsS59.far ?_ NB192_209.out _) | exact HI192.out)) hb); have n3_ := Aside0.mk (below_step (by repeat (first | (with_reducible first | exact HB.out | apply below_alloc | apply pw_below_drewN | apply below_drew1 | refine below_set ?_ (IsS59.ge HI192.out) | refine below_set ?_ GE199.out | refine below_set ?_ GE209.out) | exact HB.out)) hb); clear BK199; clear BK209; clear HI192; clear HB; have BK199 := n0_; have BK209 := n1_; have HI192 := n2_; have HB := n3_; clear n0_ n1_ n2_ n3_; (try clear hb); (try clear hb2); (try clear hk); (try clear hi); have hnb96 := NB209_199.out; have hnc96 := NB199_209.out; have hnb97 := NB209_192.out; have hnc97 := NB192_209.out; have hcz98_0 : w95.cell? ⟨gb209, 0, none⟩ = some (.int .i64 x210000_2) := (blk_cell BK209.out 0).trans rfl; have hcz98_1 : w95.cell? ⟨gb209, 1, none⟩ = some (.int .i64 x210001_2) := (blk_cell BK209.out 1).trans rfl; have hcz98_2 : w95.cell? ⟨gb209, 2, none⟩ = some (.bool x210002_2) := (blk_cell BK209.out 2).trans rfl; have hfz98_0 := blk_frozen BK209.out 0; have hfz98_1 := blk_frozen BK209.out 1; have hfz98_2 := blk_frozen BK209.out 2))
            go_ret
            exact ⟨by first | rfl | (simp [errW_none, errW_some] <;> rfl) | (simp only [← hji10]; first | rfl | (simp [errW_none, errW_some] <;> rfl)) | (simp [*, errW_none, errW_some] <;> rfl), by repeat (first | (with_reducible first | exact HB.out | apply below_alloc | apply pw_below_drewN | apply below_drew1 | refine below_set ?_ (IsS59.ge HI192.out) | refine below_set ?_ GE199.out | refine below_set ?_ GE209.out) | exact HB.out)⟩
           ·rw [if_neg c94] at H
            have c94b0 : (x210001_2 == 0) = false := beq_eq_false_iff_ne.mpr c94
            have c94b1 : (x210001_2 != 0) = true := bne_iff_ne.mpr c94
            by_cases c99 : t195 = 0
            ·rw [if_pos c99] at H
             exact absurd H (by simp)
            ·rw [if_neg c99] at H
             have c99b0 : (t195 == 0) = false := beq_eq_false_iff_ne.mpr c99
             have c99b1 : (t195 != 0) = true := bne_iff_ne.mpr c99
             obtain rfl := Option.some.inj H
             go_wp2_with (first | ((with_reducible refine gate_callee (f := 25) rfl ?_); refine goesL_ (some 115) rfl rfl Try.func25 (by kernel_rfl) rfl #[] rfl (by (try simp only [List.map_toArray, List.map_cons, List.map_nil]); first | done | rfl | (simp only [List.length_drop, List.length_take]; rfl)) ?_; (with_reducible refine (law37_awake.calls  true _ A92.out).mono ?_); rintro e w100 ⟨rfl, hb⟩; refine ⟨_, rfl, ?_⟩; have n0_ := Aside0.mk (blk_below (g := gb199) (o := .cells #[.int .i64 t193, .int .i64 t194, .int .i64 t195, .int .i64 t196, .int .i64 t197] 45 (0, 0)) (by (with_reducible repeat (first | refine blk_drewN ?_ _ | refine blk_drew ?_ | refine blk_alloc ?_ _)); exact BK199.out) hb); have n1_ := Aside0.mk (blk_below (g := gb209) (o := .cells #[.int .i64 x210000_2, .int .i64 x210001_2, .bool x210002_2] 50 (0, 0)) (by (with_reducible repeat (first | refine blk_drewN ?_ _ | refine blk_drew ?_ | refine blk_alloc ?_ _)); exact BK209.out) hb); have n2_ := Aside0.mk (IsS59.below (by repeat (first | (with_reducible first | exact HI192.out | apply IsS59.alloc | apply IsS59.drewN | apply IsS59.drew | apply IsS59.set_1 | refine IsS59.far ?_ NB192_199.out _ | refine IsS59.far ?_ NB192_209.out _) | exact HI192.out)) hb); have n3_ := Aside0.mk (below_step (by repeat (first | (with_reducible first | exact HB.out | apply below_alloc | apply pw_below_drewN | apply below_drew1 | refine below_set ?_ (IsS59.ge HI192.out) | refine below_set ?_ GE199.out | refine below_set ?_ GE209.out) | exact HB.out)) hb); clear BK199; clear BK209; clear HI192; clear HB; have BK199 := n0_; have BK209 := n1_; have HI192 := n2_; have HB := n3_; clear n0_ n1_ n2_ n3_; (try clear hb); (try clear hb2); (try clear hk); (try clear hi); have hnb101 := NB209_199.out; have hnc101 := NB199_209.out; have hnb102 := NB209_192.out; have hnc102 := NB192_209.out; have hcz103_0 : w100.cell? ⟨gb209, 0, none⟩ = some (.int .i64 x210000_2) := (blk_cell BK209.out 0).trans rfl; have hcz103_1 : w100.cell? ⟨gb209, 1, none⟩ = some (.int .i64 x210001_2) := (blk_cell BK209.out 1).trans rfl; have hcz103_2 : w100.cell? ⟨gb209, 2, none⟩ = some (.bool x210002_2) := (blk_cell BK209.out 2).trans rfl; have hfz103_0 := blk_frozen BK209.out 0; have hfz103_1 := blk_frozen BK209.out 1; have hfz103_2 := blk_frozen BK209.out 2; have hnb104 := NB199_192.out; have hnc104 := NB192_199.out; have hcz105_0 : w100.cell? ⟨gb199, 0, none⟩ = some (.int .i64 t193) := (blk_cell BK199.out 0).trans rfl; have hcz105_1 : w100.cell? ⟨gb199, 1, none⟩ = some (.int .i64 t194) := (blk_cell BK199.out 1).trans rfl; have hcz105_2 : w100.cell? ⟨gb199, 2, none⟩ = some (.int .i64 t195) := (blk_cell BK199.out 2).trans rfl; have hcz105_3 : w100.cell? ⟨gb199, 3, none⟩ = some (.int .i64 t196) := (blk_cell BK199.out 3).trans rfl; have hcz105_4 : w100.cell? ⟨gb199, 4, none⟩ = some (.int .i64 t197) := (blk_cell BK199.out 4).trans rfl; have hfz105_0 := blk_frozen BK199.out 0; have hfz105_1 := blk_frozen BK199.out 1; have hfz105_2 := blk_frozen BK199.out 2; have hfz105_3 := blk_frozen BK199.out 3; have hfz105_4 := blk_frozen BK199.out 4))
             go_ret
             exact ⟨by first | rfl | (simp [errW_none, errW_some] <;> rfl) | (simp only [← hji10]; first | rfl | (simp [errW_none, errW_some] <;> rfl)) | (simp [*, errW_none, errW_some] <;> rfl), by repeat (first | (with_reducible first | exact HB.out | apply below_alloc | apply pw_below_drewN | apply below_drew1 | refine below_set ?_ (IsS59.ge HI192.out) | refine below_set ?_ GE199.out | refine below_set ?_ GE209.out) | exact HB.out)⟩
          ·replace c93 := Bool.eq_false_iff.mpr c93
           subst c93
           have H1 : (none) = some r := by rw [if_neg (show ¬ (false = true) by decide)] at H; exact H
           clear H
           have H := H1
           clear H1
           exact absurd H (by simp)
 ·replace c5 := Bool.eq_false_iff.mpr c5
  subst c5
  have H1 : ((law37_awake.f).bind fun t189 => (some t189)) = some r := by rw [if_neg (show ¬ (false = true) by decide)] at H; exact H
  clear H
  have H := H1
  clear H1
  replace H := Option.bind_eq_some_iff.mp H
  obtain ⟨t189, A1060, H⟩ := H
  replace H : (some t189) = some r := H
  have A106 := Aside0.mk A1060
  clear A1060
  obtain rfl := Option.some.inj H
  go_enter Try.func7, Try.ntmps7
  go_wp2_with (first | ((with_reducible refine gate_callee (f := 14) rfl ?_); refine goesL_ (some 17) rfl rfl Try.func14 (by kernel_rfl) rfl #[.slice A0 l0.length c0] rfl (by (try simp only [List.map_toArray, List.map_cons, List.map_nil]); first | done | rfl | (simp only [List.length_drop, List.length_take]; rfl)) ?_; (with_reducible refine (made_Light.calls _ _ l0 false _ ?side1 ?side2 A4.out).mono ?_); (case side1 => repeat (first | exact HR0.out | (with_reducible refine Kd.C_alloc ?_ _) | (with_reducible refine Kd.C_drewN ?_ _) | (with_reducible refine Kd.C_drew ?_))); (case side2 => exact HC0.out); rintro e w' ⟨rfl, ⟨nd, rfl⟩⟩; refine ⟨_, rfl, ?_⟩) | ((with_reducible refine gate_callee (f := 25) rfl ?_); refine goesL_ (some 19) rfl rfl Try.func25 (by kernel_rfl) rfl #[] rfl (by (try simp only [List.map_toArray, List.map_cons, List.map_nil]); first | done | rfl | (simp only [List.length_drop, List.length_take]; rfl)) ?_; (with_reducible refine (law37_awake.calls  t189 _ A106.out).mono ?_); rintro e w107 ⟨rfl, hb⟩; refine ⟨_, rfl, ?_⟩; have n0_ := Aside0.mk (below_step (by repeat (first | (with_reducible first | exact HB.out | apply below_alloc | apply pw_below_drewN | apply below_drew1) | exact HB.out)) hb); clear HB; have HB := n0_; clear n0_; (try clear hb); (try clear hb2); (try clear hk); (try clear hi)))
  go_ret
  exact ⟨by first | rfl | (simp [errW_none, errW_some] <;> rfl) | (simp [*, errW_none, errW_some] <;> rfl), by repeat (first | (with_reducible first | exact HB.out | apply below_alloc | apply pw_below_drewN | apply below_drew1) | exact HB.out)⟩

/-- THE ONE PURE STATEMENT of law37_HoistStops: yours. -/
def law37_HoistStops.Pure : Prop := ∀ (l0 : List Int) (a1 : Int) (a2 : Int), l0.length ≤ maxLen → l0.length * 8 ≤ 140737488351232 → (∀ x ∈ l0, (Lit.int .i64 x).wf = true) → (Lit.int .i64 a1).wf = true → (Lit.int .i64 a2).wf = true → ∃ k, law37_HoistStops.f k l0 a1 a2 = some true
theorem law37_HoistStops.walk (P : law37_HoistStops.Pure) (a0 : Option Addr) (len0 cap0 : Nat) (z0 : List Int) (a1 : Int) (a2 : Int) (w : World) (w0 : (a0 = none ∧ len0 = 0 ∧ cap0 = 0 ∧ z0 = []) ∨ ∃ x, a0 = some x ∧ len0 ≤ cap0 ∧ cap0 ≤ maxLen ∧ z0.length = cap0 ∧ (∀ i, i < z0.length → w.cell? (x.add i) = some (.int .i64 (z0.getD i 0))) ∧ ∀ n ∈ z0, (Lit.int .i64 n).wf = true) (y0 : len0 * 8 ≤ 140737488351232) (w1 : (Lit.int .i64 a1).wf = true) (w2 : (Lit.int .i64 a2).wf = true) :
  Calls Try.prog 7 #[.slice a0 len0 cap0, .int .i64 a1, .int .i64 a2] w fun e w' => e = .returned (.bool true) ∧ Below w.heap.size w w' := by
 obtain ⟨l0, rfl, hr0, hm0, hw0, hc0⟩ := ReadsInt.ofRowC w0
 obtain ⟨k, h⟩ := P l0 a1 a2 hm0 y0 hw0 w1 w2
 refine (law37_HoistStops.calls k _ _ l0 a1 a2 true w (Kd.C_of_reads (d := (0 : Int)) (h1 := fun _ => rfl) hr0) hc0 h).mono ?_
 rintro e w' ⟨rfl, hd⟩
 exact ⟨rfl, hd⟩

end Go.Proofs.Ytcebojamjllmjaa.PHoist
