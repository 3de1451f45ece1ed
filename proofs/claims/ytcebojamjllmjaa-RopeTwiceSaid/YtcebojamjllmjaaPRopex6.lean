-- written by wip/myprint.py (the kit's print over hand-proved contracts)
import Derived.Test.YtcebojamjllmjaaPRopex0
import Derived.Test.YtcebojamjllmjaaPRopex1
import Derived.Test.YtcebojamjllmjaaPRopex2
import Derived.Test.YtcebojamjllmjaaPRopex3
import Derived.Test.YtcebojamjllmjaaHRopeG
namespace Go.Proofs.Ytcebojamjllmjaa.PRope
open Go.RowKit Go.Proofs.YtcebojamjllmjaaW.PrintWords Go.Proofs.YtcebojamjllmjaaW.PrintLast Go.Proofs.YtcebojamjllmjaaW.PrintMore
attribute [local go_sem] max2_int min2_int max_two min_two max_three min_three max_four min_four   -- for this text's walks alone
set_option linter.unusedVariables false
set_option linter.unusedSimpArgs false

open Go.Proofs.Ytcebojamjllmjaa.Hand
attribute [local go_sem high] eqA25
/-! ### law38_RopeTwice: function 6 -/
mutual
def law38_RopeTwice.l0 : Nat → Int → Int → List Int → Int → Int → Int → Int → Int → Int → Bool → Option (Bool)
 | 0, _, _, _, _, _, _, _, _, _, _ => none
 | k + 1, x6, x7, x281000, x281001, x287000, x287001, x287002, x288000, x288001, x288002 => if x7 > 0 then ((law38_force.f x281000 x281001).bind fun bt290 => ((made_Dice_One.f x281000 bt290.2.2 2).bind fun bt293 => ((made_Dice_Of.f x281000 bt293.2 (([1, 0, 4, 11] : List Int))).bind fun bt299 => ((rope_Tick.f x287000 x287001 x287002 x288000 x288001 x288002 bt290.1 bt290.2.1 bt293.1 (wrap64 (x6 + bt299.1))).bind fun bt301 => ((rope_Tick.f x287000 x287001 x287002 bt301.1 bt301.2.1 bt301.2.2.1 bt290.1 bt290.2.1 bt293.1 (wrap64 (x6 + bt299.1))).bind fun bt306 => (if bt301.2.2.2 = 0 then (if bt306.2.2.2 = 0 then (if (!(bt301.1 == bt306.1) || (!(bt301.2.1 == bt306.2.1) || (!(bt301.2.2.1 == bt306.2.2.1)))) = true then (none) else ((rope_Slack.f x287000 x287001 x287002 bt301.1 bt301.2.1 bt301.2.2.1 (wrap64 ((wrap64 (x6 + bt299.1)) + 7))).bind fun t311 => (if t311 = 0 then (if x288000 ≥ 0 then (if bt301.1 ≥ 0 then (law38_RopeTwice.j1 k (wrap64 (x6 + bt299.1)) x7 (bt301.1 != x288000) x281000 bt299.2 x287000 x287001 x287002 bt301.1 bt301.2.1 bt301.2.2.1) else (law38_RopeTwice.j1 k (wrap64 (x6 + bt299.1)) x7 false x281000 bt299.2 x287000 x287001 x287002 bt301.1 bt301.2.1 bt301.2.2.1)) else (law38_RopeTwice.j1 k (wrap64 (x6 + bt299.1)) x7 false x281000 bt299.2 x287000 x287001 x287002 bt301.1 bt301.2.1 bt301.2.2.1)) else ((rope_Slack.f x287000 x287001 x287002 bt301.1 bt301.2.1 bt301.2.2.1 (wrap64 ((wrap64 (x6 + bt299.1)) + 7))).bind fun t311 => ((rope_Slack.f x287000 x287001 x287002 bt301.1 bt301.2.1 bt301.2.2.1 (wrap64 (x6 + bt299.1))).bind fun t313 => (if t311 = (wrap64 (t313 + 7)) then (if x288000 ≥ 0 then (if bt301.1 ≥ 0 then (law38_RopeTwice.j1 k (wrap64 (x6 + bt299.1)) x7 (bt301.1 != x288000) x281000 bt299.2 x287000 x287001 x287002 bt301.1 bt301.2.1 bt301.2.2.1) else (law38_RopeTwice.j1 k (wrap64 (x6 + bt299.1)) x7 false x281000 bt299.2 x287000 x287001 x287002 bt301.1 bt301.2.1 bt301.2.2.1)) else (law38_RopeTwice.j1 k (wrap64 (x6 + bt299.1)) x7 false x281000 bt299.2 x287000 x287001 x287002 bt301.1 bt301.2.1 bt301.2.2.1)) else (none))))))) else (none)) else (none))))))) else ((law38_awake.f).bind fun t314 => (some t314))
def law38_RopeTwice.j1 : Nat → Int → Int → Bool → List Int → Int → Int → Int → Int → Int → Int → Bool → Option (Bool)
 | 0, _, _, _, _, _, _, _, _, _, _, _ => none
 | k + 1, x6, x7, x106, x281000, x281001, x287000, x287001, x287002, x306000, x306001, x306002 => if x106 = true then (none) else (law38_RopeTwice.l0 k x6 (wrap64 (x7 - 1)) x281000 x281001 x287000 x287001 x287002 x306000 x306001 x306002)
end
def law38_RopeTwice.f (k : Nat) (l0 : List Int) : Option (Bool) := (made_Light.f l0).bind fun t276 => (if t276 = true then ((made_Roll.f l0).bind fun bt278 => ((made_Dice_Of.f bt278.1 bt278.2 (([3, 0, 10] : List Int))).bind fun bt284 => ((made_Dice_Next.f bt278.1 bt284.2 20).bind fun bt288 => (law38_RopeTwice.l0 k 0 bt288.1 bt278.1 bt288.2 100 900 bt284.1 (-1) 0 false)))) else ((law38_awake.f).bind fun t277 => (some t277)))
theorem law38_RopeTwice.mono_l : ∀ k, (∀ y0 y1 y2 y3 y4 y5 y6 y7 y8 y9, LeO (law38_RopeTwice.l0 k y0 y1 y2 y3 y4 y5 y6 y7 y8 y9) (law38_RopeTwice.l0 (k + 1) y0 y1 y2 y3 y4 y5 y6 y7 y8 y9)) ∧ (∀ y0 y1 y2 y3 y4 y5 y6 y7 y8 y9 y10, LeO (law38_RopeTwice.j1 k y0 y1 y2 y3 y4 y5 y6 y7 y8 y9 y10) (law38_RopeTwice.j1 (k + 1) y0 y1 y2 y3 y4 y5 y6 y7 y8 y9 y10))
 | 0 => ⟨fun _ _ _ _ _ _ _ _ _ _ r h => by simp [law38_RopeTwice.l0] at h, fun _ _ _ _ _ _ _ _ _ _ _ r h => by simp [law38_RopeTwice.j1] at h⟩
 | k + 1 => by
  obtain ⟨ih0, ih1⟩ := law38_RopeTwice.mono_l k
  refine ⟨?_, ?_⟩
  ·intro y0 y1 y2 y3 y4 y5 y6 y7 y8 y9
   unfold law38_RopeTwice.l0
   repeat' first
   | (with_reducible exact ih0 _ _ _ _ _ _ _ _ _ _)
   | (with_reducible exact ih1 _ _ _ _ _ _ _ _ _ _ _)
   | (with_reducible exact LeO.refl _)
   | (with_reducible exact LeO.none _)
   | (with_reducible refine LeO.ite ?_ ?_)
   | (with_reducible refine LeO.bind ?_ (fun _ => ?_))
   | exact ih0 _ _ _ _ _ _ _ _ _ _
   | exact ih1 _ _ _ _ _ _ _ _ _ _ _
   | exact LeO.none _
   | refine LeO.ite ?_ ?_
   | refine LeO.bind ?_ (fun _ => ?_)
  ·intro y0 y1 y2 y3 y4 y5 y6 y7 y8 y9 y10
   unfold law38_RopeTwice.j1
   repeat' first
   | (with_reducible exact ih0 _ _ _ _ _ _ _ _ _ _)
   | (with_reducible exact ih1 _ _ _ _ _ _ _ _ _ _ _)
   | (with_reducible exact LeO.refl _)
   | (with_reducible exact LeO.none _)
   | (with_reducible refine LeO.ite ?_ ?_)
   | (with_reducible refine LeO.bind ?_ (fun _ => ?_))
   | exact ih0 _ _ _ _ _ _ _ _ _ _
   | exact ih1 _ _ _ _ _ _ _ _ _ _ _
   | exact LeO.none _
   | refine LeO.ite ?_ ?_
   | refine LeO.bind ?_ (fun _ => ?_)
theorem law38_RopeTwice.mono : ∀ a0 k, LeO (law38_RopeTwice.f k a0) (law38_RopeTwice.f (k + 1) a0) := by
 intro a0 k
 obtain ⟨ih0, ih1⟩ := law38_RopeTwice.mono_l k
 unfold law38_RopeTwice.f
 repeat' first
   | (with_reducible exact ih0 _ _ _ _ _ _ _ _ _ _)
   | (with_reducible exact ih1 _ _ _ _ _ _ _ _ _ _ _)
   | (with_reducible exact LeO.refl _)
   | (with_reducible exact LeO.none _)
   | (with_reducible refine LeO.ite ?_ ?_)
   | (with_reducible refine LeO.bind ?_ (fun _ => ?_))
   | exact ih0 _ _ _ _ _ _ _ _ _ _
   | exact ih1 _ _ _ _ _ _ _ _ _ _ _
   | exact LeO.none _
   | refine LeO.ite ?_ ?_
   | refine LeO.bind ?_ (fun _ => ?_)
def law38_RopeTwice.T13 : Bool × List (List Nat × List Nat) := (true, [([], []), ([0], [0]), ([1], [1]), ([2], [2]), ([3, 2], [2, 3]), ([2, 4], [2, 4]), ([5, 2], [5]), ([6], [6]), ([6], [6]), ([7, 8, 6], [6, 7, 8]), ([6, 9], [6, 9]), ([10, 6], [10]), ([11], [11]), ([11], [11]), ([11], [11]), ([14, 11], [11, 14]), ([12, 13, 15, 11, 11], [11, 12, 13, 15]), ([16, 11], [11, 16]), ([17, 16, 11], [11, 17]), ([18], [18]), ([18], [18]), ([18], [18]), ([21, 18], [18, 21]), ([19, 20, 22, 18, 18], [18, 19, 20, 22]), ([18], [18]), ([18], [18]), ([18], [18]), ([24, 25, 26, 23, 18], [18, 24, 25, 26]), ([27, 18], [18, 27]), ([23, 28, 18], [18, 23, 28]), ([18, 29, 11], [11, 18, 29]), ([11, 30], [11, 30]), ([31, 27], [31]), ([32], [32]), ([33, 32], [32, 33]), ([34, 32], [32, 34]), ([35, 32, 32], [32, 35]), ([36], [36]), ([37, 36], [36, 37]), ([38, 36], [36, 38]), ([36, 39, 32], [32, 36, 39]), ([40, 36, 32], [32, 40]), ([41], [41]), ([42, 41], [41, 42]), ([41], [41]), ([44, 41], [41, 44]), ([43, 45, 41], [41, 43, 45]), ([41, 46, 32], [32, 41, 46]), ([32, 47], [32, 47])])
def law38_RopeTwice.B13 : List Nat := [0, 1, 3, 7, 15, 31, 63, 127, 127, 511, 1023, 2047, 4095, 4095, 4095, 20479, 65535, 131071, 262143, 524287, 524287, 524287, 2621439, 8388607, 524287, 524287, 524287, 134217727, 268435455, 536870911, 1073741823, 2147483647, 4294967295, 8589934591, 17179869183, 34359738367, 68719476735, 137438953471, 274877906943, 549755813887, 1099511627775, 2199023255551, 4398046511103, 8796093022207, 4398046511103, 21990232555519, 70368744177663, 140737488355327, 281474976710655]
theorem law38_RopeTwice.tab13 : rtab .any (opsOf Try.f6 13) = law38_RopeTwice.T13 := by kernel_rfl
theorem law38_RopeTwice.bits13 : waitsOk law38_RopeTwice.T13.2 law38_RopeTwice.B13 = true := by kernel_rfl
set_option maxHeartbeats 8000000 in
set_option maxRecDepth 100000 in
theorem law38_RopeTwice.calls (k : Nat) (A0 : Option Addr) (c0 : Nat) (l0 : List Int) (r : Bool) (w : World) (hr0 : Kd.C (Kd.int .i64) w A0 l0.length l0) (hc0 : l0.length ≤ c0) (h : law38_RopeTwice.f k l0 = some r) :
  Calls Try.prog 6 #[.slice A0 l0.length c0] w fun e w' => e = .returned (.bool r) ∧ Below w.heap.size w w' := by
 have hu23 := Try.underlying23
 have hu25 := Try.underlying25
 have hu27 := Try.underlying27
 have HR0 := Aside0.mk hr0
 have HC0 := Aside0.mk hc0
 clear hr0 hc0
 have HB := Aside0.mk (Below.refl w.heap.size w)
 have H : ((made_Light.f l0).bind fun t276 => (if t276 = true then ((made_Roll.f l0).bind fun bt278 => ((made_Dice_Of.f bt278.1 bt278.2 (([3, 0, 10] : List Int))).bind fun bt284 => ((made_Dice_Next.f bt278.1 bt284.2 20).bind fun bt288 => (law38_RopeTwice.l0 k 0 bt288.1 bt278.1 bt288.2 100 900 bt284.1 (-1) 0 false)))) else ((law38_awake.f).bind fun t277 => (some t277)))) = some r := h
 clear h
 replace H := Option.bind_eq_some_iff.mp H
 obtain ⟨t276, A20, H⟩ := H
 replace H : (if t276 = true then ((made_Roll.f l0).bind fun bt278 => ((made_Dice_Of.f bt278.1 bt278.2 (([3, 0, 10] : List Int))).bind fun bt284 => ((made_Dice_Next.f bt278.1 bt284.2 20).bind fun bt288 => (law38_RopeTwice.l0 k 0 bt288.1 bt278.1 bt288.2 100 900 bt284.1 (-1) 0 false)))) else ((law38_awake.f).bind fun t277 => (some t277))) = some r := H
 have A2 := Aside0.mk A20
 clear A20
 by_cases c3 : t276 = true
 ·subst c3
  have H1 : ((made_Roll.f l0).bind fun bt278 => ((made_Dice_Of.f bt278.1 bt278.2 (([3, 0, 10] : List Int))).bind fun bt284 => ((made_Dice_Next.f bt278.1 bt284.2 20).bind fun bt288 => (law38_RopeTwice.l0 k 0 bt288.1 bt278.1 bt288.2 100 900 bt284.1 (-1) 0 false)))) = some r := by rw [if_pos rfl] at H; exact H
  clear H
  have H := H1
  clear H1
  replace H := Option.bind_eq_some_iff.mp H
  obtain ⟨⟨t278, t279⟩, A40, H⟩ := H
  replace H : ((made_Dice_Of.f t278 t279 (([3, 0, 10] : List Int))).bind fun bt284 => ((made_Dice_Next.f t278 bt284.2 20).bind fun bt288 => (law38_RopeTwice.l0 k 0 bt288.1 t278 bt288.2 100 900 bt284.1 (-1) 0 false))) = some r := H
  have A4 := Aside0.mk A40
  clear A40
  obtain ⟨y281, hy281⟩ : ∃ y_ : List Int, y_ = (([3, 0, 10] : List Int)) := ⟨_, rfl⟩
  replace H : ((made_Dice_Of.f t278 t279 y281).bind fun bt284 => ((made_Dice_Next.f t278 bt284.2 20).bind fun bt288 => (law38_RopeTwice.l0 k 0 bt288.1 t278 bt288.2 100 900 bt284.1 (-1) 0 false))) = some r := by first | (rw [hy281]; with_reducible exact H) | (have H2_ := (Option.bind_some _ _).symm.trans H; rw [hy281]; with_reducible exact H2_) | (have H2_ := (Option.bind_some _ _).symm.trans H; with_reducible exact H2_) | with_reducible exact H | (rw [hy281]; exact H) | exact H
  have Ny281 := Aside0.mk hy281
  clear hy281
  replace H := Option.bind_eq_some_iff.mp H
  obtain ⟨⟨t284, t285⟩, A50, H⟩ := H
  replace H : ((made_Dice_Next.f t278 t285 20).bind fun bt288 => (law38_RopeTwice.l0 k 0 bt288.1 t278 bt288.2 100 900 t284 (-1) 0 false)) = some r := H
  have A5 := Aside0.mk A50
  clear A50
  replace H := Option.bind_eq_some_iff.mp H
  obtain ⟨⟨t288, t289⟩, A60, H⟩ := H
  replace H : (law38_RopeTwice.l0 k 0 t288 t278 t289 100 900 t284 (-1) 0 false) = some r := H
  have A6 := Aside0.mk A60
  clear A60
  have H' := Aside0.mk H
  clear H
  go_enter Try.func6, Try.ntmps6
  go_wp2_with (first | ((with_reducible refine gate_callee (f := 14) rfl ?_); refine goesL_ (some 15) rfl rfl Try.func14 (by kernel_rfl) rfl #[.slice A0 l0.length c0] rfl (by (try simp only [List.map_toArray, List.map_cons, List.map_nil]); first | done | rfl | (simp only [List.length_drop, List.length_take]; rfl)) ?_; (with_reducible refine (made_Light.calls _ _ l0 true _ ?side1 ?side2 A2.out).mono ?_); (case side1 => repeat (first | exact HR0.out | (with_reducible refine Kd.C_alloc ?_ _) | (with_reducible refine Kd.C_drewN ?_ _) | (with_reducible refine Kd.C_drew ?_))); (case side2 => exact HC0.out); rintro e w' ⟨rfl, ⟨nd, rfl⟩⟩; refine ⟨_, rfl, ?_⟩) | ((with_reducible refine gate_callee (f := 15) rfl ?_); refine goesL_ (some 19) rfl rfl Try.func15 (by kernel_rfl) rfl #[.slice A0 l0.length c0] rfl (by (try simp only [List.map_toArray, List.map_cons, List.map_nil]); first | done | rfl | (simp only [List.length_drop, List.length_take]; rfl)) ?_; (with_reducible refine (made_Roll.calls _ _ l0 t278 t279 w _ ?side1 ?side2 ?side3 A4.out).mono ?_); (case side1 => repeat (first | (with_reducible first | exact HB.out | apply below_alloc | apply pw_below_drewN | apply below_drew1) | exact HB.out)); (case side2 => exact HR0.out); (case side3 => exact HC0.out); rintro e w7 ⟨g280, rfl, hi, hb, hb2⟩; refine ⟨_, rfl, ?_⟩; have n0_ := Aside0.mk (hb); have n1_ := Aside0.mk (hi); clear HB; have HB := n0_; have HI280 := n1_; clear n0_ n1_; (try clear hb); (try clear hb2); (try clear hk); (try clear hi)) | ((with_reducible refine gate_dst (N := 21) rfl ?_); refine Kd.R_lit (Kd.int .i64) _ 3 ?hg (N := 21) ?hd (xs := ([3, 0, 10] : List Int)) (inner := [.int .i64 3, .int .i64 0, .int .i64 10]) (ok := fun _ => True) (okp := fun _ => True) ?hr ?hp (fun _ hk => hk) trivial (Below.refl _ _) (Nat.le_refl _) (by simp) ?_; (case hd => rfl); (case hg => rfl); (case hr => first | (go_simp; done) | (go_simp; rfl)); (case hp => exact (Reps.one (show Kd.M (Kd.int .i64) _ _ _ 3 [.int .i64 3] from rfl) (Reps.one (show Kd.M (Kd.int .i64) _ _ _ 0 [.int .i64 0] from rfl) (Reps.one (show Kd.M (Kd.int .i64) _ _ _ 10 [.int .i64 10] from rfl) (Reps.none _ _))))); intro v282 w8 ho9 hb hg_ hnew_; clear hg_ hnew_; (first | rw [← Ny281.out] at ho9 | (simp only [Int.reduceToNat] at ho9; rw [← Ny281.out] at ho9)); have n0_ := Aside0.mk (Kd.R_lower ho9 (below_size (by repeat (first | (with_reducible first | exact HB.out | apply below_alloc | apply pw_below_drewN | apply below_drew1 | refine below_set ?_ (IsS59.ge HI280.out)) | exact HB.out)))); have n1_ := Aside0.mk (IsS59.below (by repeat (first | (with_reducible first | exact HI280.out | apply IsS59.alloc | apply IsS59.drewN | apply IsS59.drew | apply IsS59.set_1) | exact HI280.out)) hb); have n2_ := Aside0.mk (below_step (by repeat (first | (with_reducible first | exact HB.out | apply below_alloc | apply pw_below_drewN | apply below_drew1 | refine below_set ?_ (IsS59.ge HI280.out)) | exact HB.out)) hb); clear HI280; clear HB; have HO283 := n0_; have HI280 := n1_; have HB := n2_; clear n0_ n1_ n2_; clear hb ho9; obtain ⟨Ao10, co10, eo10⟩ := Kd.R_slice HO283.out; subst eo10) | ((with_reducible refine gate_callee (f := 16) rfl ?_); refine goesL_ (some 22) rfl rfl Try.func16 (by kernel_rfl) rfl #[.pointer (some ⟨g280, 0, none⟩), .slice Ao10 y281.length co10] rfl (by (try simp only [List.map_toArray, List.map_cons, List.map_nil]); first | done | rfl | (simp only [List.length_drop, List.length_take]; rfl)) ?_; (with_reducible refine (made_Dice_Of.calls g280 t278 t279 _ _ y281 t284 t285 w _ ?side1 ?side2 ?side3 ?side4 ?side5 A5.out).mono ?_); (case side1 => repeat (first | (with_reducible first | exact HI280.out | apply IsS59.alloc | apply IsS59.drewN | apply IsS59.drew | apply IsS59.set_1) | exact HI280.out)); (case side2 => repeat (first | (with_reducible first | exact HB.out | apply below_alloc | apply pw_below_drewN | apply below_drew1 | refine below_set ?_ (IsS59.ge HI280.out)) | exact HB.out)); (case side3 => repeat (first | exact (Kd.R_reads' HO283.out).2.2 | (with_reducible refine Kd.C_alloc ?_ _) | (with_reducible refine Kd.C_drewN ?_ _) | (with_reducible refine Kd.C_drew ?_))); (case side4 => exact (Kd.R_reads' HO283.out).2.1); (case side5 => exact far_slice (IsS59.own_ne HI280.out HO283.out (by decide))); rintro e w11 ⟨rfl, hi, hb, hk⟩; refine ⟨_, rfl, ?_⟩; have n0_ := Aside0.mk (Kd.R_mono (Kd.R_keep (IsS59.apart (show IsS59 w _ g280 t278 t279 from by repeat (first | (with_reducible first | exact HI280.out | apply IsS59.alloc | apply IsS59.drewN | apply IsS59.drew | apply IsS59.set_1) | exact HI280.out)) (by (with_reducible repeat (first | apply Kd.R_alloc | apply Kd.R_drewN | apply Kd.R_drew)); exact HO283.out) (by decide)) hk (fun _ h => h.2)) (fun _ h => h.1)); have n1_ := Aside0.mk (hb); have n2_ := Aside0.mk (hi); clear HO283; clear HB; clear HI280; have HO283 := n0_; have HB := n1_; have HI280 := n2_; clear n0_ n1_ n2_; (try clear hb); (try clear hb2); (try clear hk); (try clear hi)) | ((with_reducible refine gate_dst (N := 4) rfl ?_); refine box_event ?hg (N := 4) ?hd (cs := #[.int .i64 0, .int .i64 0, .int .i64 0]) (t := 23) ?hr ?_; (case hd => rfl); (case hg => rfl); (case hr => first | (go_simp; done) | (go_simp; rfl)); intro gb286 hg w12 hbox hb; have n0_ := Aside0.mk (Kd.R_below (by (with_reducible repeat (first | apply Kd.R_alloc | apply Kd.R_drewN | apply Kd.R_drew)); exact HO283.out) hb); have n1_ := Aside0.mk (IsS59.below (by repeat (first | (with_reducible first | exact HI280.out | apply IsS59.alloc | apply IsS59.drewN | apply IsS59.drew | apply IsS59.set_1) | exact HI280.out)) hb); have n2_ := Aside0.mk (below_step (by repeat (first | (with_reducible first | exact HB.out | apply below_alloc | apply pw_below_drewN | apply below_drew1 | refine below_set ?_ (IsS59.ge HI280.out)) | exact HB.out)) hb); have n3_ := Aside0.mk (hbox); have n4_ := Aside0.mk ((by rw [hg]; exact (below_size (by repeat (first | (with_reducible first | exact HB.out | apply below_alloc | apply pw_below_drewN | apply below_drew1 | refine below_set ?_ (IsS59.ge HI280.out)) | exact HB.out))) : w.heap.size ≤ gb286)); have n5_ := Aside0.mk ((by rw [hg]; exact (below_size (by repeat (first | (with_reducible first | exact HB.out | apply below_alloc | apply pw_below_drewN | apply below_drew1 | refine below_set ?_ (IsS59.ge HI280.out)) | exact HB.out))) : w.heap.size ≤ gb286)); have n6_ := Aside0.mk ((by rw [hg]; exact Nat.ne_of_lt (IsS59.lt (show IsS59 w _ g280 t278 t285 from by repeat (first | (with_reducible first | exact HI280.out | apply IsS59.alloc | apply IsS59.drewN | apply IsS59.drew | apply IsS59.set_1) | exact HI280.out))) : g280 ≠ gb286)); have n7_ := Aside0.mk ((by rw [hg]; exact Nat.ne_of_gt (IsS59.lt (show IsS59 w _ g280 t278 t285 from by repeat (first | (with_reducible first | exact HI280.out | apply IsS59.alloc | apply IsS59.drewN | apply IsS59.drew | apply IsS59.set_1) | exact HI280.out))) : gb286 ≠ g280)); clear HO283; clear HI280; clear HB; have HO283 := n0_; have HI280 := n1_; have HB := n2_; have BK286 := n3_; have GW286 := n4_; have GE286 := n5_; have NB280_286 := n6_; have NB286_280 := n7_; clear n0_ n1_ n2_ n3_ n4_ n5_ n6_ n7_; clear hb hbox hg; have hnb13 := NB286_280.out; have hnc13 := NB280_286.out; have hcz14_0 : w12.cell? ⟨gb286, 0, none⟩ = some (.int .i64 0) := (blk_cell BK286.out 0).trans rfl; have hcz14_1 : w12.cell? ⟨gb286, 1, none⟩ = some (.int .i64 0) := (blk_cell BK286.out 1).trans rfl; have hcz14_2 : w12.cell? ⟨gb286, 2, none⟩ = some (.int .i64 0) := (blk_cell BK286.out 2).trans rfl; have hfz14_0 := blk_frozen BK286.out 0; have hfz14_1 := blk_frozen BK286.out 1; have hfz14_2 := blk_frozen BK286.out 2) | ((with_reducible refine gate_dst (N := 5) rfl ?_); refine box_event ?hg (N := 5) ?hd (cs := #[.int .i64 0, .int .i64 0, .bool false]) (t := 25) ?hr ?_; (case hd => rfl); (case hg => rfl); (case hr => first | (go_simp; done) | (go_simp; rfl)); intro gb287 hg w15 hbox hb; have n0_ := Aside0.mk (Kd.R_below (by (with_reducible repeat (first | apply Kd.R_alloc | apply Kd.R_drewN | apply Kd.R_drew)); exact (Kd.R_mono (Kd.R_far (p := ⟨gb286, 2, none⟩) (Kd.R_far (p := ⟨gb286, 1, none⟩) (Kd.R_far (p := ⟨gb286, 0, none⟩) (Kd.R_types HO283.out BK286.out (by decide)) (fun _ hk => hk.2) (.int .i64 100)) (fun _ hk => hk.2) (.int .i64 900)) (fun _ hk => hk.2) (.int .i64 t284)) (fun _ h_ => h_.1))) hb); have n1_ := Aside0.mk (IsS59.below (show IsS59 w (((w12.setCell ⟨gb286, 0, none⟩ (.int .i64 100)).setCell ⟨gb286, 1, none⟩ (.int .i64 900)).setCell ⟨gb286, 2, none⟩ (.int .i64 t284)) g280 t278 t285 from by repeat (first | (with_reducible first | exact HI280.out | apply IsS59.alloc | apply IsS59.drewN | apply IsS59.drew | apply IsS59.set_1 | refine IsS59.far ?_ NB280_286.out _) | exact HI280.out)) hb); have n2_ := Aside0.mk (blk_below (g := gb286) (o := .cells #[.int .i64 100, .int .i64 900, .int .i64 t284] 23 (0, 0)) (by (with_reducible repeat (first | refine blk_drewN ?_ _ | refine blk_drew ?_ | refine blk_alloc ?_ _)); refine blk_put (cs := #[.int .i64 100, .int .i64 900, .int .i64 0]) ?_ 2 _ rfl; (with_reducible repeat (first | refine blk_drewN ?_ _ | refine blk_drew ?_ | refine blk_alloc ?_ _)); refine blk_put (cs := #[.int .i64 100, .int .i64 0, .int .i64 0]) ?_ 1 _ rfl; (with_reducible repeat (first | refine blk_drewN ?_ _ | refine blk_drew ?_ | refine blk_alloc ?_ _)); refine blk_put (cs := #[.int .i64 0, .int .i64 0, .int .i64 0]) ?_ 0 _ rfl; (with_reducible repeat (first | refine blk_drewN ?_ _ | refine blk_drew ?_ | refine blk_alloc ?_ _)); exact BK286.out) hb); have n3_ := Aside0.mk (below_step (by repeat (first | (with_reducible first | exact HB.out | apply below_alloc | apply pw_below_drewN | apply below_drew1 | refine below_set ?_ (IsS59.ge HI280.out) | refine below_set ?_ GE286.out) | exact HB.out)) hb); have n4_ := Aside0.mk (hbox); have n5_ := Aside0.mk ((by rw [hg]; exact (below_size (by repeat (first | (with_reducible first | exact HB.out | apply below_alloc | apply pw_below_drewN | apply below_drew1 | refine below_set ?_ (IsS59.ge HI280.out) | refine below_set ?_ GE286.out) | exact HB.out))) : w.heap.size ≤ gb287)); have n6_ := Aside0.mk ((by rw [hg]; exact (below_size (by repeat (first | (with_reducible first | exact HB.out | apply below_alloc | apply pw_below_drewN | apply below_drew1 | refine below_set ?_ (IsS59.ge HI280.out) | refine below_set ?_ GE286.out) | exact HB.out))) : w.heap.size ≤ gb287)); have n7_ := Aside0.mk ((by rw [hg]; exact Nat.ne_of_lt (blk_lt (g := gb286) (o := .cells #[.int .i64 100, .int .i64 900, .int .i64 t284] 23 (0, 0)) (by (with_reducible repeat (first | refine blk_drewN ?_ _ | refine blk_drew ?_ | refine blk_alloc ?_ _)); refine blk_put (cs := #[.int .i64 100, .int .i64 900, .int .i64 0]) ?_ 2 _ rfl; (with_reducible repeat (first | refine blk_drewN ?_ _ | refine blk_drew ?_ | refine blk_alloc ?_ _)); refine blk_put (cs := #[.int .i64 100, .int .i64 0, .int .i64 0]) ?_ 1 _ rfl; (with_reducible repeat (first | refine blk_drewN ?_ _ | refine blk_drew ?_ | refine blk_alloc ?_ _)); refine blk_put (cs := #[.int .i64 0, .int .i64 0, .int .i64 0]) ?_ 0 _ rfl; (with_reducible repeat (first | refine blk_drewN ?_ _ | refine blk_drew ?_ | refine blk_alloc ?_ _)); exact BK286.out)) : gb286 ≠ gb287)); have n8_ := Aside0.mk ((by rw [hg]; exact Nat.ne_of_gt (blk_lt (g := gb286) (o := .cells #[.int .i64 100, .int .i64 900, .int .i64 t284] 23 (0, 0)) (by (with_reducible repeat (first | refine blk_drewN ?_ _ | refine blk_drew ?_ | refine blk_alloc ?_ _)); refine blk_put (cs := #[.int .i64 100, .int .i64 900, .int .i64 0]) ?_ 2 _ rfl; (with_reducible repeat (first | refine blk_drewN ?_ _ | refine blk_drew ?_ | refine blk_alloc ?_ _)); refine blk_put (cs := #[.int .i64 100, .int .i64 0, .int .i64 0]) ?_ 1 _ rfl; (with_reducible repeat (first | refine blk_drewN ?_ _ | refine blk_drew ?_ | refine blk_alloc ?_ _)); refine blk_put (cs := #[.int .i64 0, .int .i64 0, .int .i64 0]) ?_ 0 _ rfl; (with_reducible repeat (first | refine blk_drewN ?_ _ | refine blk_drew ?_ | refine blk_alloc ?_ _)); exact BK286.out)) : gb287 ≠ gb286)); have n9_ := Aside0.mk ((by rw [hg]; exact Nat.ne_of_lt (IsS59.lt (show IsS59 w _ g280 t278 t285 from by repeat (first | (with_reducible first | exact HI280.out | apply IsS59.alloc | apply IsS59.drewN | apply IsS59.drew | apply IsS59.set_1 | refine IsS59.far ?_ NB280_286.out _) | exact HI280.out))) : g280 ≠ gb287)); have n10_ := Aside0.mk ((by rw [hg]; exact Nat.ne_of_gt (IsS59.lt (show IsS59 w _ g280 t278 t285 from by repeat (first | (with_reducible first | exact HI280.out | apply IsS59.alloc | apply IsS59.drewN | apply IsS59.drew | apply IsS59.set_1 | refine IsS59.far ?_ NB280_286.out _) | exact HI280.out))) : gb287 ≠ g280)); clear HO283; clear HI280; clear BK286; clear HB; have HO283 := n0_; have HI280 := n1_; have BK286 := n2_; have HB := n3_; have BK287 := n4_; have GW287 := n5_; have GE287 := n6_; have NB286_287 := n7_; have NB287_286 := n8_; have NB280_287 := n9_; have NB287_280 := n10_; clear n0_ n1_ n2_ n3_ n4_ n5_ n6_ n7_ n8_ n9_ n10_; clear hb hbox hg; have hnb16 := NB287_286.out; have hnc16 := NB286_287.out; have hnb17 := NB287_280.out; have hnc17 := NB280_287.out; have hcz18_0 : w15.cell? ⟨gb287, 0, none⟩ = some (.int .i64 0) := (blk_cell BK287.out 0).trans rfl; have hcz18_1 : w15.cell? ⟨gb287, 1, none⟩ = some (.int .i64 0) := (blk_cell BK287.out 1).trans rfl; have hcz18_2 : w15.cell? ⟨gb287, 2, none⟩ = some (.bool false) := (blk_cell BK287.out 2).trans rfl; have hfz18_0 := blk_frozen BK287.out 0; have hfz18_1 := blk_frozen BK287.out 1; have hfz18_2 := blk_frozen BK287.out 2) | ((with_reducible refine gate_callee (f := 17) rfl ?_); refine goesL_ (some 26) rfl rfl Try.func17 (by kernel_rfl) rfl #[.pointer (some ⟨g280, 0, none⟩), .int .i64 20] rfl (by (try simp only [List.map_toArray, List.map_cons, List.map_nil]); first | done | rfl | (simp only [List.length_drop, List.length_take]; rfl)) ?_; (with_reducible refine (made_Dice_Next.calls g280 t278 t285 20 t288 t289 w _ ?side1 ?side2 A6.out).mono ?_); (case side1 => repeat (first | (with_reducible first | exact HI280.out | apply IsS59.alloc | apply IsS59.drewN | apply IsS59.drew | apply IsS59.set_1 | refine IsS59.far ?_ NB280_286.out _ | refine IsS59.far ?_ NB280_287.out _) | exact HI280.out)); (case side2 => repeat (first | (with_reducible first | exact HB.out | apply below_alloc | apply pw_below_drewN | apply below_drew1 | refine below_set ?_ (IsS59.ge HI280.out) | refine below_set ?_ GE286.out | refine below_set ?_ GE287.out) | exact HB.out)); rintro e w19 ⟨rfl, hi, hb, hk⟩; refine ⟨_, rfl, ?_⟩; have n0_ := Aside0.mk (Kd.R_mono (Kd.R_keep (IsS59.apart (show IsS59 w _ g280 t278 t285 from by repeat (first | (with_reducible first | exact HI280.out | apply IsS59.alloc | apply IsS59.drewN | apply IsS59.drew | apply IsS59.set_1 | refine IsS59.far ?_ NB280_286.out _ | refine IsS59.far ?_ NB280_287.out _) | exact HI280.out)) (by (with_reducible repeat (first | apply Kd.R_alloc | apply Kd.R_drewN | apply Kd.R_drew)); exact (Kd.R_mono (Kd.R_far (p := ⟨gb287, 2, none⟩) (Kd.R_far (p := ⟨gb287, 1, none⟩) (Kd.R_far (p := ⟨gb287, 0, none⟩) (Kd.R_types HO283.out BK287.out (by decide)) (fun _ hk => hk.2) (.int .i64 (-1))) (fun _ hk => hk.2) (.int .i64 0)) (fun _ hk => hk.2) (.bool false)) (fun _ h_ => h_.1))) (by decide)) hk (fun _ h => h.2)) (fun _ h => h.1)); have n1_ := Aside0.mk (KeepBut.blk hk (g' := gb286) (o := .cells #[.int .i64 100, .int .i64 900, .int .i64 t284] 23 (0, 0)) (by (with_reducible repeat (first | refine blk_drewN ?_ _ | refine blk_drew ?_ | refine blk_alloc ?_ _)); refine blk_far ?_ NB286_287.out _; (with_reducible repeat (first | refine blk_drewN ?_ _ | refine blk_drew ?_ | refine blk_alloc ?_ _)); refine blk_far ?_ NB286_287.out _; (with_reducible repeat (first | refine blk_drewN ?_ _ | refine blk_drew ?_ | refine blk_alloc ?_ _)); refine blk_far ?_ NB286_287.out _; (with_reducible repeat (first | refine blk_drewN ?_ _ | refine blk_drew ?_ | refine blk_alloc ?_ _)); exact BK286.out) NB286_280.out (by simp)); have n2_ := Aside0.mk (KeepBut.blk hk (g' := gb287) (o := .cells #[.int .i64 (-1), .int .i64 0, .bool false] 25 (0, 0)) (by (with_reducible repeat (first | refine blk_drewN ?_ _ | refine blk_drew ?_ | refine blk_alloc ?_ _)); refine blk_put (cs := #[.int .i64 (-1), .int .i64 0, .bool false]) ?_ 2 _ rfl; (with_reducible repeat (first | refine blk_drewN ?_ _ | refine blk_drew ?_ | refine blk_alloc ?_ _)); refine blk_put (cs := #[.int .i64 (-1), .int .i64 0, .bool false]) ?_ 1 _ rfl; (with_reducible repeat (first | refine blk_drewN ?_ _ | refine blk_drew ?_ | refine blk_alloc ?_ _)); refine blk_put (cs := #[.int .i64 0, .int .i64 0, .bool false]) ?_ 0 _ rfl; (with_reducible repeat (first | refine blk_drewN ?_ _ | refine blk_drew ?_ | refine blk_alloc ?_ _)); exact BK287.out) NB287_280.out (by simp)); have n3_ := Aside0.mk (hb); have n4_ := Aside0.mk (hi); clear HO283; clear BK286; clear BK287; clear HB; clear HI280; have HO283 := n0_; have BK286 := n1_; have BK287 := n2_; have HB := n3_; have HI280 := n4_; clear n0_ n1_ n2_ n3_ n4_; (try clear hb); (try clear hb2); (try clear hk); (try clear hi)))
  go_loopg [6, 7] k (fun kq v6 v7 w' => ∃ (x6_1 : Int) (x7_1 : Int) (x281001_1 : Int) (x288000_1 : Int) (x288001_1 : Int) (x288002_1 : Bool), v6 = .int .i64 x6_1 ∧ v7 = .int .i64 x7_1 ∧ Aside0 (law38_RopeTwice.l0 kq x6_1 x7_1 t278 x281001_1 100 900 t284 x288000_1 x288001_1 x288002_1 = some r) ∧ Aside0 (kq ≤ k) ∧ Aside0 (w'.heap[gb286]? = some (.cells #[.int .i64 100, .int .i64 900, .int .i64 t284] 23 (0, 0))) ∧ Aside0 (w'.heap[gb287]? = some (.cells #[.int .i64 x288000_1, .int .i64 x288001_1, .bool x288002_1] 25 (0, 0))) ∧ Aside0 (IsS59 w w' g280 t278 x281001_1) ∧ Aside0 (Below w.heap.size w w'))
  case atStart => exact ⟨(0), (t288), (t289), ((-1)), (0), (false), (by first | rfl | (simp; done) | (simp [*]; done)), (by first | rfl | (simp; done) | (simp [*]; done)), H', ⟨Nat.le_refl _⟩, ⟨by (with_reducible repeat (first | refine blk_drewN ?_ _ | refine blk_drew ?_ | refine blk_alloc ?_ _)); exact BK286.out⟩, ⟨by (with_reducible repeat (first | refine blk_drewN ?_ _ | refine blk_drew ?_ | refine blk_alloc ?_ _)); exact BK287.out⟩, ⟨by repeat (first | (with_reducible first | exact HI280.out | apply IsS59.alloc | apply IsS59.drewN | apply IsS59.drew | apply IsS59.set_1 | refine IsS59.far ?_ NB280_286.out _ | refine IsS59.far ?_ NB280_287.out _) | exact HI280.out)⟩, ⟨by repeat (first | (with_reducible first | exact HB.out | apply below_alloc | apply pw_below_drewN | apply below_drew1 | refine below_set ?_ (IsS59.ge HI280.out) | refine below_set ?_ GE286.out | refine below_set ?_ GE287.out) | exact HB.out)⟩⟩
  case round =>
   clear H'; (try clear c1); (try clear p2); (try clear c3); (try clear c6); (try clear c13); (try clear c14); (try clear c15); (try clear c16); (try clear c17); (try clear hcz14_0); (try clear hcz14_1); (try clear hcz14_2); (try clear hcz18_0); (try clear hcz18_1); (try clear hcz18_2); (try clear hfz14_0); (try clear hfz14_1); (try clear hfz14_2); (try clear hfz18_0); (try clear hfz18_1); (try clear hfz18_2)
   obtain ⟨x6_1, x7_1, x281001_1, x288000_1, x288001_1, x288002_1, rfl, rfl, HA, HK1, BK286, BK287, HI280, HB⟩ := hrel
   cases gk with
   | zero => exact absurd HA.out (by simp [law38_RopeTwice.l0])
   | succ k1 =>
    have H := HA.out
    clear HA
    simp only [law38_RopeTwice.l0] at H
    by_cases c20 : x7_1 > 0
    ·rw [if_pos c20] at H
     have c20b0 : decide (0 < x7_1) = true := decide_eq_true c20
     clear c20
     replace H := Option.bind_eq_some_iff.mp H
     obtain ⟨⟨t290, t291, t292⟩, A210, H⟩ := H
     replace H : ((made_Dice_One.f t278 t292 2).bind fun bt293 => ((made_Dice_Of.f t278 bt293.2 (([1, 0, 4, 11] : List Int))).bind fun bt299 => ((rope_Tick.f 100 900 t284 x288000_1 x288001_1 x288002_1 t290 t291 bt293.1 (wrap64 (x6_1 + bt299.1))).bind fun bt301 => ((rope_Tick.f 100 900 t284 bt301.1 bt301.2.1 bt301.2.2.1 t290 t291 bt293.1 (wrap64 (x6_1 + bt299.1))).bind fun bt306 => (if bt301.2.2.2 = 0 then (if bt306.2.2.2 = 0 then (if (!(bt301.1 == bt306.1) || (!(bt301.2.1 == bt306.2.1) || (!(bt301.2.2.1 == bt306.2.2.1)))) = true then (none) else ((rope_Slack.f 100 900 t284 bt301.1 bt301.2.1 bt301.2.2.1 (wrap64 ((wrap64 (x6_1 + bt299.1)) + 7))).bind fun t311 => (if t311 = 0 then (if x288000_1 ≥ 0 then (if bt301.1 ≥ 0 then (law38_RopeTwice.j1 k1 (wrap64 (x6_1 + bt299.1)) x7_1 (bt301.1 != x288000_1) t278 bt299.2 100 900 t284 bt301.1 bt301.2.1 bt301.2.2.1) else (law38_RopeTwice.j1 k1 (wrap64 (x6_1 + bt299.1)) x7_1 false t278 bt299.2 100 900 t284 bt301.1 bt301.2.1 bt301.2.2.1)) else (law38_RopeTwice.j1 k1 (wrap64 (x6_1 + bt299.1)) x7_1 false t278 bt299.2 100 900 t284 bt301.1 bt301.2.1 bt301.2.2.1)) else ((rope_Slack.f 100 900 t284 bt301.1 bt301.2.1 bt301.2.2.1 (wrap64 ((wrap64 (x6_1 + bt299.1)) + 7))).bind fun t311 => ((rope_Slack.f 100 900 t284 bt301.1 bt301.2.1 bt301.2.2.1 (wrap64 (x6_1 + bt299.1))).bind fun t313 => (if t311 = (wrap64 (t313 + 7)) then (if x288000_1 ≥ 0 then (if bt301.1 ≥ 0 then (law38_RopeTwice.j1 k1 (wrap64 (x6_1 + bt299.1)) x7_1 (bt301.1 != x288000_1) t278 bt299.2 100 900 t284 bt301.1 bt301.2.1 bt301.2.2.1) else (law38_RopeTwice.j1 k1 (wrap64 (x6_1 + bt299.1)) x7_1 false t278 bt299.2 100 900 t284 bt301.1 bt301.2.1 bt301.2.2.1)) else (law38_RopeTwice.j1 k1 (wrap64 (x6_1 + bt299.1)) x7_1 false t278 bt299.2 100 900 t284 bt301.1 bt301.2.1 bt301.2.2.1)) else (none))))))) else (none)) else (none)))))) = some r := H
     have A21 := Aside0.mk A210
     clear A210
     replace H := Option.bind_eq_some_iff.mp H
     obtain ⟨⟨t293, t294⟩, A220, H⟩ := H
     replace H : ((made_Dice_Of.f t278 t294 (([1, 0, 4, 11] : List Int))).bind fun bt299 => ((rope_Tick.f 100 900 t284 x288000_1 x288001_1 x288002_1 t290 t291 t293 (wrap64 (x6_1 + bt299.1))).bind fun bt301 => ((rope_Tick.f 100 900 t284 bt301.1 bt301.2.1 bt301.2.2.1 t290 t291 t293 (wrap64 (x6_1 + bt299.1))).bind fun bt306 => (if bt301.2.2.2 = 0 then (if bt306.2.2.2 = 0 then (if (!(bt301.1 == bt306.1) || (!(bt301.2.1 == bt306.2.1) || (!(bt301.2.2.1 == bt306.2.2.1)))) = true then (none) else ((rope_Slack.f 100 900 t284 bt301.1 bt301.2.1 bt301.2.2.1 (wrap64 ((wrap64 (x6_1 + bt299.1)) + 7))).bind fun t311 => (if t311 = 0 then (if x288000_1 ≥ 0 then (if bt301.1 ≥ 0 then (law38_RopeTwice.j1 k1 (wrap64 (x6_1 + bt299.1)) x7_1 (bt301.1 != x288000_1) t278 bt299.2 100 900 t284 bt301.1 bt301.2.1 bt301.2.2.1) else (law38_RopeTwice.j1 k1 (wrap64 (x6_1 + bt299.1)) x7_1 false t278 bt299.2 100 900 t284 bt301.1 bt301.2.1 bt301.2.2.1)) else (law38_RopeTwice.j1 k1 (wrap64 (x6_1 + bt299.1)) x7_1 false t278 bt299.2 100 900 t284 bt301.1 bt301.2.1 bt301.2.2.1)) else ((rope_Slack.f 100 900 t284 bt301.1 bt301.2.1 bt301.2.2.1 (wrap64 ((wrap64 (x6_1 + bt299.1)) + 7))).bind fun t311 => ((rope_Slack.f 100 900 t284 bt301.1 bt301.2.1 bt301.2.2.1 (wrap64 (x6_1 + bt299.1))).bind fun t313 => (if t311 = (wrap64 (t313 + 7)) then (if x288000_1 ≥ 0 then (if bt301.1 ≥ 0 then (law38_RopeTwice.j1 k1 (wrap64 (x6_1 + bt299.1)) x7_1 (bt301.1 != x288000_1) t278 bt299.2 100 900 t284 bt301.1 bt301.2.1 bt301.2.2.1) else (law38_RopeTwice.j1 k1 (wrap64 (x6_1 + bt299.1)) x7_1 false t278 bt299.2 100 900 t284 bt301.1 bt301.2.1 bt301.2.2.1)) else (law38_RopeTwice.j1 k1 (wrap64 (x6_1 + bt299.1)) x7_1 false t278 bt299.2 100 900 t284 bt301.1 bt301.2.1 bt301.2.2.1)) else (none))))))) else (none)) else (none))))) = some r := H
     have A22 := Aside0.mk A220
     clear A220
     obtain ⟨y296, hy296⟩ : ∃ y_ : List Int, y_ = (([1, 0, 4, 11] : List Int)) := ⟨_, rfl⟩
     replace H : ((made_Dice_Of.f t278 t294 y296).bind fun bt299 => ((rope_Tick.f 100 900 t284 x288000_1 x288001_1 x288002_1 t290 t291 t293 (wrap64 (x6_1 + bt299.1))).bind fun bt301 => ((rope_Tick.f 100 900 t284 bt301.1 bt301.2.1 bt301.2.2.1 t290 t291 t293 (wrap64 (x6_1 + bt299.1))).bind fun bt306 => (if bt301.2.2.2 = 0 then (if bt306.2.2.2 = 0 then (if (!(bt301.1 == bt306.1) || (!(bt301.2.1 == bt306.2.1) || (!(bt301.2.2.1 == bt306.2.2.1)))) = true then (none) else ((rope_Slack.f 100 900 t284 bt301.1 bt301.2.1 bt301.2.2.1 (wrap64 ((wrap64 (x6_1 + bt299.1)) + 7))).bind fun t311 => (if t311 = 0 then (if x288000_1 ≥ 0 then (if bt301.1 ≥ 0 then (law38_RopeTwice.j1 k1 (wrap64 (x6_1 + bt299.1)) x7_1 (bt301.1 != x288000_1) t278 bt299.2 100 900 t284 bt301.1 bt301.2.1 bt301.2.2.1) else (law38_RopeTwice.j1 k1 (wrap64 (x6_1 + bt299.1)) x7_1 false t278 bt299.2 100 900 t284 bt301.1 bt301.2.1 bt301.2.2.1)) else (law38_RopeTwice.j1 k1 (wrap64 (x6_1 + bt299.1)) x7_1 false t278 bt299.2 100 900 t284 bt301.1 bt301.2.1 bt301.2.2.1)) else ((rope_Slack.f 100 900 t284 bt301.1 bt301.2.1 bt301.2.2.1 (wrap64 ((wrap64 (x6_1 + bt299.1)) + 7))).bind fun t311 => ((rope_Slack.f 100 900 t284 bt301.1 bt301.2.1 bt301.2.2.1 (wrap64 (x6_1 + bt299.1))).bind fun t313 => (if t311 = (wrap64 (t313 + 7)) then (if x288000_1 ≥ 0 then (if bt301.1 ≥ 0 then (law38_RopeTwice.j1 k1 (wrap64 (x6_1 + bt299.1)) x7_1 (bt301.1 != x288000_1) t278 bt299.2 100 900 t284 bt301.1 bt301.2.1 bt301.2.2.1) else (law38_RopeTwice.j1 k1 (wrap64 (x6_1 + bt299.1)) x7_1 false t278 bt299.2 100 900 t284 bt301.1 bt301.2.1 bt301.2.2.1)) else (law38_RopeTwice.j1 k1 (wrap64 (x6_1 + bt299.1)) x7_1 false t278 bt299.2 100 900 t284 bt301.1 bt301.2.1 bt301.2.2.1)) else (none))))))) else (none)) else (none))))) = some r := by first | (rw [hy296]; with_reducible exact H) | (have H2_ := (Option.bind_some _ _).symm.trans H; rw [hy296]; with_reducible exact H2_) | (have H2_ := (Option.bind_some _ _).symm.trans H; with_reducible exact H2_) | with_reducible exact H | (rw [hy296]; exact H) | exact H
     have Ny296 := Aside0.mk hy296
     clear hy296
     replace H := Option.bind_eq_some_iff.mp H
     obtain ⟨⟨t299, t300⟩, A230, H⟩ := H
     replace H : ((rope_Tick.f 100 900 t284 x288000_1 x288001_1 x288002_1 t290 t291 t293 (wrap64 (x6_1 + t299))).bind fun bt301 => ((rope_Tick.f 100 900 t284 bt301.1 bt301.2.1 bt301.2.2.1 t290 t291 t293 (wrap64 (x6_1 + t299))).bind fun bt306 => (if bt301.2.2.2 = 0 then (if bt306.2.2.2 = 0 then (if (!(bt301.1 == bt306.1) || (!(bt301.2.1 == bt306.2.1) || (!(bt301.2.2.1 == bt306.2.2.1)))) = true then (none) else ((rope_Slack.f 100 900 t284 bt301.1 bt301.2.1 bt301.2.2.1 (wrap64 ((wrap64 (x6_1 + t299)) + 7))).bind fun t311 => (if t311 = 0 then (if x288000_1 ≥ 0 then (if bt301.1 ≥ 0 then (law38_RopeTwice.j1 k1 (wrap64 (x6_1 + t299)) x7_1 (bt301.1 != x288000_1) t278 t300 100 900 t284 bt301.1 bt301.2.1 bt301.2.2.1) else (law38_RopeTwice.j1 k1 (wrap64 (x6_1 + t299)) x7_1 false t278 t300 100 900 t284 bt301.1 bt301.2.1 bt301.2.2.1)) else (law38_RopeTwice.j1 k1 (wrap64 (x6_1 + t299)) x7_1 false t278 t300 100 900 t284 bt301.1 bt301.2.1 bt301.2.2.1)) else ((rope_Slack.f 100 900 t284 bt301.1 bt301.2.1 bt301.2.2.1 (wrap64 ((wrap64 (x6_1 + t299)) + 7))).bind fun t311 => ((rope_Slack.f 100 900 t284 bt301.1 bt301.2.1 bt301.2.2.1 (wrap64 (x6_1 + t299))).bind fun t313 => (if t311 = (wrap64 (t313 + 7)) then (if x288000_1 ≥ 0 then (if bt301.1 ≥ 0 then (law38_RopeTwice.j1 k1 (wrap64 (x6_1 + t299)) x7_1 (bt301.1 != x288000_1) t278 t300 100 900 t284 bt301.1 bt301.2.1 bt301.2.2.1) else (law38_RopeTwice.j1 k1 (wrap64 (x6_1 + t299)) x7_1 false t278 t300 100 900 t284 bt301.1 bt301.2.1 bt301.2.2.1)) else (law38_RopeTwice.j1 k1 (wrap64 (x6_1 + t299)) x7_1 false t278 t300 100 900 t284 bt301.1 bt301.2.1 bt301.2.2.1)) else (none))))))) else (none)) else (none)))) = some r := H
     have A23 := Aside0.mk A230
     clear A230
     replace H := Option.bind_eq_some_iff.mp H
     obtain ⟨⟨t301, t302, t303, t304⟩, A240, H⟩ := H
     replace H : ((rope_Tick.f 100 900 t284 t301 t302 t303 t290 t291 t293 (wrap64 (x6_1 + t299))).bind fun bt306 => (if t304 = 0 then (if bt306.2.2.2 = 0 then (if (!(t301 == bt306.1) || (!(t302 == bt306.2.1) || (!(t303 == bt306.2.2.1)))) = true then (none) else ((rope_Slack.f 100 900 t284 t301 t302 t303 (wrap64 ((wrap64 (x6_1 + t299)) + 7))).bind fun t311 => (if t311 = 0 then (if x288000_1 ≥ 0 then (if t301 ≥ 0 then (law38_RopeTwice.j1 k1 (wrap64 (x6_1 + t299)) x7_1 (t301 != x288000_1) t278 t300 100 900 t284 t301 t302 t303) else (law38_RopeTwice.j1 k1 (wrap64 (x6_1 + t299)) x7_1 false t278 t300 100 900 t284 t301 t302 t303)) else (law38_RopeTwice.j1 k1 (wrap64 (x6_1 + t299)) x7_1 false t278 t300 100 900 t284 t301 t302 t303)) else ((rope_Slack.f 100 900 t284 t301 t302 t303 (wrap64 ((wrap64 (x6_1 + t299)) + 7))).bind fun t311 => ((rope_Slack.f 100 900 t284 t301 t302 t303 (wrap64 (x6_1 + t299))).bind fun t313 => (if t311 = (wrap64 (t313 + 7)) then (if x288000_1 ≥ 0 then (if t301 ≥ 0 then (law38_RopeTwice.j1 k1 (wrap64 (x6_1 + t299)) x7_1 (t301 != x288000_1) t278 t300 100 900 t284 t301 t302 t303) else (law38_RopeTwice.j1 k1 (wrap64 (x6_1 + t299)) x7_1 false t278 t300 100 900 t284 t301 t302 t303)) else (law38_RopeTwice.j1 k1 (wrap64 (x6_1 + t299)) x7_1 false t278 t300 100 900 t284 t301 t302 t303)) else (none))))))) else (none)) else (none))) = some r := H
     have A24 := Aside0.mk A240
     clear A240
     replace H := Option.bind_eq_some_iff.mp H
     obtain ⟨⟨t306, t307, t308, t309⟩, A250, H⟩ := H
     replace H : (if t304 = 0 then (if t309 = 0 then (if (!(t301 == t306) || (!(t302 == t307) || (!(t303 == t308)))) = true then (none) else ((rope_Slack.f 100 900 t284 t301 t302 t303 (wrap64 ((wrap64 (x6_1 + t299)) + 7))).bind fun t311 => (if t311 = 0 then (if x288000_1 ≥ 0 then (if t301 ≥ 0 then (law38_RopeTwice.j1 k1 (wrap64 (x6_1 + t299)) x7_1 (t301 != x288000_1) t278 t300 100 900 t284 t301 t302 t303) else (law38_RopeTwice.j1 k1 (wrap64 (x6_1 + t299)) x7_1 false t278 t300 100 900 t284 t301 t302 t303)) else (law38_RopeTwice.j1 k1 (wrap64 (x6_1 + t299)) x7_1 false t278 t300 100 900 t284 t301 t302 t303)) else ((rope_Slack.f 100 900 t284 t301 t302 t303 (wrap64 ((wrap64 (x6_1 + t299)) + 7))).bind fun t311 => ((rope_Slack.f 100 900 t284 t301 t302 t303 (wrap64 (x6_1 + t299))).bind fun t313 => (if t311 = (wrap64 (t313 + 7)) then (if x288000_1 ≥ 0 then (if t301 ≥ 0 then (law38_RopeTwice.j1 k1 (wrap64 (x6_1 + t299)) x7_1 (t301 != x288000_1) t278 t300 100 900 t284 t301 t302 t303) else (law38_RopeTwice.j1 k1 (wrap64 (x6_1 + t299)) x7_1 false t278 t300 100 900 t284 t301 t302 t303)) else (law38_RopeTwice.j1 k1 (wrap64 (x6_1 + t299)) x7_1 false t278 t300 100 900 t284 t301 t302 t303)) else (none))))))) else (none)) else (none)) = some r := H
     have A25 := Aside0.mk A250
     clear A250
     have HC26 := Aside0.mk H
     clear H
     go_upto_region 13 with (first | ((with_reducible refine gate_callee (f := 18) rfl ?_); refine goesL_ (some 32) rfl rfl Try.func18 (by kernel_rfl) rfl #[.pointer (some ⟨g280, 0, none⟩)] rfl (by (try simp only [List.map_toArray, List.map_cons, List.map_nil]); first | done | rfl | (simp only [List.length_drop, List.length_take]; rfl)) ?_; (with_reducible refine (law38_force.calls g280 t278 x281001_1 t290 t291 t292 w _ ?side1 ?side2 A21.out).mono ?_); (case side1 => repeat (first | (with_reducible first | exact HI280.out | apply IsS59.alloc | apply IsS59.drewN | apply IsS59.drew | apply IsS59.set_1 | refine IsS59.far ?_ NB280_286.out _ | refine IsS59.far ?_ NB280_287.out _) | exact HI280.out)); (case side2 => repeat (first | (with_reducible first | exact HB.out | apply below_alloc | apply pw_below_drewN | apply below_drew1 | refine below_set ?_ (IsS59.ge HI280.out) | refine below_set ?_ GE286.out | refine below_set ?_ GE287.out) | exact HB.out)); rintro e w27 ⟨rfl, hi, hb, hk⟩; refine ⟨_, rfl, ?_⟩; have n0_ := Aside0.mk (KeepBut.blk hk (g' := gb286) (o := .cells #[.int .i64 100, .int .i64 900, .int .i64 t284] 23 (0, 0)) (by (with_reducible repeat (first | refine blk_drewN ?_ _ | refine blk_drew ?_ | refine blk_alloc ?_ _)); exact BK286.out) NB286_280.out (by simp)); have n1_ := Aside0.mk (KeepBut.blk hk (g' := gb287) (o := .cells #[.int .i64 x288000_1, .int .i64 x288001_1, .bool x288002_1] 25 (0, 0)) (by (with_reducible repeat (first | refine blk_drewN ?_ _ | refine blk_drew ?_ | refine blk_alloc ?_ _)); exact BK287.out) NB287_280.out (by simp)); have n2_ := Aside0.mk (hb); have n3_ := Aside0.mk (hi); clear BK286; clear BK287; clear HB; clear HI280; have BK286 := n0_; have BK287 := n1_; have HB := n2_; have HI280 := n3_; clear n0_ n1_ n2_ n3_; (try clear hb); (try clear hb2); (try clear hk); (try clear hi)) | ((with_reducible refine gate_callee (f := 19) rfl ?_); refine goesL_ (some 34) rfl rfl Try.func19 (by kernel_rfl) rfl #[.pointer (some ⟨g280, 0, none⟩), .int .i64 2] rfl (by (try simp only [List.map_toArray, List.map_cons, List.map_nil]); first | done | rfl | (simp only [List.length_drop, List.length_take]; rfl)) ?_; (with_reducible refine (made_Dice_One.calls g280 t278 t292 2 t293 t294 w _ ?side1 ?side2 A22.out).mono ?_); (case side1 => repeat (first | (with_reducible first | exact HI280.out | apply IsS59.alloc | apply IsS59.drewN | apply IsS59.drew | apply IsS59.set_1 | refine IsS59.far ?_ NB280_286.out _ | refine IsS59.far ?_ NB280_287.out _) | exact HI280.out)); (case side2 => repeat (first | (with_reducible first | exact HB.out | apply below_alloc | apply pw_below_drewN | apply below_drew1 | refine below_set ?_ (IsS59.ge HI280.out) | refine below_set ?_ GE286.out | refine below_set ?_ GE287.out) | exact HB.out)); rintro e w28 ⟨rfl, hi, hb, hk⟩; refine ⟨_, rfl, ?_⟩; have n0_ := Aside0.mk (KeepBut.blk hk (g' := gb286) (o := .cells #[.int .i64 100, .int .i64 900, .int .i64 t284] 23 (0, 0)) (by (with_reducible repeat (first | refine blk_drewN ?_ _ | refine blk_drew ?_ | refine blk_alloc ?_ _)); exact BK286.out) NB286_280.out (by simp)); have n1_ := Aside0.mk (KeepBut.blk hk (g' := gb287) (o := .cells #[.int .i64 x288000_1, .int .i64 x288001_1, .bool x288002_1] 25 (0, 0)) (by (with_reducible repeat (first | refine blk_drewN ?_ _ | refine blk_drew ?_ | refine blk_alloc ?_ _)); exact BK287.out) NB287_280.out (by simp)); have n2_ := Aside0.mk (hb); have n3_ := Aside0.mk (hi); clear BK286; clear BK287; clear HB; clear HI280; have BK286 := n0_; have BK287 := n1_; have HB := n2_; have HI280 := n3_; clear n0_ n1_ n2_ n3_; (try clear hb); (try clear hb2); (try clear hk); (try clear hi)) | ((with_reducible refine gate_dst (N := 8) rfl ?_); refine box_event ?hg (N := 8) ?hd (cs := #[.int .i64 0, .int .i64 0]) (t := 27) ?hr ?_; (case hd => rfl); (case hg => rfl); (case hr => first | (go_simp; done) | (go_simp; rfl)); intro gb295 hg w29 hbox hb; have n0_ := Aside0.mk (blk_below (g := gb286) (o := .cells #[.int .i64 100, .int .i64 900, .int .i64 t284] 23 (0, 0)) (by (with_reducible repeat (first | refine blk_drewN ?_ _ | refine blk_drew ?_ | refine blk_alloc ?_ _)); exact BK286.out) hb); have n1_ := Aside0.mk (blk_below (g := gb287) (o := .cells #[.int .i64 x288000_1, .int .i64 x288001_1, .bool x288002_1] 25 (0, 0)) (by (with_reducible repeat (first | refine blk_drewN ?_ _ | refine blk_drew ?_ | refine blk_alloc ?_ _)); exact BK287.out) hb); have n2_ := Aside0.mk (IsS59.below (by repeat (first | (with_reducible first | exact HI280.out | apply IsS59.alloc | apply IsS59.drewN | apply IsS59.drew | apply IsS59.set_1 | refine IsS59.far ?_ NB280_286.out _ | refine IsS59.far ?_ NB280_287.out _) | exact HI280.out)) hb); have n3_ := Aside0.mk (below_step (by repeat (first | (with_reducible first | exact HB.out | apply below_alloc | apply pw_below_drewN | apply below_drew1 | refine below_set ?_ (IsS59.ge HI280.out) | refine below_set ?_ GE286.out | refine below_set ?_ GE287.out) | exact HB.out)) hb); have n4_ := Aside0.mk (hbox); have n5_ := Aside0.mk ((by rw [hg]; exact (below_size (by repeat (first | (with_reducible first | exact HB.out | apply below_alloc | apply pw_below_drewN | apply below_drew1 | refine below_set ?_ (IsS59.ge HI280.out) | refine below_set ?_ GE286.out | refine below_set ?_ GE287.out) | exact HB.out))) : w.heap.size ≤ gb295)); have n6_ := Aside0.mk ((by rw [hg]; exact (below_size (by repeat (first | (with_reducible first | exact HB.out | apply below_alloc | apply pw_below_drewN | apply below_drew1 | refine below_set ?_ (IsS59.ge HI280.out) | refine below_set ?_ GE286.out | refine below_set ?_ GE287.out) | exact HB.out))) : w.heap.size ≤ gb295)); have n7_ := Aside0.mk ((by rw [hg]; exact Nat.ne_of_lt (blk_lt (g := gb286) (o := .cells #[.int .i64 100, .int .i64 900, .int .i64 t284] 23 (0, 0)) (by (with_reducible repeat (first | refine blk_drewN ?_ _ | refine blk_drew ?_ | refine blk_alloc ?_ _)); exact BK286.out)) : gb286 ≠ gb295)); have n8_ := Aside0.mk ((by rw [hg]; exact Nat.ne_of_gt (blk_lt (g := gb286) (o := .cells #[.int .i64 100, .int .i64 900, .int .i64 t284] 23 (0, 0)) (by (with_reducible repeat (first | refine blk_drewN ?_ _ | refine blk_drew ?_ | refine blk_alloc ?_ _)); exact BK286.out)) : gb295 ≠ gb286)); have n9_ := Aside0.mk ((by rw [hg]; exact Nat.ne_of_lt (blk_lt (g := gb287) (o := .cells #[.int .i64 x288000_1, .int .i64 x288001_1, .bool x288002_1] 25 (0, 0)) (by (with_reducible repeat (first | refine blk_drewN ?_ _ | refine blk_drew ?_ | refine blk_alloc ?_ _)); exact BK287.out)) : gb287 ≠ gb295)); have n10_ := Aside0.mk ((by rw [hg]; exact Nat.ne_of_gt (blk_lt (g := gb287) (o := .cells #[.int .i64 x288000_1, .int .i64 x288001_1, .bool x288002_1] 25 (0, 0)) (by (with_reducible repeat (first | refine blk_drewN ?_ _ | refine blk_drew ?_ | refine blk_alloc ?_ _)); exact BK287.out)) : gb295 ≠ gb287)); have n11_ := Aside0.mk ((by rw [hg]; exact Nat.ne_of_lt (IsS59.lt (show IsS59 w _ g280 t278 t294 from by repeat (first | (with_reducible first | exact HI280.out | apply IsS59.alloc | apply IsS59.drewN | apply IsS59.drew | apply IsS59.set_1 | refine IsS59.far ?_ NB280_286.out _ | refine IsS59.far ?_ NB280_287.out _) | exact HI280.out))) : g280 ≠ gb295)); have n12_ := Aside0.mk ((by rw [hg]; exact Nat.ne_of_gt (IsS59.lt (show IsS59 w _ g280 t278 t294 from by repeat (first | (with_reducible first | exact HI280.out | apply IsS59.alloc | apply IsS59.drewN | apply IsS59.drew | apply IsS59.set_1 | refine IsS59.far ?_ NB280_286.out _ | refine IsS59.far ?_ NB280_287.out _) | exact HI280.out))) : gb295 ≠ g280)); clear BK286; clear BK287; clear HI280; clear HB; have BK286 := n0_; have BK287 := n1_; have HI280 := n2_; have HB := n3_; have BK295 := n4_; have GW295 := n5_; have GE295 := n6_; have NB286_295 := n7_; have NB295_286 := n8_; have NB287_295 := n9_; have NB295_287 := n10_; have NB280_295 := n11_; have NB295_280 := n12_; clear n0_ n1_ n2_ n3_ n4_ n5_ n6_ n7_ n8_ n9_ n10_ n11_ n12_; clear hb hbox hg; have hnb30 := NB295_286.out; have hnc30 := NB286_295.out; have hnb31 := NB295_287.out; have hnc31 := NB287_295.out; have hnb32 := NB295_280.out; have hnc32 := NB280_295.out; have hcz33_0 : w29.cell? ⟨gb295, 0, none⟩ = some (.int .i64 0) := (blk_cell BK295.out 0).trans rfl; have hcz33_1 : w29.cell? ⟨gb295, 1, none⟩ = some (.int .i64 0) := (blk_cell BK295.out 1).trans rfl; have hfz33_0 := blk_frozen BK295.out 0; have hfz33_1 := blk_frozen BK295.out 1) | ((with_reducible refine gate_dst (N := 37) rfl ?_); refine Kd.R_lit (Kd.int .i64) _ 3 ?hg (N := 37) ?hd (xs := ([1, 0, 4, 11] : List Int)) (inner := [.int .i64 1, .int .i64 0, .int .i64 4, .int .i64 11]) (ok := fun _ => True) (okp := fun _ => True) ?hr ?hp (fun _ hk => hk) trivial (Below.refl _ _) (Nat.le_refl _) (by simp) ?_; (case hd => rfl); (case hg => rfl); (case hr => first | (go_simp; done) | (go_simp; rfl)); (case hp => exact (Reps.one (show Kd.M (Kd.int .i64) _ _ _ 1 [.int .i64 1] from rfl) (Reps.one (show Kd.M (Kd.int .i64) _ _ _ 0 [.int .i64 0] from rfl) (Reps.one (show Kd.M (Kd.int .i64) _ _ _ 4 [.int .i64 4] from rfl) (Reps.one (show Kd.M (Kd.int .i64) _ _ _ 11 [.int .i64 11] from rfl) (Reps.none _ _)))))); intro v297 w34 ho35 hb hg_ hnew_; clear hg_ hnew_; (first | rw [← Ny296.out] at ho35 | (simp only [Int.reduceToNat] at ho35; rw [← Ny296.out] at ho35)); have n0_ := Aside0.mk (Kd.R_lower ho35 (below_size (by repeat (first | (with_reducible first | exact HB.out | apply below_alloc | apply pw_below_drewN | apply below_drew1 | refine below_set ?_ (IsS59.ge HI280.out) | refine below_set ?_ GE286.out | refine below_set ?_ GE287.out | refine below_set ?_ GE295.out) | exact HB.out)))); have n1_ := Aside0.mk (blk_below (g := gb286) (o := .cells #[.int .i64 100, .int .i64 900, .int .i64 t284] 23 (0, 0)) (by (with_reducible repeat (first | refine blk_drewN ?_ _ | refine blk_drew ?_ | refine blk_alloc ?_ _)); refine blk_far ?_ NB286_295.out _; (with_reducible repeat (first | refine blk_drewN ?_ _ | refine blk_drew ?_ | refine blk_alloc ?_ _)); refine blk_far ?_ NB286_295.out _; (with_reducible repeat (first | refine blk_drewN ?_ _ | refine blk_drew ?_ | refine blk_alloc ?_ _)); exact BK286.out) hb); have n2_ := Aside0.mk (blk_below (g := gb287) (o := .cells #[.int .i64 x288000_1, .int .i64 x288001_1, .bool x288002_1] 25 (0, 0)) (by (with_reducible repeat (first | refine blk_drewN ?_ _ | refine blk_drew ?_ | refine blk_alloc ?_ _)); refine blk_far ?_ NB287_295.out _; (with_reducible repeat (first | refine blk_drewN ?_ _ | refine blk_drew ?_ | refine blk_alloc ?_ _)); refine blk_far ?_ NB287_295.out _; (with_reducible repeat (first | refine blk_drewN ?_ _ | refine blk_drew ?_ | refine blk_alloc ?_ _)); exact BK287.out) hb); have n3_ := Aside0.mk (IsS59.below (show IsS59 w ((w29.setCell ⟨gb295, 0, none⟩ (.int .i64 t290)).setCell ⟨gb295, 1, none⟩ (.int .i64 t291)) g280 t278 t294 from by repeat (first | (with_reducible first | exact HI280.out | apply IsS59.alloc | apply IsS59.drewN | apply IsS59.drew | apply IsS59.set_1 | refine IsS59.far ?_ NB280_286.out _ | refine IsS59.far ?_ NB280_287.out _ | refine IsS59.far ?_ NB280_295.out _) | exact HI280.out)) hb); have n4_ := Aside0.mk (blk_below (g := gb295) (o := .cells #[.int .i64 t290, .int .i64 t291] 27 (0, 0)) (by (with_reducible repeat (first | refine blk_drewN ?_ _ | refine blk_drew ?_ | refine blk_alloc ?_ _)); refine blk_put (cs := #[.int .i64 t290, .int .i64 0]) ?_ 1 _ rfl; (with_reducible repeat (first | refine blk_drewN ?_ _ | refine blk_drew ?_ | refine blk_alloc ?_ _)); refine blk_put (cs := #[.int .i64 0, .int .i64 0]) ?_ 0 _ rfl; (with_reducible repeat (first | refine blk_drewN ?_ _ | refine blk_drew ?_ | refine blk_alloc ?_ _)); exact BK295.out) hb); have n5_ := Aside0.mk (below_step (by repeat (first | (with_reducible first | exact HB.out | apply below_alloc | apply pw_below_drewN | apply below_drew1 | refine below_set ?_ (IsS59.ge HI280.out) | refine below_set ?_ GE286.out | refine below_set ?_ GE287.out | refine below_set ?_ GE295.out) | exact HB.out)) hb); clear BK286; clear BK287; clear HI280; clear BK295; clear HB; have HO298 := n0_; have BK286 := n1_; have BK287 := n2_; have HI280 := n3_; have BK295 := n4_; have HB := n5_; clear n0_ n1_ n2_ n3_ n4_ n5_; clear hb ho35; obtain ⟨Ao36, co36, eo36⟩ := Kd.R_slice HO298.out; subst eo36) | ((with_reducible refine gate_callee (f := 16) rfl ?_); refine goesL_ (some 38) rfl rfl Try.func16 (by kernel_rfl) rfl #[.pointer (some ⟨g280, 0, none⟩), .slice Ao36 y296.length co36] rfl (by (try simp only [List.map_toArray, List.map_cons, List.map_nil]); first | done | rfl | (simp only [List.length_drop, List.length_take]; rfl)) ?_; (with_reducible refine (made_Dice_Of.calls g280 t278 t294 _ _ y296 t299 t300 w _ ?side1 ?side2 ?side3 ?side4 ?side5 A23.out).mono ?_); (case side1 => repeat (first | (with_reducible first | exact HI280.out | apply IsS59.alloc | apply IsS59.drewN | apply IsS59.drew | apply IsS59.set_1 | refine IsS59.far ?_ NB280_286.out _ | refine IsS59.far ?_ NB280_287.out _ | refine IsS59.far ?_ NB280_295.out _) | exact HI280.out)); (case side2 => repeat (first | (with_reducible first | exact HB.out | apply below_alloc | apply pw_below_drewN | apply below_drew1 | refine below_set ?_ (IsS59.ge HI280.out) | refine below_set ?_ GE286.out | refine below_set ?_ GE287.out | refine below_set ?_ GE295.out) | exact HB.out)); (case side3 => repeat (first | exact (Kd.R_reads' HO298.out).2.2 | (with_reducible refine Kd.C_alloc ?_ _) | (with_reducible refine Kd.C_drewN ?_ _) | (with_reducible refine Kd.C_drew ?_))); (case side4 => exact (Kd.R_reads' HO298.out).2.1); (case side5 => exact far_slice (IsS59.own_ne HI280.out HO298.out (by decide))); rintro e w37 ⟨rfl, hi, hb, hk⟩; refine ⟨_, rfl, ?_⟩; have n0_ := Aside0.mk (KeepBut.blk hk (g' := gb286) (o := .cells #[.int .i64 100, .int .i64 900, .int .i64 t284] 23 (0, 0)) (by (with_reducible repeat (first | refine blk_drewN ?_ _ | refine blk_drew ?_ | refine blk_alloc ?_ _)); exact BK286.out) NB286_280.out (by simp)); have n1_ := Aside0.mk (KeepBut.blk hk (g' := gb287) (o := .cells #[.int .i64 x288000_1, .int .i64 x288001_1, .bool x288002_1] 25 (0, 0)) (by (with_reducible repeat (first | refine blk_drewN ?_ _ | refine blk_drew ?_ | refine blk_alloc ?_ _)); exact BK287.out) NB287_280.out (by simp)); have n2_ := Aside0.mk (KeepBut.blk hk (g' := gb295) (o := .cells #[.int .i64 t290, .int .i64 t291] 27 (0, 0)) (by (with_reducible repeat (first | refine blk_drewN ?_ _ | refine blk_drew ?_ | refine blk_alloc ?_ _)); exact BK295.out) NB295_280.out (by simp)); have n3_ := Aside0.mk (Kd.R_mono (Kd.R_keep (IsS59.apart (show IsS59 w _ g280 t278 t294 from by repeat (first | (with_reducible first | exact HI280.out | apply IsS59.alloc | apply IsS59.drewN | apply IsS59.drew | apply IsS59.set_1 | refine IsS59.far ?_ NB280_286.out _ | refine IsS59.far ?_ NB280_287.out _ | refine IsS59.far ?_ NB280_295.out _) | exact HI280.out)) (by (with_reducible repeat (first | apply Kd.R_alloc | apply Kd.R_drewN | apply Kd.R_drew)); exact HO298.out) (by decide)) hk (fun _ h => h.2)) (fun _ h => h.1)); have n4_ := Aside0.mk (hb); have n5_ := Aside0.mk (hi); clear BK286; clear BK287; clear BK295; clear HO298; clear HB; clear HI280; have BK286 := n0_; have BK287 := n1_; have BK295 := n2_; have HO298 := n3_; have HB := n4_; have HI280 := n5_; clear n0_ n1_ n2_ n3_ n4_ n5_; (try clear hb); (try clear hb2); (try clear hk); (try clear hi); have hnb38 := NB286_287.out; have hnc38 := NB287_286.out; have hnb39 := NB286_280.out; have hnc39 := NB280_286.out; have hcz40_0 : w37.cell? ⟨gb286, 0, none⟩ = some (.int .i64 100) := (blk_cell BK286.out 0).trans rfl; have hcz40_1 : w37.cell? ⟨gb286, 1, none⟩ = some (.int .i64 900) := (blk_cell BK286.out 1).trans rfl; have hcz40_2 : w37.cell? ⟨gb286, 2, none⟩ = some (.int .i64 t284) := (blk_cell BK286.out 2).trans rfl; have hfz40_0 := blk_frozen BK286.out 0; have hfz40_1 := blk_frozen BK286.out 1; have hfz40_2 := blk_frozen BK286.out 2; have hnb41 := NB287_280.out; have hnc41 := NB280_287.out; have hcz42_0 : w37.cell? ⟨gb287, 0, none⟩ = some (.int .i64 x288000_1) := (blk_cell BK287.out 0).trans rfl; have hcz42_1 : w37.cell? ⟨gb287, 1, none⟩ = some (.int .i64 x288001_1) := (blk_cell BK287.out 1).trans rfl; have hcz42_2 : w37.cell? ⟨gb287, 2, none⟩ = some (.bool x288002_1) := (blk_cell BK287.out 2).trans rfl; have hfz42_0 := blk_frozen BK287.out 0; have hfz42_1 := blk_frozen BK287.out 1; have hfz42_2 := blk_frozen BK287.out 2; have hcz43_0 : w37.cell? ⟨gb295, 0, none⟩ = some (.int .i64 t290) := (blk_cell BK295.out 0).trans rfl; have hcz43_1 : w37.cell? ⟨gb295, 1, none⟩ = some (.int .i64 t291) := (blk_cell BK295.out 1).trans rfl; have hfz43_0 := blk_frozen BK295.out 0; have hfz43_1 := blk_frozen BK295.out 1) | ((with_reducible refine gate_callee (f := 23) rfl ?_); refine goesL_ (some 46) rfl rfl Try.func23 (by kernel_rfl) rfl #[.agg #[.int .i64 100, .int .i64 900, .int .i64 t284], .agg #[.int .i64 x288000_1, .int .i64 x288001_1, .bool x288002_1], .agg #[.int .i64 t290, .int .i64 t291], .bool t293, .int .i64 (wrap64 (x6_1 + t299))] rfl (by (try simp only [List.map_toArray, List.map_cons, List.map_nil]); first | done | rfl | (simp only [List.length_drop, List.length_take]; rfl)) ?_; (with_reducible refine (rope_Tick.calls 100 900 t284 x288000_1 x288001_1 x288002_1 t290 t291 t293 (wrap64 (x6_1 + t299)) t301 t302 t303 t304 _ A24.out).mono ?_); rintro e w44 ⟨rfl, hb⟩; refine ⟨_, rfl, ?_⟩; have n0_ := Aside0.mk (Kd.R_below (by (with_reducible repeat (first | apply Kd.R_alloc | apply Kd.R_drewN | apply Kd.R_drew)); exact HO298.out) hb); have n1_ := Aside0.mk (blk_below (g := gb286) (o := .cells #[.int .i64 100, .int .i64 900, .int .i64 t284] 23 (0, 0)) (by (with_reducible repeat (first | refine blk_drewN ?_ _ | refine blk_drew ?_ | refine blk_alloc ?_ _)); exact BK286.out) hb); have n2_ := Aside0.mk (blk_below (g := gb287) (o := .cells #[.int .i64 x288000_1, .int .i64 x288001_1, .bool x288002_1] 25 (0, 0)) (by (with_reducible repeat (first | refine blk_drewN ?_ _ | refine blk_drew ?_ | refine blk_alloc ?_ _)); exact BK287.out) hb); have n3_ := Aside0.mk (IsS59.below (by repeat (first | (with_reducible first | exact HI280.out | apply IsS59.alloc | apply IsS59.drewN | apply IsS59.drew | apply IsS59.set_1 | refine IsS59.far ?_ NB280_286.out _ | refine IsS59.far ?_ NB280_287.out _ | refine IsS59.far ?_ NB280_295.out _) | exact HI280.out)) hb); have n4_ := Aside0.mk (blk_below (g := gb295) (o := .cells #[.int .i64 t290, .int .i64 t291] 27 (0, 0)) (by (with_reducible repeat (first | refine blk_drewN ?_ _ | refine blk_drew ?_ | refine blk_alloc ?_ _)); exact BK295.out) hb); have n5_ := Aside0.mk (below_step (by repeat (first | (with_reducible first | exact HB.out | apply below_alloc | apply pw_below_drewN | apply below_drew1 | refine below_set ?_ (IsS59.ge HI280.out) | refine below_set ?_ GE286.out | refine below_set ?_ GE287.out | refine below_set ?_ GE295.out) | exact HB.out)) hb); clear HO298; clear BK286; clear BK287; clear HI280; clear BK295; clear HB; have HO298 := n0_; have BK286 := n1_; have BK287 := n2_; have HI280 := n3_; have BK295 := n4_; have HB := n5_; clear n0_ n1_ n2_ n3_ n4_ n5_; (try clear hb); (try clear hb2); (try clear hk); (try clear hi)) | ((with_reducible refine gate_dst (N := 10) rfl ?_); refine box_event ?hg (N := 10) ?hd (cs := #[.int .i64 0, .int .i64 0, .bool false]) (t := 25) ?hr ?_; (case hd => rfl); (case hg => rfl); (case hr => first | (go_simp; done) | (go_simp; rfl)); intro gb305 hg w45 hbox hb; have n0_ := Aside0.mk (Kd.R_below (by (with_reducible repeat (first | apply Kd.R_alloc | apply Kd.R_drewN | apply Kd.R_drew)); exact HO298.out) hb); have n1_ := Aside0.mk (blk_below (g := gb286) (o := .cells #[.int .i64 100, .int .i64 900, .int .i64 t284] 23 (0, 0)) (by (with_reducible repeat (first | refine blk_drewN ?_ _ | refine blk_drew ?_ | refine blk_alloc ?_ _)); exact BK286.out) hb); have n2_ := Aside0.mk (blk_below (g := gb287) (o := .cells #[.int .i64 x288000_1, .int .i64 x288001_1, .bool x288002_1] 25 (0, 0)) (by (with_reducible repeat (first | refine blk_drewN ?_ _ | refine blk_drew ?_ | refine blk_alloc ?_ _)); exact BK287.out) hb); have n3_ := Aside0.mk (IsS59.below (by repeat (first | (with_reducible first | exact HI280.out | apply IsS59.alloc | apply IsS59.drewN | apply IsS59.drew | apply IsS59.set_1 | refine IsS59.far ?_ NB280_286.out _ | refine IsS59.far ?_ NB280_287.out _ | refine IsS59.far ?_ NB280_295.out _) | exact HI280.out)) hb); have n4_ := Aside0.mk (blk_below (g := gb295) (o := .cells #[.int .i64 t290, .int .i64 t291] 27 (0, 0)) (by (with_reducible repeat (first | refine blk_drewN ?_ _ | refine blk_drew ?_ | refine blk_alloc ?_ _)); exact BK295.out) hb); have n5_ := Aside0.mk (below_step (by repeat (first | (with_reducible first | exact HB.out | apply below_alloc | apply pw_below_drewN | apply below_drew1 | refine below_set ?_ (IsS59.ge HI280.out) | refine below_set ?_ GE286.out | refine below_set ?_ GE287.out | refine below_set ?_ GE295.out) | exact HB.out)) hb); have n6_ := Aside0.mk (hbox); have n7_ := Aside0.mk ((by rw [hg]; exact (below_size (by repeat (first | (with_reducible first | exact HB.out | apply below_alloc | apply pw_below_drewN | apply below_drew1 | refine below_set ?_ (IsS59.ge HI280.out) | refine below_set ?_ GE286.out | refine below_set ?_ GE287.out | refine below_set ?_ GE295.out) | exact HB.out))) : w.heap.size ≤ gb305)); have n8_ := Aside0.mk ((by rw [hg]; exact (below_size (by repeat (first | (with_reducible first | exact HB.out | apply below_alloc | apply pw_below_drewN | apply below_drew1 | refine below_set ?_ (IsS59.ge HI280.out) | refine below_set ?_ GE286.out | refine below_set ?_ GE287.out | refine below_set ?_ GE295.out) | exact HB.out))) : w.heap.size ≤ gb305)); have n9_ := Aside0.mk ((by rw [hg]; exact Nat.ne_of_lt (blk_lt (g := gb286) (o := .cells #[.int .i64 100, .int .i64 900, .int .i64 t284] 23 (0, 0)) (by (with_reducible repeat (first | refine blk_drewN ?_ _ | refine blk_drew ?_ | refine blk_alloc ?_ _)); exact BK286.out)) : gb286 ≠ gb305)); have n10_ := Aside0.mk ((by rw [hg]; exact Nat.ne_of_gt (blk_lt (g := gb286) (o := .cells #[.int .i64 100, .int .i64 900, .int .i64 t284] 23 (0, 0)) (by (with_reducible repeat (first | refine blk_drewN ?_ _ | refine blk_drew ?_ | refine blk_alloc ?_ _)); exact BK286.out)) : gb305 ≠ gb286)); have n11_ := Aside0.mk ((by rw [hg]; exact Nat.ne_of_lt (blk_lt (g := gb287) (o := .cells #[.int .i64 x288000_1, .int .i64 x288001_1, .bool x288002_1] 25 (0, 0)) (by (with_reducible repeat (first | refine blk_drewN ?_ _ | refine blk_drew ?_ | refine blk_alloc ?_ _)); exact BK287.out)) : gb287 ≠ gb305)); have n12_ := Aside0.mk ((by rw [hg]; exact Nat.ne_of_gt (blk_lt (g := gb287) (o := .cells #[.int .i64 x288000_1, .int .i64 x288001_1, .bool x288002_1] 25 (0, 0)) (by (with_reducible repeat (first | refine blk_drewN ?_ _ | refine blk_drew ?_ | refine blk_alloc ?_ _)); exact BK287.out)) : gb305 ≠ gb287)); have n13_ := Aside0.mk ((by rw [hg]; exact Nat.ne_of_lt (blk_lt (g := gb295) (o := .cells #[.int .i64 t290, .int .i64 t291] 27 (0, 0)) (by (with_reducible repeat (first | refine blk_drewN ?_ _ | refine blk_drew ?_ | refine blk_alloc ?_ _)); exact BK295.out)) : gb295 ≠ gb305)); have n14_ := Aside0.mk ((by rw [hg]; exact Nat.ne_of_gt (blk_lt (g := gb295) (o := .cells #[.int .i64 t290, .int .i64 t291] 27 (0, 0)) (by (with_reducible repeat (first | refine blk_drewN ?_ _ | refine blk_drew ?_ | refine blk_alloc ?_ _)); exact BK295.out)) : gb305 ≠ gb295)); have n15_ := Aside0.mk ((by rw [hg]; exact Nat.ne_of_lt (IsS59.lt (show IsS59 w _ g280 t278 t300 from by repeat (first | (with_reducible first | exact HI280.out | apply IsS59.alloc | apply IsS59.drewN | apply IsS59.drew | apply IsS59.set_1 | refine IsS59.far ?_ NB280_286.out _ | refine IsS59.far ?_ NB280_287.out _ | refine IsS59.far ?_ NB280_295.out _) | exact HI280.out))) : g280 ≠ gb305)); have n16_ := Aside0.mk ((by rw [hg]; exact Nat.ne_of_gt (IsS59.lt (show IsS59 w _ g280 t278 t300 from by repeat (first | (with_reducible first | exact HI280.out | apply IsS59.alloc | apply IsS59.drewN | apply IsS59.drew | apply IsS59.set_1 | refine IsS59.far ?_ NB280_286.out _ | refine IsS59.far ?_ NB280_287.out _ | refine IsS59.far ?_ NB280_295.out _) | exact HI280.out))) : gb305 ≠ g280)); clear HO298; clear BK286; clear BK287; clear HI280; clear BK295; clear HB; have HO298 := n0_; have BK286 := n1_; have BK287 := n2_; have HI280 := n3_; have BK295 := n4_; have HB := n5_; have BK305 := n6_; have GW305 := n7_; have GE305 := n8_; have NB286_305 := n9_; have NB305_286 := n10_; have NB287_305 := n11_; have NB305_287 := n12_; have NB295_305 := n13_; have NB305_295 := n14_; have NB280_305 := n15_; have NB305_280 := n16_; clear n0_ n1_ n2_ n3_ n4_ n5_ n6_ n7_ n8_ n9_ n10_ n11_ n12_ n13_ n14_ n15_ n16_; clear hb hbox hg; have hnb46 := NB305_286.out; have hnc46 := NB286_305.out; have hnb47 := NB305_287.out; have hnc47 := NB287_305.out; have hnb48 := NB305_295.out; have hnc48 := NB295_305.out; have hnb49 := NB305_280.out; have hnc49 := NB280_305.out; have hcz50_0 : w45.cell? ⟨gb305, 0, none⟩ = some (.int .i64 0) := (blk_cell BK305.out 0).trans rfl; have hcz50_1 : w45.cell? ⟨gb305, 1, none⟩ = some (.int .i64 0) := (blk_cell BK305.out 1).trans rfl; have hcz50_2 : w45.cell? ⟨gb305, 2, none⟩ = some (.bool false) := (blk_cell BK305.out 2).trans rfl; have hfz50_0 := blk_frozen BK305.out 0; have hfz50_1 := blk_frozen BK305.out 1; have hfz50_2 := blk_frozen BK305.out 2; have hcz51_0 : w45.cell? ⟨gb286, 0, none⟩ = some (.int .i64 100) := (blk_cell BK286.out 0).trans rfl; have hcz51_1 : w45.cell? ⟨gb286, 1, none⟩ = some (.int .i64 900) := (blk_cell BK286.out 1).trans rfl; have hcz51_2 : w45.cell? ⟨gb286, 2, none⟩ = some (.int .i64 t284) := (blk_cell BK286.out 2).trans rfl; have hfz51_0 := blk_frozen BK286.out 0; have hfz51_1 := blk_frozen BK286.out 1; have hfz51_2 := blk_frozen BK286.out 2; have hcz52_0 : w45.cell? ⟨gb295, 0, none⟩ = some (.int .i64 t290) := (blk_cell BK295.out 0).trans rfl; have hcz52_1 : w45.cell? ⟨gb295, 1, none⟩ = some (.int .i64 t291) := (blk_cell BK295.out 1).trans rfl; have hfz52_0 := blk_frozen BK295.out 0; have hfz52_1 := blk_frozen BK295.out 1) | ((with_reducible refine gate_callee (f := 23) rfl ?_); refine goesL_ (some 55) rfl rfl Try.func23 (by kernel_rfl) rfl #[.agg #[.int .i64 100, .int .i64 900, .int .i64 t284], .agg #[.int .i64 t301, .int .i64 t302, .bool t303], .agg #[.int .i64 t290, .int .i64 t291], .bool t293, .int .i64 (wrap64 (x6_1 + t299))] rfl (by (try simp only [List.map_toArray, List.map_cons, List.map_nil]); first | done | rfl | (simp only [List.length_drop, List.length_take]; rfl)) ?_; (with_reducible refine (rope_Tick.calls 100 900 t284 t301 t302 t303 t290 t291 t293 (wrap64 (x6_1 + t299)) t306 t307 t308 t309 _ A25.out).mono ?_); rintro e w53 ⟨rfl, hb⟩; refine ⟨_, rfl, ?_⟩; have n0_ := Aside0.mk (Kd.R_below (by (with_reducible repeat (first | apply Kd.R_alloc | apply Kd.R_drewN | apply Kd.R_drew)); exact (Kd.R_mono (Kd.R_far (p := ⟨gb305, 2, none⟩) (Kd.R_far (p := ⟨gb305, 1, none⟩) (Kd.R_far (p := ⟨gb305, 0, none⟩) (Kd.R_types HO298.out BK305.out (by decide)) (fun _ hk => hk.2) (.int .i64 t301)) (fun _ hk => hk.2) (.int .i64 t302)) (fun _ hk => hk.2) (.bool t303)) (fun _ h_ => h_.1))) hb); have n1_ := Aside0.mk (blk_below (g := gb286) (o := .cells #[.int .i64 100, .int .i64 900, .int .i64 t284] 23 (0, 0)) (by (with_reducible repeat (first | refine blk_drewN ?_ _ | refine blk_drew ?_ | refine blk_alloc ?_ _)); refine blk_far ?_ NB286_305.out _; (with_reducible repeat (first | refine blk_drewN ?_ _ | refine blk_drew ?_ | refine blk_alloc ?_ _)); refine blk_far ?_ NB286_305.out _; (with_reducible repeat (first | refine blk_drewN ?_ _ | refine blk_drew ?_ | refine blk_alloc ?_ _)); refine blk_far ?_ NB286_305.out _; (with_reducible repeat (first | refine blk_drewN ?_ _ | refine blk_drew ?_ | refine blk_alloc ?_ _)); exact BK286.out) hb); have n2_ := Aside0.mk (blk_below (g := gb287) (o := .cells #[.int .i64 x288000_1, .int .i64 x288001_1, .bool x288002_1] 25 (0, 0)) (by (with_reducible repeat (first | refine blk_drewN ?_ _ | refine blk_drew ?_ | refine blk_alloc ?_ _)); refine blk_far ?_ NB287_305.out _; (with_reducible repeat (first | refine blk_drewN ?_ _ | refine blk_drew ?_ | refine blk_alloc ?_ _)); refine blk_far ?_ NB287_305.out _; (with_reducible repeat (first | refine blk_drewN ?_ _ | refine blk_drew ?_ | refine blk_alloc ?_ _)); refine blk_far ?_ NB287_305.out _; (with_reducible repeat (first | refine blk_drewN ?_ _ | refine blk_drew ?_ | refine blk_alloc ?_ _)); exact BK287.out) hb); have n3_ := Aside0.mk (IsS59.below (show IsS59 w (((w45.setCell ⟨gb305, 0, none⟩ (.int .i64 t301)).setCell ⟨gb305, 1, none⟩ (.int .i64 t302)).setCell ⟨gb305, 2, none⟩ (.bool t303)) g280 t278 t300 from by repeat (first | (with_reducible first | exact HI280.out | apply IsS59.alloc | apply IsS59.drewN | apply IsS59.drew | apply IsS59.set_1 | refine IsS59.far ?_ NB280_286.out _ | refine IsS59.far ?_ NB280_287.out _ | refine IsS59.far ?_ NB280_295.out _ | refine IsS59.far ?_ NB280_305.out _) | exact HI280.out)) hb); have n4_ := Aside0.mk (blk_below (g := gb295) (o := .cells #[.int .i64 t290, .int .i64 t291] 27 (0, 0)) (by (with_reducible repeat (first | refine blk_drewN ?_ _ | refine blk_drew ?_ | refine blk_alloc ?_ _)); refine blk_far ?_ NB295_305.out _; (with_reducible repeat (first | refine blk_drewN ?_ _ | refine blk_drew ?_ | refine blk_alloc ?_ _)); refine blk_far ?_ NB295_305.out _; (with_reducible repeat (first | refine blk_drewN ?_ _ | refine blk_drew ?_ | refine blk_alloc ?_ _)); refine blk_far ?_ NB295_305.out _; (with_reducible repeat (first | refine blk_drewN ?_ _ | refine blk_drew ?_ | refine blk_alloc ?_ _)); exact BK295.out) hb); have n5_ := Aside0.mk (blk_below (g := gb305) (o := .cells #[.int .i64 t301, .int .i64 t302, .bool t303] 25 (0, 0)) (by (with_reducible repeat (first | refine blk_drewN ?_ _ | refine blk_drew ?_ | refine blk_alloc ?_ _)); refine blk_put (cs := #[.int .i64 t301, .int .i64 t302, .bool false]) ?_ 2 _ rfl; (with_reducible repeat (first | refine blk_drewN ?_ _ | refine blk_drew ?_ | refine blk_alloc ?_ _)); refine blk_put (cs := #[.int .i64 t301, .int .i64 0, .bool false]) ?_ 1 _ rfl; (with_reducible repeat (first | refine blk_drewN ?_ _ | refine blk_drew ?_ | refine blk_alloc ?_ _)); refine blk_put (cs := #[.int .i64 0, .int .i64 0, .bool false]) ?_ 0 _ rfl; (with_reducible repeat (first | refine blk_drewN ?_ _ | refine blk_drew ?_ | refine blk_alloc ?_ _)); exact BK305.out) hb); have n6_ := Aside0.mk (below_step (by repeat (first | (with_reducible first | exact HB.out | apply below_alloc | apply pw_below_drewN | apply below_drew1 | refine below_set ?_ (IsS59.ge HI280.out) | refine below_set ?_ GE286.out | refine below_set ?_ GE287.out | refine below_set ?_ GE295.out | refine below_set ?_ GE305.out) | exact HB.out)) hb); clear HO298; clear BK286; clear BK287; clear HI280; clear BK295; clear BK305; clear HB; have HO298 := n0_; have BK286 := n1_; have BK287 := n2_; have HI280 := n3_; have BK295 := n4_; have BK305 := n5_; have HB := n6_; clear n0_ n1_ n2_ n3_ n4_ n5_ n6_; (try clear hb); (try clear hb2); (try clear hk); (try clear hi)) | ((with_reducible refine gate_dst (N := 12) rfl ?_); refine box_event ?hg (N := 12) ?hd (cs := #[.int .i64 0, .int .i64 0, .bool false]) (t := 25) ?hr ?_; (case hd => rfl); (case hg => rfl); (case hr => first | (go_simp; done) | (go_simp; rfl)); intro gb310 hg w54 hbox hb; have n0_ := Aside0.mk (Kd.R_below (by (with_reducible repeat (first | apply Kd.R_alloc | apply Kd.R_drewN | apply Kd.R_drew)); exact HO298.out) hb); have n1_ := Aside0.mk (blk_below (g := gb286) (o := .cells #[.int .i64 100, .int .i64 900, .int .i64 t284] 23 (0, 0)) (by (with_reducible repeat (first | refine blk_drewN ?_ _ | refine blk_drew ?_ | refine blk_alloc ?_ _)); exact BK286.out) hb); have n2_ := Aside0.mk (blk_below (g := gb287) (o := .cells #[.int .i64 x288000_1, .int .i64 x288001_1, .bool x288002_1] 25 (0, 0)) (by (with_reducible repeat (first | refine blk_drewN ?_ _ | refine blk_drew ?_ | refine blk_alloc ?_ _)); exact BK287.out) hb); have n3_ := Aside0.mk (IsS59.below (by repeat (first | (with_reducible first | exact HI280.out | apply IsS59.alloc | apply IsS59.drewN | apply IsS59.drew | apply IsS59.set_1 | refine IsS59.far ?_ NB280_286.out _ | refine IsS59.far ?_ NB280_287.out _ | refine IsS59.far ?_ NB280_295.out _ | refine IsS59.far ?_ NB280_305.out _) | exact HI280.out)) hb); have n4_ := Aside0.mk (blk_below (g := gb295) (o := .cells #[.int .i64 t290, .int .i64 t291] 27 (0, 0)) (by (with_reducible repeat (first | refine blk_drewN ?_ _ | refine blk_drew ?_ | refine blk_alloc ?_ _)); exact BK295.out) hb); have n5_ := Aside0.mk (blk_below (g := gb305) (o := .cells #[.int .i64 t301, .int .i64 t302, .bool t303] 25 (0, 0)) (by (with_reducible repeat (first | refine blk_drewN ?_ _ | refine blk_drew ?_ | refine blk_alloc ?_ _)); exact BK305.out) hb); have n6_ := Aside0.mk (below_step (by repeat (first | (with_reducible first | exact HB.out | apply below_alloc | apply pw_below_drewN | apply below_drew1 | refine below_set ?_ (IsS59.ge HI280.out) | refine below_set ?_ GE286.out | refine below_set ?_ GE287.out | refine below_set ?_ GE295.out | refine below_set ?_ GE305.out) | exact HB.out)) hb); have n7_ := Aside0.mk (hbox); have n8_ := Aside0.mk ((by rw [hg]; exact (below_size (by repeat (first | (with_reducible first | exact HB.out | apply below_alloc | apply pw_below_drewN | apply below_drew1 | refine below_set ?_ (IsS59.ge HI280.out) | refine below_set ?_ GE286.out | refine below_set ?_ GE287.out | refine below_set ?_ GE295.out | refine below_set ?_ GE305.out) | exact HB.out))) : w.heap.size ≤ gb310)); have n9_ := Aside0.mk ((by rw [hg]; exact (below_size (by repeat (first | (with_reducible first | exact HB.out | apply below_alloc | apply pw_below_drewN | apply below_drew1 | refine below_set ?_ (IsS59.ge HI280.out) | refine below_set ?_ GE286.out | refine below_set ?_ GE287.out | refine below_set ?_ GE295.out | refine below_set ?_ GE305.out) | exact HB.out))) : w.heap.size ≤ gb310)); have n10_ := Aside0.mk ((by rw [hg]; exact Nat.ne_of_lt (blk_lt (g := gb286) (o := .cells #[.int .i64 100, .int .i64 900, .int .i64 t284] 23 (0, 0)) (by (with_reducible repeat (first | refine blk_drewN ?_ _ | refine blk_drew ?_ | refine blk_alloc ?_ _)); exact BK286.out)) : gb286 ≠ gb310)); have n11_ := Aside0.mk ((by rw [hg]; exact Nat.ne_of_gt (blk_lt (g := gb286) (o := .cells #[.int .i64 100, .int .i64 900, .int .i64 t284] 23 (0, 0)) (by (with_reducible repeat (first | refine blk_drewN ?_ _ | refine blk_drew ?_ | refine blk_alloc ?_ _)); exact BK286.out)) : gb310 ≠ gb286)); have n12_ := Aside0.mk ((by rw [hg]; exact Nat.ne_of_lt (blk_lt (g := gb287) (o := .cells #[.int .i64 x288000_1, .int .i64 x288001_1, .bool x288002_1] 25 (0, 0)) (by (with_reducible repeat (first | refine blk_drewN ?_ _ | refine blk_drew ?_ | refine blk_alloc ?_ _)); exact BK287.out)) : gb287 ≠ gb310)); have n13_ := Aside0.mk ((by rw [hg]; exact Nat.ne_of_gt (blk_lt (g := gb287) (o := .cells #[.int .i64 x288000_1, .int .i64 x288001_1, .bool x288002_1] 25 (0, 0)) (by (with_reducible repeat (first | refine blk_drewN ?_ _ | refine blk_drew ?_ | refine blk_alloc ?_ _)); exact BK287.out)) : gb310 ≠ gb287)); have n14_ := Aside0.mk ((by rw [hg]; exact Nat.ne_of_lt (blk_lt (g := gb295) (o := .cells #[.int .i64 t290, .int .i64 t291] 27 (0, 0)) (by (with_reducible repeat (first | refine blk_drewN ?_ _ | refine blk_drew ?_ | refine blk_alloc ?_ _)); exact BK295.out)) : gb295 ≠ gb310)); have n15_ := Aside0.mk ((by rw [hg]; exact Nat.ne_of_gt (blk_lt (g := gb295) (o := .cells #[.int .i64 t290, .int .i64 t291] 27 (0, 0)) (by (with_reducible repeat (first | refine blk_drewN ?_ _ | refine blk_drew ?_ | refine blk_alloc ?_ _)); exact BK295.out)) : gb310 ≠ gb295)); have n16_ := Aside0.mk ((by rw [hg]; exact Nat.ne_of_lt (blk_lt (g := gb305) (o := .cells #[.int .i64 t301, .int .i64 t302, .bool t303] 25 (0, 0)) (by (with_reducible repeat (first | refine blk_drewN ?_ _ | refine blk_drew ?_ | refine blk_alloc ?_ _)); exact BK305.out)) : gb305 ≠ gb310)); have n17_ := Aside0.mk ((by rw [hg]; exact Nat.ne_of_gt (blk_lt (g := gb305) (o := .cells #[.int .i64 t301, .int .i64 t302, .bool t303] 25 (0, 0)) (by (with_reducible repeat (first | refine blk_drewN ?_ _ | refine blk_drew ?_ | refine blk_alloc ?_ _)); exact BK305.out)) : gb310 ≠ gb305)); have n18_ := Aside0.mk ((by rw [hg]; exact Nat.ne_of_lt (IsS59.lt (show IsS59 w _ g280 t278 t300 from by repeat (first | (with_reducible first | exact HI280.out | apply IsS59.alloc | apply IsS59.drewN | apply IsS59.drew | apply IsS59.set_1 | refine IsS59.far ?_ NB280_286.out _ | refine IsS59.far ?_ NB280_287.out _ | refine IsS59.far ?_ NB280_295.out _ | refine IsS59.far ?_ NB280_305.out _) | exact HI280.out))) : g280 ≠ gb310)); have n19_ := Aside0.mk ((by rw [hg]; exact Nat.ne_of_gt (IsS59.lt (show IsS59 w _ g280 t278 t300 from by repeat (first | (with_reducible first | exact HI280.out | apply IsS59.alloc | apply IsS59.drewN | apply IsS59.drew | apply IsS59.set_1 | refine IsS59.far ?_ NB280_286.out _ | refine IsS59.far ?_ NB280_287.out _ | refine IsS59.far ?_ NB280_295.out _ | refine IsS59.far ?_ NB280_305.out _) | exact HI280.out))) : gb310 ≠ g280)); clear HO298; clear BK286; clear BK287; clear HI280; clear BK295; clear BK305; clear HB; have HO298 := n0_; have BK286 := n1_; have BK287 := n2_; have HI280 := n3_; have BK295 := n4_; have BK305 := n5_; have HB := n6_; have BK310 := n7_; have GW310 := n8_; have GE310 := n9_; have NB286_310 := n10_; have NB310_286 := n11_; have NB287_310 := n12_; have NB310_287 := n13_; have NB295_310 := n14_; have NB310_295 := n15_; have NB305_310 := n16_; have NB310_305 := n17_; have NB280_310 := n18_; have NB310_280 := n19_; clear n0_ n1_ n2_ n3_ n4_ n5_ n6_ n7_ n8_ n9_ n10_ n11_ n12_ n13_ n14_ n15_ n16_ n17_ n18_ n19_; clear hb hbox hg; have hnb55 := NB310_286.out; have hnc55 := NB286_310.out; have hnb56 := NB310_287.out; have hnc56 := NB287_310.out; have hnb57 := NB310_295.out; have hnc57 := NB295_310.out; have hnb58 := NB310_305.out; have hnc58 := NB305_310.out; have hnb59 := NB310_280.out; have hnc59 := NB280_310.out; have hcz60_0 : w54.cell? ⟨gb310, 0, none⟩ = some (.int .i64 0) := (blk_cell BK310.out 0).trans rfl; have hcz60_1 : w54.cell? ⟨gb310, 1, none⟩ = some (.int .i64 0) := (blk_cell BK310.out 1).trans rfl; have hcz60_2 : w54.cell? ⟨gb310, 2, none⟩ = some (.bool false) := (blk_cell BK310.out 2).trans rfl; have hfz60_0 := blk_frozen BK310.out 0; have hfz60_1 := blk_frozen BK310.out 1; have hfz60_2 := blk_frozen BK310.out 2))
     (try simp only [Act.put, List.setIfInBounds_toArray, List.set_cons_zero, List.set_cons_succ])
     go_cut [106] (fun v106 wc => ∃ (kq : Nat) (x106_25 : Bool), v106 = .bool x106_25 ∧ Aside0 (law38_RopeTwice.j1 kq (wrap64 (x6_1 + t299)) x7_1 x106_25 t278 t300 100 900 t284 t301 t302 t303 = some r) ∧ Aside0 (kq ≤ k1) ∧ Aside0 (wc.heap[gb286]? = some (.cells #[.int .i64 100, .int .i64 900, .int .i64 t284] 23 (0, 0))) ∧ Aside0 (wc.heap[gb287]? = some (.cells #[.int .i64 x288000_1, .int .i64 x288001_1, .bool x288002_1] 25 (0, 0))) ∧ Aside0 (wc.heap[gb295]? = some (.cells #[.int .i64 t290, .int .i64 t291] 27 (0, 0))) ∧ Aside0 (wc.heap[gb305]? = some (.cells #[.int .i64 t301, .int .i64 t302, .bool t303] 25 (0, 0))) ∧ Aside0 (wc.heap[gb310]? = some (.cells #[.int .i64 t306, .int .i64 t307, .bool t308] 25 (0, 0))) ∧ Aside0 (IsS59 w wc g280 t278 t300) ∧ Aside0 (Below w.heap.size w wc))
     case first =>
      have H := HC26.out
      clear HC26
      by_cases c61 : t304 = 0
      ·rw [if_pos c61] at H
       have c61b0 : (t304 == 0) = true := beq_iff_eq.mpr c61
       have c61b1 : (t304 != 0) = false := bne_eq_false_iff_eq.mpr c61
       clear c61
       (first | rw [c61b0] | (simp only [i64_w, i32_w]; rw [c61b0]) | skip)
       by_cases c62 : t309 = 0
       ·rw [if_pos c62] at H
        have c62b0 : (t309 == 0) = true := beq_iff_eq.mpr c62
        have c62b1 : (t309 != 0) = false := bne_eq_false_iff_eq.mpr c62
        clear c62
        by_cases c63 : (!(t301 == t306) || (!(t302 == t307) || (!(t303 == t308)))) = true
        ·rw [if_pos c63] at H
         have c63b0 : (!(t301 == t306) || (!(t302 == t307) || (!(t303 == t308)))) = true := c63
         clear c63
         exact absurd H (by simp)
        ·rw [if_neg c63] at H
         have c63b0 : (!(t301 == t306) || (!(t302 == t307) || (!(t303 == t308)))) = false := by simpa using c63
         clear c63
         replace H := Option.bind_eq_some_iff.mp H
         obtain ⟨t311, A640, H⟩ := H
         replace H : (if t311 = 0 then (if x288000_1 ≥ 0 then (if t301 ≥ 0 then (law38_RopeTwice.j1 k1 (wrap64 (x6_1 + t299)) x7_1 (t301 != x288000_1) t278 t300 100 900 t284 t301 t302 t303) else (law38_RopeTwice.j1 k1 (wrap64 (x6_1 + t299)) x7_1 false t278 t300 100 900 t284 t301 t302 t303)) else (law38_RopeTwice.j1 k1 (wrap64 (x6_1 + t299)) x7_1 false t278 t300 100 900 t284 t301 t302 t303)) else ((rope_Slack.f 100 900 t284 t301 t302 t303 (wrap64 ((wrap64 (x6_1 + t299)) + 7))).bind fun t311 => ((rope_Slack.f 100 900 t284 t301 t302 t303 (wrap64 (x6_1 + t299))).bind fun t313 => (if t311 = (wrap64 (t313 + 7)) then (if x288000_1 ≥ 0 then (if t301 ≥ 0 then (law38_RopeTwice.j1 k1 (wrap64 (x6_1 + t299)) x7_1 (t301 != x288000_1) t278 t300 100 900 t284 t301 t302 t303) else (law38_RopeTwice.j1 k1 (wrap64 (x6_1 + t299)) x7_1 false t278 t300 100 900 t284 t301 t302 t303)) else (law38_RopeTwice.j1 k1 (wrap64 (x6_1 + t299)) x7_1 false t278 t300 100 900 t284 t301 t302 t303)) else (none))))) = some r := H
         have A64 := Aside0.mk A640
         clear A640
         by_cases c65 : t311 = 0
         ·rw [if_pos c65] at H
          have c65b0 : (t311 == 0) = true := beq_iff_eq.mpr c65
          have c65b1 : (t311 != 0) = false := bne_eq_false_iff_eq.mpr c65
          clear c65
          by_cases c66 : x288000_1 ≥ 0
          ·rw [if_pos c66] at H
           have c66b0 : decide (0 ≤ x288000_1) = true := decide_eq_true c66
           clear c66
           by_cases c67 : t301 ≥ 0
           ·rw [if_pos c67] at H
            have c67b0 : decide (0 ≤ t301) = true := decide_eq_true c67
            clear c67
            have H' := Aside0.mk H
            clear H
            try go_wp2
            have n0_ : Aside0 (Kd.R (Kd.int .i64) 3 (((w54.setCell ⟨gb310, 0, none⟩ (.int .i64 t306)).setCell ⟨gb310, 1, none⟩ (.int .i64 t307)).setCell ⟨gb310, 2, none⟩ (.bool t308)) w.heap.size (fun _ => True) (.slice Ao36 y296.length co36) y296) := ⟨by (with_reducible repeat (first | apply Kd.R_alloc | apply Kd.R_drewN | apply Kd.R_drew)); exact Kd.R_mono (Kd.R_far (p := ⟨gb310, 2, none⟩) (Kd.R_far (p := ⟨gb310, 1, none⟩) (Kd.R_far (p := ⟨gb310, 0, none⟩) (Kd.R_types HO298.out BK310.out (by decide)) (fun _ hk => hk.2) (.int .i64 t306)) (fun _ hk => hk.2) (.int .i64 t307)) (fun _ hk => hk.2) (.bool t308)) (fun _ hk => trivial)⟩
            have n1_ : Aside0 ((((w54.setCell ⟨gb310, 0, none⟩ (.int .i64 t306)).setCell ⟨gb310, 1, none⟩ (.int .i64 t307)).setCell ⟨gb310, 2, none⟩ (.bool t308)).heap[gb286]? = some (.cells #[.int .i64 100, .int .i64 900, .int .i64 t284] 23 (0, 0))) := ⟨by (with_reducible repeat (first | refine blk_drewN ?_ _ | refine blk_drew ?_ | refine blk_alloc ?_ _)); refine blk_far ?_ NB286_310.out _; (with_reducible repeat (first | refine blk_drewN ?_ _ | refine blk_drew ?_ | refine blk_alloc ?_ _)); refine blk_far ?_ NB286_310.out _; (with_reducible repeat (first | refine blk_drewN ?_ _ | refine blk_drew ?_ | refine blk_alloc ?_ _)); refine blk_far ?_ NB286_310.out _; (with_reducible repeat (first | refine blk_drewN ?_ _ | refine blk_drew ?_ | refine blk_alloc ?_ _)); exact BK286.out⟩
            have n2_ : Aside0 ((((w54.setCell ⟨gb310, 0, none⟩ (.int .i64 t306)).setCell ⟨gb310, 1, none⟩ (.int .i64 t307)).setCell ⟨gb310, 2, none⟩ (.bool t308)).heap[gb287]? = some (.cells #[.int .i64 x288000_1, .int .i64 x288001_1, .bool x288002_1] 25 (0, 0))) := ⟨by (with_reducible repeat (first | refine blk_drewN ?_ _ | refine blk_drew ?_ | refine blk_alloc ?_ _)); refine blk_far ?_ NB287_310.out _; (with_reducible repeat (first | refine blk_drewN ?_ _ | refine blk_drew ?_ | refine blk_alloc ?_ _)); refine blk_far ?_ NB287_310.out _; (with_reducible repeat (first | refine blk_drewN ?_ _ | refine blk_drew ?_ | refine blk_alloc ?_ _)); refine blk_far ?_ NB287_310.out _; (with_reducible repeat (first | refine blk_drewN ?_ _ | refine blk_drew ?_ | refine blk_alloc ?_ _)); exact BK287.out⟩
            have n3_ : Aside0 ((((w54.setCell ⟨gb310, 0, none⟩ (.int .i64 t306)).setCell ⟨gb310, 1, none⟩ (.int .i64 t307)).setCell ⟨gb310, 2, none⟩ (.bool t308)).heap[gb295]? = some (.cells #[.int .i64 t290, .int .i64 t291] 27 (0, 0))) := ⟨by (with_reducible repeat (first | refine blk_drewN ?_ _ | refine blk_drew ?_ | refine blk_alloc ?_ _)); refine blk_far ?_ NB295_310.out _; (with_reducible repeat (first | refine blk_drewN ?_ _ | refine blk_drew ?_ | refine blk_alloc ?_ _)); refine blk_far ?_ NB295_310.out _; (with_reducible repeat (first | refine blk_drewN ?_ _ | refine blk_drew ?_ | refine blk_alloc ?_ _)); refine blk_far ?_ NB295_310.out _; (with_reducible repeat (first | refine blk_drewN ?_ _ | refine blk_drew ?_ | refine blk_alloc ?_ _)); exact BK295.out⟩
            have n4_ : Aside0 ((((w54.setCell ⟨gb310, 0, none⟩ (.int .i64 t306)).setCell ⟨gb310, 1, none⟩ (.int .i64 t307)).setCell ⟨gb310, 2, none⟩ (.bool t308)).heap[gb305]? = some (.cells #[.int .i64 t301, .int .i64 t302, .bool t303] 25 (0, 0))) := ⟨by (with_reducible repeat (first | refine blk_drewN ?_ _ | refine blk_drew ?_ | refine blk_alloc ?_ _)); refine blk_far ?_ NB305_310.out _; (with_reducible repeat (first | refine blk_drewN ?_ _ | refine blk_drew ?_ | refine blk_alloc ?_ _)); refine blk_far ?_ NB305_310.out _; (with_reducible repeat (first | refine blk_drewN ?_ _ | refine blk_drew ?_ | refine blk_alloc ?_ _)); refine blk_far ?_ NB305_310.out _; (with_reducible repeat (first | refine blk_drewN ?_ _ | refine blk_drew ?_ | refine blk_alloc ?_ _)); exact BK305.out⟩
            have n5_ : Aside0 ((((w54.setCell ⟨gb310, 0, none⟩ (.int .i64 t306)).setCell ⟨gb310, 1, none⟩ (.int .i64 t307)).setCell ⟨gb310, 2, none⟩ (.bool t308)).heap[gb310]? = some (.cells #[.int .i64 t306, .int .i64 t307, .bool t308] 25 (0, 0))) := ⟨by (with_reducible repeat (first | refine blk_drewN ?_ _ | refine blk_drew ?_ | refine blk_alloc ?_ _)); refine blk_put (cs := #[.int .i64 t306, .int .i64 t307, .bool false]) ?_ 2 _ rfl; (with_reducible repeat (first | refine blk_drewN ?_ _ | refine blk_drew ?_ | refine blk_alloc ?_ _)); refine blk_put (cs := #[.int .i64 t306, .int .i64 0, .bool false]) ?_ 1 _ rfl; (with_reducible repeat (first | refine blk_drewN ?_ _ | refine blk_drew ?_ | refine blk_alloc ?_ _)); refine blk_put (cs := #[.int .i64 0, .int .i64 0, .bool false]) ?_ 0 _ rfl; (with_reducible repeat (first | refine blk_drewN ?_ _ | refine blk_drew ?_ | refine blk_alloc ?_ _)); exact BK310.out⟩
            have n6_ : Aside0 (IsS59 w (((w54.setCell ⟨gb310, 0, none⟩ (.int .i64 t306)).setCell ⟨gb310, 1, none⟩ (.int .i64 t307)).setCell ⟨gb310, 2, none⟩ (.bool t308)) g280 t278 t300) := ⟨by repeat (first | (with_reducible first | exact HI280.out | apply IsS59.alloc | apply IsS59.drewN | apply IsS59.drew | apply IsS59.set_1 | refine IsS59.far ?_ NB280_286.out _ | refine IsS59.far ?_ NB280_287.out _ | refine IsS59.far ?_ NB280_295.out _ | refine IsS59.far ?_ NB280_305.out _ | refine IsS59.far ?_ NB280_310.out _) | exact HI280.out)⟩
            have n7_ : Aside0 (Below w.heap.size w (((w54.setCell ⟨gb310, 0, none⟩ (.int .i64 t306)).setCell ⟨gb310, 1, none⟩ (.int .i64 t307)).setCell ⟨gb310, 2, none⟩ (.bool t308))) := ⟨by repeat (first | (with_reducible first | exact HB.out | apply below_alloc | apply pw_below_drewN | apply below_drew1 | refine below_set ?_ (IsS59.ge HI280.out) | refine below_set ?_ GE286.out | refine below_set ?_ GE287.out | refine below_set ?_ GE295.out | refine below_set ?_ GE305.out | refine below_set ?_ GE310.out) | exact HB.out)⟩
            (try clear HO298); (try clear BK286); (try clear BK287); (try clear BK295); (try clear BK305); (try clear BK310); (try clear HI280); (try clear HB)
            generalize (((w54.setCell ⟨gb310, 0, none⟩ (.int .i64 t306)).setCell ⟨gb310, 1, none⟩ (.int .i64 t307)).setCell ⟨gb310, 2, none⟩ (.bool t308)) = w68 at n0_ n1_ n2_ n3_ n4_ n5_ n6_ n7_ ⊢
            have HO298 := n0_; have BK286 := n1_; have BK287 := n2_; have BK295 := n3_; have BK305 := n4_; have BK310 := n5_; have HI280 := n6_; have HB := n7_
            clear n0_ n1_ n2_ n3_ n4_ n5_ n6_ n7_
            have n0_ := Aside0.mk (Kd.R_drew HO298.out)
            have n1_ := Aside0.mk (blk_drew BK286.out)
            have n2_ := Aside0.mk (blk_drew BK287.out)
            have n3_ := Aside0.mk (blk_drew BK295.out)
            have n4_ := Aside0.mk (blk_drew BK305.out)
            have n5_ := Aside0.mk (blk_drew BK310.out)
            have n6_ := Aside0.mk (IsS59.drew HI280.out)
            have n7_ := Aside0.mk (below_drew1 HB.out)
            clear HO298; clear BK286; clear BK287; clear BK295; clear BK305; clear BK310; clear HI280; clear HB; have HO298 := n0_; have BK286 := n1_; have BK287 := n2_; have BK295 := n3_; have BK305 := n4_; have BK310 := n5_; have HI280 := n6_; have HB := n7_
            clear n0_ n1_ n2_ n3_ n4_ n5_ n6_ n7_
            refine start_ (n := 49) (S := fun w' => w'.cell? ⟨gb305, 0, none⟩ = some (.int .i64 t301) ∧ w'.cell? ⟨gb305, 1, none⟩ = some (.int .i64 t302) ∧ w'.cell? ⟨gb305, 2, none⟩ = some (.bool t303) ∧ w'.cell? ⟨gb310, 0, none⟩ = some (.int .i64 t306) ∧ w'.cell? ⟨gb310, 1, none⟩ = some (.int .i64 t307) ∧ w'.cell? ⟨gb310, 2, none⟩ = some (.bool t308) ∧ w'.cell? ⟨gb286, 0, none⟩ = some (.int .i64 100) ∧ w'.cell? ⟨gb286, 1, none⟩ = some (.int .i64 900) ∧ w'.cell? ⟨gb286, 2, none⟩ = some (.int .i64 t284) ∧ w'.cell? ⟨gb287, 0, none⟩ = some (.int .i64 x288000_1) ∧ w'.cell? ⟨gb287, 1, none⟩ = some (.int .i64 x288001_1) ∧ w'.cell? ⟨gb287, 2, none⟩ = some (.bool x288002_1)) (ds := []) D49m0 (by kernel_rfl) rfl rfl ⟨(blk_cell BK305.out 0).trans rfl, (blk_cell BK305.out 1).trans rfl, (blk_cell BK305.out 2).trans rfl, (blk_cell BK310.out 0).trans rfl, (blk_cell BK310.out 1).trans rfl, (blk_cell BK310.out 2).trans rfl, (blk_cell BK286.out 0).trans rfl, (blk_cell BK286.out 1).trans rfl, (blk_cell BK286.out 2).trans rfl, (blk_cell BK287.out 0).trans rfl, (blk_cell BK287.out 1).trans rfl, (blk_cell BK287.out 2).trans rfl⟩ (fun hHeld => ?_); refine with_tabW law38_RopeTwice.tab13 law38_RopeTwice.bits13 (fun HT_ HW_ => ?_)
            generalize w68.drew = w69 at HO298 BK286 BK287 BK295 BK305 BK310 HI280 HB hHeld ⊢
            refine pure_ (i := 0) (N := some 58) (v := ?_) (a' := ?_) D49m1 rfl rfl (any_of HT_.out (by kernel_rfl)) (fun _ _ _ h => h) (Or.inl ⟨by rfl, ?_⟩) ?_ ?_
            rotate_left; ·intro w'; go_simp; with_reducible rfl
            rotate_left; ·simp only [Act.put, sZ1, sZ2, sZ3, i64_w, i32_w]; rfl
            refine pure_ (i := 1) (N := some 59) (v := ?_) (a' := ?_) D49m3 rfl rfl (any_of HT_.out (by kernel_rfl)) (fun _ _ _ h => h) (Or.inl ⟨by rfl, ?_⟩) ?_ ?_
            rotate_left; ·intro w'; go_simp; with_reducible rfl
            rotate_left; ·simp only [Act.put, sZ1, sZ2, sZ3, i64_w, i32_w]; rfl
            refine pure_ (i := 2) (N := some 60) (v := ?_) (a' := ?_) D49m7 rfl rfl (any_of HT_.out (by kernel_rfl)) (fun _ _ _ h => h) (Or.inl ⟨by rfl, ?_⟩) ?_ ?_
            rotate_left; ·intro w'; go_simp; with_reducible rfl
            rotate_left; ·simp only [Act.put, sZ1, sZ2, sZ3, i64_w, i32_w]; rfl
            refine pure_ (i := 3) (N := some 61) (v := ?_) (a' := ?_) D49mf rfl rfl (any_of HT_.out (by kernel_rfl)) (fun _ _ _ h => h) (Or.inl ⟨by rfl, ?_⟩) ?_ ?_
            rotate_left; ·intro w'; go_simp; with_reducible rfl
            rotate_left; ·simp only [Act.put, sZ1, sZ2, sZ3, i64_w, i32_w]; rfl
            refine pure_ (i := 4) (N := some 62) (v := ?_) (a' := ?_) D49m1f rfl rfl (any_of HT_.out (by kernel_rfl)) (fun _ _ _ h => h) (Or.inl ⟨by rfl, ?_⟩) ?_ ?_
            rotate_left; ·intro w'; go_simp; with_reducible rfl
            rotate_left; ·simp only [Act.put, sZ1, sZ2, sZ3, i64_w, i32_w]; rfl
            refine pure_ (i := 5) (N := some 63) (v := ?_) (a' := ?_) D49m3f rfl rfl (any_of HT_.out (by kernel_rfl)) (fun _ _ _ h => h) (Or.inl ⟨by rfl, ?_⟩) ?_ ?_
            rotate_left; ·intro w'; go_simp; with_reducible rfl
            rotate_left; ·simp only [Act.put, sZ1, sZ2, sZ3, i64_w, i32_w]; rfl
            refine pure_ (i := 6) (N := some 64) (v := ?_) (a' := ?_) D49m7f rfl rfl (any_of HT_.out (by kernel_rfl)) (fun _ _ _ h => h) (Or.inl ⟨by rfl, ?_⟩) ?_ ?_
            rotate_left; ·intro w'; go_simp; with_reducible rfl
            rotate_left; ·simp only [Act.put, sZ1, sZ2, sZ3, i64_w, i32_w]; rfl
            refine take_ (i := 7) (N := some 65) (v := ?_) (a' := ?_) D49mff rfl rfl (take_ofW HT_.out HW_.out (by kernel_rfl)) (fun _ _ _ h => h) (Or.inl ⟨by rfl, ?_⟩) hHeld ?_ ?_
            rotate_left; ·rintro w' ⟨s0, s1, s2, s3, s4, s5, s6, s7, s8, s9, s10, s11⟩; go_simp; with_reducible rfl
            rotate_left; ·simp only [Act.put, sZ1, sZ2, sZ3, i64_w, i32_w]; rfl
            refine take_ (i := 8) (N := some 66) (v := ?_) (a' := ?_) D49m1ff rfl rfl (take_ofW HT_.out HW_.out (by kernel_rfl)) (fun _ _ _ h => h) (Or.inl ⟨by rfl, ?_⟩) hHeld ?_ ?_
            rotate_left; ·rintro w' ⟨s0, s1, s2, s3, s4, s5, s6, s7, s8, s9, s10, s11⟩; go_simp; with_reducible rfl
            rotate_left; ·simp only [Act.put, sZ1, sZ2, sZ3, i64_w, i32_w]; rfl
            refine pure_ (i := 9) (N := some 67) (v := ?_) (a' := ?_) D49m3ff rfl rfl (any_of HT_.out (by kernel_rfl)) (fun _ _ _ h => h) (Or.inl ⟨by rfl, ?_⟩) ?_ ?_
            rotate_left; ·intro w'; go_simp; with_reducible rfl
            rotate_left; ·simp only [Act.put, sZ1, sZ2, sZ3, i64_w, i32_w]; rfl
            refine pure_ (i := 10) (N := some 68) (v := ?_) (a' := ?_) D49m7ff rfl rfl (any_of HT_.out (by kernel_rfl)) (fun _ _ _ h => h) (Or.inl ⟨by rfl, ?_⟩) ?_ ?_
            rotate_left; ·intro w'; go_simp; with_reducible rfl
            rotate_left; ·simp only [Act.put, sZ1, sZ2, sZ3, i64_w, i32_w]; rfl
            refine pure_ (i := 11) (N := some 69) (v := ?_) (a' := ?_) D49mfff rfl rfl (any_of HT_.out (by kernel_rfl)) (fun _ _ _ h => h) (Or.inl ⟨by rfl, ?_⟩) ?_ ?_
            rotate_left; ·intro w'; go_simp; with_reducible rfl
            rotate_left; ·simp only [Act.put, sZ1, sZ2, sZ3, i64_w, i32_w]; rfl
            refine pure_ (i := 14) (N := some 72) (v := ?_) (a' := ?_) D49m4fff rfl rfl (any_of HT_.out (by kernel_rfl)) (fun _ _ _ h => h) (Or.inl ⟨by rfl, ?_⟩) ?_ ?_
            rotate_left; ·intro w'; go_simp; with_reducible rfl
            rotate_left; ·simp only [Act.put, sZ1, sZ2, sZ3, i64_w, i32_w]; rfl
            refine pure_ (i := 15) (N := some 73) (v := ?_) (a' := ?_) D49mcfff rfl rfl (any_of HT_.out (by kernel_rfl)) (fun _ _ _ h => h) (Or.inl ⟨by rfl, ?_⟩) ?_ ?_
            rotate_left; ·intro w'; go_simp; with_reducible rfl
            rotate_left; ·simp only [Act.put, sZ1, sZ2, sZ3, i64_w, i32_w]; rfl
            refine take_ (i := 12) (N := some 70) (v := ?_) (a' := ?_) D49mdfff rfl rfl (take_ofW HT_.out HW_.out (by kernel_rfl)) (fun _ _ _ h => h) (Or.inl ⟨by rfl, ?_⟩) hHeld ?_ ?_
            rotate_left; ·rintro w' ⟨s0, s1, s2, s3, s4, s5, s6, s7, s8, s9, s10, s11⟩; go_simp; with_reducible rfl
            rotate_left; ·simp only [Act.put, sZ1, sZ2, sZ3, i64_w, i32_w]; rfl
            refine take_ (i := 13) (N := some 71) (v := ?_) (a' := ?_) D49mffff rfl rfl (take_ofW HT_.out HW_.out (by kernel_rfl)) (fun _ _ _ h => h) (Or.inl ⟨by rfl, ?_⟩) hHeld ?_ ?_
            rotate_left; ·rintro w' ⟨s0, s1, s2, s3, s4, s5, s6, s7, s8, s9, s10, s11⟩; go_simp; with_reducible rfl
            rotate_left; ·simp only [Act.put, sZ1, sZ2, sZ3, i64_w, i32_w]; rfl
            refine one_ (i := 16) (N := some 74) D49m1ffff rfl rfl (one_of HT_.out (by kernel_rfl)) (by decide) (fun K hK => ?_)
            refine goes_ Try.func24 (by kernel_rfl) rfl #[.agg #[.int .i64 100, .int .i64 900, .int .i64 t284], .agg #[.int .i64 t301, .int .i64 t302, .bool t303], .int .i64 (wrap64 ((wrap64 (x6_1 + t299)) + 7))] (by rfl) rfl rfl (by (try simp only [List.map_toArray, List.map_cons, List.map_nil]); first | done | rfl | (simp only [List.length_drop, List.length_take]; rfl)) ?_
            with_reducible refine (rope_Slack.calls 100 900 t284 t301 t302 t303 (wrap64 ((wrap64 (x6_1 + t299)) + 7)) t311 _ A64.out).mono ?_
            rintro e w70 ⟨rfl, hb⟩
            refine ⟨_, rfl, ?_⟩
            have n0_ := Aside0.mk (Kd.R_below (by (with_reducible repeat (first | apply Kd.R_alloc | apply Kd.R_drewN | apply Kd.R_drew)); exact HO298.out) hb)
            have n1_ := Aside0.mk (blk_below (g := gb286) (o := .cells #[.int .i64 100, .int .i64 900, .int .i64 t284] 23 (0, 0)) (by (with_reducible repeat (first | refine blk_drewN ?_ _ | refine blk_drew ?_ | refine blk_alloc ?_ _)); exact BK286.out) hb)
            have n2_ := Aside0.mk (blk_below (g := gb287) (o := .cells #[.int .i64 x288000_1, .int .i64 x288001_1, .bool x288002_1] 25 (0, 0)) (by (with_reducible repeat (first | refine blk_drewN ?_ _ | refine blk_drew ?_ | refine blk_alloc ?_ _)); exact BK287.out) hb)
            have n3_ := Aside0.mk (IsS59.below (by repeat (first | (with_reducible first | exact HI280.out | apply IsS59.alloc | apply IsS59.drewN | apply IsS59.drew | apply IsS59.set_1 | refine IsS59.far ?_ NB280_286.out _ | refine IsS59.far ?_ NB280_287.out _ | refine IsS59.far ?_ NB280_295.out _ | refine IsS59.far ?_ NB280_305.out _ | refine IsS59.far ?_ NB280_310.out _) | exact HI280.out)) hb)
            have n4_ := Aside0.mk (blk_below (g := gb295) (o := .cells #[.int .i64 t290, .int .i64 t291] 27 (0, 0)) (by (with_reducible repeat (first | refine blk_drewN ?_ _ | refine blk_drew ?_ | refine blk_alloc ?_ _)); exact BK295.out) hb)
            have n5_ := Aside0.mk (blk_below (g := gb305) (o := .cells #[.int .i64 t301, .int .i64 t302, .bool t303] 25 (0, 0)) (by (with_reducible repeat (first | refine blk_drewN ?_ _ | refine blk_drew ?_ | refine blk_alloc ?_ _)); exact BK305.out) hb)
            have n6_ := Aside0.mk (blk_below (g := gb310) (o := .cells #[.int .i64 t306, .int .i64 t307, .bool t308] 25 (0, 0)) (by (with_reducible repeat (first | refine blk_drewN ?_ _ | refine blk_drew ?_ | refine blk_alloc ?_ _)); exact BK310.out) hb)
            have n7_ := Aside0.mk (below_step (by repeat (first | (with_reducible first | exact HB.out | apply below_alloc | apply pw_below_drewN | apply below_drew1 | refine below_set ?_ (IsS59.ge HI280.out) | refine below_set ?_ GE286.out | refine below_set ?_ GE287.out | refine below_set ?_ GE295.out | refine below_set ?_ GE305.out | refine below_set ?_ GE310.out) | exact HB.out)) hb)
            clear HO298; clear BK286; clear BK287; clear HI280; clear BK295; clear BK305; clear BK310; clear HB; have HO298 := n0_; have BK286 := n1_; have BK287 := n2_; have HI280 := n3_; have BK295 := n4_; have BK305 := n5_; have BK310 := n6_; have HB := n7_
            clear n0_ n1_ n2_ n3_ n4_ n5_ n6_ n7_
            (try clear hb); (try clear hb2); (try clear hk); (try clear hi)
            refine hK.out _ _ ⟨(blk_cell BK305.out 0).trans rfl, (blk_cell BK305.out 1).trans rfl, (blk_cell BK305.out 2).trans rfl, (blk_cell BK310.out 0).trans rfl, (blk_cell BK310.out 1).trans rfl, (blk_cell BK310.out 2).trans rfl, (blk_cell BK286.out 0).trans rfl, (blk_cell BK286.out 1).trans rfl, (blk_cell BK286.out 2).trans rfl, (blk_cell BK287.out 0).trans rfl, (blk_cell BK287.out 1).trans rfl, (blk_cell BK287.out 2).trans rfl⟩ (fun hHeld => ?_)
            clear hK K
            refine norm_ (a' := ?_) ?_ ?_
            rotate_left
            ·show Act.put _ (some 74) _ = _
             simp only [Act.put, sZ1, sZ2, sZ3, i64_w, i32_w]
             rfl
            refine pure_ (i := 17) (N := some 75) (v := ?_) (a' := ?_) D49m3ffff rfl rfl (any_of HT_.out (by kernel_rfl)) (fun _ _ _ h => h) (Or.inl ⟨by rfl, ?_⟩) ?_ ?_
            rotate_left; ·intro w'; go_simp; with_reducible rfl
            rotate_left; ·simp only [Act.put, sZ1, sZ2, sZ3, i64_w, i32_w]; rfl
            refine pure_ (i := 18) (N := some 76) (v := ?_) (a' := ?_) D49m7ffff rfl rfl (any_of HT_.out (by kernel_rfl)) (fun _ _ _ h => h) (Or.inl ⟨by rfl, ?_⟩) ?_ ?_
            rotate_left; ·intro w'; go_simp; with_reducible rfl
            rotate_left; ·simp only [Act.put, sZ1, sZ2, sZ3, i64_w, i32_w]; rfl
            refine pure_ (i := 19) (N := some 77) (v := undef) (a' := ?_) D49mfffff rfl rfl (any_of HT_.out (by kernel_rfl)) (fun _ _ _ h => h) (Or.inr ⟨by rfl, rfl⟩) ?_ ?_
            rotate_left; ·simp only [Act.put, sZ1, sZ2, sZ3, i64_w, i32_w]; rfl
            refine pure_ (i := 20) (N := some 78) (v := undef) (a' := ?_) D49m1fffff rfl rfl (any_of HT_.out (by kernel_rfl)) (fun _ _ _ h => h) (Or.inr ⟨by rfl, rfl⟩) ?_ ?_
            rotate_left; ·simp only [Act.put, sZ1, sZ2, sZ3, i64_w, i32_w]; rfl
            refine pure_ (i := 21) (N := some 79) (v := undef) (a' := ?_) D49m3fffff rfl rfl (any_of HT_.out (by kernel_rfl)) (fun _ _ _ h => h) (Or.inr ⟨by rfl, rfl⟩) ?_ ?_
            rotate_left; ·simp only [Act.put, sZ1, sZ2, sZ3, i64_w, i32_w]; rfl
            refine pure_ (i := 22) (N := some 80) (v := undef) (a' := ?_) D49m7fffff rfl rfl (any_of HT_.out (by kernel_rfl)) (fun _ _ _ h => h) (Or.inr ⟨by rfl, rfl⟩) ?_ ?_
            rotate_left; ·simp only [Act.put, sZ1, sZ2, sZ3, i64_w, i32_w]; rfl
            refine pure_ (i := 23) (N := some 81) (v := undef) (a' := ?_) D49mffffff rfl rfl (any_of HT_.out (by kernel_rfl)) (fun _ _ _ h => h) (Or.inr ⟨by rfl, rfl⟩) ?_ ?_
            rotate_left; ·simp only [Act.put, sZ1, sZ2, sZ3, i64_w, i32_w]; rfl
            refine pure_ (i := 24) (N := some 82) (v := undef) (a' := ?_) D49m1ffffff rfl rfl (any_of HT_.out (by kernel_rfl)) (fun _ _ _ h => h) (Or.inr ⟨by rfl, rfl⟩) ?_ ?_
            rotate_left; ·simp only [Act.put, sZ1, sZ2, sZ3, i64_w, i32_w]; rfl
            refine pure_ (i := 25) (N := some 83) (v := undef) (a' := ?_) D49m3ffffff rfl rfl (any_of HT_.out (by kernel_rfl)) (fun _ _ _ h => h) (Or.inr ⟨by rfl, rfl⟩) ?_ ?_
            rotate_left; ·simp only [Act.put, sZ1, sZ2, sZ3, i64_w, i32_w]; rfl
            refine pure_ (i := 26) (N := some 84) (v := undef) (a' := ?_) D49m7ffffff rfl rfl (any_of HT_.out (by kernel_rfl)) (fun _ _ _ h => h) (Or.inr ⟨by rfl, rfl⟩) ?_ ?_
            rotate_left; ·simp only [Act.put, sZ1, sZ2, sZ3, i64_w, i32_w]; rfl
            refine pure_ (i := 27) (N := some 85) (v := undef) (a' := ?_) D49mfffffff rfl rfl (any_of HT_.out (by kernel_rfl)) (fun _ _ _ h => h) (Or.inr ⟨by rfl, rfl⟩) ?_ ?_
            rotate_left; ·simp only [Act.put, sZ1, sZ2, sZ3, i64_w, i32_w]; rfl
            refine pure_ (i := 28) (N := some 86) (v := undef) (a' := ?_) D49m1fffffff rfl rfl (any_of HT_.out (by kernel_rfl)) (fun _ _ _ h => h) (Or.inr ⟨by rfl, rfl⟩) ?_ ?_
            rotate_left; ·simp only [Act.put, sZ1, sZ2, sZ3, i64_w, i32_w]; rfl
            refine pure_ (i := 29) (N := some 87) (v := undef) (a' := ?_) D49m3fffffff rfl rfl (any_of HT_.out (by kernel_rfl)) (fun _ _ _ h => h) (Or.inr ⟨by rfl, rfl⟩) ?_ ?_
            rotate_left; ·simp only [Act.put, sZ1, sZ2, sZ3, i64_w, i32_w]; rfl
            refine pure_ (i := 30) (N := some 88) (v := ?_) (a' := ?_) D49m7fffffff rfl rfl (any_of HT_.out (by kernel_rfl)) (fun _ _ _ h => h) (Or.inl ⟨by rfl, ?_⟩) ?_ ?_
            rotate_left; ·intro w'; go_simp; with_reducible rfl
            rotate_left; ·simp only [Act.put, sZ1, sZ2, sZ3, i64_w, i32_w]; rfl
            refine pure_ (i := 31) (N := some 89) (v := ?_) (a' := ?_) D49mffffffff rfl rfl (any_of HT_.out (by kernel_rfl)) (fun _ _ _ h => h) (Or.inl ⟨by rfl, ?_⟩) ?_ ?_
            rotate_left; ·intro w'; go_simp; with_reducible rfl
            rotate_left; ·simp only [Act.put, sZ1, sZ2, sZ3, i64_w, i32_w]; rfl
            refine pure_ (i := 32) (N := some 90) (v := ?_) (a' := ?_) D49m1ffffffff rfl rfl (any_of HT_.out (by kernel_rfl)) (fun _ _ _ h => h) (Or.inl ⟨by rfl, ?_⟩) ?_ ?_
            rotate_left; ·intro w'; go_simp; with_reducible rfl
            rotate_left; ·simp only [Act.put, sZ1, sZ2, sZ3, i64_w, i32_w]; rfl
            refine pure_ (i := 33) (N := some 91) (v := ?_) (a' := ?_) D49m3ffffffff rfl rfl (any_of HT_.out (by kernel_rfl)) (fun _ _ _ h => h) (Or.inl ⟨by rfl, ?_⟩) ?_ ?_
            rotate_left; ·intro w'; go_simp; with_reducible rfl
            rotate_left; ·simp only [Act.put, sZ1, sZ2, sZ3, i64_w, i32_w]; rfl
            refine take_ (i := 34) (N := some 92) (v := ?_) (a' := ?_) D49m7ffffffff rfl rfl (take_ofW HT_.out HW_.out (by kernel_rfl)) (fun _ _ _ h => h) (Or.inl ⟨by rfl, ?_⟩) hHeld ?_ ?_
            rotate_left; ·rintro w' ⟨s0, s1, s2, s3, s4, s5, s6, s7, s8, s9, s10, s11⟩; go_simp; with_reducible rfl
            rotate_left; ·simp only [Act.put, sZ1, sZ2, sZ3, i64_w, i32_w]; rfl
            refine pure_ (i := 35) (N := some 93) (v := ?_) (a' := ?_) D49mfffffffff rfl rfl (any_of HT_.out (by kernel_rfl)) (fun _ _ _ h => h) (Or.inl ⟨by rfl, ?_⟩) ?_ ?_
            rotate_left; ·intro w'; go_simp; with_reducible rfl
            rotate_left; ·simp only [Act.put, sZ1, sZ2, sZ3, i64_w, i32_w]; rfl
            refine pure_ (i := 36) (N := some 94) (v := ?_) (a' := ?_) D49m1fffffffff rfl rfl (any_of HT_.out (by kernel_rfl)) (fun _ _ _ h => h) (Or.inl ⟨by rfl, ?_⟩) ?_ ?_
            rotate_left; ·intro w'; go_simp; with_reducible rfl
            rotate_left; ·simp only [Act.put, sZ1, sZ2, sZ3, i64_w, i32_w]; rfl
            refine pure_ (i := 37) (N := some 95) (v := ?_) (a' := ?_) D49m3fffffffff rfl rfl (any_of HT_.out (by kernel_rfl)) (fun _ _ _ h => h) (Or.inl ⟨by rfl, ?_⟩) ?_ ?_
            rotate_left; ·intro w'; go_simp; with_reducible rfl
            rotate_left; ·simp only [Act.put, sZ1, sZ2, sZ3, i64_w, i32_w]; rfl
            refine take_ (i := 38) (N := some 96) (v := ?_) (a' := ?_) D49m7fffffffff rfl rfl (take_ofW HT_.out HW_.out (by kernel_rfl)) (fun _ _ _ h => h) (Or.inl ⟨by rfl, ?_⟩) hHeld ?_ ?_
            rotate_left; ·rintro w' ⟨s0, s1, s2, s3, s4, s5, s6, s7, s8, s9, s10, s11⟩; go_simp; with_reducible rfl
            rotate_left; ·simp only [Act.put, sZ1, sZ2, sZ3, i64_w, i32_w]; rfl
            refine pure_ (i := 39) (N := some 97) (v := ?_) (a' := ?_) D49mffffffffff rfl rfl (any_of HT_.out (by kernel_rfl)) (fun _ _ _ h => h) (Or.inl ⟨by rfl, ?_⟩) ?_ ?_
            rotate_left; ·intro w'; go_simp; with_reducible rfl
            rotate_left; ·simp only [Act.put, sZ1, sZ2, sZ3, i64_w, i32_w]; rfl
            refine pure_ (i := 40) (N := some 98) (v := ?_) (a' := ?_) D49m1ffffffffff rfl rfl (any_of HT_.out (by kernel_rfl)) (fun _ _ _ h => h) (Or.inl ⟨by rfl, ?_⟩) ?_ ?_
            rotate_left; ·intro w'; go_simp; with_reducible rfl
            rotate_left; ·simp only [Act.put, sZ1, sZ2, sZ3, i64_w, i32_w]; rfl
            refine pure_ (i := 41) (N := some 99) (v := ?_) (a' := ?_) D49m3ffffffffff rfl rfl (any_of HT_.out (by kernel_rfl)) (fun _ _ _ h => h) (Or.inl ⟨by rfl, ?_⟩) ?_ ?_
            rotate_left; ·intro w'; go_simp; with_reducible rfl
            rotate_left; ·simp only [Act.put, sZ1, sZ2, sZ3, i64_w, i32_w]; rfl
            refine pure_ (i := 42) (N := some 100) (v := ?_) (a' := ?_) D49m7ffffffffff rfl rfl (any_of HT_.out (by kernel_rfl)) (fun _ _ _ h => h) (Or.inl ⟨by rfl, ?_⟩) ?_ ?_
            rotate_left; ·intro w'; go_simp; with_reducible rfl
            rotate_left; ·simp only [Act.put, sZ1, sZ2, sZ3, i64_w, i32_w]; rfl
            refine pure_ (i := 44) (N := some 102) (v := ?_) (a' := ?_) D49m17ffffffffff rfl rfl (any_of HT_.out (by kernel_rfl)) (fun _ _ _ h => h) (Or.inl ⟨by rfl, ?_⟩) ?_ ?_
            rotate_left; ·intro w'; go_simp; with_reducible rfl
            rotate_left; ·simp only [Act.put, sZ1, sZ2, sZ3, i64_w, i32_w]; rfl
            refine take_ (i := 43) (N := some 101) (v := ?_) (a' := ?_) D49m1fffffffffff rfl rfl (take_ofW HT_.out HW_.out (by kernel_rfl)) (fun _ _ _ h => h) (Or.inl ⟨by rfl, ?_⟩) hHeld ?_ ?_
            rotate_left; ·rintro w' ⟨s0, s1, s2, s3, s4, s5, s6, s7, s8, s9, s10, s11⟩; go_simp; with_reducible rfl
            rotate_left; ·simp only [Act.put, sZ1, sZ2, sZ3, i64_w, i32_w]; rfl
            refine take_ (i := 45) (N := some 103) (v := ?_) (a' := ?_) D49m3fffffffffff rfl rfl (take_ofW HT_.out HW_.out (by kernel_rfl)) (fun _ _ _ h => h) (Or.inl ⟨by rfl, ?_⟩) hHeld ?_ ?_
            rotate_left; ·rintro w' ⟨s0, s1, s2, s3, s4, s5, s6, s7, s8, s9, s10, s11⟩; go_simp; with_reducible rfl
            rotate_left; ·simp only [Act.put, sZ1, sZ2, sZ3, i64_w, i32_w]; rfl
            refine pure_ (i := 46) (N := some 104) (v := ?_) (a' := ?_) D49m7fffffffffff rfl rfl (any_of HT_.out (by kernel_rfl)) (fun _ _ _ h => h) (Or.inl ⟨by rfl, ?_⟩) ?_ ?_
            rotate_left; ·intro w'; go_simp; with_reducible rfl
            rotate_left; ·simp only [Act.put, sZ1, sZ2, sZ3, i64_w, i32_w]; rfl
            refine pure_ (i := 47) (N := some 105) (v := ?_) (a' := ?_) D49mffffffffffff rfl rfl (any_of HT_.out (by kernel_rfl)) (fun _ _ _ h => h) (Or.inl ⟨by rfl, ?_⟩) ?_ ?_
            rotate_left; ·intro w'; go_simp; with_reducible rfl
            rotate_left; ·simp only [Act.put, sZ1, sZ2, sZ3, i64_w, i32_w]; rfl
            refine pure_ (i := 48) (N := some 106) (v := ?_) (a' := ?_) D49m1ffffffffffff rfl rfl (any_of HT_.out (by kernel_rfl)) (fun _ _ _ h => h) (Or.inl ⟨by rfl, ?_⟩) ?_ ?_
            rotate_left; ·intro w'; go_simp; with_reducible rfl
            rotate_left; ·simp only [Act.put, sZ1, sZ2, sZ3, i64_w, i32_w]; rfl
            refine done_ (done_of HT_.out (by kernel_rfl)) ?_
            try go_wp2
            go_meet
            case rel => exact ⟨_, ((t301 != x288000_1)), (by first | rfl | (simp; done) | (simp [*]; done)), H', ⟨by have := HK1.out; first | omega | exact Nat.le_refl _⟩, ⟨by (with_reducible repeat (first | refine blk_drewN ?_ _ | refine blk_drew ?_ | refine blk_alloc ?_ _)); exact BK286.out⟩, ⟨by (with_reducible repeat (first | refine blk_drewN ?_ _ | refine blk_drew ?_ | refine blk_alloc ?_ _)); exact BK287.out⟩, ⟨by (with_reducible repeat (first | refine blk_drewN ?_ _ | refine blk_drew ?_ | refine blk_alloc ?_ _)); exact BK295.out⟩, ⟨by (with_reducible repeat (first | refine blk_drewN ?_ _ | refine blk_drew ?_ | refine blk_alloc ?_ _)); exact BK305.out⟩, ⟨by (with_reducible repeat (first | refine blk_drewN ?_ _ | refine blk_drew ?_ | refine blk_alloc ?_ _)); exact BK310.out⟩, ⟨by repeat (first | (with_reducible first | exact HI280.out | apply IsS59.alloc | apply IsS59.drewN | apply IsS59.drew | apply IsS59.set_1 | refine IsS59.far ?_ NB280_286.out _ | refine IsS59.far ?_ NB280_287.out _ | refine IsS59.far ?_ NB280_295.out _ | refine IsS59.far ?_ NB280_305.out _ | refine IsS59.far ?_ NB280_310.out _) | exact HI280.out)⟩, ⟨by repeat (first | (with_reducible first | exact HB.out | apply below_alloc | apply pw_below_drewN | apply below_drew1 | refine below_set ?_ (IsS59.ge HI280.out) | refine below_set ?_ GE286.out | refine below_set ?_ GE287.out | refine below_set ?_ GE295.out | refine below_set ?_ GE305.out | refine below_set ?_ GE310.out) | exact HB.out)⟩⟩
           ·rw [if_neg c67] at H
            have c67b0 : decide (0 ≤ t301) = false := decide_eq_false c67
            clear c67
            have H' := Aside0.mk H
            clear H
            try go_wp2
            have n0_ : Aside0 (Kd.R (Kd.int .i64) 3 (((w54.setCell ⟨gb310, 0, none⟩ (.int .i64 t306)).setCell ⟨gb310, 1, none⟩ (.int .i64 t307)).setCell ⟨gb310, 2, none⟩ (.bool t308)) w.heap.size (fun _ => True) (.slice Ao36 y296.length co36) y296) := ⟨by (with_reducible repeat (first | apply Kd.R_alloc | apply Kd.R_drewN | apply Kd.R_drew)); exact Kd.R_mono (Kd.R_far (p := ⟨gb310, 2, none⟩) (Kd.R_far (p := ⟨gb310, 1, none⟩) (Kd.R_far (p := ⟨gb310, 0, none⟩) (Kd.R_types HO298.out BK310.out (by decide)) (fun _ hk => hk.2) (.int .i64 t306)) (fun _ hk => hk.2) (.int .i64 t307)) (fun _ hk => hk.2) (.bool t308)) (fun _ hk => trivial)⟩
            have n1_ : Aside0 ((((w54.setCell ⟨gb310, 0, none⟩ (.int .i64 t306)).setCell ⟨gb310, 1, none⟩ (.int .i64 t307)).setCell ⟨gb310, 2, none⟩ (.bool t308)).heap[gb286]? = some (.cells #[.int .i64 100, .int .i64 900, .int .i64 t284] 23 (0, 0))) := ⟨by (with_reducible repeat (first | refine blk_drewN ?_ _ | refine blk_drew ?_ | refine blk_alloc ?_ _)); refine blk_far ?_ NB286_310.out _; (with_reducible repeat (first | refine blk_drewN ?_ _ | refine blk_drew ?_ | refine blk_alloc ?_ _)); refine blk_far ?_ NB286_310.out _; (with_reducible repeat (first | refine blk_drewN ?_ _ | refine blk_drew ?_ | refine blk_alloc ?_ _)); refine blk_far ?_ NB286_310.out _; (with_reducible repeat (first | refine blk_drewN ?_ _ | refine blk_drew ?_ | refine blk_alloc ?_ _)); exact BK286.out⟩
            have n2_ : Aside0 ((((w54.setCell ⟨gb310, 0, none⟩ (.int .i64 t306)).setCell ⟨gb310, 1, none⟩ (.int .i64 t307)).setCell ⟨gb310, 2, none⟩ (.bool t308)).heap[gb287]? = some (.cells #[.int .i64 x288000_1, .int .i64 x288001_1, .bool x288002_1] 25 (0, 0))) := ⟨by (with_reducible repeat (first | refine blk_drewN ?_ _ | refine blk_drew ?_ | refine blk_alloc ?_ _)); refine blk_far ?_ NB287_310.out _; (with_reducible repeat (first | refine blk_drewN ?_ _ | refine blk_drew ?_ | refine blk_alloc ?_ _)); refine blk_far ?_ NB287_310.out _; (with_reducible repeat (first | refine blk_drewN ?_ _ | refine blk_drew ?_ | refine blk_alloc ?_ _)); refine blk_far ?_ NB287_310.out _; (with_reducible repeat (first | refine blk_drewN ?_ _ | refine blk_drew ?_ | refine blk_alloc ?_ _)); exact BK287.out⟩
            have n3_ : Aside0 ((((w54.setCell ⟨gb310, 0, none⟩ (.int .i64 t306)).setCell ⟨gb310, 1, none⟩ (.int .i64 t307)).setCell ⟨gb310, 2, none⟩ (.bool t308)).heap[gb295]? = some (.cells #[.int .i64 t290, .int .i64 t291] 27 (0, 0))) := ⟨by (with_reducible repeat (first | refine blk_drewN ?_ _ | refine blk_drew ?_ | refine blk_alloc ?_ _)); refine blk_far ?_ NB295_310.out _; (with_reducible repeat (first | refine blk_drewN ?_ _ | refine blk_drew ?_ | refine blk_alloc ?_ _)); refine blk_far ?_ NB295_310.out _; (with_reducible repeat (first | refine blk_drewN ?_ _ | refine blk_drew ?_ | refine blk_alloc ?_ _)); refine blk_far ?_ NB295_310.out _; (with_reducible repeat (first | refine blk_drewN ?_ _ | refine blk_drew ?_ | refine blk_alloc ?_ _)); exact BK295.out⟩
            have n4_ : Aside0 ((((w54.setCell ⟨gb310, 0, none⟩ (.int .i64 t306)).setCell ⟨gb310, 1, none⟩ (.int .i64 t307)).setCell ⟨gb310, 2, none⟩ (.bool t308)).heap[gb305]? = some (.cells #[.int .i64 t301, .int .i64 t302, .bool t303] 25 (0, 0))) := ⟨by (with_reducible repeat (first | refine blk_drewN ?_ _ | refine blk_drew ?_ | refine blk_alloc ?_ _)); refine blk_far ?_ NB305_310.out _; (with_reducible repeat (first | refine blk_drewN ?_ _ | refine blk_drew ?_ | refine blk_alloc ?_ _)); refine blk_far ?_ NB305_310.out _; (with_reducible repeat (first | refine blk_drewN ?_ _ | refine blk_drew ?_ | refine blk_alloc ?_ _)); refine blk_far ?_ NB305_310.out _; (with_reducible repeat (first | refine blk_drewN ?_ _ | refine blk_drew ?_ | refine blk_alloc ?_ _)); exact BK305.out⟩
            have n5_ : Aside0 ((((w54.setCell ⟨gb310, 0, none⟩ (.int .i64 t306)).setCell ⟨gb310, 1, none⟩ (.int .i64 t307)).setCell ⟨gb310, 2, none⟩ (.bool t308)).heap[gb310]? = some (.cells #[.int .i64 t306, .int .i64 t307, .bool t308] 25 (0, 0))) := ⟨by (with_reducible repeat (first | refine blk_drewN ?_ _ | refine blk_drew ?_ | refine blk_alloc ?_ _)); refine blk_put (cs := #[.int .i64 t306, .int .i64 t307, .bool false]) ?_ 2 _ rfl; (with_reducible repeat (first | refine blk_drewN ?_ _ | refine blk_drew ?_ | refine blk_alloc ?_ _)); refine blk_put (cs := #[.int .i64 t306, .int .i64 0, .bool false]) ?_ 1 _ rfl; (with_reducible repeat (first | refine blk_drewN ?_ _ | refine blk_drew ?_ | refine blk_alloc ?_ _)); refine blk_put (cs := #[.int .i64 0, .int .i64 0, .bool false]) ?_ 0 _ rfl; (with_reducible repeat (first | refine blk_drewN ?_ _ | refine blk_drew ?_ | refine blk_alloc ?_ _)); exact BK310.out⟩
            have n6_ : Aside0 (IsS59 w (((w54.setCell ⟨gb310, 0, none⟩ (.int .i64 t306)).setCell ⟨gb310, 1, none⟩ (.int .i64 t307)).setCell ⟨gb310, 2, none⟩ (.bool t308)) g280 t278 t300) := ⟨by repeat (first | (with_reducible first | exact HI280.out | apply IsS59.alloc | apply IsS59.drewN | apply IsS59.drew | apply IsS59.set_1 | refine IsS59.far ?_ NB280_286.out _ | refine IsS59.far ?_ NB280_287.out _ | refine IsS59.far ?_ NB280_295.out _ | refine IsS59.far ?_ NB280_305.out _ | refine IsS59.far ?_ NB280_310.out _) | exact HI280.out)⟩
            have n7_ : Aside0 (Below w.heap.size w (((w54.setCell ⟨gb310, 0, none⟩ (.int .i64 t306)).setCell ⟨gb310, 1, none⟩ (.int .i64 t307)).setCell ⟨gb310, 2, none⟩ (.bool t308))) := ⟨by repeat (first | (with_reducible first | exact HB.out | apply below_alloc | apply pw_below_drewN | apply below_drew1 | refine below_set ?_ (IsS59.ge HI280.out) | refine below_set ?_ GE286.out | refine below_set ?_ GE287.out | refine below_set ?_ GE295.out | refine below_set ?_ GE305.out | refine below_set ?_ GE310.out) | exact HB.out)⟩
            (try clear HO298); (try clear BK286); (try clear BK287); (try clear BK295); (try clear BK305); (try clear BK310); (try clear HI280); (try clear HB)
            generalize (((w54.setCell ⟨gb310, 0, none⟩ (.int .i64 t306)).setCell ⟨gb310, 1, none⟩ (.int .i64 t307)).setCell ⟨gb310, 2, none⟩ (.bool t308)) = w71 at n0_ n1_ n2_ n3_ n4_ n5_ n6_ n7_ ⊢
            have HO298 := n0_; have BK286 := n1_; have BK287 := n2_; have BK295 := n3_; have BK305 := n4_; have BK310 := n5_; have HI280 := n6_; have HB := n7_
            clear n0_ n1_ n2_ n3_ n4_ n5_ n6_ n7_
            have n0_ := Aside0.mk (Kd.R_drew HO298.out)
            have n1_ := Aside0.mk (blk_drew BK286.out)
            have n2_ := Aside0.mk (blk_drew BK287.out)
            have n3_ := Aside0.mk (blk_drew BK295.out)
            have n4_ := Aside0.mk (blk_drew BK305.out)
            have n5_ := Aside0.mk (blk_drew BK310.out)
            have n6_ := Aside0.mk (IsS59.drew HI280.out)
            have n7_ := Aside0.mk (below_drew1 HB.out)
            clear HO298; clear BK286; clear BK287; clear BK295; clear BK305; clear BK310; clear HI280; clear HB; have HO298 := n0_; have BK286 := n1_; have BK287 := n2_; have BK295 := n3_; have BK305 := n4_; have BK310 := n5_; have HI280 := n6_; have HB := n7_
            clear n0_ n1_ n2_ n3_ n4_ n5_ n6_ n7_
            refine start_ (n := 49) (S := fun w' => w'.cell? ⟨gb305, 0, none⟩ = some (.int .i64 t301) ∧ w'.cell? ⟨gb305, 1, none⟩ = some (.int .i64 t302) ∧ w'.cell? ⟨gb305, 2, none⟩ = some (.bool t303) ∧ w'.cell? ⟨gb310, 0, none⟩ = some (.int .i64 t306) ∧ w'.cell? ⟨gb310, 1, none⟩ = some (.int .i64 t307) ∧ w'.cell? ⟨gb310, 2, none⟩ = some (.bool t308) ∧ w'.cell? ⟨gb286, 0, none⟩ = some (.int .i64 100) ∧ w'.cell? ⟨gb286, 1, none⟩ = some (.int .i64 900) ∧ w'.cell? ⟨gb286, 2, none⟩ = some (.int .i64 t284) ∧ w'.cell? ⟨gb287, 0, none⟩ = some (.int .i64 x288000_1) ∧ w'.cell? ⟨gb287, 1, none⟩ = some (.int .i64 x288001_1) ∧ w'.cell? ⟨gb287, 2, none⟩ = some (.bool x288002_1)) (ds := []) D49m0 (by kernel_rfl) rfl rfl ⟨(blk_cell BK305.out 0).trans rfl, (blk_cell BK305.out 1).trans rfl, (blk_cell BK305.out 2).trans rfl, (blk_cell BK310.out 0).trans rfl, (blk_cell BK310.out 1).trans rfl, (blk_cell BK310.out 2).trans rfl, (blk_cell BK286.out 0).trans rfl, (blk_cell BK286.out 1).trans rfl, (blk_cell BK286.out 2).trans rfl, (blk_cell BK287.out 0).trans rfl, (blk_cell BK287.out 1).trans rfl, (blk_cell BK287.out 2).trans rfl⟩ (fun hHeld => ?_); refine with_tabW law38_RopeTwice.tab13 law38_RopeTwice.bits13 (fun HT_ HW_ => ?_)
            generalize w71.drew = w72 at HO298 BK286 BK287 BK295 BK305 BK310 HI280 HB hHeld ⊢
            refine pure_ (i := 0) (N := some 58) (v := ?_) (a' := ?_) D49m1 rfl rfl (any_of HT_.out (by kernel_rfl)) (fun _ _ _ h => h) (Or.inl ⟨by rfl, ?_⟩) ?_ ?_
            rotate_left; ·intro w'; go_simp; with_reducible rfl
            rotate_left; ·simp only [Act.put, sZ1, sZ2, sZ3, i64_w, i32_w]; rfl
            refine pure_ (i := 1) (N := some 59) (v := ?_) (a' := ?_) D49m3 rfl rfl (any_of HT_.out (by kernel_rfl)) (fun _ _ _ h => h) (Or.inl ⟨by rfl, ?_⟩) ?_ ?_
            rotate_left; ·intro w'; go_simp; with_reducible rfl
            rotate_left; ·simp only [Act.put, sZ1, sZ2, sZ3, i64_w, i32_w]; rfl
            refine pure_ (i := 2) (N := some 60) (v := ?_) (a' := ?_) D49m7 rfl rfl (any_of HT_.out (by kernel_rfl)) (fun _ _ _ h => h) (Or.inl ⟨by rfl, ?_⟩) ?_ ?_
            rotate_left; ·intro w'; go_simp; with_reducible rfl
            rotate_left; ·simp only [Act.put, sZ1, sZ2, sZ3, i64_w, i32_w]; rfl
            refine pure_ (i := 3) (N := some 61) (v := ?_) (a' := ?_) D49mf rfl rfl (any_of HT_.out (by kernel_rfl)) (fun _ _ _ h => h) (Or.inl ⟨by rfl, ?_⟩) ?_ ?_
            rotate_left; ·intro w'; go_simp; with_reducible rfl
            rotate_left; ·simp only [Act.put, sZ1, sZ2, sZ3, i64_w, i32_w]; rfl
            refine pure_ (i := 4) (N := some 62) (v := ?_) (a' := ?_) D49m1f rfl rfl (any_of HT_.out (by kernel_rfl)) (fun _ _ _ h => h) (Or.inl ⟨by rfl, ?_⟩) ?_ ?_
            rotate_left; ·intro w'; go_simp; with_reducible rfl
            rotate_left; ·simp only [Act.put, sZ1, sZ2, sZ3, i64_w, i32_w]; rfl
            refine pure_ (i := 5) (N := some 63) (v := ?_) (a' := ?_) D49m3f rfl rfl (any_of HT_.out (by kernel_rfl)) (fun _ _ _ h => h) (Or.inl ⟨by rfl, ?_⟩) ?_ ?_
            rotate_left; ·intro w'; go_simp; with_reducible rfl
            rotate_left; ·simp only [Act.put, sZ1, sZ2, sZ3, i64_w, i32_w]; rfl
            refine pure_ (i := 6) (N := some 64) (v := ?_) (a' := ?_) D49m7f rfl rfl (any_of HT_.out (by kernel_rfl)) (fun _ _ _ h => h) (Or.inl ⟨by rfl, ?_⟩) ?_ ?_
            rotate_left; ·intro w'; go_simp; with_reducible rfl
            rotate_left; ·simp only [Act.put, sZ1, sZ2, sZ3, i64_w, i32_w]; rfl
            refine take_ (i := 7) (N := some 65) (v := ?_) (a' := ?_) D49mff rfl rfl (take_ofW HT_.out HW_.out (by kernel_rfl)) (fun _ _ _ h => h) (Or.inl ⟨by rfl, ?_⟩) hHeld ?_ ?_
            rotate_left; ·rintro w' ⟨s0, s1, s2, s3, s4, s5, s6, s7, s8, s9, s10, s11⟩; go_simp; with_reducible rfl
            rotate_left; ·simp only [Act.put, sZ1, sZ2, sZ3, i64_w, i32_w]; rfl
            refine take_ (i := 8) (N := some 66) (v := ?_) (a' := ?_) D49m1ff rfl rfl (take_ofW HT_.out HW_.out (by kernel_rfl)) (fun _ _ _ h => h) (Or.inl ⟨by rfl, ?_⟩) hHeld ?_ ?_
            rotate_left; ·rintro w' ⟨s0, s1, s2, s3, s4, s5, s6, s7, s8, s9, s10, s11⟩; go_simp; with_reducible rfl
            rotate_left; ·simp only [Act.put, sZ1, sZ2, sZ3, i64_w, i32_w]; rfl
            refine pure_ (i := 9) (N := some 67) (v := ?_) (a' := ?_) D49m3ff rfl rfl (any_of HT_.out (by kernel_rfl)) (fun _ _ _ h => h) (Or.inl ⟨by rfl, ?_⟩) ?_ ?_
            rotate_left; ·intro w'; go_simp; with_reducible rfl
            rotate_left; ·simp only [Act.put, sZ1, sZ2, sZ3, i64_w, i32_w]; rfl
            refine pure_ (i := 10) (N := some 68) (v := ?_) (a' := ?_) D49m7ff rfl rfl (any_of HT_.out (by kernel_rfl)) (fun _ _ _ h => h) (Or.inl ⟨by rfl, ?_⟩) ?_ ?_
            rotate_left; ·intro w'; go_simp; with_reducible rfl
            rotate_left; ·simp only [Act.put, sZ1, sZ2, sZ3, i64_w, i32_w]; rfl
            refine pure_ (i := 11) (N := some 69) (v := ?_) (a' := ?_) D49mfff rfl rfl (any_of HT_.out (by kernel_rfl)) (fun _ _ _ h => h) (Or.inl ⟨by rfl, ?_⟩) ?_ ?_
            rotate_left; ·intro w'; go_simp; with_reducible rfl
            rotate_left; ·simp only [Act.put, sZ1, sZ2, sZ3, i64_w, i32_w]; rfl
            refine pure_ (i := 14) (N := some 72) (v := ?_) (a' := ?_) D49m4fff rfl rfl (any_of HT_.out (by kernel_rfl)) (fun _ _ _ h => h) (Or.inl ⟨by rfl, ?_⟩) ?_ ?_
            rotate_left; ·intro w'; go_simp; with_reducible rfl
            rotate_left; ·simp only [Act.put, sZ1, sZ2, sZ3, i64_w, i32_w]; rfl
            refine pure_ (i := 15) (N := some 73) (v := ?_) (a' := ?_) D49mcfff rfl rfl (any_of HT_.out (by kernel_rfl)) (fun _ _ _ h => h) (Or.inl ⟨by rfl, ?_⟩) ?_ ?_
            rotate_left; ·intro w'; go_simp; with_reducible rfl
            rotate_left; ·simp only [Act.put, sZ1, sZ2, sZ3, i64_w, i32_w]; rfl
            refine take_ (i := 12) (N := some 70) (v := ?_) (a' := ?_) D49mdfff rfl rfl (take_ofW HT_.out HW_.out (by kernel_rfl)) (fun _ _ _ h => h) (Or.inl ⟨by rfl, ?_⟩) hHeld ?_ ?_
            rotate_left; ·rintro w' ⟨s0, s1, s2, s3, s4, s5, s6, s7, s8, s9, s10, s11⟩; go_simp; with_reducible rfl
            rotate_left; ·simp only [Act.put, sZ1, sZ2, sZ3, i64_w, i32_w]; rfl
            refine take_ (i := 13) (N := some 71) (v := ?_) (a' := ?_) D49mffff rfl rfl (take_ofW HT_.out HW_.out (by kernel_rfl)) (fun _ _ _ h => h) (Or.inl ⟨by rfl, ?_⟩) hHeld ?_ ?_
            rotate_left; ·rintro w' ⟨s0, s1, s2, s3, s4, s5, s6, s7, s8, s9, s10, s11⟩; go_simp; with_reducible rfl
            rotate_left; ·simp only [Act.put, sZ1, sZ2, sZ3, i64_w, i32_w]; rfl
            refine one_ (i := 16) (N := some 74) D49m1ffff rfl rfl (one_of HT_.out (by kernel_rfl)) (by decide) (fun K hK => ?_)
            refine goes_ Try.func24 (by kernel_rfl) rfl #[.agg #[.int .i64 100, .int .i64 900, .int .i64 t284], .agg #[.int .i64 t301, .int .i64 t302, .bool t303], .int .i64 (wrap64 ((wrap64 (x6_1 + t299)) + 7))] (by rfl) rfl rfl (by (try simp only [List.map_toArray, List.map_cons, List.map_nil]); first | done | rfl | (simp only [List.length_drop, List.length_take]; rfl)) ?_
            with_reducible refine (rope_Slack.calls 100 900 t284 t301 t302 t303 (wrap64 ((wrap64 (x6_1 + t299)) + 7)) t311 _ A64.out).mono ?_
            rintro e w73 ⟨rfl, hb⟩
            refine ⟨_, rfl, ?_⟩
            have n0_ := Aside0.mk (Kd.R_below (by (with_reducible repeat (first | apply Kd.R_alloc | apply Kd.R_drewN | apply Kd.R_drew)); exact HO298.out) hb)
            have n1_ := Aside0.mk (blk_below (g := gb286) (o := .cells #[.int .i64 100, .int .i64 900, .int .i64 t284] 23 (0, 0)) (by (with_reducible repeat (first | refine blk_drewN ?_ _ | refine blk_drew ?_ | refine blk_alloc ?_ _)); exact BK286.out) hb)
            have n2_ := Aside0.mk (blk_below (g := gb287) (o := .cells #[.int .i64 x288000_1, .int .i64 x288001_1, .bool x288002_1] 25 (0, 0)) (by (with_reducible repeat (first | refine blk_drewN ?_ _ | refine blk_drew ?_ | refine blk_alloc ?_ _)); exact BK287.out) hb)
            have n3_ := Aside0.mk (IsS59.below (by repeat (first | (with_reducible first | exact HI280.out | apply IsS59.alloc | apply IsS59.drewN | apply IsS59.drew | apply IsS59.set_1 | refine IsS59.far ?_ NB280_286.out _ | refine IsS59.far ?_ NB280_287.out _ | refine IsS59.far ?_ NB280_295.out _ | refine IsS59.far ?_ NB280_305.out _ | refine IsS59.far ?_ NB280_310.out _) | exact HI280.out)) hb)
            have n4_ := Aside0.mk (blk_below (g := gb295) (o := .cells #[.int .i64 t290, .int .i64 t291] 27 (0, 0)) (by (with_reducible repeat (first | refine blk_drewN ?_ _ | refine blk_drew ?_ | refine blk_alloc ?_ _)); exact BK295.out) hb)
            have n5_ := Aside0.mk (blk_below (g := gb305) (o := .cells #[.int .i64 t301, .int .i64 t302, .bool t303] 25 (0, 0)) (by (with_reducible repeat (first | refine blk_drewN ?_ _ | refine blk_drew ?_ | refine blk_alloc ?_ _)); exact BK305.out) hb)
            have n6_ := Aside0.mk (blk_below (g := gb310) (o := .cells #[.int .i64 t306, .int .i64 t307, .bool t308] 25 (0, 0)) (by (with_reducible repeat (first | refine blk_drewN ?_ _ | refine blk_drew ?_ | refine blk_alloc ?_ _)); exact BK310.out) hb)
            have n7_ := Aside0.mk (below_step (by repeat (first | (with_reducible first | exact HB.out | apply below_alloc | apply pw_below_drewN | apply below_drew1 | refine below_set ?_ (IsS59.ge HI280.out) | refine below_set ?_ GE286.out | refine below_set ?_ GE287.out | refine below_set ?_ GE295.out | refine below_set ?_ GE305.out | refine below_set ?_ GE310.out) | exact HB.out)) hb)
            clear HO298; clear BK286; clear BK287; clear HI280; clear BK295; clear BK305; clear BK310; clear HB; have HO298 := n0_; have BK286 := n1_; have BK287 := n2_; have HI280 := n3_; have BK295 := n4_; have BK305 := n5_; have BK310 := n6_; have HB := n7_
            clear n0_ n1_ n2_ n3_ n4_ n5_ n6_ n7_
            (try clear hb); (try clear hb2); (try clear hk); (try clear hi)
            refine hK.out _ _ ⟨(blk_cell BK305.out 0).trans rfl, (blk_cell BK305.out 1).trans rfl, (blk_cell BK305.out 2).trans rfl, (blk_cell BK310.out 0).trans rfl, (blk_cell BK310.out 1).trans rfl, (blk_cell BK310.out 2).trans rfl, (blk_cell BK286.out 0).trans rfl, (blk_cell BK286.out 1).trans rfl, (blk_cell BK286.out 2).trans rfl, (blk_cell BK287.out 0).trans rfl, (blk_cell BK287.out 1).trans rfl, (blk_cell BK287.out 2).trans rfl⟩ (fun hHeld => ?_)
            clear hK K
            refine norm_ (a' := ?_) ?_ ?_
            rotate_left
            ·show Act.put _ (some 74) _ = _
             simp only [Act.put, sZ1, sZ2, sZ3, i64_w, i32_w]
             rfl
            refine pure_ (i := 17) (N := some 75) (v := ?_) (a' := ?_) D49m3ffff rfl rfl (any_of HT_.out (by kernel_rfl)) (fun _ _ _ h => h) (Or.inl ⟨by rfl, ?_⟩) ?_ ?_
            rotate_left; ·intro w'; go_simp; with_reducible rfl
            rotate_left; ·simp only [Act.put, sZ1, sZ2, sZ3, i64_w, i32_w]; rfl
            refine pure_ (i := 18) (N := some 76) (v := ?_) (a' := ?_) D49m7ffff rfl rfl (any_of HT_.out (by kernel_rfl)) (fun _ _ _ h => h) (Or.inl ⟨by rfl, ?_⟩) ?_ ?_
            rotate_left; ·intro w'; go_simp; with_reducible rfl
            rotate_left; ·simp only [Act.put, sZ1, sZ2, sZ3, i64_w, i32_w]; rfl
            refine pure_ (i := 19) (N := some 77) (v := undef) (a' := ?_) D49mfffff rfl rfl (any_of HT_.out (by kernel_rfl)) (fun _ _ _ h => h) (Or.inr ⟨by rfl, rfl⟩) ?_ ?_
            rotate_left; ·simp only [Act.put, sZ1, sZ2, sZ3, i64_w, i32_w]; rfl
            refine pure_ (i := 20) (N := some 78) (v := undef) (a' := ?_) D49m1fffff rfl rfl (any_of HT_.out (by kernel_rfl)) (fun _ _ _ h => h) (Or.inr ⟨by rfl, rfl⟩) ?_ ?_
            rotate_left; ·simp only [Act.put, sZ1, sZ2, sZ3, i64_w, i32_w]; rfl
            refine pure_ (i := 21) (N := some 79) (v := undef) (a' := ?_) D49m3fffff rfl rfl (any_of HT_.out (by kernel_rfl)) (fun _ _ _ h => h) (Or.inr ⟨by rfl, rfl⟩) ?_ ?_
            rotate_left; ·simp only [Act.put, sZ1, sZ2, sZ3, i64_w, i32_w]; rfl
            refine pure_ (i := 22) (N := some 80) (v := undef) (a' := ?_) D49m7fffff rfl rfl (any_of HT_.out (by kernel_rfl)) (fun _ _ _ h => h) (Or.inr ⟨by rfl, rfl⟩) ?_ ?_
            rotate_left; ·simp only [Act.put, sZ1, sZ2, sZ3, i64_w, i32_w]; rfl
            refine pure_ (i := 23) (N := some 81) (v := undef) (a' := ?_) D49mffffff rfl rfl (any_of HT_.out (by kernel_rfl)) (fun _ _ _ h => h) (Or.inr ⟨by rfl, rfl⟩) ?_ ?_
            rotate_left; ·simp only [Act.put, sZ1, sZ2, sZ3, i64_w, i32_w]; rfl
            refine pure_ (i := 24) (N := some 82) (v := undef) (a' := ?_) D49m1ffffff rfl rfl (any_of HT_.out (by kernel_rfl)) (fun _ _ _ h => h) (Or.inr ⟨by rfl, rfl⟩) ?_ ?_
            rotate_left; ·simp only [Act.put, sZ1, sZ2, sZ3, i64_w, i32_w]; rfl
            refine pure_ (i := 25) (N := some 83) (v := undef) (a' := ?_) D49m3ffffff rfl rfl (any_of HT_.out (by kernel_rfl)) (fun _ _ _ h => h) (Or.inr ⟨by rfl, rfl⟩) ?_ ?_
            rotate_left; ·simp only [Act.put, sZ1, sZ2, sZ3, i64_w, i32_w]; rfl
            refine pure_ (i := 26) (N := some 84) (v := undef) (a' := ?_) D49m7ffffff rfl rfl (any_of HT_.out (by kernel_rfl)) (fun _ _ _ h => h) (Or.inr ⟨by rfl, rfl⟩) ?_ ?_
            rotate_left; ·simp only [Act.put, sZ1, sZ2, sZ3, i64_w, i32_w]; rfl
            refine pure_ (i := 27) (N := some 85) (v := undef) (a' := ?_) D49mfffffff rfl rfl (any_of HT_.out (by kernel_rfl)) (fun _ _ _ h => h) (Or.inr ⟨by rfl, rfl⟩) ?_ ?_
            rotate_left; ·simp only [Act.put, sZ1, sZ2, sZ3, i64_w, i32_w]; rfl
            refine pure_ (i := 28) (N := some 86) (v := undef) (a' := ?_) D49m1fffffff rfl rfl (any_of HT_.out (by kernel_rfl)) (fun _ _ _ h => h) (Or.inr ⟨by rfl, rfl⟩) ?_ ?_
            rotate_left; ·simp only [Act.put, sZ1, sZ2, sZ3, i64_w, i32_w]; rfl
            refine pure_ (i := 29) (N := some 87) (v := undef) (a' := ?_) D49m3fffffff rfl rfl (any_of HT_.out (by kernel_rfl)) (fun _ _ _ h => h) (Or.inr ⟨by rfl, rfl⟩) ?_ ?_
            rotate_left; ·simp only [Act.put, sZ1, sZ2, sZ3, i64_w, i32_w]; rfl
            refine pure_ (i := 30) (N := some 88) (v := ?_) (a' := ?_) D49m7fffffff rfl rfl (any_of HT_.out (by kernel_rfl)) (fun _ _ _ h => h) (Or.inl ⟨by rfl, ?_⟩) ?_ ?_
            rotate_left; ·intro w'; go_simp; with_reducible rfl
            rotate_left; ·simp only [Act.put, sZ1, sZ2, sZ3, i64_w, i32_w]; rfl
            refine pure_ (i := 31) (N := some 89) (v := ?_) (a' := ?_) D49mffffffff rfl rfl (any_of HT_.out (by kernel_rfl)) (fun _ _ _ h => h) (Or.inl ⟨by rfl, ?_⟩) ?_ ?_
            rotate_left; ·intro w'; go_simp; with_reducible rfl
            rotate_left; ·simp only [Act.put, sZ1, sZ2, sZ3, i64_w, i32_w]; rfl
            refine pure_ (i := 32) (N := some 90) (v := ?_) (a' := ?_) D49m1ffffffff rfl rfl (any_of HT_.out (by kernel_rfl)) (fun _ _ _ h => h) (Or.inl ⟨by rfl, ?_⟩) ?_ ?_
            rotate_left; ·intro w'; go_simp; with_reducible rfl
            rotate_left; ·simp only [Act.put, sZ1, sZ2, sZ3, i64_w, i32_w]; rfl
            refine pure_ (i := 33) (N := some 91) (v := ?_) (a' := ?_) D49m3ffffffff rfl rfl (any_of HT_.out (by kernel_rfl)) (fun _ _ _ h => h) (Or.inl ⟨by rfl, ?_⟩) ?_ ?_
            rotate_left; ·intro w'; go_simp; with_reducible rfl
            rotate_left; ·simp only [Act.put, sZ1, sZ2, sZ3, i64_w, i32_w]; rfl
            refine take_ (i := 34) (N := some 92) (v := ?_) (a' := ?_) D49m7ffffffff rfl rfl (take_ofW HT_.out HW_.out (by kernel_rfl)) (fun _ _ _ h => h) (Or.inl ⟨by rfl, ?_⟩) hHeld ?_ ?_
            rotate_left; ·rintro w' ⟨s0, s1, s2, s3, s4, s5, s6, s7, s8, s9, s10, s11⟩; go_simp; with_reducible rfl
            rotate_left; ·simp only [Act.put, sZ1, sZ2, sZ3, i64_w, i32_w]; rfl
            refine pure_ (i := 35) (N := some 93) (v := ?_) (a' := ?_) D49mfffffffff rfl rfl (any_of HT_.out (by kernel_rfl)) (fun _ _ _ h => h) (Or.inl ⟨by rfl, ?_⟩) ?_ ?_
            rotate_left; ·intro w'; go_simp; with_reducible rfl
            rotate_left; ·simp only [Act.put, sZ1, sZ2, sZ3, i64_w, i32_w]; rfl
            refine pure_ (i := 36) (N := some 94) (v := ?_) (a' := ?_) D49m1fffffffff rfl rfl (any_of HT_.out (by kernel_rfl)) (fun _ _ _ h => h) (Or.inl ⟨by rfl, ?_⟩) ?_ ?_
            rotate_left; ·intro w'; go_simp; with_reducible rfl
            rotate_left; ·simp only [Act.put, sZ1, sZ2, sZ3, i64_w, i32_w]; rfl
            refine pure_ (i := 37) (N := some 95) (v := ?_) (a' := ?_) D49m3fffffffff rfl rfl (any_of HT_.out (by kernel_rfl)) (fun _ _ _ h => h) (Or.inl ⟨by rfl, ?_⟩) ?_ ?_
            rotate_left; ·intro w'; go_simp; with_reducible rfl
            rotate_left; ·simp only [Act.put, sZ1, sZ2, sZ3, i64_w, i32_w]; rfl
            refine take_ (i := 38) (N := some 96) (v := ?_) (a' := ?_) D49m7fffffffff rfl rfl (take_ofW HT_.out HW_.out (by kernel_rfl)) (fun _ _ _ h => h) (Or.inl ⟨by rfl, ?_⟩) hHeld ?_ ?_
            rotate_left; ·rintro w' ⟨s0, s1, s2, s3, s4, s5, s6, s7, s8, s9, s10, s11⟩; go_simp; with_reducible rfl
            rotate_left; ·simp only [Act.put, sZ1, sZ2, sZ3, i64_w, i32_w]; rfl
            refine pure_ (i := 39) (N := some 97) (v := ?_) (a' := ?_) D49mffffffffff rfl rfl (any_of HT_.out (by kernel_rfl)) (fun _ _ _ h => h) (Or.inl ⟨by rfl, ?_⟩) ?_ ?_
            rotate_left; ·intro w'; go_simp; with_reducible rfl
            rotate_left; ·simp only [Act.put, sZ1, sZ2, sZ3, i64_w, i32_w]; rfl
            refine pure_ (i := 40) (N := some 98) (v := ?_) (a' := ?_) D49m1ffffffffff rfl rfl (any_of HT_.out (by kernel_rfl)) (fun _ _ _ h => h) (Or.inl ⟨by rfl, ?_⟩) ?_ ?_
            rotate_left; ·intro w'; go_simp; with_reducible rfl
            rotate_left; ·simp only [Act.put, sZ1, sZ2, sZ3, i64_w, i32_w]; rfl
            refine pure_ (i := 41) (N := some 99) (v := ?_) (a' := ?_) D49m3ffffffffff rfl rfl (any_of HT_.out (by kernel_rfl)) (fun _ _ _ h => h) (Or.inl ⟨by rfl, ?_⟩) ?_ ?_
            rotate_left; ·intro w'; go_simp; with_reducible rfl
            rotate_left; ·simp only [Act.put, sZ1, sZ2, sZ3, i64_w, i32_w]; rfl
            refine pure_ (i := 42) (N := some 100) (v := undef) (a' := ?_) D49m7ffffffffff rfl rfl (any_of HT_.out (by kernel_rfl)) (fun _ _ _ h => h) (Or.inr ⟨by rfl, rfl⟩) ?_ ?_
            rotate_left; ·simp only [Act.put, sZ1, sZ2, sZ3, i64_w, i32_w]; rfl
            refine pure_ (i := 43) (N := some 101) (v := undef) (a' := ?_) D49mfffffffffff rfl rfl (any_of HT_.out (by kernel_rfl)) (fun _ _ _ h => h) (Or.inr ⟨by rfl, rfl⟩) ?_ ?_
            rotate_left; ·simp only [Act.put, sZ1, sZ2, sZ3, i64_w, i32_w]; rfl
            refine pure_ (i := 44) (N := some 102) (v := undef) (a' := ?_) D49m1fffffffffff rfl rfl (any_of HT_.out (by kernel_rfl)) (fun _ _ _ h => h) (Or.inr ⟨by rfl, rfl⟩) ?_ ?_
            rotate_left; ·simp only [Act.put, sZ1, sZ2, sZ3, i64_w, i32_w]; rfl
            refine pure_ (i := 45) (N := some 103) (v := undef) (a' := ?_) D49m3fffffffffff rfl rfl (any_of HT_.out (by kernel_rfl)) (fun _ _ _ h => h) (Or.inr ⟨by rfl, rfl⟩) ?_ ?_
            rotate_left; ·simp only [Act.put, sZ1, sZ2, sZ3, i64_w, i32_w]; rfl
            refine pure_ (i := 46) (N := some 104) (v := undef) (a' := ?_) D49m7fffffffffff rfl rfl (any_of HT_.out (by kernel_rfl)) (fun _ _ _ h => h) (Or.inr ⟨by rfl, rfl⟩) ?_ ?_
            rotate_left; ·simp only [Act.put, sZ1, sZ2, sZ3, i64_w, i32_w]; rfl
            refine pure_ (i := 47) (N := some 105) (v := ?_) (a' := ?_) D49mffffffffffff rfl rfl (any_of HT_.out (by kernel_rfl)) (fun _ _ _ h => h) (Or.inl ⟨by rfl, ?_⟩) ?_ ?_
            rotate_left; ·intro w'; go_simp; with_reducible rfl
            rotate_left; ·simp only [Act.put, sZ1, sZ2, sZ3, i64_w, i32_w]; rfl
            refine pure_ (i := 48) (N := some 106) (v := ?_) (a' := ?_) D49m1ffffffffffff rfl rfl (any_of HT_.out (by kernel_rfl)) (fun _ _ _ h => h) (Or.inl ⟨by rfl, ?_⟩) ?_ ?_
            rotate_left; ·intro w'; go_simp; with_reducible rfl
            rotate_left; ·simp only [Act.put, sZ1, sZ2, sZ3, i64_w, i32_w]; rfl
            refine done_ (done_of HT_.out (by kernel_rfl)) ?_
            try go_wp2
            go_meet
            case rel => exact ⟨_, (false), (by first | rfl | (simp; done) | (simp [*]; done)), H', ⟨by have := HK1.out; first | omega | exact Nat.le_refl _⟩, ⟨by (with_reducible repeat (first | refine blk_drewN ?_ _ | refine blk_drew ?_ | refine blk_alloc ?_ _)); exact BK286.out⟩, ⟨by (with_reducible repeat (first | refine blk_drewN ?_ _ | refine blk_drew ?_ | refine blk_alloc ?_ _)); exact BK287.out⟩, ⟨by (with_reducible repeat (first | refine blk_drewN ?_ _ | refine blk_drew ?_ | refine blk_alloc ?_ _)); exact BK295.out⟩, ⟨by (with_reducible repeat (first | refine blk_drewN ?_ _ | refine blk_drew ?_ | refine blk_alloc ?_ _)); exact BK305.out⟩, ⟨by (with_reducible repeat (first | refine blk_drewN ?_ _ | refine blk_drew ?_ | refine blk_alloc ?_ _)); exact BK310.out⟩, ⟨by repeat (first | (with_reducible first | exact HI280.out | apply IsS59.alloc | apply IsS59.drewN | apply IsS59.drew | apply IsS59.set_1 | refine IsS59.far ?_ NB280_286.out _ | refine IsS59.far ?_ NB280_287.out _ | refine IsS59.far ?_ NB280_295.out _ | refine IsS59.far ?_ NB280_305.out _ | refine IsS59.far ?_ NB280_310.out _) | exact HI280.out)⟩, ⟨by repeat (first | (with_reducible first | exact HB.out | apply below_alloc | apply pw_below_drewN | apply below_drew1 | refine below_set ?_ (IsS59.ge HI280.out) | refine below_set ?_ GE286.out | refine below_set ?_ GE287.out | refine below_set ?_ GE295.out | refine below_set ?_ GE305.out | refine below_set ?_ GE310.out) | exact HB.out)⟩⟩
          ·rw [if_neg c66] at H
           have c66b0 : decide (0 ≤ x288000_1) = false := decide_eq_false c66
           clear c66
           have H' := Aside0.mk H
           clear H
           try go_wp2
           have n0_ : Aside0 (Kd.R (Kd.int .i64) 3 (((w54.setCell ⟨gb310, 0, none⟩ (.int .i64 t306)).setCell ⟨gb310, 1, none⟩ (.int .i64 t307)).setCell ⟨gb310, 2, none⟩ (.bool t308)) w.heap.size (fun _ => True) (.slice Ao36 y296.length co36) y296) := ⟨by (with_reducible repeat (first | apply Kd.R_alloc | apply Kd.R_drewN | apply Kd.R_drew)); exact Kd.R_mono (Kd.R_far (p := ⟨gb310, 2, none⟩) (Kd.R_far (p := ⟨gb310, 1, none⟩) (Kd.R_far (p := ⟨gb310, 0, none⟩) (Kd.R_types HO298.out BK310.out (by decide)) (fun _ hk => hk.2) (.int .i64 t306)) (fun _ hk => hk.2) (.int .i64 t307)) (fun _ hk => hk.2) (.bool t308)) (fun _ hk => trivial)⟩
           have n1_ : Aside0 ((((w54.setCell ⟨gb310, 0, none⟩ (.int .i64 t306)).setCell ⟨gb310, 1, none⟩ (.int .i64 t307)).setCell ⟨gb310, 2, none⟩ (.bool t308)).heap[gb286]? = some (.cells #[.int .i64 100, .int .i64 900, .int .i64 t284] 23 (0, 0))) := ⟨by (with_reducible repeat (first | refine blk_drewN ?_ _ | refine blk_drew ?_ | refine blk_alloc ?_ _)); refine blk_far ?_ NB286_310.out _; (with_reducible repeat (first | refine blk_drewN ?_ _ | refine blk_drew ?_ | refine blk_alloc ?_ _)); refine blk_far ?_ NB286_310.out _; (with_reducible repeat (first | refine blk_drewN ?_ _ | refine blk_drew ?_ | refine blk_alloc ?_ _)); refine blk_far ?_ NB286_310.out _; (with_reducible repeat (first | refine blk_drewN ?_ _ | refine blk_drew ?_ | refine blk_alloc ?_ _)); exact BK286.out⟩
           have n2_ : Aside0 ((((w54.setCell ⟨gb310, 0, none⟩ (.int .i64 t306)).setCell ⟨gb310, 1, none⟩ (.int .i64 t307)).setCell ⟨gb310, 2, none⟩ (.bool t308)).heap[gb287]? = some (.cells #[.int .i64 x288000_1, .int .i64 x288001_1, .bool x288002_1] 25 (0, 0))) := ⟨by (with_reducible repeat (first | refine blk_drewN ?_ _ | refine blk_drew ?_ | refine blk_alloc ?_ _)); refine blk_far ?_ NB287_310.out _; (with_reducible repeat (first | refine blk_drewN ?_ _ | refine blk_drew ?_ | refine blk_alloc ?_ _)); refine blk_far ?_ NB287_310.out _; (with_reducible repeat (first | refine blk_drewN ?_ _ | refine blk_drew ?_ | refine blk_alloc ?_ _)); refine blk_far ?_ NB287_310.out _; (with_reducible repeat (first | refine blk_drewN ?_ _ | refine blk_drew ?_ | refine blk_alloc ?_ _)); exact BK287.out⟩
           have n3_ : Aside0 ((((w54.setCell ⟨gb310, 0, none⟩ (.int .i64 t306)).setCell ⟨gb310, 1, none⟩ (.int .i64 t307)).setCell ⟨gb310, 2, none⟩ (.bool t308)).heap[gb295]? = some (.cells #[.int .i64 t290, .int .i64 t291] 27 (0, 0))) := ⟨by (with_reducible repeat (first | refine blk_drewN ?_ _ | refine blk_drew ?_ | refine blk_alloc ?_ _)); refine blk_far ?_ NB295_310.out _; (with_reducible repeat (first | refine blk_drewN ?_ _ | refine blk_drew ?_ | refine blk_alloc ?_ _)); refine blk_far ?_ NB295_310.out _; (with_reducible repeat (first | refine blk_drewN ?_ _ | refine blk_drew ?_ | refine blk_alloc ?_ _)); refine blk_far ?_ NB295_310.out _; (with_reducible repeat (first | refine blk_drewN ?_ _ | refine blk_drew ?_ | refine blk_alloc ?_ _)); exact BK295.out⟩
           have n4_ : Aside0 ((((w54.setCell ⟨gb310, 0, none⟩ (.int .i64 t306)).setCell ⟨gb310, 1, none⟩ (.int .i64 t307)).setCell ⟨gb310, 2, none⟩ (.bool t308)).heap[gb305]? = some (.cells #[.int .i64 t301, .int .i64 t302, .bool t303] 25 (0, 0))) := ⟨by (with_reducible repeat (first | refine blk_drewN ?_ _ | refine blk_drew ?_ | refine blk_alloc ?_ _)); refine blk_far ?_ NB305_310.out _; (with_reducible repeat (first | refine blk_drewN ?_ _ | refine blk_drew ?_ | refine blk_alloc ?_ _)); refine blk_far ?_ NB305_310.out _; (with_reducible repeat (first | refine blk_drewN ?_ _ | refine blk_drew ?_ | refine blk_alloc ?_ _)); refine blk_far ?_ NB305_310.out _; (with_reducible repeat (first | refine blk_drewN ?_ _ | refine blk_drew ?_ | refine blk_alloc ?_ _)); exact BK305.out⟩
           have n5_ : Aside0 ((((w54.setCell ⟨gb310, 0, none⟩ (.int .i64 t306)).setCell ⟨gb310, 1, none⟩ (.int .i64 t307)).setCell ⟨gb310, 2, none⟩ (.bool t308)).heap[gb310]? = some (.cells #[.int .i64 t306, .int .i64 t307, .bool t308] 25 (0, 0))) := ⟨by (with_reducible repeat (first | refine blk_drewN ?_ _ | refine blk_drew ?_ | refine blk_alloc ?_ _)); refine blk_put (cs := #[.int .i64 t306, .int .i64 t307, .bool false]) ?_ 2 _ rfl; (with_reducible repeat (first | refine blk_drewN ?_ _ | refine blk_drew ?_ | refine blk_alloc ?_ _)); refine blk_put (cs := #[.int .i64 t306, .int .i64 0, .bool false]) ?_ 1 _ rfl; (with_reducible repeat (first | refine blk_drewN ?_ _ | refine blk_drew ?_ | refine blk_alloc ?_ _)); refine blk_put (cs := #[.int .i64 0, .int .i64 0, .bool false]) ?_ 0 _ rfl; (with_reducible repeat (first | refine blk_drewN ?_ _ | refine blk_drew ?_ | refine blk_alloc ?_ _)); exact BK310.out⟩
           have n6_ : Aside0 (IsS59 w (((w54.setCell ⟨gb310, 0, none⟩ (.int .i64 t306)).setCell ⟨gb310, 1, none⟩ (.int .i64 t307)).setCell ⟨gb310, 2, none⟩ (.bool t308)) g280 t278 t300) := ⟨by repeat (first | (with_reducible first | exact HI280.out | apply IsS59.alloc | apply IsS59.drewN | apply IsS59.drew | apply IsS59.set_1 | refine IsS59.far ?_ NB280_286.out _ | refine IsS59.far ?_ NB280_287.out _ | refine IsS59.far ?_ NB280_295.out _ | refine IsS59.far ?_ NB280_305.out _ | refine IsS59.far ?_ NB280_310.out _) | exact HI280.out)⟩
           have n7_ : Aside0 (Below w.heap.size w (((w54.setCell ⟨gb310, 0, none⟩ (.int .i64 t306)).setCell ⟨gb310, 1, none⟩ (.int .i64 t307)).setCell ⟨gb310, 2, none⟩ (.bool t308))) := ⟨by repeat (first | (with_reducible first | exact HB.out | apply below_alloc | apply pw_below_drewN | apply below_drew1 | refine below_set ?_ (IsS59.ge HI280.out) | refine below_set ?_ GE286.out | refine below_set ?_ GE287.out | refine below_set ?_ GE295.out | refine below_set ?_ GE305.out | refine below_set ?_ GE310.out) | exact HB.out)⟩
           (try clear HO298); (try clear BK286); (try clear BK287); (try clear BK295); (try clear BK305); (try clear BK310); (try clear HI280); (try clear HB)
           generalize (((w54.setCell ⟨gb310, 0, none⟩ (.int .i64 t306)).setCell ⟨gb310, 1, none⟩ (.int .i64 t307)).setCell ⟨gb310, 2, none⟩ (.bool t308)) = w74 at n0_ n1_ n2_ n3_ n4_ n5_ n6_ n7_ ⊢
           have HO298 := n0_; have BK286 := n1_; have BK287 := n2_; have BK295 := n3_; have BK305 := n4_; have BK310 := n5_; have HI280 := n6_; have HB := n7_
           clear n0_ n1_ n2_ n3_ n4_ n5_ n6_ n7_
           have n0_ := Aside0.mk (Kd.R_drew HO298.out)
           have n1_ := Aside0.mk (blk_drew BK286.out)
           have n2_ := Aside0.mk (blk_drew BK287.out)
           have n3_ := Aside0.mk (blk_drew BK295.out)
           have n4_ := Aside0.mk (blk_drew BK305.out)
           have n5_ := Aside0.mk (blk_drew BK310.out)
           have n6_ := Aside0.mk (IsS59.drew HI280.out)
           have n7_ := Aside0.mk (below_drew1 HB.out)
           clear HO298; clear BK286; clear BK287; clear BK295; clear BK305; clear BK310; clear HI280; clear HB; have HO298 := n0_; have BK286 := n1_; have BK287 := n2_; have BK295 := n3_; have BK305 := n4_; have BK310 := n5_; have HI280 := n6_; have HB := n7_
           clear n0_ n1_ n2_ n3_ n4_ n5_ n6_ n7_
           refine start_ (n := 49) (S := fun w' => w'.cell? ⟨gb305, 0, none⟩ = some (.int .i64 t301) ∧ w'.cell? ⟨gb305, 1, none⟩ = some (.int .i64 t302) ∧ w'.cell? ⟨gb305, 2, none⟩ = some (.bool t303) ∧ w'.cell? ⟨gb310, 0, none⟩ = some (.int .i64 t306) ∧ w'.cell? ⟨gb310, 1, none⟩ = some (.int .i64 t307) ∧ w'.cell? ⟨gb310, 2, none⟩ = some (.bool t308) ∧ w'.cell? ⟨gb286, 0, none⟩ = some (.int .i64 100) ∧ w'.cell? ⟨gb286, 1, none⟩ = some (.int .i64 900) ∧ w'.cell? ⟨gb286, 2, none⟩ = some (.int .i64 t284) ∧ w'.cell? ⟨gb287, 0, none⟩ = some (.int .i64 x288000_1) ∧ w'.cell? ⟨gb287, 1, none⟩ = some (.int .i64 x288001_1) ∧ w'.cell? ⟨gb287, 2, none⟩ = some (.bool x288002_1)) (ds := []) D49m0 (by kernel_rfl) rfl rfl ⟨(blk_cell BK305.out 0).trans rfl, (blk_cell BK305.out 1).trans rfl, (blk_cell BK305.out 2).trans rfl, (blk_cell BK310.out 0).trans rfl, (blk_cell BK310.out 1).trans rfl, (blk_cell BK310.out 2).trans rfl, (blk_cell BK286.out 0).trans rfl, (blk_cell BK286.out 1).trans rfl, (blk_cell BK286.out 2).trans rfl, (blk_cell BK287.out 0).trans rfl, (blk_cell BK287.out 1).trans rfl, (blk_cell BK287.out 2).trans rfl⟩ (fun hHeld => ?_); refine with_tabW law38_RopeTwice.tab13 law38_RopeTwice.bits13 (fun HT_ HW_ => ?_)
           generalize w74.drew = w75 at HO298 BK286 BK287 BK295 BK305 BK310 HI280 HB hHeld ⊢
           refine pure_ (i := 0) (N := some 58) (v := ?_) (a' := ?_) D49m1 rfl rfl (any_of HT_.out (by kernel_rfl)) (fun _ _ _ h => h) (Or.inl ⟨by rfl, ?_⟩) ?_ ?_
           rotate_left; ·intro w'; go_simp; with_reducible rfl
           rotate_left; ·simp only [Act.put, sZ1, sZ2, sZ3, i64_w, i32_w]; rfl
           refine pure_ (i := 1) (N := some 59) (v := ?_) (a' := ?_) D49m3 rfl rfl (any_of HT_.out (by kernel_rfl)) (fun _ _ _ h => h) (Or.inl ⟨by rfl, ?_⟩) ?_ ?_
           rotate_left; ·intro w'; go_simp; with_reducible rfl
           rotate_left; ·simp only [Act.put, sZ1, sZ2, sZ3, i64_w, i32_w]; rfl
           refine pure_ (i := 2) (N := some 60) (v := ?_) (a' := ?_) D49m7 rfl rfl (any_of HT_.out (by kernel_rfl)) (fun _ _ _ h => h) (Or.inl ⟨by rfl, ?_⟩) ?_ ?_
           rotate_left; ·intro w'; go_simp; with_reducible rfl
           rotate_left; ·simp only [Act.put, sZ1, sZ2, sZ3, i64_w, i32_w]; rfl
           refine pure_ (i := 3) (N := some 61) (v := ?_) (a' := ?_) D49mf rfl rfl (any_of HT_.out (by kernel_rfl)) (fun _ _ _ h => h) (Or.inl ⟨by rfl, ?_⟩) ?_ ?_
           rotate_left; ·intro w'; go_simp; with_reducible rfl
           rotate_left; ·simp only [Act.put, sZ1, sZ2, sZ3, i64_w, i32_w]; rfl
           refine pure_ (i := 4) (N := some 62) (v := ?_) (a' := ?_) D49m1f rfl rfl (any_of HT_.out (by kernel_rfl)) (fun _ _ _ h => h) (Or.inl ⟨by rfl, ?_⟩) ?_ ?_
           rotate_left; ·intro w'; go_simp; with_reducible rfl
           rotate_left; ·simp only [Act.put, sZ1, sZ2, sZ3, i64_w, i32_w]; rfl
           refine pure_ (i := 5) (N := some 63) (v := ?_) (a' := ?_) D49m3f rfl rfl (any_of HT_.out (by kernel_rfl)) (fun _ _ _ h => h) (Or.inl ⟨by rfl, ?_⟩) ?_ ?_
           rotate_left; ·intro w'; go_simp; with_reducible rfl
           rotate_left; ·simp only [Act.put, sZ1, sZ2, sZ3, i64_w, i32_w]; rfl
           refine pure_ (i := 6) (N := some 64) (v := ?_) (a' := ?_) D49m7f rfl rfl (any_of HT_.out (by kernel_rfl)) (fun _ _ _ h => h) (Or.inl ⟨by rfl, ?_⟩) ?_ ?_
           rotate_left; ·intro w'; go_simp; with_reducible rfl
           rotate_left; ·simp only [Act.put, sZ1, sZ2, sZ3, i64_w, i32_w]; rfl
           refine take_ (i := 7) (N := some 65) (v := ?_) (a' := ?_) D49mff rfl rfl (take_ofW HT_.out HW_.out (by kernel_rfl)) (fun _ _ _ h => h) (Or.inl ⟨by rfl, ?_⟩) hHeld ?_ ?_
           rotate_left; ·rintro w' ⟨s0, s1, s2, s3, s4, s5, s6, s7, s8, s9, s10, s11⟩; go_simp; with_reducible rfl
           rotate_left; ·simp only [Act.put, sZ1, sZ2, sZ3, i64_w, i32_w]; rfl
           refine take_ (i := 8) (N := some 66) (v := ?_) (a' := ?_) D49m1ff rfl rfl (take_ofW HT_.out HW_.out (by kernel_rfl)) (fun _ _ _ h => h) (Or.inl ⟨by rfl, ?_⟩) hHeld ?_ ?_
           rotate_left; ·rintro w' ⟨s0, s1, s2, s3, s4, s5, s6, s7, s8, s9, s10, s11⟩; go_simp; with_reducible rfl
           rotate_left; ·simp only [Act.put, sZ1, sZ2, sZ3, i64_w, i32_w]; rfl
           refine pure_ (i := 9) (N := some 67) (v := ?_) (a' := ?_) D49m3ff rfl rfl (any_of HT_.out (by kernel_rfl)) (fun _ _ _ h => h) (Or.inl ⟨by rfl, ?_⟩) ?_ ?_
           rotate_left; ·intro w'; go_simp; with_reducible rfl
           rotate_left; ·simp only [Act.put, sZ1, sZ2, sZ3, i64_w, i32_w]; rfl
           refine pure_ (i := 10) (N := some 68) (v := ?_) (a' := ?_) D49m7ff rfl rfl (any_of HT_.out (by kernel_rfl)) (fun _ _ _ h => h) (Or.inl ⟨by rfl, ?_⟩) ?_ ?_
           rotate_left; ·intro w'; go_simp; with_reducible rfl
           rotate_left; ·simp only [Act.put, sZ1, sZ2, sZ3, i64_w, i32_w]; rfl
           refine pure_ (i := 11) (N := some 69) (v := ?_) (a' := ?_) D49mfff rfl rfl (any_of HT_.out (by kernel_rfl)) (fun _ _ _ h => h) (Or.inl ⟨by rfl, ?_⟩) ?_ ?_
           rotate_left; ·intro w'; go_simp; with_reducible rfl
           rotate_left; ·simp only [Act.put, sZ1, sZ2, sZ3, i64_w, i32_w]; rfl
           refine pure_ (i := 14) (N := some 72) (v := ?_) (a' := ?_) D49m4fff rfl rfl (any_of HT_.out (by kernel_rfl)) (fun _ _ _ h => h) (Or.inl ⟨by rfl, ?_⟩) ?_ ?_
           rotate_left; ·intro w'; go_simp; with_reducible rfl
           rotate_left; ·simp only [Act.put, sZ1, sZ2, sZ3, i64_w, i32_w]; rfl
           refine pure_ (i := 15) (N := some 73) (v := ?_) (a' := ?_) D49mcfff rfl rfl (any_of HT_.out (by kernel_rfl)) (fun _ _ _ h => h) (Or.inl ⟨by rfl, ?_⟩) ?_ ?_
           rotate_left; ·intro w'; go_simp; with_reducible rfl
           rotate_left; ·simp only [Act.put, sZ1, sZ2, sZ3, i64_w, i32_w]; rfl
           refine take_ (i := 12) (N := some 70) (v := ?_) (a' := ?_) D49mdfff rfl rfl (take_ofW HT_.out HW_.out (by kernel_rfl)) (fun _ _ _ h => h) (Or.inl ⟨by rfl, ?_⟩) hHeld ?_ ?_
           rotate_left; ·rintro w' ⟨s0, s1, s2, s3, s4, s5, s6, s7, s8, s9, s10, s11⟩; go_simp; with_reducible rfl
           rotate_left; ·simp only [Act.put, sZ1, sZ2, sZ3, i64_w, i32_w]; rfl
           refine take_ (i := 13) (N := some 71) (v := ?_) (a' := ?_) D49mffff rfl rfl (take_ofW HT_.out HW_.out (by kernel_rfl)) (fun _ _ _ h => h) (Or.inl ⟨by rfl, ?_⟩) hHeld ?_ ?_
           rotate_left; ·rintro w' ⟨s0, s1, s2, s3, s4, s5, s6, s7, s8, s9, s10, s11⟩; go_simp; with_reducible rfl
           rotate_left; ·simp only [Act.put, sZ1, sZ2, sZ3, i64_w, i32_w]; rfl
           refine one_ (i := 16) (N := some 74) D49m1ffff rfl rfl (one_of HT_.out (by kernel_rfl)) (by decide) (fun K hK => ?_)
           refine goes_ Try.func24 (by kernel_rfl) rfl #[.agg #[.int .i64 100, .int .i64 900, .int .i64 t284], .agg #[.int .i64 t301, .int .i64 t302, .bool t303], .int .i64 (wrap64 ((wrap64 (x6_1 + t299)) + 7))] (by rfl) rfl rfl (by (try simp only [List.map_toArray, List.map_cons, List.map_nil]); first | done | rfl | (simp only [List.length_drop, List.length_take]; rfl)) ?_
           with_reducible refine (rope_Slack.calls 100 900 t284 t301 t302 t303 (wrap64 ((wrap64 (x6_1 + t299)) + 7)) t311 _ A64.out).mono ?_
           rintro e w76 ⟨rfl, hb⟩
           refine ⟨_, rfl, ?_⟩
           have n0_ := Aside0.mk (Kd.R_below (by (with_reducible repeat (first | apply Kd.R_alloc | apply Kd.R_drewN | apply Kd.R_drew)); exact HO298.out) hb)
           have n1_ := Aside0.mk (blk_below (g := gb286) (o := .cells #[.int .i64 100, .int .i64 900, .int .i64 t284] 23 (0, 0)) (by (with_reducible repeat (first | refine blk_drewN ?_ _ | refine blk_drew ?_ | refine blk_alloc ?_ _)); exact BK286.out) hb)
           have n2_ := Aside0.mk (blk_below (g := gb287) (o := .cells #[.int .i64 x288000_1, .int .i64 x288001_1, .bool x288002_1] 25 (0, 0)) (by (with_reducible repeat (first | refine blk_drewN ?_ _ | refine blk_drew ?_ | refine blk_alloc ?_ _)); exact BK287.out) hb)
           have n3_ := Aside0.mk (IsS59.below (by repeat (first | (with_reducible first | exact HI280.out | apply IsS59.alloc | apply IsS59.drewN | apply IsS59.drew | apply IsS59.set_1 | refine IsS59.far ?_ NB280_286.out _ | refine IsS59.far ?_ NB280_287.out _ | refine IsS59.far ?_ NB280_295.out _ | refine IsS59.far ?_ NB280_305.out _ | refine IsS59.far ?_ NB280_310.out _) | exact HI280.out)) hb)
           have n4_ := Aside0.mk (blk_below (g := gb295) (o := .cells #[.int .i64 t290, .int .i64 t291] 27 (0, 0)) (by (with_reducible repeat (first | refine blk_drewN ?_ _ | refine blk_drew ?_ | refine blk_alloc ?_ _)); exact BK295.out) hb)
           have n5_ := Aside0.mk (blk_below (g := gb305) (o := .cells #[.int .i64 t301, .int .i64 t302, .bool t303] 25 (0, 0)) (by (with_reducible repeat (first | refine blk_drewN ?_ _ | refine blk_drew ?_ | refine blk_alloc ?_ _)); exact BK305.out) hb)
           have n6_ := Aside0.mk (blk_below (g := gb310) (o := .cells #[.int .i64 t306, .int .i64 t307, .bool t308] 25 (0, 0)) (by (with_reducible repeat (first | refine blk_drewN ?_ _ | refine blk_drew ?_ | refine blk_alloc ?_ _)); exact BK310.out) hb)
           have n7_ := Aside0.mk (below_step (by repeat (first | (with_reducible first | exact HB.out | apply below_alloc | apply pw_below_drewN | apply below_drew1 | refine below_set ?_ (IsS59.ge HI280.out) | refine below_set ?_ GE286.out | refine below_set ?_ GE287.out | refine below_set ?_ GE295.out | refine below_set ?_ GE305.out | refine below_set ?_ GE310.out) | exact HB.out)) hb)
           clear HO298; clear BK286; clear BK287; clear HI280; clear BK295; clear BK305; clear BK310; clear HB; have HO298 := n0_; have BK286 := n1_; have BK287 := n2_; have HI280 := n3_; have BK295 := n4_; have BK305 := n5_; have BK310 := n6_; have HB := n7_
           clear n0_ n1_ n2_ n3_ n4_ n5_ n6_ n7_
           (try clear hb); (try clear hb2); (try clear hk); (try clear hi)
           refine hK.out _ _ ⟨(blk_cell BK305.out 0).trans rfl, (blk_cell BK305.out 1).trans rfl, (blk_cell BK305.out 2).trans rfl, (blk_cell BK310.out 0).trans rfl, (blk_cell BK310.out 1).trans rfl, (blk_cell BK310.out 2).trans rfl, (blk_cell BK286.out 0).trans rfl, (blk_cell BK286.out 1).trans rfl, (blk_cell BK286.out 2).trans rfl, (blk_cell BK287.out 0).trans rfl, (blk_cell BK287.out 1).trans rfl, (blk_cell BK287.out 2).trans rfl⟩ (fun hHeld => ?_)
           clear hK K
           refine norm_ (a' := ?_) ?_ ?_
           rotate_left
           ·show Act.put _ (some 74) _ = _
            simp only [Act.put, sZ1, sZ2, sZ3, i64_w, i32_w]
            rfl
           refine pure_ (i := 17) (N := some 75) (v := ?_) (a' := ?_) D49m3ffff rfl rfl (any_of HT_.out (by kernel_rfl)) (fun _ _ _ h => h) (Or.inl ⟨by rfl, ?_⟩) ?_ ?_
           rotate_left; ·intro w'; go_simp; with_reducible rfl
           rotate_left; ·simp only [Act.put, sZ1, sZ2, sZ3, i64_w, i32_w]; rfl
           refine pure_ (i := 18) (N := some 76) (v := ?_) (a' := ?_) D49m7ffff rfl rfl (any_of HT_.out (by kernel_rfl)) (fun _ _ _ h => h) (Or.inl ⟨by rfl, ?_⟩) ?_ ?_
           rotate_left; ·intro w'; go_simp; with_reducible rfl
           rotate_left; ·simp only [Act.put, sZ1, sZ2, sZ3, i64_w, i32_w]; rfl
           refine pure_ (i := 19) (N := some 77) (v := undef) (a' := ?_) D49mfffff rfl rfl (any_of HT_.out (by kernel_rfl)) (fun _ _ _ h => h) (Or.inr ⟨by rfl, rfl⟩) ?_ ?_
           rotate_left; ·simp only [Act.put, sZ1, sZ2, sZ3, i64_w, i32_w]; rfl
           refine pure_ (i := 20) (N := some 78) (v := undef) (a' := ?_) D49m1fffff rfl rfl (any_of HT_.out (by kernel_rfl)) (fun _ _ _ h => h) (Or.inr ⟨by rfl, rfl⟩) ?_ ?_
           rotate_left; ·simp only [Act.put, sZ1, sZ2, sZ3, i64_w, i32_w]; rfl
           refine pure_ (i := 21) (N := some 79) (v := undef) (a' := ?_) D49m3fffff rfl rfl (any_of HT_.out (by kernel_rfl)) (fun _ _ _ h => h) (Or.inr ⟨by rfl, rfl⟩) ?_ ?_
           rotate_left; ·simp only [Act.put, sZ1, sZ2, sZ3, i64_w, i32_w]; rfl
           refine pure_ (i := 22) (N := some 80) (v := undef) (a' := ?_) D49m7fffff rfl rfl (any_of HT_.out (by kernel_rfl)) (fun _ _ _ h => h) (Or.inr ⟨by rfl, rfl⟩) ?_ ?_
           rotate_left; ·simp only [Act.put, sZ1, sZ2, sZ3, i64_w, i32_w]; rfl
           refine pure_ (i := 23) (N := some 81) (v := undef) (a' := ?_) D49mffffff rfl rfl (any_of HT_.out (by kernel_rfl)) (fun _ _ _ h => h) (Or.inr ⟨by rfl, rfl⟩) ?_ ?_
           rotate_left; ·simp only [Act.put, sZ1, sZ2, sZ3, i64_w, i32_w]; rfl
           refine pure_ (i := 24) (N := some 82) (v := undef) (a' := ?_) D49m1ffffff rfl rfl (any_of HT_.out (by kernel_rfl)) (fun _ _ _ h => h) (Or.inr ⟨by rfl, rfl⟩) ?_ ?_
           rotate_left; ·simp only [Act.put, sZ1, sZ2, sZ3, i64_w, i32_w]; rfl
           refine pure_ (i := 25) (N := some 83) (v := undef) (a' := ?_) D49m3ffffff rfl rfl (any_of HT_.out (by kernel_rfl)) (fun _ _ _ h => h) (Or.inr ⟨by rfl, rfl⟩) ?_ ?_
           rotate_left; ·simp only [Act.put, sZ1, sZ2, sZ3, i64_w, i32_w]; rfl
           refine pure_ (i := 26) (N := some 84) (v := undef) (a' := ?_) D49m7ffffff rfl rfl (any_of HT_.out (by kernel_rfl)) (fun _ _ _ h => h) (Or.inr ⟨by rfl, rfl⟩) ?_ ?_
           rotate_left; ·simp only [Act.put, sZ1, sZ2, sZ3, i64_w, i32_w]; rfl
           refine pure_ (i := 27) (N := some 85) (v := undef) (a' := ?_) D49mfffffff rfl rfl (any_of HT_.out (by kernel_rfl)) (fun _ _ _ h => h) (Or.inr ⟨by rfl, rfl⟩) ?_ ?_
           rotate_left; ·simp only [Act.put, sZ1, sZ2, sZ3, i64_w, i32_w]; rfl
           refine pure_ (i := 28) (N := some 86) (v := undef) (a' := ?_) D49m1fffffff rfl rfl (any_of HT_.out (by kernel_rfl)) (fun _ _ _ h => h) (Or.inr ⟨by rfl, rfl⟩) ?_ ?_
           rotate_left; ·simp only [Act.put, sZ1, sZ2, sZ3, i64_w, i32_w]; rfl
           refine pure_ (i := 29) (N := some 87) (v := undef) (a' := ?_) D49m3fffffff rfl rfl (any_of HT_.out (by kernel_rfl)) (fun _ _ _ h => h) (Or.inr ⟨by rfl, rfl⟩) ?_ ?_
           rotate_left; ·simp only [Act.put, sZ1, sZ2, sZ3, i64_w, i32_w]; rfl
           refine pure_ (i := 30) (N := some 88) (v := ?_) (a' := ?_) D49m7fffffff rfl rfl (any_of HT_.out (by kernel_rfl)) (fun _ _ _ h => h) (Or.inl ⟨by rfl, ?_⟩) ?_ ?_
           rotate_left; ·intro w'; go_simp; with_reducible rfl
           rotate_left; ·simp only [Act.put, sZ1, sZ2, sZ3, i64_w, i32_w]; rfl
           refine pure_ (i := 31) (N := some 89) (v := ?_) (a' := ?_) D49mffffffff rfl rfl (any_of HT_.out (by kernel_rfl)) (fun _ _ _ h => h) (Or.inl ⟨by rfl, ?_⟩) ?_ ?_
           rotate_left; ·intro w'; go_simp; with_reducible rfl
           rotate_left; ·simp only [Act.put, sZ1, sZ2, sZ3, i64_w, i32_w]; rfl
           refine pure_ (i := 32) (N := some 90) (v := ?_) (a' := ?_) D49m1ffffffff rfl rfl (any_of HT_.out (by kernel_rfl)) (fun _ _ _ h => h) (Or.inl ⟨by rfl, ?_⟩) ?_ ?_
           rotate_left; ·intro w'; go_simp; with_reducible rfl
           rotate_left; ·simp only [Act.put, sZ1, sZ2, sZ3, i64_w, i32_w]; rfl
           refine pure_ (i := 33) (N := some 91) (v := ?_) (a' := ?_) D49m3ffffffff rfl rfl (any_of HT_.out (by kernel_rfl)) (fun _ _ _ h => h) (Or.inl ⟨by rfl, ?_⟩) ?_ ?_
           rotate_left; ·intro w'; go_simp; with_reducible rfl
           rotate_left; ·simp only [Act.put, sZ1, sZ2, sZ3, i64_w, i32_w]; rfl
           refine take_ (i := 34) (N := some 92) (v := ?_) (a' := ?_) D49m7ffffffff rfl rfl (take_ofW HT_.out HW_.out (by kernel_rfl)) (fun _ _ _ h => h) (Or.inl ⟨by rfl, ?_⟩) hHeld ?_ ?_
           rotate_left; ·rintro w' ⟨s0, s1, s2, s3, s4, s5, s6, s7, s8, s9, s10, s11⟩; go_simp; with_reducible rfl
           rotate_left; ·simp only [Act.put, sZ1, sZ2, sZ3, i64_w, i32_w]; rfl
           refine pure_ (i := 35) (N := some 93) (v := ?_) (a' := ?_) D49mfffffffff rfl rfl (any_of HT_.out (by kernel_rfl)) (fun _ _ _ h => h) (Or.inl ⟨by rfl, ?_⟩) ?_ ?_
           rotate_left; ·intro w'; go_simp; with_reducible rfl
           rotate_left; ·simp only [Act.put, sZ1, sZ2, sZ3, i64_w, i32_w]; rfl
           refine pure_ (i := 36) (N := some 94) (v := ?_) (a' := ?_) D49m1fffffffff rfl rfl (any_of HT_.out (by kernel_rfl)) (fun _ _ _ h => h) (Or.inl ⟨by rfl, ?_⟩) ?_ ?_
           rotate_left; ·intro w'; go_simp; with_reducible rfl
           rotate_left; ·simp only [Act.put, sZ1, sZ2, sZ3, i64_w, i32_w]; rfl
           refine pure_ (i := 37) (N := some 95) (v := undef) (a' := ?_) D49m3fffffffff rfl rfl (any_of HT_.out (by kernel_rfl)) (fun _ _ _ h => h) (Or.inr ⟨by rfl, rfl⟩) ?_ ?_
           rotate_left; ·simp only [Act.put, sZ1, sZ2, sZ3, i64_w, i32_w]; rfl
           refine pure_ (i := 38) (N := some 96) (v := undef) (a' := ?_) D49m7fffffffff rfl rfl (any_of HT_.out (by kernel_rfl)) (fun _ _ _ h => h) (Or.inr ⟨by rfl, rfl⟩) ?_ ?_
           rotate_left; ·simp only [Act.put, sZ1, sZ2, sZ3, i64_w, i32_w]; rfl
           refine pure_ (i := 39) (N := some 97) (v := undef) (a' := ?_) D49mffffffffff rfl rfl (any_of HT_.out (by kernel_rfl)) (fun _ _ _ h => h) (Or.inr ⟨by rfl, rfl⟩) ?_ ?_
           rotate_left; ·simp only [Act.put, sZ1, sZ2, sZ3, i64_w, i32_w]; rfl
           refine pure_ (i := 40) (N := some 98) (v := ?_) (a' := ?_) D49m1ffffffffff rfl rfl (any_of HT_.out (by kernel_rfl)) (fun _ _ _ h => h) (Or.inl ⟨by rfl, ?_⟩) ?_ ?_
           rotate_left; ·intro w'; go_simp; with_reducible rfl
           rotate_left; ·simp only [Act.put, sZ1, sZ2, sZ3, i64_w, i32_w]; rfl
           refine pure_ (i := 41) (N := some 99) (v := ?_) (a' := ?_) D49m3ffffffffff rfl rfl (any_of HT_.out (by kernel_rfl)) (fun _ _ _ h => h) (Or.inl ⟨by rfl, ?_⟩) ?_ ?_
           rotate_left; ·intro w'; go_simp; with_reducible rfl
           rotate_left; ·simp only [Act.put, sZ1, sZ2, sZ3, i64_w, i32_w]; rfl
           refine pure_ (i := 42) (N := some 100) (v := undef) (a' := ?_) D49m7ffffffffff rfl rfl (any_of HT_.out (by kernel_rfl)) (fun _ _ _ h => h) (Or.inr ⟨by rfl, rfl⟩) ?_ ?_
           rotate_left; ·simp only [Act.put, sZ1, sZ2, sZ3, i64_w, i32_w]; rfl
           refine pure_ (i := 43) (N := some 101) (v := undef) (a' := ?_) D49mfffffffffff rfl rfl (any_of HT_.out (by kernel_rfl)) (fun _ _ _ h => h) (Or.inr ⟨by rfl, rfl⟩) ?_ ?_
           rotate_left; ·simp only [Act.put, sZ1, sZ2, sZ3, i64_w, i32_w]; rfl
           refine pure_ (i := 44) (N := some 102) (v := undef) (a' := ?_) D49m1fffffffffff rfl rfl (any_of HT_.out (by kernel_rfl)) (fun _ _ _ h => h) (Or.inr ⟨by rfl, rfl⟩) ?_ ?_
           rotate_left; ·simp only [Act.put, sZ1, sZ2, sZ3, i64_w, i32_w]; rfl
           refine pure_ (i := 45) (N := some 103) (v := undef) (a' := ?_) D49m3fffffffffff rfl rfl (any_of HT_.out (by kernel_rfl)) (fun _ _ _ h => h) (Or.inr ⟨by rfl, rfl⟩) ?_ ?_
           rotate_left; ·simp only [Act.put, sZ1, sZ2, sZ3, i64_w, i32_w]; rfl
           refine pure_ (i := 46) (N := some 104) (v := undef) (a' := ?_) D49m7fffffffffff rfl rfl (any_of HT_.out (by kernel_rfl)) (fun _ _ _ h => h) (Or.inr ⟨by rfl, rfl⟩) ?_ ?_
           rotate_left; ·simp only [Act.put, sZ1, sZ2, sZ3, i64_w, i32_w]; rfl
           refine pure_ (i := 47) (N := some 105) (v := ?_) (a' := ?_) D49mffffffffffff rfl rfl (any_of HT_.out (by kernel_rfl)) (fun _ _ _ h => h) (Or.inl ⟨by rfl, ?_⟩) ?_ ?_
           rotate_left; ·intro w'; go_simp; with_reducible rfl
           rotate_left; ·simp only [Act.put, sZ1, sZ2, sZ3, i64_w, i32_w]; rfl
           refine pure_ (i := 48) (N := some 106) (v := ?_) (a' := ?_) D49m1ffffffffffff rfl rfl (any_of HT_.out (by kernel_rfl)) (fun _ _ _ h => h) (Or.inl ⟨by rfl, ?_⟩) ?_ ?_
           rotate_left; ·intro w'; go_simp; with_reducible rfl
           rotate_left; ·simp only [Act.put, sZ1, sZ2, sZ3, i64_w, i32_w]; rfl
           refine done_ (done_of HT_.out (by kernel_rfl)) ?_
           try go_wp2
           go_meet
           case rel => exact ⟨_, (false), (by first | rfl | (simp; done) | (simp [*]; done)), H', ⟨by have := HK1.out; first | omega | exact Nat.le_refl _⟩, ⟨by (with_reducible repeat (first | refine blk_drewN ?_ _ | refine blk_drew ?_ | refine blk_alloc ?_ _)); exact BK286.out⟩, ⟨by (with_reducible repeat (first | refine blk_drewN ?_ _ | refine blk_drew ?_ | refine blk_alloc ?_ _)); exact BK287.out⟩, ⟨by (with_reducible repeat (first | refine blk_drewN ?_ _ | refine blk_drew ?_ | refine blk_alloc ?_ _)); exact BK295.out⟩, ⟨by (with_reducible repeat (first | refine blk_drewN ?_ _ | refine blk_drew ?_ | refine blk_alloc ?_ _)); exact BK305.out⟩, ⟨by (with_reducible repeat (first | refine blk_drewN ?_ _ | refine blk_drew ?_ | refine blk_alloc ?_ _)); exact BK310.out⟩, ⟨by repeat (first | (with_reducible first | exact HI280.out | apply IsS59.alloc | apply IsS59.drewN | apply IsS59.drew | apply IsS59.set_1 | refine IsS59.far ?_ NB280_286.out _ | refine IsS59.far ?_ NB280_287.out _ | refine IsS59.far ?_ NB280_295.out _ | refine IsS59.far ?_ NB280_305.out _ | refine IsS59.far ?_ NB280_310.out _) | exact HI280.out)⟩, ⟨by repeat (first | (with_reducible first | exact HB.out | apply below_alloc | apply pw_below_drewN | apply below_drew1 | refine below_set ?_ (IsS59.ge HI280.out) | refine below_set ?_ GE286.out | refine below_set ?_ GE287.out | refine below_set ?_ GE295.out | refine below_set ?_ GE305.out | refine below_set ?_ GE310.out) | exact HB.out)⟩⟩
         ·rw [if_neg c65] at H
          have c65b0 : (t311 == 0) = false := beq_eq_false_iff_ne.mpr c65
          have c65b1 : (t311 != 0) = true := bne_iff_ne.mpr c65
          replace H := Option.bind_eq_some_iff.mp H
          obtain ⟨t311, A770, H⟩ := H
          have e_ := Option.some.inj (A770.symm.trans A64.out)
          obtain rfl := e_
          replace H : ((rope_Slack.f 100 900 t284 t301 t302 t303 (wrap64 (x6_1 + t299))).bind fun t313 => (if t311 = (wrap64 (t313 + 7)) then (if x288000_1 ≥ 0 then (if t301 ≥ 0 then (law38_RopeTwice.j1 k1 (wrap64 (x6_1 + t299)) x7_1 (t301 != x288000_1) t278 t300 100 900 t284 t301 t302 t303) else (law38_RopeTwice.j1 k1 (wrap64 (x6_1 + t299)) x7_1 false t278 t300 100 900 t284 t301 t302 t303)) else (law38_RopeTwice.j1 k1 (wrap64 (x6_1 + t299)) x7_1 false t278 t300 100 900 t284 t301 t302 t303)) else (none))) = some r := H
          have A77 := Aside0.mk A770
          clear A770
          replace H := Option.bind_eq_some_iff.mp H
          obtain ⟨t313, A780, H⟩ := H
          replace H : (if t311 = (wrap64 (t313 + 7)) then (if x288000_1 ≥ 0 then (if t301 ≥ 0 then (law38_RopeTwice.j1 k1 (wrap64 (x6_1 + t299)) x7_1 (t301 != x288000_1) t278 t300 100 900 t284 t301 t302 t303) else (law38_RopeTwice.j1 k1 (wrap64 (x6_1 + t299)) x7_1 false t278 t300 100 900 t284 t301 t302 t303)) else (law38_RopeTwice.j1 k1 (wrap64 (x6_1 + t299)) x7_1 false t278 t300 100 900 t284 t301 t302 t303)) else (none)) = some r := H
          have A78 := Aside0.mk A780
          clear A780
          by_cases c79 : t311 = (wrap64 (t313 + 7))
          ·rw [if_pos c79] at H
           have c79b0 : (t311 == (wrap64 (t313 + 7))) = true := beq_iff_eq.mpr c79
           have c79b1 : (t311 != (wrap64 (t313 + 7))) = false := bne_eq_false_iff_eq.mpr c79
           clear c79
           by_cases c80 : x288000_1 ≥ 0
           ·rw [if_pos c80] at H
            have c80b0 : decide (0 ≤ x288000_1) = true := decide_eq_true c80
            clear c80
            by_cases c81 : t301 ≥ 0
            ·rw [if_pos c81] at H
             have c81b0 : decide (0 ≤ t301) = true := decide_eq_true c81
             clear c81
             have H' := Aside0.mk H
             clear H
             try go_wp2
             have n0_ : Aside0 (Kd.R (Kd.int .i64) 3 (((w54.setCell ⟨gb310, 0, none⟩ (.int .i64 t306)).setCell ⟨gb310, 1, none⟩ (.int .i64 t307)).setCell ⟨gb310, 2, none⟩ (.bool t308)) w.heap.size (fun _ => True) (.slice Ao36 y296.length co36) y296) := ⟨by (with_reducible repeat (first | apply Kd.R_alloc | apply Kd.R_drewN | apply Kd.R_drew)); exact Kd.R_mono (Kd.R_far (p := ⟨gb310, 2, none⟩) (Kd.R_far (p := ⟨gb310, 1, none⟩) (Kd.R_far (p := ⟨gb310, 0, none⟩) (Kd.R_types HO298.out BK310.out (by decide)) (fun _ hk => hk.2) (.int .i64 t306)) (fun _ hk => hk.2) (.int .i64 t307)) (fun _ hk => hk.2) (.bool t308)) (fun _ hk => trivial)⟩
             have n1_ : Aside0 ((((w54.setCell ⟨gb310, 0, none⟩ (.int .i64 t306)).setCell ⟨gb310, 1, none⟩ (.int .i64 t307)).setCell ⟨gb310, 2, none⟩ (.bool t308)).heap[gb286]? = some (.cells #[.int .i64 100, .int .i64 900, .int .i64 t284] 23 (0, 0))) := ⟨by (with_reducible repeat (first | refine blk_drewN ?_ _ | refine blk_drew ?_ | refine blk_alloc ?_ _)); refine blk_far ?_ NB286_310.out _; (with_reducible repeat (first | refine blk_drewN ?_ _ | refine blk_drew ?_ | refine blk_alloc ?_ _)); refine blk_far ?_ NB286_310.out _; (with_reducible repeat (first | refine blk_drewN ?_ _ | refine blk_drew ?_ | refine blk_alloc ?_ _)); refine blk_far ?_ NB286_310.out _; (with_reducible repeat (first | refine blk_drewN ?_ _ | refine blk_drew ?_ | refine blk_alloc ?_ _)); exact BK286.out⟩
             have n2_ : Aside0 ((((w54.setCell ⟨gb310, 0, none⟩ (.int .i64 t306)).setCell ⟨gb310, 1, none⟩ (.int .i64 t307)).setCell ⟨gb310, 2, none⟩ (.bool t308)).heap[gb287]? = some (.cells #[.int .i64 x288000_1, .int .i64 x288001_1, .bool x288002_1] 25 (0, 0))) := ⟨by (with_reducible repeat (first | refine blk_drewN ?_ _ | refine blk_drew ?_ | refine blk_alloc ?_ _)); refine blk_far ?_ NB287_310.out _; (with_reducible repeat (first | refine blk_drewN ?_ _ | refine blk_drew ?_ | refine blk_alloc ?_ _)); refine blk_far ?_ NB287_310.out _; (with_reducible repeat (first | refine blk_drewN ?_ _ | refine blk_drew ?_ | refine blk_alloc ?_ _)); refine blk_far ?_ NB287_310.out _; (with_reducible repeat (first | refine blk_drewN ?_ _ | refine blk_drew ?_ | refine blk_alloc ?_ _)); exact BK287.out⟩
             have n3_ : Aside0 ((((w54.setCell ⟨gb310, 0, none⟩ (.int .i64 t306)).setCell ⟨gb310, 1, none⟩ (.int .i64 t307)).setCell ⟨gb310, 2, none⟩ (.bool t308)).heap[gb295]? = some (.cells #[.int .i64 t290, .int .i64 t291] 27 (0, 0))) := ⟨by (with_reducible repeat (first | refine blk_drewN ?_ _ | refine blk_drew ?_ | refine blk_alloc ?_ _)); refine blk_far ?_ NB295_310.out _; (with_reducible repeat (first | refine blk_drewN ?_ _ | refine blk_drew ?_ | refine blk_alloc ?_ _)); refine blk_far ?_ NB295_310.out _; (with_reducible repeat (first | refine blk_drewN ?_ _ | refine blk_drew ?_ | refine blk_alloc ?_ _)); refine blk_far ?_ NB295_310.out _; (with_reducible repeat (first | refine blk_drewN ?_ _ | refine blk_drew ?_ | refine blk_alloc ?_ _)); exact BK295.out⟩
             have n4_ : Aside0 ((((w54.setCell ⟨gb310, 0, none⟩ (.int .i64 t306)).setCell ⟨gb310, 1, none⟩ (.int .i64 t307)).setCell ⟨gb310, 2, none⟩ (.bool t308)).heap[gb305]? = some (.cells #[.int .i64 t301, .int .i64 t302, .bool t303] 25 (0, 0))) := ⟨by (with_reducible repeat (first | refine blk_drewN ?_ _ | refine blk_drew ?_ | refine blk_alloc ?_ _)); refine blk_far ?_ NB305_310.out _; (with_reducible repeat (first | refine blk_drewN ?_ _ | refine blk_drew ?_ | refine blk_alloc ?_ _)); refine blk_far ?_ NB305_310.out _; (with_reducible repeat (first | refine blk_drewN ?_ _ | refine blk_drew ?_ | refine blk_alloc ?_ _)); refine blk_far ?_ NB305_310.out _; (with_reducible repeat (first | refine blk_drewN ?_ _ | refine blk_drew ?_ | refine blk_alloc ?_ _)); exact BK305.out⟩
             have n5_ : Aside0 ((((w54.setCell ⟨gb310, 0, none⟩ (.int .i64 t306)).setCell ⟨gb310, 1, none⟩ (.int .i64 t307)).setCell ⟨gb310, 2, none⟩ (.bool t308)).heap[gb310]? = some (.cells #[.int .i64 t306, .int .i64 t307, .bool t308] 25 (0, 0))) := ⟨by (with_reducible repeat (first | refine blk_drewN ?_ _ | refine blk_drew ?_ | refine blk_alloc ?_ _)); refine blk_put (cs := #[.int .i64 t306, .int .i64 t307, .bool false]) ?_ 2 _ rfl; (with_reducible repeat (first | refine blk_drewN ?_ _ | refine blk_drew ?_ | refine blk_alloc ?_ _)); refine blk_put (cs := #[.int .i64 t306, .int .i64 0, .bool false]) ?_ 1 _ rfl; (with_reducible repeat (first | refine blk_drewN ?_ _ | refine blk_drew ?_ | refine blk_alloc ?_ _)); refine blk_put (cs := #[.int .i64 0, .int .i64 0, .bool false]) ?_ 0 _ rfl; (with_reducible repeat (first | refine blk_drewN ?_ _ | refine blk_drew ?_ | refine blk_alloc ?_ _)); exact BK310.out⟩
             have n6_ : Aside0 (IsS59 w (((w54.setCell ⟨gb310, 0, none⟩ (.int .i64 t306)).setCell ⟨gb310, 1, none⟩ (.int .i64 t307)).setCell ⟨gb310, 2, none⟩ (.bool t308)) g280 t278 t300) := ⟨by repeat (first | (with_reducible first | exact HI280.out | apply IsS59.alloc | apply IsS59.drewN | apply IsS59.drew | apply IsS59.set_1 | refine IsS59.far ?_ NB280_286.out _ | refine IsS59.far ?_ NB280_287.out _ | refine IsS59.far ?_ NB280_295.out _ | refine IsS59.far ?_ NB280_305.out _ | refine IsS59.far ?_ NB280_310.out _) | exact HI280.out)⟩
             have n7_ : Aside0 (Below w.heap.size w (((w54.setCell ⟨gb310, 0, none⟩ (.int .i64 t306)).setCell ⟨gb310, 1, none⟩ (.int .i64 t307)).setCell ⟨gb310, 2, none⟩ (.bool t308))) := ⟨by repeat (first | (with_reducible first | exact HB.out | apply below_alloc | apply pw_below_drewN | apply below_drew1 | refine below_set ?_ (IsS59.ge HI280.out) | refine below_set ?_ GE286.out | refine below_set ?_ GE287.out | refine below_set ?_ GE295.out | refine below_set ?_ GE305.out | refine below_set ?_ GE310.out) | exact HB.out)⟩
             (try clear HO298); (try clear BK286); (try clear BK287); (try clear BK295); (try clear BK305); (try clear BK310); (try clear HI280); (try clear HB)
             generalize (((w54.setCell ⟨gb310, 0, none⟩ (.int .i64 t306)).setCell ⟨gb310, 1, none⟩ (.int .i64 t307)).setCell ⟨gb310, 2, none⟩ (.bool t308)) = w82 at n0_ n1_ n2_ n3_ n4_ n5_ n6_ n7_ ⊢
             have HO298 := n0_; have BK286 := n1_; have BK287 := n2_; have BK295 := n3_; have BK305 := n4_; have BK310 := n5_; have HI280 := n6_; have HB := n7_
             clear n0_ n1_ n2_ n3_ n4_ n5_ n6_ n7_
             have n0_ := Aside0.mk (Kd.R_drew HO298.out)
             have n1_ := Aside0.mk (blk_drew BK286.out)
             have n2_ := Aside0.mk (blk_drew BK287.out)
             have n3_ := Aside0.mk (blk_drew BK295.out)
             have n4_ := Aside0.mk (blk_drew BK305.out)
             have n5_ := Aside0.mk (blk_drew BK310.out)
             have n6_ := Aside0.mk (IsS59.drew HI280.out)
             have n7_ := Aside0.mk (below_drew1 HB.out)
             clear HO298; clear BK286; clear BK287; clear BK295; clear BK305; clear BK310; clear HI280; clear HB; have HO298 := n0_; have BK286 := n1_; have BK287 := n2_; have BK295 := n3_; have BK305 := n4_; have BK310 := n5_; have HI280 := n6_; have HB := n7_
             clear n0_ n1_ n2_ n3_ n4_ n5_ n6_ n7_
             refine start_ (n := 49) (S := fun w' => w'.cell? ⟨gb305, 0, none⟩ = some (.int .i64 t301) ∧ w'.cell? ⟨gb305, 1, none⟩ = some (.int .i64 t302) ∧ w'.cell? ⟨gb305, 2, none⟩ = some (.bool t303) ∧ w'.cell? ⟨gb310, 0, none⟩ = some (.int .i64 t306) ∧ w'.cell? ⟨gb310, 1, none⟩ = some (.int .i64 t307) ∧ w'.cell? ⟨gb310, 2, none⟩ = some (.bool t308) ∧ w'.cell? ⟨gb286, 0, none⟩ = some (.int .i64 100) ∧ w'.cell? ⟨gb286, 1, none⟩ = some (.int .i64 900) ∧ w'.cell? ⟨gb286, 2, none⟩ = some (.int .i64 t284) ∧ w'.cell? ⟨gb287, 0, none⟩ = some (.int .i64 x288000_1) ∧ w'.cell? ⟨gb287, 1, none⟩ = some (.int .i64 x288001_1) ∧ w'.cell? ⟨gb287, 2, none⟩ = some (.bool x288002_1)) (ds := []) D49m0 (by kernel_rfl) rfl rfl ⟨(blk_cell BK305.out 0).trans rfl, (blk_cell BK305.out 1).trans rfl, (blk_cell BK305.out 2).trans rfl, (blk_cell BK310.out 0).trans rfl, (blk_cell BK310.out 1).trans rfl, (blk_cell BK310.out 2).trans rfl, (blk_cell BK286.out 0).trans rfl, (blk_cell BK286.out 1).trans rfl, (blk_cell BK286.out 2).trans rfl, (blk_cell BK287.out 0).trans rfl, (blk_cell BK287.out 1).trans rfl, (blk_cell BK287.out 2).trans rfl⟩ (fun hHeld => ?_); refine with_tabW law38_RopeTwice.tab13 law38_RopeTwice.bits13 (fun HT_ HW_ => ?_)
             generalize w82.drew = w83 at HO298 BK286 BK287 BK295 BK305 BK310 HI280 HB hHeld ⊢
             refine pure_ (i := 0) (N := some 58) (v := ?_) (a' := ?_) D49m1 rfl rfl (any_of HT_.out (by kernel_rfl)) (fun _ _ _ h => h) (Or.inl ⟨by rfl, ?_⟩) ?_ ?_
             rotate_left; ·intro w'; go_simp; with_reducible rfl
             rotate_left; ·simp only [Act.put, sZ1, sZ2, sZ3, i64_w, i32_w]; rfl
             refine pure_ (i := 1) (N := some 59) (v := ?_) (a' := ?_) D49m3 rfl rfl (any_of HT_.out (by kernel_rfl)) (fun _ _ _ h => h) (Or.inl ⟨by rfl, ?_⟩) ?_ ?_
             rotate_left; ·intro w'; go_simp; with_reducible rfl
             rotate_left; ·simp only [Act.put, sZ1, sZ2, sZ3, i64_w, i32_w]; rfl
             refine pure_ (i := 2) (N := some 60) (v := ?_) (a' := ?_) D49m7 rfl rfl (any_of HT_.out (by kernel_rfl)) (fun _ _ _ h => h) (Or.inl ⟨by rfl, ?_⟩) ?_ ?_
             rotate_left; ·intro w'; go_simp; with_reducible rfl
             rotate_left; ·simp only [Act.put, sZ1, sZ2, sZ3, i64_w, i32_w]; rfl
             refine pure_ (i := 3) (N := some 61) (v := ?_) (a' := ?_) D49mf rfl rfl (any_of HT_.out (by kernel_rfl)) (fun _ _ _ h => h) (Or.inl ⟨by rfl, ?_⟩) ?_ ?_
             rotate_left; ·intro w'; go_simp; with_reducible rfl
             rotate_left; ·simp only [Act.put, sZ1, sZ2, sZ3, i64_w, i32_w]; rfl
             refine pure_ (i := 4) (N := some 62) (v := ?_) (a' := ?_) D49m1f rfl rfl (any_of HT_.out (by kernel_rfl)) (fun _ _ _ h => h) (Or.inl ⟨by rfl, ?_⟩) ?_ ?_
             rotate_left; ·intro w'; go_simp; with_reducible rfl
             rotate_left; ·simp only [Act.put, sZ1, sZ2, sZ3, i64_w, i32_w]; rfl
             refine pure_ (i := 5) (N := some 63) (v := ?_) (a' := ?_) D49m3f rfl rfl (any_of HT_.out (by kernel_rfl)) (fun _ _ _ h => h) (Or.inl ⟨by rfl, ?_⟩) ?_ ?_
             rotate_left; ·intro w'; go_simp; with_reducible rfl
             rotate_left; ·simp only [Act.put, sZ1, sZ2, sZ3, i64_w, i32_w]; rfl
             refine pure_ (i := 6) (N := some 64) (v := ?_) (a' := ?_) D49m7f rfl rfl (any_of HT_.out (by kernel_rfl)) (fun _ _ _ h => h) (Or.inl ⟨by rfl, ?_⟩) ?_ ?_
             rotate_left; ·intro w'; go_simp; with_reducible rfl
             rotate_left; ·simp only [Act.put, sZ1, sZ2, sZ3, i64_w, i32_w]; rfl
             refine take_ (i := 7) (N := some 65) (v := ?_) (a' := ?_) D49mff rfl rfl (take_ofW HT_.out HW_.out (by kernel_rfl)) (fun _ _ _ h => h) (Or.inl ⟨by rfl, ?_⟩) hHeld ?_ ?_
             rotate_left; ·rintro w' ⟨s0, s1, s2, s3, s4, s5, s6, s7, s8, s9, s10, s11⟩; go_simp; with_reducible rfl
             rotate_left; ·simp only [Act.put, sZ1, sZ2, sZ3, i64_w, i32_w]; rfl
             refine take_ (i := 8) (N := some 66) (v := ?_) (a' := ?_) D49m1ff rfl rfl (take_ofW HT_.out HW_.out (by kernel_rfl)) (fun _ _ _ h => h) (Or.inl ⟨by rfl, ?_⟩) hHeld ?_ ?_
             rotate_left; ·rintro w' ⟨s0, s1, s2, s3, s4, s5, s6, s7, s8, s9, s10, s11⟩; go_simp; with_reducible rfl
             rotate_left; ·simp only [Act.put, sZ1, sZ2, sZ3, i64_w, i32_w]; rfl
             refine pure_ (i := 9) (N := some 67) (v := ?_) (a' := ?_) D49m3ff rfl rfl (any_of HT_.out (by kernel_rfl)) (fun _ _ _ h => h) (Or.inl ⟨by rfl, ?_⟩) ?_ ?_
             rotate_left; ·intro w'; go_simp; with_reducible rfl
             rotate_left; ·simp only [Act.put, sZ1, sZ2, sZ3, i64_w, i32_w]; rfl
             refine pure_ (i := 10) (N := some 68) (v := ?_) (a' := ?_) D49m7ff rfl rfl (any_of HT_.out (by kernel_rfl)) (fun _ _ _ h => h) (Or.inl ⟨by rfl, ?_⟩) ?_ ?_
             rotate_left; ·intro w'; go_simp; with_reducible rfl
             rotate_left; ·simp only [Act.put, sZ1, sZ2, sZ3, i64_w, i32_w]; rfl
             refine pure_ (i := 11) (N := some 69) (v := ?_) (a' := ?_) D49mfff rfl rfl (any_of HT_.out (by kernel_rfl)) (fun _ _ _ h => h) (Or.inl ⟨by rfl, ?_⟩) ?_ ?_
             rotate_left; ·intro w'; go_simp; with_reducible rfl
             rotate_left; ·simp only [Act.put, sZ1, sZ2, sZ3, i64_w, i32_w]; rfl
             refine pure_ (i := 14) (N := some 72) (v := ?_) (a' := ?_) D49m4fff rfl rfl (any_of HT_.out (by kernel_rfl)) (fun _ _ _ h => h) (Or.inl ⟨by rfl, ?_⟩) ?_ ?_
             rotate_left; ·intro w'; go_simp; with_reducible rfl
             rotate_left; ·simp only [Act.put, sZ1, sZ2, sZ3, i64_w, i32_w]; rfl
             refine pure_ (i := 15) (N := some 73) (v := ?_) (a' := ?_) D49mcfff rfl rfl (any_of HT_.out (by kernel_rfl)) (fun _ _ _ h => h) (Or.inl ⟨by rfl, ?_⟩) ?_ ?_
             rotate_left; ·intro w'; go_simp; with_reducible rfl
             rotate_left; ·simp only [Act.put, sZ1, sZ2, sZ3, i64_w, i32_w]; rfl
             refine take_ (i := 12) (N := some 70) (v := ?_) (a' := ?_) D49mdfff rfl rfl (take_ofW HT_.out HW_.out (by kernel_rfl)) (fun _ _ _ h => h) (Or.inl ⟨by rfl, ?_⟩) hHeld ?_ ?_
             rotate_left; ·rintro w' ⟨s0, s1, s2, s3, s4, s5, s6, s7, s8, s9, s10, s11⟩; go_simp; with_reducible rfl
             rotate_left; ·simp only [Act.put, sZ1, sZ2, sZ3, i64_w, i32_w]; rfl
             refine take_ (i := 13) (N := some 71) (v := ?_) (a' := ?_) D49mffff rfl rfl (take_ofW HT_.out HW_.out (by kernel_rfl)) (fun _ _ _ h => h) (Or.inl ⟨by rfl, ?_⟩) hHeld ?_ ?_
             rotate_left; ·rintro w' ⟨s0, s1, s2, s3, s4, s5, s6, s7, s8, s9, s10, s11⟩; go_simp; with_reducible rfl
             rotate_left; ·simp only [Act.put, sZ1, sZ2, sZ3, i64_w, i32_w]; rfl
             refine one_ (i := 16) (N := some 74) D49m1ffff rfl rfl (one_of HT_.out (by kernel_rfl)) (by decide) (fun K hK => ?_)
             refine goes_ Try.func24 (by kernel_rfl) rfl #[.agg #[.int .i64 100, .int .i64 900, .int .i64 t284], .agg #[.int .i64 t301, .int .i64 t302, .bool t303], .int .i64 (wrap64 ((wrap64 (x6_1 + t299)) + 7))] (by rfl) rfl rfl (by (try simp only [List.map_toArray, List.map_cons, List.map_nil]); first | done | rfl | (simp only [List.length_drop, List.length_take]; rfl)) ?_
             with_reducible refine (rope_Slack.calls 100 900 t284 t301 t302 t303 (wrap64 ((wrap64 (x6_1 + t299)) + 7)) t311 _ A64.out).mono ?_
             rintro e w84 ⟨rfl, hb⟩
             refine ⟨_, rfl, ?_⟩
             have n0_ := Aside0.mk (Kd.R_below (by (with_reducible repeat (first | apply Kd.R_alloc | apply Kd.R_drewN | apply Kd.R_drew)); exact HO298.out) hb)
             have n1_ := Aside0.mk (blk_below (g := gb286) (o := .cells #[.int .i64 100, .int .i64 900, .int .i64 t284] 23 (0, 0)) (by (with_reducible repeat (first | refine blk_drewN ?_ _ | refine blk_drew ?_ | refine blk_alloc ?_ _)); exact BK286.out) hb)
             have n2_ := Aside0.mk (blk_below (g := gb287) (o := .cells #[.int .i64 x288000_1, .int .i64 x288001_1, .bool x288002_1] 25 (0, 0)) (by (with_reducible repeat (first | refine blk_drewN ?_ _ | refine blk_drew ?_ | refine blk_alloc ?_ _)); exact BK287.out) hb)
             have n3_ := Aside0.mk (IsS59.below (by repeat (first | (with_reducible first | exact HI280.out | apply IsS59.alloc | apply IsS59.drewN | apply IsS59.drew | apply IsS59.set_1 | refine IsS59.far ?_ NB280_286.out _ | refine IsS59.far ?_ NB280_287.out _ | refine IsS59.far ?_ NB280_295.out _ | refine IsS59.far ?_ NB280_305.out _ | refine IsS59.far ?_ NB280_310.out _) | exact HI280.out)) hb)
             have n4_ := Aside0.mk (blk_below (g := gb295) (o := .cells #[.int .i64 t290, .int .i64 t291] 27 (0, 0)) (by (with_reducible repeat (first | refine blk_drewN ?_ _ | refine blk_drew ?_ | refine blk_alloc ?_ _)); exact BK295.out) hb)
             have n5_ := Aside0.mk (blk_below (g := gb305) (o := .cells #[.int .i64 t301, .int .i64 t302, .bool t303] 25 (0, 0)) (by (with_reducible repeat (first | refine blk_drewN ?_ _ | refine blk_drew ?_ | refine blk_alloc ?_ _)); exact BK305.out) hb)
             have n6_ := Aside0.mk (blk_below (g := gb310) (o := .cells #[.int .i64 t306, .int .i64 t307, .bool t308] 25 (0, 0)) (by (with_reducible repeat (first | refine blk_drewN ?_ _ | refine blk_drew ?_ | refine blk_alloc ?_ _)); exact BK310.out) hb)
             have n7_ := Aside0.mk (below_step (by repeat (first | (with_reducible first | exact HB.out | apply below_alloc | apply pw_below_drewN | apply below_drew1 | refine below_set ?_ (IsS59.ge HI280.out) | refine below_set ?_ GE286.out | refine below_set ?_ GE287.out | refine below_set ?_ GE295.out | refine below_set ?_ GE305.out | refine below_set ?_ GE310.out) | exact HB.out)) hb)
             clear HO298; clear BK286; clear BK287; clear HI280; clear BK295; clear BK305; clear BK310; clear HB; have HO298 := n0_; have BK286 := n1_; have BK287 := n2_; have HI280 := n3_; have BK295 := n4_; have BK305 := n5_; have BK310 := n6_; have HB := n7_
             clear n0_ n1_ n2_ n3_ n4_ n5_ n6_ n7_
             (try clear hb); (try clear hb2); (try clear hk); (try clear hi)
             refine hK.out _ _ ⟨(blk_cell BK305.out 0).trans rfl, (blk_cell BK305.out 1).trans rfl, (blk_cell BK305.out 2).trans rfl, (blk_cell BK310.out 0).trans rfl, (blk_cell BK310.out 1).trans rfl, (blk_cell BK310.out 2).trans rfl, (blk_cell BK286.out 0).trans rfl, (blk_cell BK286.out 1).trans rfl, (blk_cell BK286.out 2).trans rfl, (blk_cell BK287.out 0).trans rfl, (blk_cell BK287.out 1).trans rfl, (blk_cell BK287.out 2).trans rfl⟩ (fun hHeld => ?_)
             clear hK K
             refine norm_ (a' := ?_) ?_ ?_
             rotate_left
             ·show Act.put _ (some 74) _ = _
              simp only [Act.put, sZ1, sZ2, sZ3, i64_w, i32_w]
              rfl
             refine pure_ (i := 17) (N := some 75) (v := ?_) (a' := ?_) D49m3ffff rfl rfl (any_of HT_.out (by kernel_rfl)) (fun _ _ _ h => h) (Or.inl ⟨by rfl, ?_⟩) ?_ ?_
             rotate_left; ·intro w'; go_simp; with_reducible rfl
             rotate_left; ·simp only [Act.put, sZ1, sZ2, sZ3, i64_w, i32_w]; rfl
             refine pure_ (i := 18) (N := some 76) (v := ?_) (a' := ?_) D49m7ffff rfl rfl (any_of HT_.out (by kernel_rfl)) (fun _ _ _ h => h) (Or.inl ⟨by rfl, ?_⟩) ?_ ?_
             rotate_left; ·intro w'; go_simp; with_reducible rfl
             rotate_left; ·simp only [Act.put, sZ1, sZ2, sZ3, i64_w, i32_w]; rfl
             refine pure_ (i := 21) (N := some 79) (v := ?_) (a' := ?_) D49m27ffff rfl rfl (any_of HT_.out (by kernel_rfl)) (fun _ _ _ h => h) (Or.inl ⟨by rfl, ?_⟩) ?_ ?_
             rotate_left; ·intro w'; go_simp; with_reducible rfl
             rotate_left; ·simp only [Act.put, sZ1, sZ2, sZ3, i64_w, i32_w]; rfl
             refine pure_ (i := 22) (N := some 80) (v := ?_) (a' := ?_) D49m67ffff rfl rfl (any_of HT_.out (by kernel_rfl)) (fun _ _ _ h => h) (Or.inl ⟨by rfl, ?_⟩) ?_ ?_
             rotate_left; ·intro w'; go_simp; with_reducible rfl
             rotate_left; ·simp only [Act.put, sZ1, sZ2, sZ3, i64_w, i32_w]; rfl
             refine pure_ (i := 26) (N := some 84) (v := ?_) (a' := ?_) D49m467ffff rfl rfl (any_of HT_.out (by kernel_rfl)) (fun _ _ _ h => h) (Or.inl ⟨by rfl, ?_⟩) ?_ ?_
             rotate_left; ·intro w'; go_simp; with_reducible rfl
             rotate_left; ·simp only [Act.put, sZ1, sZ2, sZ3, i64_w, i32_w]; rfl
             refine take_ (i := 19) (N := some 77) (v := ?_) (a' := ?_) D49m46fffff rfl rfl (take_ofW HT_.out HW_.out (by kernel_rfl)) (fun _ _ _ h => h) (Or.inl ⟨by rfl, ?_⟩) hHeld ?_ ?_
             rotate_left; ·rintro w' ⟨s0, s1, s2, s3, s4, s5, s6, s7, s8, s9, s10, s11⟩; go_simp; with_reducible rfl
             rotate_left; ·simp only [Act.put, sZ1, sZ2, sZ3, i64_w, i32_w]; rfl
             refine take_ (i := 20) (N := some 78) (v := ?_) (a' := ?_) D49m47fffff rfl rfl (take_ofW HT_.out HW_.out (by kernel_rfl)) (fun _ _ _ h => h) (Or.inl ⟨by rfl, ?_⟩) hHeld ?_ ?_
             rotate_left; ·rintro w' ⟨s0, s1, s2, s3, s4, s5, s6, s7, s8, s9, s10, s11⟩; go_simp; with_reducible rfl
             rotate_left; ·simp only [Act.put, sZ1, sZ2, sZ3, i64_w, i32_w]; rfl
             refine take_ (i := 24) (N := some 82) (v := ?_) (a' := ?_) D49m57fffff rfl rfl (take_ofW HT_.out HW_.out (by kernel_rfl)) (fun _ _ _ h => h) (Or.inl ⟨by rfl, ?_⟩) hHeld ?_ ?_
             rotate_left; ·rintro w' ⟨s0, s1, s2, s3, s4, s5, s6, s7, s8, s9, s10, s11⟩; go_simp; with_reducible rfl
             rotate_left; ·simp only [Act.put, sZ1, sZ2, sZ3, i64_w, i32_w]; rfl
             refine take_ (i := 25) (N := some 83) (v := ?_) (a' := ?_) D49m77fffff rfl rfl (take_ofW HT_.out HW_.out (by kernel_rfl)) (fun _ _ _ h => h) (Or.inl ⟨by rfl, ?_⟩) hHeld ?_ ?_
             rotate_left; ·rintro w' ⟨s0, s1, s2, s3, s4, s5, s6, s7, s8, s9, s10, s11⟩; go_simp; with_reducible rfl
             rotate_left; ·simp only [Act.put, sZ1, sZ2, sZ3, i64_w, i32_w]; rfl
             refine one_ (i := 23) (N := some 81) D49m7ffffff rfl rfl (one_of HT_.out (by kernel_rfl)) (by decide) (fun K hK => ?_)
             refine goes_ Try.func24 (by kernel_rfl) rfl #[.agg #[.int .i64 100, .int .i64 900, .int .i64 t284], .agg #[.int .i64 t301, .int .i64 t302, .bool t303], .int .i64 (wrap64 ((wrap64 (x6_1 + t299)) + 7))] (by rfl) rfl rfl (by (try simp only [List.map_toArray, List.map_cons, List.map_nil]); first | done | rfl | (simp only [List.length_drop, List.length_take]; rfl)) ?_
             with_reducible refine (rope_Slack.calls 100 900 t284 t301 t302 t303 (wrap64 ((wrap64 (x6_1 + t299)) + 7)) t311 _ A77.out).mono ?_
             rintro e w85 ⟨rfl, hb⟩
             refine ⟨_, rfl, ?_⟩
             have n0_ := Aside0.mk (Kd.R_below (by (with_reducible repeat (first | apply Kd.R_alloc | apply Kd.R_drewN | apply Kd.R_drew)); exact HO298.out) hb)
             have n1_ := Aside0.mk (blk_below (g := gb286) (o := .cells #[.int .i64 100, .int .i64 900, .int .i64 t284] 23 (0, 0)) (by (with_reducible repeat (first | refine blk_drewN ?_ _ | refine blk_drew ?_ | refine blk_alloc ?_ _)); exact BK286.out) hb)
             have n2_ := Aside0.mk (blk_below (g := gb287) (o := .cells #[.int .i64 x288000_1, .int .i64 x288001_1, .bool x288002_1] 25 (0, 0)) (by (with_reducible repeat (first | refine blk_drewN ?_ _ | refine blk_drew ?_ | refine blk_alloc ?_ _)); exact BK287.out) hb)
             have n3_ := Aside0.mk (IsS59.below (by repeat (first | (with_reducible first | exact HI280.out | apply IsS59.alloc | apply IsS59.drewN | apply IsS59.drew | apply IsS59.set_1 | refine IsS59.far ?_ NB280_286.out _ | refine IsS59.far ?_ NB280_287.out _ | refine IsS59.far ?_ NB280_295.out _ | refine IsS59.far ?_ NB280_305.out _ | refine IsS59.far ?_ NB280_310.out _) | exact HI280.out)) hb)
             have n4_ := Aside0.mk (blk_below (g := gb295) (o := .cells #[.int .i64 t290, .int .i64 t291] 27 (0, 0)) (by (with_reducible repeat (first | refine blk_drewN ?_ _ | refine blk_drew ?_ | refine blk_alloc ?_ _)); exact BK295.out) hb)
             have n5_ := Aside0.mk (blk_below (g := gb305) (o := .cells #[.int .i64 t301, .int .i64 t302, .bool t303] 25 (0, 0)) (by (with_reducible repeat (first | refine blk_drewN ?_ _ | refine blk_drew ?_ | refine blk_alloc ?_ _)); exact BK305.out) hb)
             have n6_ := Aside0.mk (blk_below (g := gb310) (o := .cells #[.int .i64 t306, .int .i64 t307, .bool t308] 25 (0, 0)) (by (with_reducible repeat (first | refine blk_drewN ?_ _ | refine blk_drew ?_ | refine blk_alloc ?_ _)); exact BK310.out) hb)
             have n7_ := Aside0.mk (below_step (by repeat (first | (with_reducible first | exact HB.out | apply below_alloc | apply pw_below_drewN | apply below_drew1 | refine below_set ?_ (IsS59.ge HI280.out) | refine below_set ?_ GE286.out | refine below_set ?_ GE287.out | refine below_set ?_ GE295.out | refine below_set ?_ GE305.out | refine below_set ?_ GE310.out) | exact HB.out)) hb)
             clear HO298; clear BK286; clear BK287; clear HI280; clear BK295; clear BK305; clear BK310; clear HB; have HO298 := n0_; have BK286 := n1_; have BK287 := n2_; have HI280 := n3_; have BK295 := n4_; have BK305 := n5_; have BK310 := n6_; have HB := n7_
             clear n0_ n1_ n2_ n3_ n4_ n5_ n6_ n7_
             (try clear hb); (try clear hb2); (try clear hk); (try clear hi)
             refine hK.out _ _ ⟨(blk_cell BK305.out 0).trans rfl, (blk_cell BK305.out 1).trans rfl, (blk_cell BK305.out 2).trans rfl, (blk_cell BK310.out 0).trans rfl, (blk_cell BK310.out 1).trans rfl, (blk_cell BK310.out 2).trans rfl, (blk_cell BK286.out 0).trans rfl, (blk_cell BK286.out 1).trans rfl, (blk_cell BK286.out 2).trans rfl, (blk_cell BK287.out 0).trans rfl, (blk_cell BK287.out 1).trans rfl, (blk_cell BK287.out 2).trans rfl⟩ (fun hHeld => ?_)
             clear hK K
             refine norm_ (a' := ?_) ?_ ?_
             rotate_left
             ·show Act.put _ (some 81) _ = _
              simp only [Act.put, sZ1, sZ2, sZ3, i64_w, i32_w]
              rfl
             refine one_ (i := 27) (N := some 85) D49mfffffff rfl rfl (one_of HT_.out (by kernel_rfl)) (by decide) (fun K hK => ?_)
             refine goes_ Try.func24 (by kernel_rfl) rfl #[.agg #[.int .i64 100, .int .i64 900, .int .i64 t284], .agg #[.int .i64 t301, .int .i64 t302, .bool t303], .int .i64 (wrap64 (x6_1 + t299))] (by rfl) rfl rfl (by (try simp only [List.map_toArray, List.map_cons, List.map_nil]); first | done | rfl | (simp only [List.length_drop, List.length_take]; rfl)) ?_
             with_reducible refine (rope_Slack.calls 100 900 t284 t301 t302 t303 (wrap64 (x6_1 + t299)) t313 _ A78.out).mono ?_
             rintro e w86 ⟨rfl, hb⟩
             refine ⟨_, rfl, ?_⟩
             have n0_ := Aside0.mk (Kd.R_below (by (with_reducible repeat (first | apply Kd.R_alloc | apply Kd.R_drewN | apply Kd.R_drew)); exact HO298.out) hb)
             have n1_ := Aside0.mk (blk_below (g := gb286) (o := .cells #[.int .i64 100, .int .i64 900, .int .i64 t284] 23 (0, 0)) (by (with_reducible repeat (first | refine blk_drewN ?_ _ | refine blk_drew ?_ | refine blk_alloc ?_ _)); exact BK286.out) hb)
             have n2_ := Aside0.mk (blk_below (g := gb287) (o := .cells #[.int .i64 x288000_1, .int .i64 x288001_1, .bool x288002_1] 25 (0, 0)) (by (with_reducible repeat (first | refine blk_drewN ?_ _ | refine blk_drew ?_ | refine blk_alloc ?_ _)); exact BK287.out) hb)
             have n3_ := Aside0.mk (IsS59.below (by repeat (first | (with_reducible first | exact HI280.out | apply IsS59.alloc | apply IsS59.drewN | apply IsS59.drew | apply IsS59.set_1 | refine IsS59.far ?_ NB280_286.out _ | refine IsS59.far ?_ NB280_287.out _ | refine IsS59.far ?_ NB280_295.out _ | refine IsS59.far ?_ NB280_305.out _ | refine IsS59.far ?_ NB280_310.out _) | exact HI280.out)) hb)
             have n4_ := Aside0.mk (blk_below (g := gb295) (o := .cells #[.int .i64 t290, .int .i64 t291] 27 (0, 0)) (by (with_reducible repeat (first | refine blk_drewN ?_ _ | refine blk_drew ?_ | refine blk_alloc ?_ _)); exact BK295.out) hb)
             have n5_ := Aside0.mk (blk_below (g := gb305) (o := .cells #[.int .i64 t301, .int .i64 t302, .bool t303] 25 (0, 0)) (by (with_reducible repeat (first | refine blk_drewN ?_ _ | refine blk_drew ?_ | refine blk_alloc ?_ _)); exact BK305.out) hb)
             have n6_ := Aside0.mk (blk_below (g := gb310) (o := .cells #[.int .i64 t306, .int .i64 t307, .bool t308] 25 (0, 0)) (by (with_reducible repeat (first | refine blk_drewN ?_ _ | refine blk_drew ?_ | refine blk_alloc ?_ _)); exact BK310.out) hb)
             have n7_ := Aside0.mk (below_step (by repeat (first | (with_reducible first | exact HB.out | apply below_alloc | apply pw_below_drewN | apply below_drew1 | refine below_set ?_ (IsS59.ge HI280.out) | refine below_set ?_ GE286.out | refine below_set ?_ GE287.out | refine below_set ?_ GE295.out | refine below_set ?_ GE305.out | refine below_set ?_ GE310.out) | exact HB.out)) hb)
             clear HO298; clear BK286; clear BK287; clear HI280; clear BK295; clear BK305; clear BK310; clear HB; have HO298 := n0_; have BK286 := n1_; have BK287 := n2_; have HI280 := n3_; have BK295 := n4_; have BK305 := n5_; have BK310 := n6_; have HB := n7_
             clear n0_ n1_ n2_ n3_ n4_ n5_ n6_ n7_
             (try clear hb); (try clear hb2); (try clear hk); (try clear hi)
             refine hK.out _ _ ⟨(blk_cell BK305.out 0).trans rfl, (blk_cell BK305.out 1).trans rfl, (blk_cell BK305.out 2).trans rfl, (blk_cell BK310.out 0).trans rfl, (blk_cell BK310.out 1).trans rfl, (blk_cell BK310.out 2).trans rfl, (blk_cell BK286.out 0).trans rfl, (blk_cell BK286.out 1).trans rfl, (blk_cell BK286.out 2).trans rfl, (blk_cell BK287.out 0).trans rfl, (blk_cell BK287.out 1).trans rfl, (blk_cell BK287.out 2).trans rfl⟩ (fun hHeld => ?_)
             clear hK K
             refine norm_ (a' := ?_) ?_ ?_
             rotate_left
             ·show Act.put _ (some 85) _ = _
              simp only [Act.put, sZ1, sZ2, sZ3, i64_w, i32_w]
              rfl
             refine pure_ (i := 28) (N := some 86) (v := ?_) (a' := ?_) D49m1fffffff rfl rfl (any_of HT_.out (by kernel_rfl)) (fun _ _ _ h => h) (Or.inl ⟨by rfl, ?_⟩) ?_ ?_
             rotate_left; ·intro w'; go_simp; with_reducible rfl
             rotate_left; ·simp only [Act.put, sZ1, sZ2, sZ3, i64_w, i32_w]; rfl
             refine pure_ (i := 29) (N := some 87) (v := ?_) (a' := ?_) D49m3fffffff rfl rfl (any_of HT_.out (by kernel_rfl)) (fun _ _ _ h => h) (Or.inl ⟨by rfl, ?_⟩) ?_ ?_
             rotate_left; ·intro w'; go_simp; with_reducible rfl
             rotate_left; ·simp only [Act.put, sZ1, sZ2, sZ3, i64_w, i32_w]; rfl
             refine pure_ (i := 30) (N := some 88) (v := ?_) (a' := ?_) D49m7fffffff rfl rfl (any_of HT_.out (by kernel_rfl)) (fun _ _ _ h => h) (Or.inl ⟨by rfl, ?_⟩) ?_ ?_
             rotate_left; ·intro w'; go_simp; with_reducible rfl
             rotate_left; ·simp only [Act.put, sZ1, sZ2, sZ3, i64_w, i32_w]; rfl
             refine pure_ (i := 31) (N := some 89) (v := ?_) (a' := ?_) D49mffffffff rfl rfl (any_of HT_.out (by kernel_rfl)) (fun _ _ _ h => h) (Or.inl ⟨by rfl, ?_⟩) ?_ ?_
             rotate_left; ·intro w'; go_simp; with_reducible rfl
             rotate_left; ·simp only [Act.put, sZ1, sZ2, sZ3, i64_w, i32_w]; rfl
             refine pure_ (i := 32) (N := some 90) (v := ?_) (a' := ?_) D49m1ffffffff rfl rfl (any_of HT_.out (by kernel_rfl)) (fun _ _ _ h => h) (Or.inl ⟨by rfl, ?_⟩) ?_ ?_
             rotate_left; ·intro w'; go_simp; with_reducible rfl
             rotate_left; ·simp only [Act.put, sZ1, sZ2, sZ3, i64_w, i32_w]; rfl
             refine pure_ (i := 33) (N := some 91) (v := ?_) (a' := ?_) D49m3ffffffff rfl rfl (any_of HT_.out (by kernel_rfl)) (fun _ _ _ h => h) (Or.inl ⟨by rfl, ?_⟩) ?_ ?_
             rotate_left; ·intro w'; go_simp; with_reducible rfl
             rotate_left; ·simp only [Act.put, sZ1, sZ2, sZ3, i64_w, i32_w]; rfl
             refine take_ (i := 34) (N := some 92) (v := ?_) (a' := ?_) D49m7ffffffff rfl rfl (take_ofW HT_.out HW_.out (by kernel_rfl)) (fun _ _ _ h => h) (Or.inl ⟨by rfl, ?_⟩) hHeld ?_ ?_
             rotate_left; ·rintro w' ⟨s0, s1, s2, s3, s4, s5, s6, s7, s8, s9, s10, s11⟩; go_simp; with_reducible rfl
             rotate_left; ·simp only [Act.put, sZ1, sZ2, sZ3, i64_w, i32_w]; rfl
             refine pure_ (i := 35) (N := some 93) (v := ?_) (a' := ?_) D49mfffffffff rfl rfl (any_of HT_.out (by kernel_rfl)) (fun _ _ _ h => h) (Or.inl ⟨by rfl, ?_⟩) ?_ ?_
             rotate_left; ·intro w'; go_simp; with_reducible rfl
             rotate_left; ·simp only [Act.put, sZ1, sZ2, sZ3, i64_w, i32_w]; rfl
             refine pure_ (i := 36) (N := some 94) (v := ?_) (a' := ?_) D49m1fffffffff rfl rfl (any_of HT_.out (by kernel_rfl)) (fun _ _ _ h => h) (Or.inl ⟨by rfl, ?_⟩) ?_ ?_
             rotate_left; ·intro w'; go_simp; with_reducible rfl
             rotate_left; ·simp only [Act.put, sZ1, sZ2, sZ3, i64_w, i32_w]; rfl
             refine pure_ (i := 37) (N := some 95) (v := ?_) (a' := ?_) D49m3fffffffff rfl rfl (any_of HT_.out (by kernel_rfl)) (fun _ _ _ h => h) (Or.inl ⟨by rfl, ?_⟩) ?_ ?_
             rotate_left; ·intro w'; go_simp; with_reducible rfl
             rotate_left; ·simp only [Act.put, sZ1, sZ2, sZ3, i64_w, i32_w]; rfl
             refine take_ (i := 38) (N := some 96) (v := ?_) (a' := ?_) D49m7fffffffff rfl rfl (take_ofW HT_.out HW_.out (by kernel_rfl)) (fun _ _ _ h => h) (Or.inl ⟨by rfl, ?_⟩) hHeld ?_ ?_
             rotate_left; ·rintro w' ⟨s0, s1, s2, s3, s4, s5, s6, s7, s8, s9, s10, s11⟩; go_simp; with_reducible rfl
             rotate_left; ·simp only [Act.put, sZ1, sZ2, sZ3, i64_w, i32_w]; rfl
             refine pure_ (i := 39) (N := some 97) (v := ?_) (a' := ?_) D49mffffffffff rfl rfl (any_of HT_.out (by kernel_rfl)) (fun _ _ _ h => h) (Or.inl ⟨by rfl, ?_⟩) ?_ ?_
             rotate_left; ·intro w'; go_simp; with_reducible rfl
             rotate_left; ·simp only [Act.put, sZ1, sZ2, sZ3, i64_w, i32_w]; rfl
             refine pure_ (i := 40) (N := some 98) (v := ?_) (a' := ?_) D49m1ffffffffff rfl rfl (any_of HT_.out (by kernel_rfl)) (fun _ _ _ h => h) (Or.inl ⟨by rfl, ?_⟩) ?_ ?_
             rotate_left; ·intro w'; go_simp; with_reducible rfl
             rotate_left; ·simp only [Act.put, sZ1, sZ2, sZ3, i64_w, i32_w]; rfl
             refine pure_ (i := 41) (N := some 99) (v := ?_) (a' := ?_) D49m3ffffffffff rfl rfl (any_of HT_.out (by kernel_rfl)) (fun _ _ _ h => h) (Or.inl ⟨by rfl, ?_⟩) ?_ ?_
             rotate_left; ·intro w'; go_simp; with_reducible rfl
             rotate_left; ·simp only [Act.put, sZ1, sZ2, sZ3, i64_w, i32_w]; rfl
             refine pure_ (i := 42) (N := some 100) (v := ?_) (a' := ?_) D49m7ffffffffff rfl rfl (any_of HT_.out (by kernel_rfl)) (fun _ _ _ h => h) (Or.inl ⟨by rfl, ?_⟩) ?_ ?_
             rotate_left; ·intro w'; go_simp; with_reducible rfl
             rotate_left; ·simp only [Act.put, sZ1, sZ2, sZ3, i64_w, i32_w]; rfl
             refine pure_ (i := 44) (N := some 102) (v := ?_) (a' := ?_) D49m17ffffffffff rfl rfl (any_of HT_.out (by kernel_rfl)) (fun _ _ _ h => h) (Or.inl ⟨by rfl, ?_⟩) ?_ ?_
             rotate_left; ·intro w'; go_simp; with_reducible rfl
             rotate_left; ·simp only [Act.put, sZ1, sZ2, sZ3, i64_w, i32_w]; rfl
             refine take_ (i := 43) (N := some 101) (v := ?_) (a' := ?_) D49m1fffffffffff rfl rfl (take_ofW HT_.out HW_.out (by kernel_rfl)) (fun _ _ _ h => h) (Or.inl ⟨by rfl, ?_⟩) hHeld ?_ ?_
             rotate_left; ·rintro w' ⟨s0, s1, s2, s3, s4, s5, s6, s7, s8, s9, s10, s11⟩; go_simp; with_reducible rfl
             rotate_left; ·simp only [Act.put, sZ1, sZ2, sZ3, i64_w, i32_w]; rfl
             refine take_ (i := 45) (N := some 103) (v := ?_) (a' := ?_) D49m3fffffffffff rfl rfl (take_ofW HT_.out HW_.out (by kernel_rfl)) (fun _ _ _ h => h) (Or.inl ⟨by rfl, ?_⟩) hHeld ?_ ?_
             rotate_left; ·rintro w' ⟨s0, s1, s2, s3, s4, s5, s6, s7, s8, s9, s10, s11⟩; go_simp; with_reducible rfl
             rotate_left; ·simp only [Act.put, sZ1, sZ2, sZ3, i64_w, i32_w]; rfl
             refine pure_ (i := 46) (N := some 104) (v := ?_) (a' := ?_) D49m7fffffffffff rfl rfl (any_of HT_.out (by kernel_rfl)) (fun _ _ _ h => h) (Or.inl ⟨by rfl, ?_⟩) ?_ ?_
             rotate_left; ·intro w'; go_simp; with_reducible rfl
             rotate_left; ·simp only [Act.put, sZ1, sZ2, sZ3, i64_w, i32_w]; rfl
             refine pure_ (i := 47) (N := some 105) (v := ?_) (a' := ?_) D49mffffffffffff rfl rfl (any_of HT_.out (by kernel_rfl)) (fun _ _ _ h => h) (Or.inl ⟨by rfl, ?_⟩) ?_ ?_
             rotate_left; ·intro w'; go_simp; with_reducible rfl
             rotate_left; ·simp only [Act.put, sZ1, sZ2, sZ3, i64_w, i32_w]; rfl
             refine pure_ (i := 48) (N := some 106) (v := ?_) (a' := ?_) D49m1ffffffffffff rfl rfl (any_of HT_.out (by kernel_rfl)) (fun _ _ _ h => h) (Or.inl ⟨by rfl, ?_⟩) ?_ ?_
             rotate_left; ·intro w'; go_simp; with_reducible rfl
             rotate_left; ·simp only [Act.put, sZ1, sZ2, sZ3, i64_w, i32_w]; rfl
             refine done_ (done_of HT_.out (by kernel_rfl)) ?_
             try go_wp2
             go_meet
             case rel => exact ⟨_, ((t301 != x288000_1)), (by first | rfl | (simp; done) | (simp [*]; done)), H', ⟨by have := HK1.out; first | omega | exact Nat.le_refl _⟩, ⟨by (with_reducible repeat (first | refine blk_drewN ?_ _ | refine blk_drew ?_ | refine blk_alloc ?_ _)); exact BK286.out⟩, ⟨by (with_reducible repeat (first | refine blk_drewN ?_ _ | refine blk_drew ?_ | refine blk_alloc ?_ _)); exact BK287.out⟩, ⟨by (with_reducible repeat (first | refine blk_drewN ?_ _ | refine blk_drew ?_ | refine blk_alloc ?_ _)); exact BK295.out⟩, ⟨by (with_reducible repeat (first | refine blk_drewN ?_ _ | refine blk_drew ?_ | refine blk_alloc ?_ _)); exact BK305.out⟩, ⟨by (with_reducible repeat (first | refine blk_drewN ?_ _ | refine blk_drew ?_ | refine blk_alloc ?_ _)); exact BK310.out⟩, ⟨by repeat (first | (with_reducible first | exact HI280.out | apply IsS59.alloc | apply IsS59.drewN | apply IsS59.drew | apply IsS59.set_1 | refine IsS59.far ?_ NB280_286.out _ | refine IsS59.far ?_ NB280_287.out _ | refine IsS59.far ?_ NB280_295.out _ | refine IsS59.far ?_ NB280_305.out _ | refine IsS59.far ?_ NB280_310.out _) | exact HI280.out)⟩, ⟨by repeat (first | (with_reducible first | exact HB.out | apply below_alloc | apply pw_below_drewN | apply below_drew1 | refine below_set ?_ (IsS59.ge HI280.out) | refine below_set ?_ GE286.out | refine below_set ?_ GE287.out | refine below_set ?_ GE295.out | refine below_set ?_ GE305.out | refine below_set ?_ GE310.out) | exact HB.out)⟩⟩
            ·rw [if_neg c81] at H
             have c81b0 : decide (0 ≤ t301) = false := decide_eq_false c81
             clear c81
             have H' := Aside0.mk H
             clear H
             try go_wp2
             have n0_ : Aside0 (Kd.R (Kd.int .i64) 3 (((w54.setCell ⟨gb310, 0, none⟩ (.int .i64 t306)).setCell ⟨gb310, 1, none⟩ (.int .i64 t307)).setCell ⟨gb310, 2, none⟩ (.bool t308)) w.heap.size (fun _ => True) (.slice Ao36 y296.length co36) y296) := ⟨by (with_reducible repeat (first | apply Kd.R_alloc | apply Kd.R_drewN | apply Kd.R_drew)); exact Kd.R_mono (Kd.R_far (p := ⟨gb310, 2, none⟩) (Kd.R_far (p := ⟨gb310, 1, none⟩) (Kd.R_far (p := ⟨gb310, 0, none⟩) (Kd.R_types HO298.out BK310.out (by decide)) (fun _ hk => hk.2) (.int .i64 t306)) (fun _ hk => hk.2) (.int .i64 t307)) (fun _ hk => hk.2) (.bool t308)) (fun _ hk => trivial)⟩
             have n1_ : Aside0 ((((w54.setCell ⟨gb310, 0, none⟩ (.int .i64 t306)).setCell ⟨gb310, 1, none⟩ (.int .i64 t307)).setCell ⟨gb310, 2, none⟩ (.bool t308)).heap[gb286]? = some (.cells #[.int .i64 100, .int .i64 900, .int .i64 t284] 23 (0, 0))) := ⟨by (with_reducible repeat (first | refine blk_drewN ?_ _ | refine blk_drew ?_ | refine blk_alloc ?_ _)); refine blk_far ?_ NB286_310.out _; (with_reducible repeat (first | refine blk_drewN ?_ _ | refine blk_drew ?_ | refine blk_alloc ?_ _)); refine blk_far ?_ NB286_310.out _; (with_reducible repeat (first | refine blk_drewN ?_ _ | refine blk_drew ?_ | refine blk_alloc ?_ _)); refine blk_far ?_ NB286_310.out _; (with_reducible repeat (first | refine blk_drewN ?_ _ | refine blk_drew ?_ | refine blk_alloc ?_ _)); exact BK286.out⟩
             have n2_ : Aside0 ((((w54.setCell ⟨gb310, 0, none⟩ (.int .i64 t306)).setCell ⟨gb310, 1, none⟩ (.int .i64 t307)).setCell ⟨gb310, 2, none⟩ (.bool t308)).heap[gb287]? = some (.cells #[.int .i64 x288000_1, .int .i64 x288001_1, .bool x288002_1] 25 (0, 0))) := ⟨by (with_reducible repeat (first | refine blk_drewN ?_ _ | refine blk_drew ?_ | refine blk_alloc ?_ _)); refine blk_far ?_ NB287_310.out _; (with_reducible repeat (first | refine blk_drewN ?_ _ | refine blk_drew ?_ | refine blk_alloc ?_ _)); refine blk_far ?_ NB287_310.out _; (with_reducible repeat (first | refine blk_drewN ?_ _ | refine blk_drew ?_ | refine blk_alloc ?_ _)); refine blk_far ?_ NB287_310.out _; (with_reducible repeat (first | refine blk_drewN ?_ _ | refine blk_drew ?_ | refine blk_alloc ?_ _)); exact BK287.out⟩
             have n3_ : Aside0 ((((w54.setCell ⟨gb310, 0, none⟩ (.int .i64 t306)).setCell ⟨gb310, 1, none⟩ (.int .i64 t307)).setCell ⟨gb310, 2, none⟩ (.bool t308)).heap[gb295]? = some (.cells #[.int .i64 t290, .int .i64 t291] 27 (0, 0))) := ⟨by (with_reducible repeat (first | refine blk_drewN ?_ _ | refine blk_drew ?_ | refine blk_alloc ?_ _)); refine blk_far ?_ NB295_310.out _; (with_reducible repeat (first | refine blk_drewN ?_ _ | refine blk_drew ?_ | refine blk_alloc ?_ _)); refine blk_far ?_ NB295_310.out _; (with_reducible repeat (first | refine blk_drewN ?_ _ | refine blk_drew ?_ | refine blk_alloc ?_ _)); refine blk_far ?_ NB295_310.out _; (with_reducible repeat (first | refine blk_drewN ?_ _ | refine blk_drew ?_ | refine blk_alloc ?_ _)); exact BK295.out⟩
             have n4_ : Aside0 ((((w54.setCell ⟨gb310, 0, none⟩ (.int .i64 t306)).setCell ⟨gb310, 1, none⟩ (.int .i64 t307)).setCell ⟨gb310, 2, none⟩ (.bool t308)).heap[gb305]? = some (.cells #[.int .i64 t301, .int .i64 t302, .bool t303] 25 (0, 0))) := ⟨by (with_reducible repeat (first | refine blk_drewN ?_ _ | refine blk_drew ?_ | refine blk_alloc ?_ _)); refine blk_far ?_ NB305_310.out _; (with_reducible repeat (first | refine blk_drewN ?_ _ | refine blk_drew ?_ | refine blk_alloc ?_ _)); refine blk_far ?_ NB305_310.out _; (with_reducible repeat (first | refine blk_drewN ?_ _ | refine blk_drew ?_ | refine blk_alloc ?_ _)); refine blk_far ?_ NB305_310.out _; (with_reducible repeat (first | refine blk_drewN ?_ _ | refine blk_drew ?_ | refine blk_alloc ?_ _)); exact BK305.out⟩
             have n5_ : Aside0 ((((w54.setCell ⟨gb310, 0, none⟩ (.int .i64 t306)).setCell ⟨gb310, 1, none⟩ (.int .i64 t307)).setCell ⟨gb310, 2, none⟩ (.bool t308)).heap[gb310]? = some (.cells #[.int .i64 t306, .int .i64 t307, .bool t308] 25 (0, 0))) := ⟨by (with_reducible repeat (first | refine blk_drewN ?_ _ | refine blk_drew ?_ | refine blk_alloc ?_ _)); refine blk_put (cs := #[.int .i64 t306, .int .i64 t307, .bool false]) ?_ 2 _ rfl; (with_reducible repeat (first | refine blk_drewN ?_ _ | refine blk_drew ?_ | refine blk_alloc ?_ _)); refine blk_put (cs := #[.int .i64 t306, .int .i64 0, .bool false]) ?_ 1 _ rfl; (with_reducible repeat (first | refine blk_drewN ?_ _ | refine blk_drew ?_ | refine blk_alloc ?_ _)); refine blk_put (cs := #[.int .i64 0, .int .i64 0, .bool false]) ?_ 0 _ rfl; (with_reducible repeat (first | refine blk_drewN ?_ _ | refine blk_drew ?_ | refine blk_alloc ?_ _)); exact BK310.out⟩
             have n6_ : Aside0 (IsS59 w (((w54.setCell ⟨gb310, 0, none⟩ (.int .i64 t306)).setCell ⟨gb310, 1, none⟩ (.int .i64 t307)).setCell ⟨gb310, 2, none⟩ (.bool t308)) g280 t278 t300) := ⟨by repeat (first | (with_reducible first | exact HI280.out | apply IsS59.alloc | apply IsS59.drewN | apply IsS59.drew | apply IsS59.set_1 | refine IsS59.far ?_ NB280_286.out _ | refine IsS59.far ?_ NB280_287.out _ | refine IsS59.far ?_ NB280_295.out _ | refine IsS59.far ?_ NB280_305.out _ | refine IsS59.far ?_ NB280_310.out _) | exact HI280.out)⟩
             have n7_ : Aside0 (Below w.heap.size w (((w54.setCell ⟨gb310, 0, none⟩ (.int .i64 t306)).setCell ⟨gb310, 1, none⟩ (.int .i64 t307)).setCell ⟨gb310, 2, none⟩ (.bool t308))) := ⟨by repeat (first | (with_reducible first | exact HB.out | apply below_alloc | apply pw_below_drewN | apply below_drew1 | refine below_set ?_ (IsS59.ge HI280.out) | refine below_set ?_ GE286.out | refine below_set ?_ GE287.out | refine below_set ?_ GE295.out | refine below_set ?_ GE305.out | refine below_set ?_ GE310.out) | exact HB.out)⟩
             (try clear HO298); (try clear BK286); (try clear BK287); (try clear BK295); (try clear BK305); (try clear BK310); (try clear HI280); (try clear HB)
             generalize (((w54.setCell ⟨gb310, 0, none⟩ (.int .i64 t306)).setCell ⟨gb310, 1, none⟩ (.int .i64 t307)).setCell ⟨gb310, 2, none⟩ (.bool t308)) = w87 at n0_ n1_ n2_ n3_ n4_ n5_ n6_ n7_ ⊢
             have HO298 := n0_; have BK286 := n1_; have BK287 := n2_; have BK295 := n3_; have BK305 := n4_; have BK310 := n5_; have HI280 := n6_; have HB := n7_
             clear n0_ n1_ n2_ n3_ n4_ n5_ n6_ n7_
             have n0_ := Aside0.mk (Kd.R_drew HO298.out)
             have n1_ := Aside0.mk (blk_drew BK286.out)
             have n2_ := Aside0.mk (blk_drew BK287.out)
             have n3_ := Aside0.mk (blk_drew BK295.out)
             have n4_ := Aside0.mk (blk_drew BK305.out)
             have n5_ := Aside0.mk (blk_drew BK310.out)
             have n6_ := Aside0.mk (IsS59.drew HI280.out)
             have n7_ := Aside0.mk (below_drew1 HB.out)
             clear HO298; clear BK286; clear BK287; clear BK295; clear BK305; clear BK310; clear HI280; clear HB; have HO298 := n0_; have BK286 := n1_; have BK287 := n2_; have BK295 := n3_; have BK305 := n4_; have BK310 := n5_; have HI280 := n6_; have HB := n7_
             clear n0_ n1_ n2_ n3_ n4_ n5_ n6_ n7_
             refine start_ (n := 49) (S := fun w' => w'.cell? ⟨gb305, 0, none⟩ = some (.int .i64 t301) ∧ w'.cell? ⟨gb305, 1, none⟩ = some (.int .i64 t302) ∧ w'.cell? ⟨gb305, 2, none⟩ = some (.bool t303) ∧ w'.cell? ⟨gb310, 0, none⟩ = some (.int .i64 t306) ∧ w'.cell? ⟨gb310, 1, none⟩ = some (.int .i64 t307) ∧ w'.cell? ⟨gb310, 2, none⟩ = some (.bool t308) ∧ w'.cell? ⟨gb286, 0, none⟩ = some (.int .i64 100) ∧ w'.cell? ⟨gb286, 1, none⟩ = some (.int .i64 900) ∧ w'.cell? ⟨gb286, 2, none⟩ = some (.int .i64 t284) ∧ w'.cell? ⟨gb287, 0, none⟩ = some (.int .i64 x288000_1) ∧ w'.cell? ⟨gb287, 1, none⟩ = some (.int .i64 x288001_1) ∧ w'.cell? ⟨gb287, 2, none⟩ = some (.bool x288002_1)) (ds := []) D49m0 (by kernel_rfl) rfl rfl ⟨(blk_cell BK305.out 0).trans rfl, (blk_cell BK305.out 1).trans rfl, (blk_cell BK305.out 2).trans rfl, (blk_cell BK310.out 0).trans rfl, (blk_cell BK310.out 1).trans rfl, (blk_cell BK310.out 2).trans rfl, (blk_cell BK286.out 0).trans rfl, (blk_cell BK286.out 1).trans rfl, (blk_cell BK286.out 2).trans rfl, (blk_cell BK287.out 0).trans rfl, (blk_cell BK287.out 1).trans rfl, (blk_cell BK287.out 2).trans rfl⟩ (fun hHeld => ?_); refine with_tabW law38_RopeTwice.tab13 law38_RopeTwice.bits13 (fun HT_ HW_ => ?_)
             generalize w87.drew = w88 at HO298 BK286 BK287 BK295 BK305 BK310 HI280 HB hHeld ⊢
             refine pure_ (i := 0) (N := some 58) (v := ?_) (a' := ?_) D49m1 rfl rfl (any_of HT_.out (by kernel_rfl)) (fun _ _ _ h => h) (Or.inl ⟨by rfl, ?_⟩) ?_ ?_
             rotate_left; ·intro w'; go_simp; with_reducible rfl
             rotate_left; ·simp only [Act.put, sZ1, sZ2, sZ3, i64_w, i32_w]; rfl
             refine pure_ (i := 1) (N := some 59) (v := ?_) (a' := ?_) D49m3 rfl rfl (any_of HT_.out (by kernel_rfl)) (fun _ _ _ h => h) (Or.inl ⟨by rfl, ?_⟩) ?_ ?_
             rotate_left; ·intro w'; go_simp; with_reducible rfl
             rotate_left; ·simp only [Act.put, sZ1, sZ2, sZ3, i64_w, i32_w]; rfl
             refine pure_ (i := 2) (N := some 60) (v := ?_) (a' := ?_) D49m7 rfl rfl (any_of HT_.out (by kernel_rfl)) (fun _ _ _ h => h) (Or.inl ⟨by rfl, ?_⟩) ?_ ?_
             rotate_left; ·intro w'; go_simp; with_reducible rfl
             rotate_left; ·simp only [Act.put, sZ1, sZ2, sZ3, i64_w, i32_w]; rfl
             refine pure_ (i := 3) (N := some 61) (v := ?_) (a' := ?_) D49mf rfl rfl (any_of HT_.out (by kernel_rfl)) (fun _ _ _ h => h) (Or.inl ⟨by rfl, ?_⟩) ?_ ?_
             rotate_left; ·intro w'; go_simp; with_reducible rfl
             rotate_left; ·simp only [Act.put, sZ1, sZ2, sZ3, i64_w, i32_w]; rfl
             refine pure_ (i := 4) (N := some 62) (v := ?_) (a' := ?_) D49m1f rfl rfl (any_of HT_.out (by kernel_rfl)) (fun _ _ _ h => h) (Or.inl ⟨by rfl, ?_⟩) ?_ ?_
             rotate_left; ·intro w'; go_simp; with_reducible rfl
             rotate_left; ·simp only [Act.put, sZ1, sZ2, sZ3, i64_w, i32_w]; rfl
             refine pure_ (i := 5) (N := some 63) (v := ?_) (a' := ?_) D49m3f rfl rfl (any_of HT_.out (by kernel_rfl)) (fun _ _ _ h => h) (Or.inl ⟨by rfl, ?_⟩) ?_ ?_
             rotate_left; ·intro w'; go_simp; with_reducible rfl
             rotate_left; ·simp only [Act.put, sZ1, sZ2, sZ3, i64_w, i32_w]; rfl
             refine pure_ (i := 6) (N := some 64) (v := ?_) (a' := ?_) D49m7f rfl rfl (any_of HT_.out (by kernel_rfl)) (fun _ _ _ h => h) (Or.inl ⟨by rfl, ?_⟩) ?_ ?_
             rotate_left; ·intro w'; go_simp; with_reducible rfl
             rotate_left; ·simp only [Act.put, sZ1, sZ2, sZ3, i64_w, i32_w]; rfl
             refine take_ (i := 7) (N := some 65) (v := ?_) (a' := ?_) D49mff rfl rfl (take_ofW HT_.out HW_.out (by kernel_rfl)) (fun _ _ _ h => h) (Or.inl ⟨by rfl, ?_⟩) hHeld ?_ ?_
             rotate_left; ·rintro w' ⟨s0, s1, s2, s3, s4, s5, s6, s7, s8, s9, s10, s11⟩; go_simp; with_reducible rfl
             rotate_left; ·simp only [Act.put, sZ1, sZ2, sZ3, i64_w, i32_w]; rfl
             refine take_ (i := 8) (N := some 66) (v := ?_) (a' := ?_) D49m1ff rfl rfl (take_ofW HT_.out HW_.out (by kernel_rfl)) (fun _ _ _ h => h) (Or.inl ⟨by rfl, ?_⟩) hHeld ?_ ?_
             rotate_left; ·rintro w' ⟨s0, s1, s2, s3, s4, s5, s6, s7, s8, s9, s10, s11⟩; go_simp; with_reducible rfl
             rotate_left; ·simp only [Act.put, sZ1, sZ2, sZ3, i64_w, i32_w]; rfl
             refine pure_ (i := 9) (N := some 67) (v := ?_) (a' := ?_) D49m3ff rfl rfl (any_of HT_.out (by kernel_rfl)) (fun _ _ _ h => h) (Or.inl ⟨by rfl, ?_⟩) ?_ ?_
             rotate_left; ·intro w'; go_simp; with_reducible rfl
             rotate_left; ·simp only [Act.put, sZ1, sZ2, sZ3, i64_w, i32_w]; rfl
             refine pure_ (i := 10) (N := some 68) (v := ?_) (a' := ?_) D49m7ff rfl rfl (any_of HT_.out (by kernel_rfl)) (fun _ _ _ h => h) (Or.inl ⟨by rfl, ?_⟩) ?_ ?_
             rotate_left; ·intro w'; go_simp; with_reducible rfl
             rotate_left; ·simp only [Act.put, sZ1, sZ2, sZ3, i64_w, i32_w]; rfl
             refine pure_ (i := 11) (N := some 69) (v := ?_) (a' := ?_) D49mfff rfl rfl (any_of HT_.out (by kernel_rfl)) (fun _ _ _ h => h) (Or.inl ⟨by rfl, ?_⟩) ?_ ?_
             rotate_left; ·intro w'; go_simp; with_reducible rfl
             rotate_left; ·simp only [Act.put, sZ1, sZ2, sZ3, i64_w, i32_w]; rfl
             refine pure_ (i := 14) (N := some 72) (v := ?_) (a' := ?_) D49m4fff rfl rfl (any_of HT_.out (by kernel_rfl)) (fun _ _ _ h => h) (Or.inl ⟨by rfl, ?_⟩) ?_ ?_
             rotate_left; ·intro w'; go_simp; with_reducible rfl
             rotate_left; ·simp only [Act.put, sZ1, sZ2, sZ3, i64_w, i32_w]; rfl
             refine pure_ (i := 15) (N := some 73) (v := ?_) (a' := ?_) D49mcfff rfl rfl (any_of HT_.out (by kernel_rfl)) (fun _ _ _ h => h) (Or.inl ⟨by rfl, ?_⟩) ?_ ?_
             rotate_left; ·intro w'; go_simp; with_reducible rfl
             rotate_left; ·simp only [Act.put, sZ1, sZ2, sZ3, i64_w, i32_w]; rfl
             refine take_ (i := 12) (N := some 70) (v := ?_) (a' := ?_) D49mdfff rfl rfl (take_ofW HT_.out HW_.out (by kernel_rfl)) (fun _ _ _ h => h) (Or.inl ⟨by rfl, ?_⟩) hHeld ?_ ?_
             rotate_left; ·rintro w' ⟨s0, s1, s2, s3, s4, s5, s6, s7, s8, s9, s10, s11⟩; go_simp; with_reducible rfl
             rotate_left; ·simp only [Act.put, sZ1, sZ2, sZ3, i64_w, i32_w]; rfl
             refine take_ (i := 13) (N := some 71) (v := ?_) (a' := ?_) D49mffff rfl rfl (take_ofW HT_.out HW_.out (by kernel_rfl)) (fun _ _ _ h => h) (Or.inl ⟨by rfl, ?_⟩) hHeld ?_ ?_
             rotate_left; ·rintro w' ⟨s0, s1, s2, s3, s4, s5, s6, s7, s8, s9, s10, s11⟩; go_simp; with_reducible rfl
             rotate_left; ·simp only [Act.put, sZ1, sZ2, sZ3, i64_w, i32_w]; rfl
             refine one_ (i := 16) (N := some 74) D49m1ffff rfl rfl (one_of HT_.out (by kernel_rfl)) (by decide) (fun K hK => ?_)
             refine goes_ Try.func24 (by kernel_rfl) rfl #[.agg #[.int .i64 100, .int .i64 900, .int .i64 t284], .agg #[.int .i64 t301, .int .i64 t302, .bool t303], .int .i64 (wrap64 ((wrap64 (x6_1 + t299)) + 7))] (by rfl) rfl rfl (by (try simp only [List.map_toArray, List.map_cons, List.map_nil]); first | done | rfl | (simp only [List.length_drop, List.length_take]; rfl)) ?_
             with_reducible refine (rope_Slack.calls 100 900 t284 t301 t302 t303 (wrap64 ((wrap64 (x6_1 + t299)) + 7)) t311 _ A64.out).mono ?_
             rintro e w89 ⟨rfl, hb⟩
             refine ⟨_, rfl, ?_⟩
             have n0_ := Aside0.mk (Kd.R_below (by (with_reducible repeat (first | apply Kd.R_alloc | apply Kd.R_drewN | apply Kd.R_drew)); exact HO298.out) hb)
             have n1_ := Aside0.mk (blk_below (g := gb286) (o := .cells #[.int .i64 100, .int .i64 900, .int .i64 t284] 23 (0, 0)) (by (with_reducible repeat (first | refine blk_drewN ?_ _ | refine blk_drew ?_ | refine blk_alloc ?_ _)); exact BK286.out) hb)
             have n2_ := Aside0.mk (blk_below (g := gb287) (o := .cells #[.int .i64 x288000_1, .int .i64 x288001_1, .bool x288002_1] 25 (0, 0)) (by (with_reducible repeat (first | refine blk_drewN ?_ _ | refine blk_drew ?_ | refine blk_alloc ?_ _)); exact BK287.out) hb)
             have n3_ := Aside0.mk (IsS59.below (by repeat (first | (with_reducible first | exact HI280.out | apply IsS59.alloc | apply IsS59.drewN | apply IsS59.drew | apply IsS59.set_1 | refine IsS59.far ?_ NB280_286.out _ | refine IsS59.far ?_ NB280_287.out _ | refine IsS59.far ?_ NB280_295.out _ | refine IsS59.far ?_ NB280_305.out _ | refine IsS59.far ?_ NB280_310.out _) | exact HI280.out)) hb)
             have n4_ := Aside0.mk (blk_below (g := gb295) (o := .cells #[.int .i64 t290, .int .i64 t291] 27 (0, 0)) (by (with_reducible repeat (first | refine blk_drewN ?_ _ | refine blk_drew ?_ | refine blk_alloc ?_ _)); exact BK295.out) hb)
             have n5_ := Aside0.mk (blk_below (g := gb305) (o := .cells #[.int .i64 t301, .int .i64 t302, .bool t303] 25 (0, 0)) (by (with_reducible repeat (first | refine blk_drewN ?_ _ | refine blk_drew ?_ | refine blk_alloc ?_ _)); exact BK305.out) hb)
             have n6_ := Aside0.mk (blk_below (g := gb310) (o := .cells #[.int .i64 t306, .int .i64 t307, .bool t308] 25 (0, 0)) (by (with_reducible repeat (first | refine blk_drewN ?_ _ | refine blk_drew ?_ | refine blk_alloc ?_ _)); exact BK310.out) hb)
             have n7_ := Aside0.mk (below_step (by repeat (first | (with_reducible first | exact HB.out | apply below_alloc | apply pw_below_drewN | apply below_drew1 | refine below_set ?_ (IsS59.ge HI280.out) | refine below_set ?_ GE286.out | refine below_set ?_ GE287.out | refine below_set ?_ GE295.out | refine below_set ?_ GE305.out | refine below_set ?_ GE310.out) | exact HB.out)) hb)
             clear HO298; clear BK286; clear BK287; clear HI280; clear BK295; clear BK305; clear BK310; clear HB; have HO298 := n0_; have BK286 := n1_; have BK287 := n2_; have HI280 := n3_; have BK295 := n4_; have BK305 := n5_; have BK310 := n6_; have HB := n7_
             clear n0_ n1_ n2_ n3_ n4_ n5_ n6_ n7_
             (try clear hb); (try clear hb2); (try clear hk); (try clear hi)
             refine hK.out _ _ ⟨(blk_cell BK305.out 0).trans rfl, (blk_cell BK305.out 1).trans rfl, (blk_cell BK305.out 2).trans rfl, (blk_cell BK310.out 0).trans rfl, (blk_cell BK310.out 1).trans rfl, (blk_cell BK310.out 2).trans rfl, (blk_cell BK286.out 0).trans rfl, (blk_cell BK286.out 1).trans rfl, (blk_cell BK286.out 2).trans rfl, (blk_cell BK287.out 0).trans rfl, (blk_cell BK287.out 1).trans rfl, (blk_cell BK287.out 2).trans rfl⟩ (fun hHeld => ?_)
             clear hK K
             refine norm_ (a' := ?_) ?_ ?_
             rotate_left
             ·show Act.put _ (some 74) _ = _
              simp only [Act.put, sZ1, sZ2, sZ3, i64_w, i32_w]
              rfl
             refine pure_ (i := 17) (N := some 75) (v := ?_) (a' := ?_) D49m3ffff rfl rfl (any_of HT_.out (by kernel_rfl)) (fun _ _ _ h => h) (Or.inl ⟨by rfl, ?_⟩) ?_ ?_
             rotate_left; ·intro w'; go_simp; with_reducible rfl
             rotate_left; ·simp only [Act.put, sZ1, sZ2, sZ3, i64_w, i32_w]; rfl
             refine pure_ (i := 18) (N := some 76) (v := ?_) (a' := ?_) D49m7ffff rfl rfl (any_of HT_.out (by kernel_rfl)) (fun _ _ _ h => h) (Or.inl ⟨by rfl, ?_⟩) ?_ ?_
             rotate_left; ·intro w'; go_simp; with_reducible rfl
             rotate_left; ·simp only [Act.put, sZ1, sZ2, sZ3, i64_w, i32_w]; rfl
             refine pure_ (i := 21) (N := some 79) (v := ?_) (a' := ?_) D49m27ffff rfl rfl (any_of HT_.out (by kernel_rfl)) (fun _ _ _ h => h) (Or.inl ⟨by rfl, ?_⟩) ?_ ?_
             rotate_left; ·intro w'; go_simp; with_reducible rfl
             rotate_left; ·simp only [Act.put, sZ1, sZ2, sZ3, i64_w, i32_w]; rfl
             refine pure_ (i := 22) (N := some 80) (v := ?_) (a' := ?_) D49m67ffff rfl rfl (any_of HT_.out (by kernel_rfl)) (fun _ _ _ h => h) (Or.inl ⟨by rfl, ?_⟩) ?_ ?_
             rotate_left; ·intro w'; go_simp; with_reducible rfl
             rotate_left; ·simp only [Act.put, sZ1, sZ2, sZ3, i64_w, i32_w]; rfl
             refine pure_ (i := 26) (N := some 84) (v := ?_) (a' := ?_) D49m467ffff rfl rfl (any_of HT_.out (by kernel_rfl)) (fun _ _ _ h => h) (Or.inl ⟨by rfl, ?_⟩) ?_ ?_
             rotate_left; ·intro w'; go_simp; with_reducible rfl
             rotate_left; ·simp only [Act.put, sZ1, sZ2, sZ3, i64_w, i32_w]; rfl
             refine take_ (i := 19) (N := some 77) (v := ?_) (a' := ?_) D49m46fffff rfl rfl (take_ofW HT_.out HW_.out (by kernel_rfl)) (fun _ _ _ h => h) (Or.inl ⟨by rfl, ?_⟩) hHeld ?_ ?_
             rotate_left; ·rintro w' ⟨s0, s1, s2, s3, s4, s5, s6, s7, s8, s9, s10, s11⟩; go_simp; with_reducible rfl
             rotate_left; ·simp only [Act.put, sZ1, sZ2, sZ3, i64_w, i32_w]; rfl
             refine take_ (i := 20) (N := some 78) (v := ?_) (a' := ?_) D49m47fffff rfl rfl (take_ofW HT_.out HW_.out (by kernel_rfl)) (fun _ _ _ h => h) (Or.inl ⟨by rfl, ?_⟩) hHeld ?_ ?_
             rotate_left; ·rintro w' ⟨s0, s1, s2, s3, s4, s5, s6, s7, s8, s9, s10, s11⟩; go_simp; with_reducible rfl
             rotate_left; ·simp only [Act.put, sZ1, sZ2, sZ3, i64_w, i32_w]; rfl
             refine take_ (i := 24) (N := some 82) (v := ?_) (a' := ?_) D49m57fffff rfl rfl (take_ofW HT_.out HW_.out (by kernel_rfl)) (fun _ _ _ h => h) (Or.inl ⟨by rfl, ?_⟩) hHeld ?_ ?_
             rotate_left; ·rintro w' ⟨s0, s1, s2, s3, s4, s5, s6, s7, s8, s9, s10, s11⟩; go_simp; with_reducible rfl
             rotate_left; ·simp only [Act.put, sZ1, sZ2, sZ3, i64_w, i32_w]; rfl
             refine take_ (i := 25) (N := some 83) (v := ?_) (a' := ?_) D49m77fffff rfl rfl (take_ofW HT_.out HW_.out (by kernel_rfl)) (fun _ _ _ h => h) (Or.inl ⟨by rfl, ?_⟩) hHeld ?_ ?_
             rotate_left; ·rintro w' ⟨s0, s1, s2, s3, s4, s5, s6, s7, s8, s9, s10, s11⟩; go_simp; with_reducible rfl
             rotate_left; ·simp only [Act.put, sZ1, sZ2, sZ3, i64_w, i32_w]; rfl
             refine one_ (i := 23) (N := some 81) D49m7ffffff rfl rfl (one_of HT_.out (by kernel_rfl)) (by decide) (fun K hK => ?_)
             refine goes_ Try.func24 (by kernel_rfl) rfl #[.agg #[.int .i64 100, .int .i64 900, .int .i64 t284], .agg #[.int .i64 t301, .int .i64 t302, .bool t303], .int .i64 (wrap64 ((wrap64 (x6_1 + t299)) + 7))] (by rfl) rfl rfl (by (try simp only [List.map_toArray, List.map_cons, List.map_nil]); first | done | rfl | (simp only [List.length_drop, List.length_take]; rfl)) ?_
             with_reducible refine (rope_Slack.calls 100 900 t284 t301 t302 t303 (wrap64 ((wrap64 (x6_1 + t299)) + 7)) t311 _ A77.out).mono ?_
             rintro e w90 ⟨rfl, hb⟩
             refine ⟨_, rfl, ?_⟩
             have n0_ := Aside0.mk (Kd.R_below (by (with_reducible repeat (first | apply Kd.R_alloc | apply Kd.R_drewN | apply Kd.R_drew)); exact HO298.out) hb)
             have n1_ := Aside0.mk (blk_below (g := gb286) (o := .cells #[.int .i64 100, .int .i64 900, .int .i64 t284] 23 (0, 0)) (by (with_reducible repeat (first | refine blk_drewN ?_ _ | refine blk_drew ?_ | refine blk_alloc ?_ _)); exact BK286.out) hb)
             have n2_ := Aside0.mk (blk_below (g := gb287) (o := .cells #[.int .i64 x288000_1, .int .i64 x288001_1, .bool x288002_1] 25 (0, 0)) (by (with_reducible repeat (first | refine blk_drewN ?_ _ | refine blk_drew ?_ | refine blk_alloc ?_ _)); exact BK287.out) hb)
             have n3_ := Aside0.mk (IsS59.below (by repeat (first | (with_reducible first | exact HI280.out | apply IsS59.alloc | apply IsS59.drewN | apply IsS59.drew | apply IsS59.set_1 | refine IsS59.far ?_ NB280_286.out _ | refine IsS59.far ?_ NB280_287.out _ | refine IsS59.far ?_ NB280_295.out _ | refine IsS59.far ?_ NB280_305.out _ | refine IsS59.far ?_ NB280_310.out _) | exact HI280.out)) hb)
             have n4_ := Aside0.mk (blk_below (g := gb295) (o := .cells #[.int .i64 t290, .int .i64 t291] 27 (0, 0)) (by (with_reducible repeat (first | refine blk_drewN ?_ _ | refine blk_drew ?_ | refine blk_alloc ?_ _)); exact BK295.out) hb)
             have n5_ := Aside0.mk (blk_below (g := gb305) (o := .cells #[.int .i64 t301, .int .i64 t302, .bool t303] 25 (0, 0)) (by (with_reducible repeat (first | refine blk_drewN ?_ _ | refine blk_drew ?_ | refine blk_alloc ?_ _)); exact BK305.out) hb)
             have n6_ := Aside0.mk (blk_below (g := gb310) (o := .cells #[.int .i64 t306, .int .i64 t307, .bool t308] 25 (0, 0)) (by (with_reducible repeat (first | refine blk_drewN ?_ _ | refine blk_drew ?_ | refine blk_alloc ?_ _)); exact BK310.out) hb)
             have n7_ := Aside0.mk (below_step (by repeat (first | (with_reducible first | exact HB.out | apply below_alloc | apply pw_below_drewN | apply below_drew1 | refine below_set ?_ (IsS59.ge HI280.out) | refine below_set ?_ GE286.out | refine below_set ?_ GE287.out | refine below_set ?_ GE295.out | refine below_set ?_ GE305.out | refine below_set ?_ GE310.out) | exact HB.out)) hb)
             clear HO298; clear BK286; clear BK287; clear HI280; clear BK295; clear BK305; clear BK310; clear HB; have HO298 := n0_; have BK286 := n1_; have BK287 := n2_; have HI280 := n3_; have BK295 := n4_; have BK305 := n5_; have BK310 := n6_; have HB := n7_
             clear n0_ n1_ n2_ n3_ n4_ n5_ n6_ n7_
             (try clear hb); (try clear hb2); (try clear hk); (try clear hi)
             refine hK.out _ _ ⟨(blk_cell BK305.out 0).trans rfl, (blk_cell BK305.out 1).trans rfl, (blk_cell BK305.out 2).trans rfl, (blk_cell BK310.out 0).trans rfl, (blk_cell BK310.out 1).trans rfl, (blk_cell BK310.out 2).trans rfl, (blk_cell BK286.out 0).trans rfl, (blk_cell BK286.out 1).trans rfl, (blk_cell BK286.out 2).trans rfl, (blk_cell BK287.out 0).trans rfl, (blk_cell BK287.out 1).trans rfl, (blk_cell BK287.out 2).trans rfl⟩ (fun hHeld => ?_)
             clear hK K
             refine norm_ (a' := ?_) ?_ ?_
             rotate_left
             ·show Act.put _ (some 81) _ = _
              simp only [Act.put, sZ1, sZ2, sZ3, i64_w, i32_w]
              rfl
             refine one_ (i := 27) (N := some 85) D49mfffffff rfl rfl (one_of HT_.out (by kernel_rfl)) (by decide) (fun K hK => ?_)
             refine goes_ Try.func24 (by kernel_rfl) rfl #[.agg #[.int .i64 100, .int .i64 900, .int .i64 t284], .agg #[.int .i64 t301, .int .i64 t302, .bool t303], .int .i64 (wrap64 (x6_1 + t299))] (by rfl) rfl rfl (by (try simp only [List.map_toArray, List.map_cons, List.map_nil]); first | done | rfl | (simp only [List.length_drop, List.length_take]; rfl)) ?_
             with_reducible refine (rope_Slack.calls 100 900 t284 t301 t302 t303 (wrap64 (x6_1 + t299)) t313 _ A78.out).mono ?_
             rintro e w91 ⟨rfl, hb⟩
             refine ⟨_, rfl, ?_⟩
             have n0_ := Aside0.mk (Kd.R_below (by (with_reducible repeat (first | apply Kd.R_alloc | apply Kd.R_drewN | apply Kd.R_drew)); exact HO298.out) hb)
             have n1_ := Aside0.mk (blk_below (g := gb286) (o := .cells #[.int .i64 100, .int .i64 900, .int .i64 t284] 23 (0, 0)) (by (with_reducible repeat (first | refine blk_drewN ?_ _ | refine blk_drew ?_ | refine blk_alloc ?_ _)); exact BK286.out) hb)
             have n2_ := Aside0.mk (blk_below (g := gb287) (o := .cells #[.int .i64 x288000_1, .int .i64 x288001_1, .bool x288002_1] 25 (0, 0)) (by (with_reducible repeat (first | refine blk_drewN ?_ _ | refine blk_drew ?_ | refine blk_alloc ?_ _)); exact BK287.out) hb)
             have n3_ := Aside0.mk (IsS59.below (by repeat (first | (with_reducible first | exact HI280.out | apply IsS59.alloc | apply IsS59.drewN | apply IsS59.drew | apply IsS59.set_1 | refine IsS59.far ?_ NB280_286.out _ | refine IsS59.far ?_ NB280_287.out _ | refine IsS59.far ?_ NB280_295.out _ | refine IsS59.far ?_ NB280_305.out _ | refine IsS59.far ?_ NB280_310.out _) | exact HI280.out)) hb)
             have n4_ := Aside0.mk (blk_below (g := gb295) (o := .cells #[.int .i64 t290, .int .i64 t291] 27 (0, 0)) (by (with_reducible repeat (first | refine blk_drewN ?_ _ | refine blk_drew ?_ | refine blk_alloc ?_ _)); exact BK295.out) hb)
             have n5_ := Aside0.mk (blk_below (g := gb305) (o := .cells #[.int .i64 t301, .int .i64 t302, .bool t303] 25 (0, 0)) (by (with_reducible repeat (first | refine blk_drewN ?_ _ | refine blk_drew ?_ | refine blk_alloc ?_ _)); exact BK305.out) hb)
             have n6_ := Aside0.mk (blk_below (g := gb310) (o := .cells #[.int .i64 t306, .int .i64 t307, .bool t308] 25 (0, 0)) (by (with_reducible repeat (first | refine blk_drewN ?_ _ | refine blk_drew ?_ | refine blk_alloc ?_ _)); exact BK310.out) hb)
             have n7_ := Aside0.mk (below_step (by repeat (first | (with_reducible first | exact HB.out | apply below_alloc | apply pw_below_drewN | apply below_drew1 | refine below_set ?_ (IsS59.ge HI280.out) | refine below_set ?_ GE286.out | refine below_set ?_ GE287.out | refine below_set ?_ GE295.out | refine below_set ?_ GE305.out | refine below_set ?_ GE310.out) | exact HB.out)) hb)
             clear HO298; clear BK286; clear BK287; clear HI280; clear BK295; clear BK305; clear BK310; clear HB; have HO298 := n0_; have BK286 := n1_; have BK287 := n2_; have HI280 := n3_; have BK295 := n4_; have BK305 := n5_; have BK310 := n6_; have HB := n7_
             clear n0_ n1_ n2_ n3_ n4_ n5_ n6_ n7_
             (try clear hb); (try clear hb2); (try clear hk); (try clear hi)
             refine hK.out _ _ ⟨(blk_cell BK305.out 0).trans rfl, (blk_cell BK305.out 1).trans rfl, (blk_cell BK305.out 2).trans rfl, (blk_cell BK310.out 0).trans rfl, (blk_cell BK310.out 1).trans rfl, (blk_cell BK310.out 2).trans rfl, (blk_cell BK286.out 0).trans rfl, (blk_cell BK286.out 1).trans rfl, (blk_cell BK286.out 2).trans rfl, (blk_cell BK287.out 0).trans rfl, (blk_cell BK287.out 1).trans rfl, (blk_cell BK287.out 2).trans rfl⟩ (fun hHeld => ?_)
             clear hK K
             refine norm_ (a' := ?_) ?_ ?_
             rotate_left
             ·show Act.put _ (some 85) _ = _
              simp only [Act.put, sZ1, sZ2, sZ3, i64_w, i32_w]
              rfl
             refine pure_ (i := 28) (N := some 86) (v := ?_) (a' := ?_) D49m1fffffff rfl rfl (any_of HT_.out (by kernel_rfl)) (fun _ _ _ h => h) (Or.inl ⟨by rfl, ?_⟩) ?_ ?_
             rotate_left; ·intro w'; go_simp; with_reducible rfl
             rotate_left; ·simp only [Act.put, sZ1, sZ2, sZ3, i64_w, i32_w]; rfl
             refine pure_ (i := 29) (N := some 87) (v := ?_) (a' := ?_) D49m3fffffff rfl rfl (any_of HT_.out (by kernel_rfl)) (fun _ _ _ h => h) (Or.inl ⟨by rfl, ?_⟩) ?_ ?_
             rotate_left; ·intro w'; go_simp; with_reducible rfl
             rotate_left; ·simp only [Act.put, sZ1, sZ2, sZ3, i64_w, i32_w]; rfl
             refine pure_ (i := 30) (N := some 88) (v := ?_) (a' := ?_) D49m7fffffff rfl rfl (any_of HT_.out (by kernel_rfl)) (fun _ _ _ h => h) (Or.inl ⟨by rfl, ?_⟩) ?_ ?_
             rotate_left; ·intro w'; go_simp; with_reducible rfl
             rotate_left; ·simp only [Act.put, sZ1, sZ2, sZ3, i64_w, i32_w]; rfl
             refine pure_ (i := 31) (N := some 89) (v := ?_) (a' := ?_) D49mffffffff rfl rfl (any_of HT_.out (by kernel_rfl)) (fun _ _ _ h => h) (Or.inl ⟨by rfl, ?_⟩) ?_ ?_
             rotate_left; ·intro w'; go_simp; with_reducible rfl
             rotate_left; ·simp only [Act.put, sZ1, sZ2, sZ3, i64_w, i32_w]; rfl
             refine pure_ (i := 32) (N := some 90) (v := ?_) (a' := ?_) D49m1ffffffff rfl rfl (any_of HT_.out (by kernel_rfl)) (fun _ _ _ h => h) (Or.inl ⟨by rfl, ?_⟩) ?_ ?_
             rotate_left; ·intro w'; go_simp; with_reducible rfl
             rotate_left; ·simp only [Act.put, sZ1, sZ2, sZ3, i64_w, i32_w]; rfl
             refine pure_ (i := 33) (N := some 91) (v := ?_) (a' := ?_) D49m3ffffffff rfl rfl (any_of HT_.out (by kernel_rfl)) (fun _ _ _ h => h) (Or.inl ⟨by rfl, ?_⟩) ?_ ?_
             rotate_left; ·intro w'; go_simp; with_reducible rfl
             rotate_left; ·simp only [Act.put, sZ1, sZ2, sZ3, i64_w, i32_w]; rfl
             refine take_ (i := 34) (N := some 92) (v := ?_) (a' := ?_) D49m7ffffffff rfl rfl (take_ofW HT_.out HW_.out (by kernel_rfl)) (fun _ _ _ h => h) (Or.inl ⟨by rfl, ?_⟩) hHeld ?_ ?_
             rotate_left; ·rintro w' ⟨s0, s1, s2, s3, s4, s5, s6, s7, s8, s9, s10, s11⟩; go_simp; with_reducible rfl
             rotate_left; ·simp only [Act.put, sZ1, sZ2, sZ3, i64_w, i32_w]; rfl
             refine pure_ (i := 35) (N := some 93) (v := ?_) (a' := ?_) D49mfffffffff rfl rfl (any_of HT_.out (by kernel_rfl)) (fun _ _ _ h => h) (Or.inl ⟨by rfl, ?_⟩) ?_ ?_
             rotate_left; ·intro w'; go_simp; with_reducible rfl
             rotate_left; ·simp only [Act.put, sZ1, sZ2, sZ3, i64_w, i32_w]; rfl
             refine pure_ (i := 36) (N := some 94) (v := ?_) (a' := ?_) D49m1fffffffff rfl rfl (any_of HT_.out (by kernel_rfl)) (fun _ _ _ h => h) (Or.inl ⟨by rfl, ?_⟩) ?_ ?_
             rotate_left; ·intro w'; go_simp; with_reducible rfl
             rotate_left; ·simp only [Act.put, sZ1, sZ2, sZ3, i64_w, i32_w]; rfl
             refine pure_ (i := 37) (N := some 95) (v := ?_) (a' := ?_) D49m3fffffffff rfl rfl (any_of HT_.out (by kernel_rfl)) (fun _ _ _ h => h) (Or.inl ⟨by rfl, ?_⟩) ?_ ?_
             rotate_left; ·intro w'; go_simp; with_reducible rfl
             rotate_left; ·simp only [Act.put, sZ1, sZ2, sZ3, i64_w, i32_w]; rfl
             refine take_ (i := 38) (N := some 96) (v := ?_) (a' := ?_) D49m7fffffffff rfl rfl (take_ofW HT_.out HW_.out (by kernel_rfl)) (fun _ _ _ h => h) (Or.inl ⟨by rfl, ?_⟩) hHeld ?_ ?_
             rotate_left; ·rintro w' ⟨s0, s1, s2, s3, s4, s5, s6, s7, s8, s9, s10, s11⟩; go_simp; with_reducible rfl
             rotate_left; ·simp only [Act.put, sZ1, sZ2, sZ3, i64_w, i32_w]; rfl
             refine pure_ (i := 39) (N := some 97) (v := ?_) (a' := ?_) D49mffffffffff rfl rfl (any_of HT_.out (by kernel_rfl)) (fun _ _ _ h => h) (Or.inl ⟨by rfl, ?_⟩) ?_ ?_
             rotate_left; ·intro w'; go_simp; with_reducible rfl
             rotate_left; ·simp only [Act.put, sZ1, sZ2, sZ3, i64_w, i32_w]; rfl
             refine pure_ (i := 40) (N := some 98) (v := ?_) (a' := ?_) D49m1ffffffffff rfl rfl (any_of HT_.out (by kernel_rfl)) (fun _ _ _ h => h) (Or.inl ⟨by rfl, ?_⟩) ?_ ?_
             rotate_left; ·intro w'; go_simp; with_reducible rfl
             rotate_left; ·simp only [Act.put, sZ1, sZ2, sZ3, i64_w, i32_w]; rfl
             refine pure_ (i := 41) (N := some 99) (v := ?_) (a' := ?_) D49m3ffffffffff rfl rfl (any_of HT_.out (by kernel_rfl)) (fun _ _ _ h => h) (Or.inl ⟨by rfl, ?_⟩) ?_ ?_
             rotate_left; ·intro w'; go_simp; with_reducible rfl
             rotate_left; ·simp only [Act.put, sZ1, sZ2, sZ3, i64_w, i32_w]; rfl
             refine pure_ (i := 42) (N := some 100) (v := undef) (a' := ?_) D49m7ffffffffff rfl rfl (any_of HT_.out (by kernel_rfl)) (fun _ _ _ h => h) (Or.inr ⟨by rfl, rfl⟩) ?_ ?_
             rotate_left; ·simp only [Act.put, sZ1, sZ2, sZ3, i64_w, i32_w]; rfl
             refine pure_ (i := 43) (N := some 101) (v := undef) (a' := ?_) D49mfffffffffff rfl rfl (any_of HT_.out (by kernel_rfl)) (fun _ _ _ h => h) (Or.inr ⟨by rfl, rfl⟩) ?_ ?_
             rotate_left; ·simp only [Act.put, sZ1, sZ2, sZ3, i64_w, i32_w]; rfl
             refine pure_ (i := 44) (N := some 102) (v := undef) (a' := ?_) D49m1fffffffffff rfl rfl (any_of HT_.out (by kernel_rfl)) (fun _ _ _ h => h) (Or.inr ⟨by rfl, rfl⟩) ?_ ?_
             rotate_left; ·simp only [Act.put, sZ1, sZ2, sZ3, i64_w, i32_w]; rfl
             refine pure_ (i := 45) (N := some 103) (v := undef) (a' := ?_) D49m3fffffffffff rfl rfl (any_of HT_.out (by kernel_rfl)) (fun _ _ _ h => h) (Or.inr ⟨by rfl, rfl⟩) ?_ ?_
             rotate_left; ·simp only [Act.put, sZ1, sZ2, sZ3, i64_w, i32_w]; rfl
             refine pure_ (i := 46) (N := some 104) (v := undef) (a' := ?_) D49m7fffffffffff rfl rfl (any_of HT_.out (by kernel_rfl)) (fun _ _ _ h => h) (Or.inr ⟨by rfl, rfl⟩) ?_ ?_
             rotate_left; ·simp only [Act.put, sZ1, sZ2, sZ3, i64_w, i32_w]; rfl
             refine pure_ (i := 47) (N := some 105) (v := ?_) (a' := ?_) D49mffffffffffff rfl rfl (any_of HT_.out (by kernel_rfl)) (fun _ _ _ h => h) (Or.inl ⟨by rfl, ?_⟩) ?_ ?_
             rotate_left; ·intro w'; go_simp; with_reducible rfl
             rotate_left; ·simp only [Act.put, sZ1, sZ2, sZ3, i64_w, i32_w]; rfl
             refine pure_ (i := 48) (N := some 106) (v := ?_) (a' := ?_) D49m1ffffffffffff rfl rfl (any_of HT_.out (by kernel_rfl)) (fun _ _ _ h => h) (Or.inl ⟨by rfl, ?_⟩) ?_ ?_
             rotate_left; ·intro w'; go_simp; with_reducible rfl
             rotate_left; ·simp only [Act.put, sZ1, sZ2, sZ3, i64_w, i32_w]; rfl
             refine done_ (done_of HT_.out (by kernel_rfl)) ?_
             try go_wp2
             go_meet
             case rel => exact ⟨_, (false), (by first | rfl | (simp; done) | (simp [*]; done)), H', ⟨by have := HK1.out; first | omega | exact Nat.le_refl _⟩, ⟨by (with_reducible repeat (first | refine blk_drewN ?_ _ | refine blk_drew ?_ | refine blk_alloc ?_ _)); exact BK286.out⟩, ⟨by (with_reducible repeat (first | refine blk_drewN ?_ _ | refine blk_drew ?_ | refine blk_alloc ?_ _)); exact BK287.out⟩, ⟨by (with_reducible repeat (first | refine blk_drewN ?_ _ | refine blk_drew ?_ | refine blk_alloc ?_ _)); exact BK295.out⟩, ⟨by (with_reducible repeat (first | refine blk_drewN ?_ _ | refine blk_drew ?_ | refine blk_alloc ?_ _)); exact BK305.out⟩, ⟨by (with_reducible repeat (first | refine blk_drewN ?_ _ | refine blk_drew ?_ | refine blk_alloc ?_ _)); exact BK310.out⟩, ⟨by repeat (first | (with_reducible first | exact HI280.out | apply IsS59.alloc | apply IsS59.drewN | apply IsS59.drew | apply IsS59.set_1 | refine IsS59.far ?_ NB280_286.out _ | refine IsS59.far ?_ NB280_287.out _ | refine IsS59.far ?_ NB280_295.out _ | refine IsS59.far ?_ NB280_305.out _ | refine IsS59.far ?_ NB280_310.out _) | exact HI280.out)⟩, ⟨by repeat (first | (with_reducible first | exact HB.out | apply below_alloc | apply pw_below_drewN | apply below_drew1 | refine below_set ?_ (IsS59.ge HI280.out) | refine below_set ?_ GE286.out | refine below_set ?_ GE287.out | refine below_set ?_ GE295.out | refine below_set ?_ GE305.out | refine below_set ?_ GE310.out) | exact HB.out)⟩⟩
           ·rw [if_neg c80] at H
            have c80b0 : decide (0 ≤ x288000_1) = false := decide_eq_false c80
            clear c80
            have H' := Aside0.mk H
            clear H
            try go_wp2
            have n0_ : Aside0 (Kd.R (Kd.int .i64) 3 (((w54.setCell ⟨gb310, 0, none⟩ (.int .i64 t306)).setCell ⟨gb310, 1, none⟩ (.int .i64 t307)).setCell ⟨gb310, 2, none⟩ (.bool t308)) w.heap.size (fun _ => True) (.slice Ao36 y296.length co36) y296) := ⟨by (with_reducible repeat (first | apply Kd.R_alloc | apply Kd.R_drewN | apply Kd.R_drew)); exact Kd.R_mono (Kd.R_far (p := ⟨gb310, 2, none⟩) (Kd.R_far (p := ⟨gb310, 1, none⟩) (Kd.R_far (p := ⟨gb310, 0, none⟩) (Kd.R_types HO298.out BK310.out (by decide)) (fun _ hk => hk.2) (.int .i64 t306)) (fun _ hk => hk.2) (.int .i64 t307)) (fun _ hk => hk.2) (.bool t308)) (fun _ hk => trivial)⟩
            have n1_ : Aside0 ((((w54.setCell ⟨gb310, 0, none⟩ (.int .i64 t306)).setCell ⟨gb310, 1, none⟩ (.int .i64 t307)).setCell ⟨gb310, 2, none⟩ (.bool t308)).heap[gb286]? = some (.cells #[.int .i64 100, .int .i64 900, .int .i64 t284] 23 (0, 0))) := ⟨by (with_reducible repeat (first | refine blk_drewN ?_ _ | refine blk_drew ?_ | refine blk_alloc ?_ _)); refine blk_far ?_ NB286_310.out _; (with_reducible repeat (first | refine blk_drewN ?_ _ | refine blk_drew ?_ | refine blk_alloc ?_ _)); refine blk_far ?_ NB286_310.out _; (with_reducible repeat (first | refine blk_drewN ?_ _ | refine blk_drew ?_ | refine blk_alloc ?_ _)); refine blk_far ?_ NB286_310.out _; (with_reducible repeat (first | refine blk_drewN ?_ _ | refine blk_drew ?_ | refine blk_alloc ?_ _)); exact BK286.out⟩
            have n2_ : Aside0 ((((w54.setCell ⟨gb310, 0, none⟩ (.int .i64 t306)).setCell ⟨gb310, 1, none⟩ (.int .i64 t307)).setCell ⟨gb310, 2, none⟩ (.bool t308)).heap[gb287]? = some (.cells #[.int .i64 x288000_1, .int .i64 x288001_1, .bool x288002_1] 25 (0, 0))) := ⟨by (with_reducible repeat (first | refine blk_drewN ?_ _ | refine blk_drew ?_ | refine blk_alloc ?_ _)); refine blk_far ?_ NB287_310.out _; (with_reducible repeat (first | refine blk_drewN ?_ _ | refine blk_drew ?_ | refine blk_alloc ?_ _)); refine blk_far ?_ NB287_310.out _; (with_reducible repeat (first | refine blk_drewN ?_ _ | refine blk_drew ?_ | refine blk_alloc ?_ _)); refine blk_far ?_ NB287_310.out _; (with_reducible repeat (first | refine blk_drewN ?_ _ | refine blk_drew ?_ | refine blk_alloc ?_ _)); exact BK287.out⟩
            have n3_ : Aside0 ((((w54.setCell ⟨gb310, 0, none⟩ (.int .i64 t306)).setCell ⟨gb310, 1, none⟩ (.int .i64 t307)).setCell ⟨gb310, 2, none⟩ (.bool t308)).heap[gb295]? = some (.cells #[.int .i64 t290, .int .i64 t291] 27 (0, 0))) := ⟨by (with_reducible repeat (first | refine blk_drewN ?_ _ | refine blk_drew ?_ | refine blk_alloc ?_ _)); refine blk_far ?_ NB295_310.out _; (with_reducible repeat (first | refine blk_drewN ?_ _ | refine blk_drew ?_ | refine blk_alloc ?_ _)); refine blk_far ?_ NB295_310.out _; (with_reducible repeat (first | refine blk_drewN ?_ _ | refine blk_drew ?_ | refine blk_alloc ?_ _)); refine blk_far ?_ NB295_310.out _; (with_reducible repeat (first | refine blk_drewN ?_ _ | refine blk_drew ?_ | refine blk_alloc ?_ _)); exact BK295.out⟩
            have n4_ : Aside0 ((((w54.setCell ⟨gb310, 0, none⟩ (.int .i64 t306)).setCell ⟨gb310, 1, none⟩ (.int .i64 t307)).setCell ⟨gb310, 2, none⟩ (.bool t308)).heap[gb305]? = some (.cells #[.int .i64 t301, .int .i64 t302, .bool t303] 25 (0, 0))) := ⟨by (with_reducible repeat (first | refine blk_drewN ?_ _ | refine blk_drew ?_ | refine blk_alloc ?_ _)); refine blk_far ?_ NB305_310.out _; (with_reducible repeat (first | refine blk_drewN ?_ _ | refine blk_drew ?_ | refine blk_alloc ?_ _)); refine blk_far ?_ NB305_310.out _; (with_reducible repeat (first | refine blk_drewN ?_ _ | refine blk_drew ?_ | refine blk_alloc ?_ _)); refine blk_far ?_ NB305_310.out _; (with_reducible repeat (first | refine blk_drewN ?_ _ | refine blk_drew ?_ | refine blk_alloc ?_ _)); exact BK305.out⟩
            have n5_ : Aside0 ((((w54.setCell ⟨gb310, 0, none⟩ (.int .i64 t306)).setCell ⟨gb310, 1, none⟩ (.int .i64 t307)).setCell ⟨gb310, 2, none⟩ (.bool t308)).heap[gb310]? = some (.cells #[.int .i64 t306, .int .i64 t307, .bool t308] 25 (0, 0))) := ⟨by (with_reducible repeat (first | refine blk_drewN ?_ _ | refine blk_drew ?_ | refine blk_alloc ?_ _)); refine blk_put (cs := #[.int .i64 t306, .int .i64 t307, .bool false]) ?_ 2 _ rfl; (with_reducible repeat (first | refine blk_drewN ?_ _ | refine blk_drew ?_ | refine blk_alloc ?_ _)); refine blk_put (cs := #[.int .i64 t306, .int .i64 0, .bool false]) ?_ 1 _ rfl; (with_reducible repeat (first | refine blk_drewN ?_ _ | refine blk_drew ?_ | refine blk_alloc ?_ _)); refine blk_put (cs := #[.int .i64 0, .int .i64 0, .bool false]) ?_ 0 _ rfl; (with_reducible repeat (first | refine blk_drewN ?_ _ | refine blk_drew ?_ | refine blk_alloc ?_ _)); exact BK310.out⟩
            have n6_ : Aside0 (IsS59 w (((w54.setCell ⟨gb310, 0, none⟩ (.int .i64 t306)).setCell ⟨gb310, 1, none⟩ (.int .i64 t307)).setCell ⟨gb310, 2, none⟩ (.bool t308)) g280 t278 t300) := ⟨by repeat (first | (with_reducible first | exact HI280.out | apply IsS59.alloc | apply IsS59.drewN | apply IsS59.drew | apply IsS59.set_1 | refine IsS59.far ?_ NB280_286.out _ | refine IsS59.far ?_ NB280_287.out _ | refine IsS59.far ?_ NB280_295.out _ | refine IsS59.far ?_ NB280_305.out _ | refine IsS59.far ?_ NB280_310.out _) | exact HI280.out)⟩
            have n7_ : Aside0 (Below w.heap.size w (((w54.setCell ⟨gb310, 0, none⟩ (.int .i64 t306)).setCell ⟨gb310, 1, none⟩ (.int .i64 t307)).setCell ⟨gb310, 2, none⟩ (.bool t308))) := ⟨by repeat (first | (with_reducible first | exact HB.out | apply below_alloc | apply pw_below_drewN | apply below_drew1 | refine below_set ?_ (IsS59.ge HI280.out) | refine below_set ?_ GE286.out | refine below_set ?_ GE287.out | refine below_set ?_ GE295.out | refine below_set ?_ GE305.out | refine below_set ?_ GE310.out) | exact HB.out)⟩
            (try clear HO298); (try clear BK286); (try clear BK287); (try clear BK295); (try clear BK305); (try clear BK310); (try clear HI280); (try clear HB)
            generalize (((w54.setCell ⟨gb310, 0, none⟩ (.int .i64 t306)).setCell ⟨gb310, 1, none⟩ (.int .i64 t307)).setCell ⟨gb310, 2, none⟩ (.bool t308)) = w92 at n0_ n1_ n2_ n3_ n4_ n5_ n6_ n7_ ⊢
            have HO298 := n0_; have BK286 := n1_; have BK287 := n2_; have BK295 := n3_; have BK305 := n4_; have BK310 := n5_; have HI280 := n6_; have HB := n7_
            clear n0_ n1_ n2_ n3_ n4_ n5_ n6_ n7_
            have n0_ := Aside0.mk (Kd.R_drew HO298.out)
            have n1_ := Aside0.mk (blk_drew BK286.out)
            have n2_ := Aside0.mk (blk_drew BK287.out)
            have n3_ := Aside0.mk (blk_drew BK295.out)
            have n4_ := Aside0.mk (blk_drew BK305.out)
            have n5_ := Aside0.mk (blk_drew BK310.out)
            have n6_ := Aside0.mk (IsS59.drew HI280.out)
            have n7_ := Aside0.mk (below_drew1 HB.out)
            clear HO298; clear BK286; clear BK287; clear BK295; clear BK305; clear BK310; clear HI280; clear HB; have HO298 := n0_; have BK286 := n1_; have BK287 := n2_; have BK295 := n3_; have BK305 := n4_; have BK310 := n5_; have HI280 := n6_; have HB := n7_
            clear n0_ n1_ n2_ n3_ n4_ n5_ n6_ n7_
            refine start_ (n := 49) (S := fun w' => w'.cell? ⟨gb305, 0, none⟩ = some (.int .i64 t301) ∧ w'.cell? ⟨gb305, 1, none⟩ = some (.int .i64 t302) ∧ w'.cell? ⟨gb305, 2, none⟩ = some (.bool t303) ∧ w'.cell? ⟨gb310, 0, none⟩ = some (.int .i64 t306) ∧ w'.cell? ⟨gb310, 1, none⟩ = some (.int .i64 t307) ∧ w'.cell? ⟨gb310, 2, none⟩ = some (.bool t308) ∧ w'.cell? ⟨gb286, 0, none⟩ = some (.int .i64 100) ∧ w'.cell? ⟨gb286, 1, none⟩ = some (.int .i64 900) ∧ w'.cell? ⟨gb286, 2, none⟩ = some (.int .i64 t284) ∧ w'.cell? ⟨gb287, 0, none⟩ = some (.int .i64 x288000_1) ∧ w'.cell? ⟨gb287, 1, none⟩ = some (.int .i64 x288001_1) ∧ w'.cell? ⟨gb287, 2, none⟩ = some (.bool x288002_1)) (ds := []) D49m0 (by kernel_rfl) rfl rfl ⟨(blk_cell BK305.out 0).trans rfl, (blk_cell BK305.out 1).trans rfl, (blk_cell BK305.out 2).trans rfl, (blk_cell BK310.out 0).trans rfl, (blk_cell BK310.out 1).trans rfl, (blk_cell BK310.out 2).trans rfl, (blk_cell BK286.out 0).trans rfl, (blk_cell BK286.out 1).trans rfl, (blk_cell BK286.out 2).trans rfl, (blk_cell BK287.out 0).trans rfl, (blk_cell BK287.out 1).trans rfl, (blk_cell BK287.out 2).trans rfl⟩ (fun hHeld => ?_); refine with_tabW law38_RopeTwice.tab13 law38_RopeTwice.bits13 (fun HT_ HW_ => ?_)
            generalize w92.drew = w93 at HO298 BK286 BK287 BK295 BK305 BK310 HI280 HB hHeld ⊢
            refine pure_ (i := 0) (N := some 58) (v := ?_) (a' := ?_) D49m1 rfl rfl (any_of HT_.out (by kernel_rfl)) (fun _ _ _ h => h) (Or.inl ⟨by rfl, ?_⟩) ?_ ?_
            rotate_left; ·intro w'; go_simp; with_reducible rfl
            rotate_left; ·simp only [Act.put, sZ1, sZ2, sZ3, i64_w, i32_w]; rfl
            refine pure_ (i := 1) (N := some 59) (v := ?_) (a' := ?_) D49m3 rfl rfl (any_of HT_.out (by kernel_rfl)) (fun _ _ _ h => h) (Or.inl ⟨by rfl, ?_⟩) ?_ ?_
            rotate_left; ·intro w'; go_simp; with_reducible rfl
            rotate_left; ·simp only [Act.put, sZ1, sZ2, sZ3, i64_w, i32_w]; rfl
            refine pure_ (i := 2) (N := some 60) (v := ?_) (a' := ?_) D49m7 rfl rfl (any_of HT_.out (by kernel_rfl)) (fun _ _ _ h => h) (Or.inl ⟨by rfl, ?_⟩) ?_ ?_
            rotate_left; ·intro w'; go_simp; with_reducible rfl
            rotate_left; ·simp only [Act.put, sZ1, sZ2, sZ3, i64_w, i32_w]; rfl
            refine pure_ (i := 3) (N := some 61) (v := ?_) (a' := ?_) D49mf rfl rfl (any_of HT_.out (by kernel_rfl)) (fun _ _ _ h => h) (Or.inl ⟨by rfl, ?_⟩) ?_ ?_
            rotate_left; ·intro w'; go_simp; with_reducible rfl
            rotate_left; ·simp only [Act.put, sZ1, sZ2, sZ3, i64_w, i32_w]; rfl
            refine pure_ (i := 4) (N := some 62) (v := ?_) (a' := ?_) D49m1f rfl rfl (any_of HT_.out (by kernel_rfl)) (fun _ _ _ h => h) (Or.inl ⟨by rfl, ?_⟩) ?_ ?_
            rotate_left; ·intro w'; go_simp; with_reducible rfl
            rotate_left; ·simp only [Act.put, sZ1, sZ2, sZ3, i64_w, i32_w]; rfl
            refine pure_ (i := 5) (N := some 63) (v := ?_) (a' := ?_) D49m3f rfl rfl (any_of HT_.out (by kernel_rfl)) (fun _ _ _ h => h) (Or.inl ⟨by rfl, ?_⟩) ?_ ?_
            rotate_left; ·intro w'; go_simp; with_reducible rfl
            rotate_left; ·simp only [Act.put, sZ1, sZ2, sZ3, i64_w, i32_w]; rfl
            refine pure_ (i := 6) (N := some 64) (v := ?_) (a' := ?_) D49m7f rfl rfl (any_of HT_.out (by kernel_rfl)) (fun _ _ _ h => h) (Or.inl ⟨by rfl, ?_⟩) ?_ ?_
            rotate_left; ·intro w'; go_simp; with_reducible rfl
            rotate_left; ·simp only [Act.put, sZ1, sZ2, sZ3, i64_w, i32_w]; rfl
            refine take_ (i := 7) (N := some 65) (v := ?_) (a' := ?_) D49mff rfl rfl (take_ofW HT_.out HW_.out (by kernel_rfl)) (fun _ _ _ h => h) (Or.inl ⟨by rfl, ?_⟩) hHeld ?_ ?_
            rotate_left; ·rintro w' ⟨s0, s1, s2, s3, s4, s5, s6, s7, s8, s9, s10, s11⟩; go_simp; with_reducible rfl
            rotate_left; ·simp only [Act.put, sZ1, sZ2, sZ3, i64_w, i32_w]; rfl
            refine take_ (i := 8) (N := some 66) (v := ?_) (a' := ?_) D49m1ff rfl rfl (take_ofW HT_.out HW_.out (by kernel_rfl)) (fun _ _ _ h => h) (Or.inl ⟨by rfl, ?_⟩) hHeld ?_ ?_
            rotate_left; ·rintro w' ⟨s0, s1, s2, s3, s4, s5, s6, s7, s8, s9, s10, s11⟩; go_simp; with_reducible rfl
            rotate_left; ·simp only [Act.put, sZ1, sZ2, sZ3, i64_w, i32_w]; rfl
            refine pure_ (i := 9) (N := some 67) (v := ?_) (a' := ?_) D49m3ff rfl rfl (any_of HT_.out (by kernel_rfl)) (fun _ _ _ h => h) (Or.inl ⟨by rfl, ?_⟩) ?_ ?_
            rotate_left; ·intro w'; go_simp; with_reducible rfl
            rotate_left; ·simp only [Act.put, sZ1, sZ2, sZ3, i64_w, i32_w]; rfl
            refine pure_ (i := 10) (N := some 68) (v := ?_) (a' := ?_) D49m7ff rfl rfl (any_of HT_.out (by kernel_rfl)) (fun _ _ _ h => h) (Or.inl ⟨by rfl, ?_⟩) ?_ ?_
            rotate_left; ·intro w'; go_simp; with_reducible rfl
            rotate_left; ·simp only [Act.put, sZ1, sZ2, sZ3, i64_w, i32_w]; rfl
            refine pure_ (i := 11) (N := some 69) (v := ?_) (a' := ?_) D49mfff rfl rfl (any_of HT_.out (by kernel_rfl)) (fun _ _ _ h => h) (Or.inl ⟨by rfl, ?_⟩) ?_ ?_
            rotate_left; ·intro w'; go_simp; with_reducible rfl
            rotate_left; ·simp only [Act.put, sZ1, sZ2, sZ3, i64_w, i32_w]; rfl
            refine pure_ (i := 14) (N := some 72) (v := ?_) (a' := ?_) D49m4fff rfl rfl (any_of HT_.out (by kernel_rfl)) (fun _ _ _ h => h) (Or.inl ⟨by rfl, ?_⟩) ?_ ?_
            rotate_left; ·intro w'; go_simp; with_reducible rfl
            rotate_left; ·simp only [Act.put, sZ1, sZ2, sZ3, i64_w, i32_w]; rfl
            refine pure_ (i := 15) (N := some 73) (v := ?_) (a' := ?_) D49mcfff rfl rfl (any_of HT_.out (by kernel_rfl)) (fun _ _ _ h => h) (Or.inl ⟨by rfl, ?_⟩) ?_ ?_
            rotate_left; ·intro w'; go_simp; with_reducible rfl
            rotate_left; ·simp only [Act.put, sZ1, sZ2, sZ3, i64_w, i32_w]; rfl
            refine take_ (i := 12) (N := some 70) (v := ?_) (a' := ?_) D49mdfff rfl rfl (take_ofW HT_.out HW_.out (by kernel_rfl)) (fun _ _ _ h => h) (Or.inl ⟨by rfl, ?_⟩) hHeld ?_ ?_
            rotate_left; ·rintro w' ⟨s0, s1, s2, s3, s4, s5, s6, s7, s8, s9, s10, s11⟩; go_simp; with_reducible rfl
            rotate_left; ·simp only [Act.put, sZ1, sZ2, sZ3, i64_w, i32_w]; rfl
            refine take_ (i := 13) (N := some 71) (v := ?_) (a' := ?_) D49mffff rfl rfl (take_ofW HT_.out HW_.out (by kernel_rfl)) (fun _ _ _ h => h) (Or.inl ⟨by rfl, ?_⟩) hHeld ?_ ?_
            rotate_left; ·rintro w' ⟨s0, s1, s2, s3, s4, s5, s6, s7, s8, s9, s10, s11⟩; go_simp; with_reducible rfl
            rotate_left; ·simp only [Act.put, sZ1, sZ2, sZ3, i64_w, i32_w]; rfl
            refine one_ (i := 16) (N := some 74) D49m1ffff rfl rfl (one_of HT_.out (by kernel_rfl)) (by decide) (fun K hK => ?_)
            refine goes_ Try.func24 (by kernel_rfl) rfl #[.agg #[.int .i64 100, .int .i64 900, .int .i64 t284], .agg #[.int .i64 t301, .int .i64 t302, .bool t303], .int .i64 (wrap64 ((wrap64 (x6_1 + t299)) + 7))] (by rfl) rfl rfl (by (try simp only [List.map_toArray, List.map_cons, List.map_nil]); first | done | rfl | (simp only [List.length_drop, List.length_take]; rfl)) ?_
            with_reducible refine (rope_Slack.calls 100 900 t284 t301 t302 t303 (wrap64 ((wrap64 (x6_1 + t299)) + 7)) t311 _ A64.out).mono ?_
            rintro e w94 ⟨rfl, hb⟩
            refine ⟨_, rfl, ?_⟩
            have n0_ := Aside0.mk (Kd.R_below (by (with_reducible repeat (first | apply Kd.R_alloc | apply Kd.R_drewN | apply Kd.R_drew)); exact HO298.out) hb)
            have n1_ := Aside0.mk (blk_below (g := gb286) (o := .cells #[.int .i64 100, .int .i64 900, .int .i64 t284] 23 (0, 0)) (by (with_reducible repeat (first | refine blk_drewN ?_ _ | refine blk_drew ?_ | refine blk_alloc ?_ _)); exact BK286.out) hb)
            have n2_ := Aside0.mk (blk_below (g := gb287) (o := .cells #[.int .i64 x288000_1, .int .i64 x288001_1, .bool x288002_1] 25 (0, 0)) (by (with_reducible repeat (first | refine blk_drewN ?_ _ | refine blk_drew ?_ | refine blk_alloc ?_ _)); exact BK287.out) hb)
            have n3_ := Aside0.mk (IsS59.below (by repeat (first | (with_reducible first | exact HI280.out | apply IsS59.alloc | apply IsS59.drewN | apply IsS59.drew | apply IsS59.set_1 | refine IsS59.far ?_ NB280_286.out _ | refine IsS59.far ?_ NB280_287.out _ | refine IsS59.far ?_ NB280_295.out _ | refine IsS59.far ?_ NB280_305.out _ | refine IsS59.far ?_ NB280_310.out _) | exact HI280.out)) hb)
            have n4_ := Aside0.mk (blk_below (g := gb295) (o := .cells #[.int .i64 t290, .int .i64 t291] 27 (0, 0)) (by (with_reducible repeat (first | refine blk_drewN ?_ _ | refine blk_drew ?_ | refine blk_alloc ?_ _)); exact BK295.out) hb)
            have n5_ := Aside0.mk (blk_below (g := gb305) (o := .cells #[.int .i64 t301, .int .i64 t302, .bool t303] 25 (0, 0)) (by (with_reducible repeat (first | refine blk_drewN ?_ _ | refine blk_drew ?_ | refine blk_alloc ?_ _)); exact BK305.out) hb)
            have n6_ := Aside0.mk (blk_below (g := gb310) (o := .cells #[.int .i64 t306, .int .i64 t307, .bool t308] 25 (0, 0)) (by (with_reducible repeat (first | refine blk_drewN ?_ _ | refine blk_drew ?_ | refine blk_alloc ?_ _)); exact BK310.out) hb)
            have n7_ := Aside0.mk (below_step (by repeat (first | (with_reducible first | exact HB.out | apply below_alloc | apply pw_below_drewN | apply below_drew1 | refine below_set ?_ (IsS59.ge HI280.out) | refine below_set ?_ GE286.out | refine below_set ?_ GE287.out | refine below_set ?_ GE295.out | refine below_set ?_ GE305.out | refine below_set ?_ GE310.out) | exact HB.out)) hb)
            clear HO298; clear BK286; clear BK287; clear HI280; clear BK295; clear BK305; clear BK310; clear HB; have HO298 := n0_; have BK286 := n1_; have BK287 := n2_; have HI280 := n3_; have BK295 := n4_; have BK305 := n5_; have BK310 := n6_; have HB := n7_
            clear n0_ n1_ n2_ n3_ n4_ n5_ n6_ n7_
            (try clear hb); (try clear hb2); (try clear hk); (try clear hi)
            refine hK.out _ _ ⟨(blk_cell BK305.out 0).trans rfl, (blk_cell BK305.out 1).trans rfl, (blk_cell BK305.out 2).trans rfl, (blk_cell BK310.out 0).trans rfl, (blk_cell BK310.out 1).trans rfl, (blk_cell BK310.out 2).trans rfl, (blk_cell BK286.out 0).trans rfl, (blk_cell BK286.out 1).trans rfl, (blk_cell BK286.out 2).trans rfl, (blk_cell BK287.out 0).trans rfl, (blk_cell BK287.out 1).trans rfl, (blk_cell BK287.out 2).trans rfl⟩ (fun hHeld => ?_)
            clear hK K
            refine norm_ (a' := ?_) ?_ ?_
            rotate_left
            ·show Act.put _ (some 74) _ = _
             simp only [Act.put, sZ1, sZ2, sZ3, i64_w, i32_w]
             rfl
            refine pure_ (i := 17) (N := some 75) (v := ?_) (a' := ?_) D49m3ffff rfl rfl (any_of HT_.out (by kernel_rfl)) (fun _ _ _ h => h) (Or.inl ⟨by rfl, ?_⟩) ?_ ?_
            rotate_left; ·intro w'; go_simp; with_reducible rfl
            rotate_left; ·simp only [Act.put, sZ1, sZ2, sZ3, i64_w, i32_w]; rfl
            refine pure_ (i := 18) (N := some 76) (v := ?_) (a' := ?_) D49m7ffff rfl rfl (any_of HT_.out (by kernel_rfl)) (fun _ _ _ h => h) (Or.inl ⟨by rfl, ?_⟩) ?_ ?_
            rotate_left; ·intro w'; go_simp; with_reducible rfl
            rotate_left; ·simp only [Act.put, sZ1, sZ2, sZ3, i64_w, i32_w]; rfl
            refine pure_ (i := 21) (N := some 79) (v := ?_) (a' := ?_) D49m27ffff rfl rfl (any_of HT_.out (by kernel_rfl)) (fun _ _ _ h => h) (Or.inl ⟨by rfl, ?_⟩) ?_ ?_
            rotate_left; ·intro w'; go_simp; with_reducible rfl
            rotate_left; ·simp only [Act.put, sZ1, sZ2, sZ3, i64_w, i32_w]; rfl
            refine pure_ (i := 22) (N := some 80) (v := ?_) (a' := ?_) D49m67ffff rfl rfl (any_of HT_.out (by kernel_rfl)) (fun _ _ _ h => h) (Or.inl ⟨by rfl, ?_⟩) ?_ ?_
            rotate_left; ·intro w'; go_simp; with_reducible rfl
            rotate_left; ·simp only [Act.put, sZ1, sZ2, sZ3, i64_w, i32_w]; rfl
            refine pure_ (i := 26) (N := some 84) (v := ?_) (a' := ?_) D49m467ffff rfl rfl (any_of HT_.out (by kernel_rfl)) (fun _ _ _ h => h) (Or.inl ⟨by rfl, ?_⟩) ?_ ?_
            rotate_left; ·intro w'; go_simp; with_reducible rfl
            rotate_left; ·simp only [Act.put, sZ1, sZ2, sZ3, i64_w, i32_w]; rfl
            refine take_ (i := 19) (N := some 77) (v := ?_) (a' := ?_) D49m46fffff rfl rfl (take_ofW HT_.out HW_.out (by kernel_rfl)) (fun _ _ _ h => h) (Or.inl ⟨by rfl, ?_⟩) hHeld ?_ ?_
            rotate_left; ·rintro w' ⟨s0, s1, s2, s3, s4, s5, s6, s7, s8, s9, s10, s11⟩; go_simp; with_reducible rfl
            rotate_left; ·simp only [Act.put, sZ1, sZ2, sZ3, i64_w, i32_w]; rfl
            refine take_ (i := 20) (N := some 78) (v := ?_) (a' := ?_) D49m47fffff rfl rfl (take_ofW HT_.out HW_.out (by kernel_rfl)) (fun _ _ _ h => h) (Or.inl ⟨by rfl, ?_⟩) hHeld ?_ ?_
            rotate_left; ·rintro w' ⟨s0, s1, s2, s3, s4, s5, s6, s7, s8, s9, s10, s11⟩; go_simp; with_reducible rfl
            rotate_left; ·simp only [Act.put, sZ1, sZ2, sZ3, i64_w, i32_w]; rfl
            refine take_ (i := 24) (N := some 82) (v := ?_) (a' := ?_) D49m57fffff rfl rfl (take_ofW HT_.out HW_.out (by kernel_rfl)) (fun _ _ _ h => h) (Or.inl ⟨by rfl, ?_⟩) hHeld ?_ ?_
            rotate_left; ·rintro w' ⟨s0, s1, s2, s3, s4, s5, s6, s7, s8, s9, s10, s11⟩; go_simp; with_reducible rfl
            rotate_left; ·simp only [Act.put, sZ1, sZ2, sZ3, i64_w, i32_w]; rfl
            refine take_ (i := 25) (N := some 83) (v := ?_) (a' := ?_) D49m77fffff rfl rfl (take_ofW HT_.out HW_.out (by kernel_rfl)) (fun _ _ _ h => h) (Or.inl ⟨by rfl, ?_⟩) hHeld ?_ ?_
            rotate_left; ·rintro w' ⟨s0, s1, s2, s3, s4, s5, s6, s7, s8, s9, s10, s11⟩; go_simp; with_reducible rfl
            rotate_left; ·simp only [Act.put, sZ1, sZ2, sZ3, i64_w, i32_w]; rfl
            refine one_ (i := 23) (N := some 81) D49m7ffffff rfl rfl (one_of HT_.out (by kernel_rfl)) (by decide) (fun K hK => ?_)
            refine goes_ Try.func24 (by kernel_rfl) rfl #[.agg #[.int .i64 100, .int .i64 900, .int .i64 t284], .agg #[.int .i64 t301, .int .i64 t302, .bool t303], .int .i64 (wrap64 ((wrap64 (x6_1 + t299)) + 7))] (by rfl) rfl rfl (by (try simp only [List.map_toArray, List.map_cons, List.map_nil]); first | done | rfl | (simp only [List.length_drop, List.length_take]; rfl)) ?_
            with_reducible refine (rope_Slack.calls 100 900 t284 t301 t302 t303 (wrap64 ((wrap64 (x6_1 + t299)) + 7)) t311 _ A77.out).mono ?_
            rintro e w95 ⟨rfl, hb⟩
            refine ⟨_, rfl, ?_⟩
            have n0_ := Aside0.mk (Kd.R_below (by (with_reducible repeat (first | apply Kd.R_alloc | apply Kd.R_drewN | apply Kd.R_drew)); exact HO298.out) hb)
            have n1_ := Aside0.mk (blk_below (g := gb286) (o := .cells #[.int .i64 100, .int .i64 900, .int .i64 t284] 23 (0, 0)) (by (with_reducible repeat (first | refine blk_drewN ?_ _ | refine blk_drew ?_ | refine blk_alloc ?_ _)); exact BK286.out) hb)
            have n2_ := Aside0.mk (blk_below (g := gb287) (o := .cells #[.int .i64 x288000_1, .int .i64 x288001_1, .bool x288002_1] 25 (0, 0)) (by (with_reducible repeat (first | refine blk_drewN ?_ _ | refine blk_drew ?_ | refine blk_alloc ?_ _)); exact BK287.out) hb)
            have n3_ := Aside0.mk (IsS59.below (by repeat (first | (with_reducible first | exact HI280.out | apply IsS59.alloc | apply IsS59.drewN | apply IsS59.drew | apply IsS59.set_1 | refine IsS59.far ?_ NB280_286.out _ | refine IsS59.far ?_ NB280_287.out _ | refine IsS59.far ?_ NB280_295.out _ | refine IsS59.far ?_ NB280_305.out _ | refine IsS59.far ?_ NB280_310.out _) | exact HI280.out)) hb)
            have n4_ := Aside0.mk (blk_below (g := gb295) (o := .cells #[.int .i64 t290, .int .i64 t291] 27 (0, 0)) (by (with_reducible repeat (first | refine blk_drewN ?_ _ | refine blk_drew ?_ | refine blk_alloc ?_ _)); exact BK295.out) hb)
            have n5_ := Aside0.mk (blk_below (g := gb305) (o := .cells #[.int .i64 t301, .int .i64 t302, .bool t303] 25 (0, 0)) (by (with_reducible repeat (first | refine blk_drewN ?_ _ | refine blk_drew ?_ | refine blk_alloc ?_ _)); exact BK305.out) hb)
            have n6_ := Aside0.mk (blk_below (g := gb310) (o := .cells #[.int .i64 t306, .int .i64 t307, .bool t308] 25 (0, 0)) (by (with_reducible repeat (first | refine blk_drewN ?_ _ | refine blk_drew ?_ | refine blk_alloc ?_ _)); exact BK310.out) hb)
            have n7_ := Aside0.mk (below_step (by repeat (first | (with_reducible first | exact HB.out | apply below_alloc | apply pw_below_drewN | apply below_drew1 | refine below_set ?_ (IsS59.ge HI280.out) | refine below_set ?_ GE286.out | refine below_set ?_ GE287.out | refine below_set ?_ GE295.out | refine below_set ?_ GE305.out | refine below_set ?_ GE310.out) | exact HB.out)) hb)
            clear HO298; clear BK286; clear BK287; clear HI280; clear BK295; clear BK305; clear BK310; clear HB; have HO298 := n0_; have BK286 := n1_; have BK287 := n2_; have HI280 := n3_; have BK295 := n4_; have BK305 := n5_; have BK310 := n6_; have HB := n7_
            clear n0_ n1_ n2_ n3_ n4_ n5_ n6_ n7_
            (try clear hb); (try clear hb2); (try clear hk); (try clear hi)
            refine hK.out _ _ ⟨(blk_cell BK305.out 0).trans rfl, (blk_cell BK305.out 1).trans rfl, (blk_cell BK305.out 2).trans rfl, (blk_cell BK310.out 0).trans rfl, (blk_cell BK310.out 1).trans rfl, (blk_cell BK310.out 2).trans rfl, (blk_cell BK286.out 0).trans rfl, (blk_cell BK286.out 1).trans rfl, (blk_cell BK286.out 2).trans rfl, (blk_cell BK287.out 0).trans rfl, (blk_cell BK287.out 1).trans rfl, (blk_cell BK287.out 2).trans rfl⟩ (fun hHeld => ?_)
            clear hK K
            refine norm_ (a' := ?_) ?_ ?_
            rotate_left
            ·show Act.put _ (some 81) _ = _
             simp only [Act.put, sZ1, sZ2, sZ3, i64_w, i32_w]
             rfl
            refine one_ (i := 27) (N := some 85) D49mfffffff rfl rfl (one_of HT_.out (by kernel_rfl)) (by decide) (fun K hK => ?_)
            refine goes_ Try.func24 (by kernel_rfl) rfl #[.agg #[.int .i64 100, .int .i64 900, .int .i64 t284], .agg #[.int .i64 t301, .int .i64 t302, .bool t303], .int .i64 (wrap64 (x6_1 + t299))] (by rfl) rfl rfl (by (try simp only [List.map_toArray, List.map_cons, List.map_nil]); first | done | rfl | (simp only [List.length_drop, List.length_take]; rfl)) ?_
            with_reducible refine (rope_Slack.calls 100 900 t284 t301 t302 t303 (wrap64 (x6_1 + t299)) t313 _ A78.out).mono ?_
            rintro e w96 ⟨rfl, hb⟩
            refine ⟨_, rfl, ?_⟩
            have n0_ := Aside0.mk (Kd.R_below (by (with_reducible repeat (first | apply Kd.R_alloc | apply Kd.R_drewN | apply Kd.R_drew)); exact HO298.out) hb)
            have n1_ := Aside0.mk (blk_below (g := gb286) (o := .cells #[.int .i64 100, .int .i64 900, .int .i64 t284] 23 (0, 0)) (by (with_reducible repeat (first | refine blk_drewN ?_ _ | refine blk_drew ?_ | refine blk_alloc ?_ _)); exact BK286.out) hb)
            have n2_ := Aside0.mk (blk_below (g := gb287) (o := .cells #[.int .i64 x288000_1, .int .i64 x288001_1, .bool x288002_1] 25 (0, 0)) (by (with_reducible repeat (first | refine blk_drewN ?_ _ | refine blk_drew ?_ | refine blk_alloc ?_ _)); exact BK287.out) hb)
            have n3_ := Aside0.mk (IsS59.below (by repeat (first | (with_reducible first | exact HI280.out | apply IsS59.alloc | apply IsS59.drewN | apply IsS59.drew | apply IsS59.set_1 | refine IsS59.far ?_ NB280_286.out _ | refine IsS59.far ?_ NB280_287.out _ | refine IsS59.far ?_ NB280_295.out _ | refine IsS59.far ?_ NB280_305.out _ | refine IsS59.far ?_ NB280_310.out _) | exact HI280.out)) hb)
            have n4_ := Aside0.mk (blk_below (g := gb295) (o := .cells #[.int .i64 t290, .int .i64 t291] 27 (0, 0)) (by (with_reducible repeat (first | refine blk_drewN ?_ _ | refine blk_drew ?_ | refine blk_alloc ?_ _)); exact BK295.out) hb)
            have n5_ := Aside0.mk (blk_below (g := gb305) (o := .cells #[.int .i64 t301, .int .i64 t302, .bool t303] 25 (0, 0)) (by (with_reducible repeat (first | refine blk_drewN ?_ _ | refine blk_drew ?_ | refine blk_alloc ?_ _)); exact BK305.out) hb)
            have n6_ := Aside0.mk (blk_below (g := gb310) (o := .cells #[.int .i64 t306, .int .i64 t307, .bool t308] 25 (0, 0)) (by (with_reducible repeat (first | refine blk_drewN ?_ _ | refine blk_drew ?_ | refine blk_alloc ?_ _)); exact BK310.out) hb)
            have n7_ := Aside0.mk (below_step (by repeat (first | (with_reducible first | exact HB.out | apply below_alloc | apply pw_below_drewN | apply below_drew1 | refine below_set ?_ (IsS59.ge HI280.out) | refine below_set ?_ GE286.out | refine below_set ?_ GE287.out | refine below_set ?_ GE295.out | refine below_set ?_ GE305.out | refine below_set ?_ GE310.out) | exact HB.out)) hb)
            clear HO298; clear BK286; clear BK287; clear HI280; clear BK295; clear BK305; clear BK310; clear HB; have HO298 := n0_; have BK286 := n1_; have BK287 := n2_; have HI280 := n3_; have BK295 := n4_; have BK305 := n5_; have BK310 := n6_; have HB := n7_
            clear n0_ n1_ n2_ n3_ n4_ n5_ n6_ n7_
            (try clear hb); (try clear hb2); (try clear hk); (try clear hi)
            refine hK.out _ _ ⟨(blk_cell BK305.out 0).trans rfl, (blk_cell BK305.out 1).trans rfl, (blk_cell BK305.out 2).trans rfl, (blk_cell BK310.out 0).trans rfl, (blk_cell BK310.out 1).trans rfl, (blk_cell BK310.out 2).trans rfl, (blk_cell BK286.out 0).trans rfl, (blk_cell BK286.out 1).trans rfl, (blk_cell BK286.out 2).trans rfl, (blk_cell BK287.out 0).trans rfl, (blk_cell BK287.out 1).trans rfl, (blk_cell BK287.out 2).trans rfl⟩ (fun hHeld => ?_)
            clear hK K
            refine norm_ (a' := ?_) ?_ ?_
            rotate_left
            ·show Act.put _ (some 85) _ = _
             simp only [Act.put, sZ1, sZ2, sZ3, i64_w, i32_w]
             rfl
            refine pure_ (i := 28) (N := some 86) (v := ?_) (a' := ?_) D49m1fffffff rfl rfl (any_of HT_.out (by kernel_rfl)) (fun _ _ _ h => h) (Or.inl ⟨by rfl, ?_⟩) ?_ ?_
            rotate_left; ·intro w'; go_simp; with_reducible rfl
            rotate_left; ·simp only [Act.put, sZ1, sZ2, sZ3, i64_w, i32_w]; rfl
            refine pure_ (i := 29) (N := some 87) (v := ?_) (a' := ?_) D49m3fffffff rfl rfl (any_of HT_.out (by kernel_rfl)) (fun _ _ _ h => h) (Or.inl ⟨by rfl, ?_⟩) ?_ ?_
            rotate_left; ·intro w'; go_simp; with_reducible rfl
            rotate_left; ·simp only [Act.put, sZ1, sZ2, sZ3, i64_w, i32_w]; rfl
            refine pure_ (i := 30) (N := some 88) (v := ?_) (a' := ?_) D49m7fffffff rfl rfl (any_of HT_.out (by kernel_rfl)) (fun _ _ _ h => h) (Or.inl ⟨by rfl, ?_⟩) ?_ ?_
            rotate_left; ·intro w'; go_simp; with_reducible rfl
            rotate_left; ·simp only [Act.put, sZ1, sZ2, sZ3, i64_w, i32_w]; rfl
            refine pure_ (i := 31) (N := some 89) (v := ?_) (a' := ?_) D49mffffffff rfl rfl (any_of HT_.out (by kernel_rfl)) (fun _ _ _ h => h) (Or.inl ⟨by rfl, ?_⟩) ?_ ?_
            rotate_left; ·intro w'; go_simp; with_reducible rfl
            rotate_left; ·simp only [Act.put, sZ1, sZ2, sZ3, i64_w, i32_w]; rfl
            refine pure_ (i := 32) (N := some 90) (v := ?_) (a' := ?_) D49m1ffffffff rfl rfl (any_of HT_.out (by kernel_rfl)) (fun _ _ _ h => h) (Or.inl ⟨by rfl, ?_⟩) ?_ ?_
            rotate_left; ·intro w'; go_simp; with_reducible rfl
            rotate_left; ·simp only [Act.put, sZ1, sZ2, sZ3, i64_w, i32_w]; rfl
            refine pure_ (i := 33) (N := some 91) (v := ?_) (a' := ?_) D49m3ffffffff rfl rfl (any_of HT_.out (by kernel_rfl)) (fun _ _ _ h => h) (Or.inl ⟨by rfl, ?_⟩) ?_ ?_
            rotate_left; ·intro w'; go_simp; with_reducible rfl
            rotate_left; ·simp only [Act.put, sZ1, sZ2, sZ3, i64_w, i32_w]; rfl
            refine take_ (i := 34) (N := some 92) (v := ?_) (a' := ?_) D49m7ffffffff rfl rfl (take_ofW HT_.out HW_.out (by kernel_rfl)) (fun _ _ _ h => h) (Or.inl ⟨by rfl, ?_⟩) hHeld ?_ ?_
            rotate_left; ·rintro w' ⟨s0, s1, s2, s3, s4, s5, s6, s7, s8, s9, s10, s11⟩; go_simp; with_reducible rfl
            rotate_left; ·simp only [Act.put, sZ1, sZ2, sZ3, i64_w, i32_w]; rfl
            refine pure_ (i := 35) (N := some 93) (v := ?_) (a' := ?_) D49mfffffffff rfl rfl (any_of HT_.out (by kernel_rfl)) (fun _ _ _ h => h) (Or.inl ⟨by rfl, ?_⟩) ?_ ?_
            rotate_left; ·intro w'; go_simp; with_reducible rfl
            rotate_left; ·simp only [Act.put, sZ1, sZ2, sZ3, i64_w, i32_w]; rfl
            refine pure_ (i := 36) (N := some 94) (v := ?_) (a' := ?_) D49m1fffffffff rfl rfl (any_of HT_.out (by kernel_rfl)) (fun _ _ _ h => h) (Or.inl ⟨by rfl, ?_⟩) ?_ ?_
            rotate_left; ·intro w'; go_simp; with_reducible rfl
            rotate_left; ·simp only [Act.put, sZ1, sZ2, sZ3, i64_w, i32_w]; rfl
            refine pure_ (i := 37) (N := some 95) (v := undef) (a' := ?_) D49m3fffffffff rfl rfl (any_of HT_.out (by kernel_rfl)) (fun _ _ _ h => h) (Or.inr ⟨by rfl, rfl⟩) ?_ ?_
            rotate_left; ·simp only [Act.put, sZ1, sZ2, sZ3, i64_w, i32_w]; rfl
            refine pure_ (i := 38) (N := some 96) (v := undef) (a' := ?_) D49m7fffffffff rfl rfl (any_of HT_.out (by kernel_rfl)) (fun _ _ _ h => h) (Or.inr ⟨by rfl, rfl⟩) ?_ ?_
            rotate_left; ·simp only [Act.put, sZ1, sZ2, sZ3, i64_w, i32_w]; rfl
            refine pure_ (i := 39) (N := some 97) (v := undef) (a' := ?_) D49mffffffffff rfl rfl (any_of HT_.out (by kernel_rfl)) (fun _ _ _ h => h) (Or.inr ⟨by rfl, rfl⟩) ?_ ?_
            rotate_left; ·simp only [Act.put, sZ1, sZ2, sZ3, i64_w, i32_w]; rfl
            refine pure_ (i := 40) (N := some 98) (v := ?_) (a' := ?_) D49m1ffffffffff rfl rfl (any_of HT_.out (by kernel_rfl)) (fun _ _ _ h => h) (Or.inl ⟨by rfl, ?_⟩) ?_ ?_
            rotate_left; ·intro w'; go_simp; with_reducible rfl
            rotate_left; ·simp only [Act.put, sZ1, sZ2, sZ3, i64_w, i32_w]; rfl
            refine pure_ (i := 41) (N := some 99) (v := ?_) (a' := ?_) D49m3ffffffffff rfl rfl (any_of HT_.out (by kernel_rfl)) (fun _ _ _ h => h) (Or.inl ⟨by rfl, ?_⟩) ?_ ?_
            rotate_left; ·intro w'; go_simp; with_reducible rfl
            rotate_left; ·simp only [Act.put, sZ1, sZ2, sZ3, i64_w, i32_w]; rfl
            refine pure_ (i := 42) (N := some 100) (v := undef) (a' := ?_) D49m7ffffffffff rfl rfl (any_of HT_.out (by kernel_rfl)) (fun _ _ _ h => h) (Or.inr ⟨by rfl, rfl⟩) ?_ ?_
            rotate_left; ·simp only [Act.put, sZ1, sZ2, sZ3, i64_w, i32_w]; rfl
            refine pure_ (i := 43) (N := some 101) (v := undef) (a' := ?_) D49mfffffffffff rfl rfl (any_of HT_.out (by kernel_rfl)) (fun _ _ _ h => h) (Or.inr ⟨by rfl, rfl⟩) ?_ ?_
            rotate_left; ·simp only [Act.put, sZ1, sZ2, sZ3, i64_w, i32_w]; rfl
            refine pure_ (i := 44) (N := some 102) (v := undef) (a' := ?_) D49m1fffffffffff rfl rfl (any_of HT_.out (by kernel_rfl)) (fun _ _ _ h => h) (Or.inr ⟨by rfl, rfl⟩) ?_ ?_
            rotate_left; ·simp only [Act.put, sZ1, sZ2, sZ3, i64_w, i32_w]; rfl
            refine pure_ (i := 45) (N := some 103) (v := undef) (a' := ?_) D49m3fffffffffff rfl rfl (any_of HT_.out (by kernel_rfl)) (fun _ _ _ h => h) (Or.inr ⟨by rfl, rfl⟩) ?_ ?_
            rotate_left; ·simp only [Act.put, sZ1, sZ2, sZ3, i64_w, i32_w]; rfl
            refine pure_ (i := 46) (N := some 104) (v := undef) (a' := ?_) D49m7fffffffffff rfl rfl (any_of HT_.out (by kernel_rfl)) (fun _ _ _ h => h) (Or.inr ⟨by rfl, rfl⟩) ?_ ?_
            rotate_left; ·simp only [Act.put, sZ1, sZ2, sZ3, i64_w, i32_w]; rfl
            refine pure_ (i := 47) (N := some 105) (v := ?_) (a' := ?_) D49mffffffffffff rfl rfl (any_of HT_.out (by kernel_rfl)) (fun _ _ _ h => h) (Or.inl ⟨by rfl, ?_⟩) ?_ ?_
            rotate_left; ·intro w'; go_simp; with_reducible rfl
            rotate_left; ·simp only [Act.put, sZ1, sZ2, sZ3, i64_w, i32_w]; rfl
            refine pure_ (i := 48) (N := some 106) (v := ?_) (a' := ?_) D49m1ffffffffffff rfl rfl (any_of HT_.out (by kernel_rfl)) (fun _ _ _ h => h) (Or.inl ⟨by rfl, ?_⟩) ?_ ?_
            rotate_left; ·intro w'; go_simp; with_reducible rfl
            rotate_left; ·simp only [Act.put, sZ1, sZ2, sZ3, i64_w, i32_w]; rfl
            refine done_ (done_of HT_.out (by kernel_rfl)) ?_
            try go_wp2
            go_meet
            case rel => exact ⟨_, (false), (by first | rfl | (simp; done) | (simp [*]; done)), H', ⟨by have := HK1.out; first | omega | exact Nat.le_refl _⟩, ⟨by (with_reducible repeat (first | refine blk_drewN ?_ _ | refine blk_drew ?_ | refine blk_alloc ?_ _)); exact BK286.out⟩, ⟨by (with_reducible repeat (first | refine blk_drewN ?_ _ | refine blk_drew ?_ | refine blk_alloc ?_ _)); exact BK287.out⟩, ⟨by (with_reducible repeat (first | refine blk_drewN ?_ _ | refine blk_drew ?_ | refine blk_alloc ?_ _)); exact BK295.out⟩, ⟨by (with_reducible repeat (first | refine blk_drewN ?_ _ | refine blk_drew ?_ | refine blk_alloc ?_ _)); exact BK305.out⟩, ⟨by (with_reducible repeat (first | refine blk_drewN ?_ _ | refine blk_drew ?_ | refine blk_alloc ?_ _)); exact BK310.out⟩, ⟨by repeat (first | (with_reducible first | exact HI280.out | apply IsS59.alloc | apply IsS59.drewN | apply IsS59.drew | apply IsS59.set_1 | refine IsS59.far ?_ NB280_286.out _ | refine IsS59.far ?_ NB280_287.out _ | refine IsS59.far ?_ NB280_295.out _ | refine IsS59.far ?_ NB280_305.out _ | refine IsS59.far ?_ NB280_310.out _) | exact HI280.out)⟩, ⟨by repeat (first | (with_reducible first | exact HB.out | apply below_alloc | apply pw_below_drewN | apply below_drew1 | refine below_set ?_ (IsS59.ge HI280.out) | refine below_set ?_ GE286.out | refine below_set ?_ GE287.out | refine below_set ?_ GE295.out | refine below_set ?_ GE305.out | refine below_set ?_ GE310.out) | exact HB.out)⟩⟩
          ·rw [if_neg c79] at H
           have c79b0 : (t311 == (wrap64 (t313 + 7))) = false := beq_eq_false_iff_ne.mpr c79
           have c79b1 : (t311 != (wrap64 (t313 + 7))) = true := bne_iff_ne.mpr c79
           exact absurd H (by simp)
       ·rw [if_neg c62] at H
        have c62b0 : (t309 == 0) = false := beq_eq_false_iff_ne.mpr c62
        have c62b1 : (t309 != 0) = true := bne_iff_ne.mpr c62
        exact absurd H (by simp)
      ·rw [if_neg c61] at H
       have c61b0 : (t304 == 0) = false := beq_eq_false_iff_ne.mpr c61
       have c61b1 : (t304 != 0) = true := bne_iff_ne.mpr c61
       (first | rw [c61b0] | (simp only [i64_w, i32_w]; rw [c61b0]) | skip)
       exact absurd H (by simp)
     case rest =>
      clear HC26; (try clear c2); (try clear p2); (try clear c6); (try clear p6); (try clear c7); (try clear c8); (try clear c24); (try clear c61); (try clear c61b0); (try clear c61b1); (try clear c62); (try clear c62b0); (try clear c62b1); (try clear p64); (try clear c79); (try clear c79b0); (try clear c79b1); (try clear c80); (try clear c80b0)
      obtain ⟨kq, x106_25, rfl, HA, HJ25, BK286, BK287, BK295, BK305, BK310, HI280, HB⟩ := hcut
      cases kq with
      | zero => exact absurd HA.out (by simp [law38_RopeTwice.j1])
      | succ kj25 =>
       have H := HA.out
       clear HA
       simp only [law38_RopeTwice.j1] at H
       by_cases c97 : x106_25 = true
       ·subst c97
        have H1 : (none) = some r := by rw [if_pos rfl] at H; exact H
        clear H
        have H := H1
        clear H1
        exact absurd H (by simp)
       ·replace c97 := Bool.eq_false_iff.mpr c97
        subst c97
        have H1 : (law38_RopeTwice.l0 kj25 (wrap64 (x6_1 + t299)) (wrap64 (x7_1 - 1)) t278 t300 100 900 t284 t301 t302 t303) = some r := by rw [if_neg (show ¬ (false = true) by decide)] at H; exact H
        clear H
        have H := H1
        clear H1
        have H' := Aside0.mk H
        clear H
        have hnb98 := NB305_286.out
        have hnc98 := NB286_305.out
        have hnb99 := NB305_287.out
        have hnc99 := NB287_305.out
        have hnb100 := NB305_295.out
        have hnc100 := NB295_305.out
        have hnb101 := NB305_310.out
        have hnc101 := NB310_305.out
        have hnb102 := NB305_280.out
        have hnc102 := NB280_305.out
        have hcz103_0 : wc.cell? ⟨gb305, 0, none⟩ = some (.int .i64 t301) := (blk_cell BK305.out 0).trans rfl
        have hcz103_1 : wc.cell? ⟨gb305, 1, none⟩ = some (.int .i64 t302) := (blk_cell BK305.out 1).trans rfl
        have hcz103_2 : wc.cell? ⟨gb305, 2, none⟩ = some (.bool t303) := (blk_cell BK305.out 2).trans rfl
        have hfz103_0 := blk_frozen BK305.out 0
        have hfz103_1 := blk_frozen BK305.out 1
        have hfz103_2 := blk_frozen BK305.out 2
        have hnb104 := NB287_286.out
        have hnc104 := NB286_287.out
        have hnb105 := NB287_295.out
        have hnc105 := NB295_287.out
        have hnb106 := NB287_310.out
        have hnc106 := NB310_287.out
        have hnb107 := NB287_280.out
        have hnc107 := NB280_287.out
        have hcz108_0 : wc.cell? ⟨gb287, 0, none⟩ = some (.int .i64 x288000_1) := (blk_cell BK287.out 0).trans rfl
        have hcz108_1 : wc.cell? ⟨gb287, 1, none⟩ = some (.int .i64 x288001_1) := (blk_cell BK287.out 1).trans rfl
        have hcz108_2 : wc.cell? ⟨gb287, 2, none⟩ = some (.bool x288002_1) := (blk_cell BK287.out 2).trans rfl
        have hfz108_0 := blk_frozen BK287.out 0
        have hfz108_1 := blk_frozen BK287.out 1
        have hfz108_2 := blk_frozen BK287.out 2
        go_wp2
        go_roundg kj25
        case measure => have := HK1.out; have := HJ25.out; omega
        case rel => exact ⟨((wrap64 (x6_1 + t299))), (wrap64 (x7_1 - 1)), (t300), (t301), (t302), (t303), (by first | rfl | (simp; done) | (simp [*]; done)), (by first | rfl | (simp; done) | (simp [*]; done)), H', ⟨by have := HK1.out; have := HJ25.out; omega⟩, ⟨by (with_reducible repeat (first | refine blk_drewN ?_ _ | refine blk_drew ?_ | refine blk_alloc ?_ _)); refine blk_far ?_ NB286_287.out _; (with_reducible repeat (first | refine blk_drewN ?_ _ | refine blk_drew ?_ | refine blk_alloc ?_ _)); refine blk_far ?_ NB286_287.out _; (with_reducible repeat (first | refine blk_drewN ?_ _ | refine blk_drew ?_ | refine blk_alloc ?_ _)); refine blk_far ?_ NB286_287.out _; (with_reducible repeat (first | refine blk_drewN ?_ _ | refine blk_drew ?_ | refine blk_alloc ?_ _)); exact BK286.out⟩, ⟨by (with_reducible repeat (first | refine blk_drewN ?_ _ | refine blk_drew ?_ | refine blk_alloc ?_ _)); refine blk_put (cs := #[.int .i64 t301, .int .i64 t302, .bool x288002_1]) ?_ 2 _ rfl; (with_reducible repeat (first | refine blk_drewN ?_ _ | refine blk_drew ?_ | refine blk_alloc ?_ _)); refine blk_put (cs := #[.int .i64 t301, .int .i64 x288001_1, .bool x288002_1]) ?_ 1 _ rfl; (with_reducible repeat (first | refine blk_drewN ?_ _ | refine blk_drew ?_ | refine blk_alloc ?_ _)); refine blk_put (cs := #[.int .i64 x288000_1, .int .i64 x288001_1, .bool x288002_1]) ?_ 0 _ rfl; (with_reducible repeat (first | refine blk_drewN ?_ _ | refine blk_drew ?_ | refine blk_alloc ?_ _)); exact BK287.out⟩, ⟨by repeat (first | (with_reducible first | exact HI280.out | apply IsS59.alloc | apply IsS59.drewN | apply IsS59.drew | apply IsS59.set_1 | refine IsS59.far ?_ NB280_286.out _ | refine IsS59.far ?_ NB280_287.out _ | refine IsS59.far ?_ NB280_295.out _ | refine IsS59.far ?_ NB280_305.out _ | refine IsS59.far ?_ NB280_310.out _) | exact HI280.out)⟩, ⟨by repeat (first | (with_reducible first | exact HB.out | apply below_alloc | apply pw_below_drewN | apply below_drew1 | refine below_set ?_ (IsS59.ge HI280.out) | refine below_set ?_ GE286.out | refine below_set ?_ GE287.out | refine below_set ?_ GE295.out | refine below_set ?_ GE305.out | refine below_set ?_ GE310.out) | exact HB.out)⟩⟩
    ·rw [if_neg c20] at H
     have c20b0 : decide (0 < x7_1) = false := decide_eq_false c20
     clear c20
     replace H := Option.bind_eq_some_iff.mp H
     obtain ⟨t314, A1090, H⟩ := H
     replace H : (some t314) = some r := H
     have A109 := Aside0.mk A1090
     clear A1090
     obtain rfl := Option.some.inj H
     go_wp2_with (first | ((with_reducible refine gate_callee (f := 13) rfl ?_); refine goesL_ (some 108) rfl rfl Try.func13 (by kernel_rfl) rfl #[] rfl (by (try simp only [List.map_toArray, List.map_cons, List.map_nil]); first | done | rfl | (simp only [List.length_drop, List.length_take]; rfl)) ?_; (with_reducible refine (law38_awake.calls  t314 _ A109.out).mono ?_); rintro e w110 ⟨rfl, hb⟩; refine ⟨_, rfl, ?_⟩; have n0_ := Aside0.mk (blk_below (g := gb286) (o := .cells #[.int .i64 100, .int .i64 900, .int .i64 t284] 23 (0, 0)) (by (with_reducible repeat (first | refine blk_drewN ?_ _ | refine blk_drew ?_ | refine blk_alloc ?_ _)); exact BK286.out) hb); have n1_ := Aside0.mk (blk_below (g := gb287) (o := .cells #[.int .i64 x288000_1, .int .i64 x288001_1, .bool x288002_1] 25 (0, 0)) (by (with_reducible repeat (first | refine blk_drewN ?_ _ | refine blk_drew ?_ | refine blk_alloc ?_ _)); exact BK287.out) hb); have n2_ := Aside0.mk (IsS59.below (by repeat (first | (with_reducible first | exact HI280.out | apply IsS59.alloc | apply IsS59.drewN | apply IsS59.drew | apply IsS59.set_1 | refine IsS59.far ?_ NB280_286.out _ | refine IsS59.far ?_ NB280_287.out _) | exact HI280.out)) hb); have n3_ := Aside0.mk (below_step (by repeat (first | (with_reducible first | exact HB.out | apply below_alloc | apply pw_below_drewN | apply below_drew1 | refine below_set ?_ (IsS59.ge HI280.out) | refine below_set ?_ GE286.out | refine below_set ?_ GE287.out) | exact HB.out)) hb); clear BK286; clear BK287; clear HI280; clear HB; have BK286 := n0_; have BK287 := n1_; have HI280 := n2_; have HB := n3_; clear n0_ n1_ n2_ n3_; (try clear hb); (try clear hb2); (try clear hk); (try clear hi)))
     go_ret
     exact ⟨by first | rfl | (simp [errW_none, errW_some] <;> rfl) | (simp [*, errW_none, errW_some] <;> rfl), by repeat (first | (with_reducible first | exact HB.out | apply below_alloc | apply pw_below_drewN | apply below_drew1 | refine below_set ?_ (IsS59.ge HI280.out) | refine below_set ?_ GE286.out | refine below_set ?_ GE287.out) | exact HB.out)⟩
 ·replace c3 := Bool.eq_false_iff.mpr c3
  subst c3
  have H1 : ((law38_awake.f).bind fun t277 => (some t277)) = some r := by rw [if_neg (show ¬ (false = true) by decide)] at H; exact H
  clear H
  have H := H1
  clear H1
  replace H := Option.bind_eq_some_iff.mp H
  obtain ⟨t277, A1110, H⟩ := H
  replace H : (some t277) = some r := H
  have A111 := Aside0.mk A1110
  clear A1110
  obtain rfl := Option.some.inj H
  go_enter Try.func6, Try.ntmps6
  go_wp2_with (first | ((with_reducible refine gate_callee (f := 14) rfl ?_); refine goesL_ (some 15) rfl rfl Try.func14 (by kernel_rfl) rfl #[.slice A0 l0.length c0] rfl (by (try simp only [List.map_toArray, List.map_cons, List.map_nil]); first | done | rfl | (simp only [List.length_drop, List.length_take]; rfl)) ?_; (with_reducible refine (made_Light.calls _ _ l0 false _ ?side1 ?side2 A2.out).mono ?_); (case side1 => repeat (first | exact HR0.out | (with_reducible refine Kd.C_alloc ?_ _) | (with_reducible refine Kd.C_drewN ?_ _) | (with_reducible refine Kd.C_drew ?_))); (case side2 => exact HC0.out); rintro e w' ⟨rfl, ⟨nd, rfl⟩⟩; refine ⟨_, rfl, ?_⟩) | ((with_reducible refine gate_callee (f := 13) rfl ?_); refine goesL_ (some 17) rfl rfl Try.func13 (by kernel_rfl) rfl #[] rfl (by (try simp only [List.map_toArray, List.map_cons, List.map_nil]); first | done | rfl | (simp only [List.length_drop, List.length_take]; rfl)) ?_; (with_reducible refine (law38_awake.calls  t277 _ A111.out).mono ?_); rintro e w112 ⟨rfl, hb⟩; refine ⟨_, rfl, ?_⟩; have n0_ := Aside0.mk (below_step (by repeat (first | (with_reducible first | exact HB.out | apply below_alloc | apply pw_below_drewN | apply below_drew1) | exact HB.out)) hb); clear HB; have HB := n0_; clear n0_; (try clear hb); (try clear hb2); (try clear hk); (try clear hi)))
  go_ret
  exact ⟨by first | rfl | (simp [errW_none, errW_some] <;> rfl) | (simp [*, errW_none, errW_some] <;> rfl), by repeat (first | (with_reducible first | exact HB.out | apply below_alloc | apply pw_below_drewN | apply below_drew1) | exact HB.out)⟩

/-- THE ONE PURE STATEMENT of law38_RopeTwice: yours. -/
def law38_RopeTwice.Pure : Prop := ∀ (l0 : List Int), l0.length ≤ maxLen → l0.length * 8 ≤ 140737488351232 → (∀ x ∈ l0, (Lit.int .i64 x).wf = true) → ∃ k, law38_RopeTwice.f k l0 = some true
theorem law38_RopeTwice.walk (P : law38_RopeTwice.Pure) (a0 : Option Addr) (len0 cap0 : Nat) (z0 : List Int) (w : World) (w0 : (a0 = none ∧ len0 = 0 ∧ cap0 = 0 ∧ z0 = []) ∨ ∃ x, a0 = some x ∧ len0 ≤ cap0 ∧ cap0 ≤ maxLen ∧ z0.length = cap0 ∧ (∀ i, i < z0.length → w.cell? (x.add i) = some (.int .i64 (z0.getD i 0))) ∧ ∀ n ∈ z0, (Lit.int .i64 n).wf = true) (y0 : len0 * 8 ≤ 140737488351232) :
  Calls Try.prog 6 #[.slice a0 len0 cap0] w fun e w' => e = .returned (.bool true) ∧ Below w.heap.size w w' := by
 obtain ⟨l0, rfl, hr0, hm0, hw0, hc0⟩ := ReadsInt.ofRowC w0
 obtain ⟨k, h⟩ := P l0 hm0 y0 hw0
 refine (law38_RopeTwice.calls k _ _ l0 true w (Kd.C_of_reads (d := (0 : Int)) (h1 := fun _ => rfl) hr0) hc0 h).mono ?_
 rintro e w' ⟨rfl, hd⟩
 exact ⟨rfl, hd⟩

end Go.Proofs.Ytcebojamjllmjaa.PRope
