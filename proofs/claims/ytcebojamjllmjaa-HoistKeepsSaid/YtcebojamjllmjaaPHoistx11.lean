-- written by wip/myprint.py (the kit's print over hand-proved contracts)
import Derived.Test.YtcebojamjllmjaaPHoistx0
import Derived.Test.YtcebojamjllmjaaPHoistx2
import Derived.Test.YtcebojamjllmjaaPHoistx3
import Derived.Test.YtcebojamjllmjaaPHoistx7
import Derived.Test.YtcebojamjllmjaaPHoistx8
import Derived.Test.YtcebojamjllmjaaHHoist
namespace Go.Proofs.Ytcebojamjllmjaa.PHoist
open Go.RowKit Go.Proofs.YtcebojamjllmjaaW.PrintWords Go.Proofs.YtcebojamjllmjaaW.PrintLast Go.Proofs.YtcebojamjllmjaaW.PrintMore
attribute [local go_sem] max2_int min2_int max_two min_two max_three min_three max_four min_four   -- for this text's walks alone
set_option linter.unusedVariables false
set_option linter.unusedSimpArgs false

open Go.Proofs.Ytcebojamjllmjaa.HandH
/-! ### law37_HoistKeeps: function 8 -/
mutual
def law37_HoistKeeps.l0 : Nat → Int → Int → Int → Int → Int → Int → Int → Int → Bool → Option (Bool)
 | 0, _, _, _, _, _, _, _, _, _ => none
 | k + 1, x6, x232000, x232001, x232002, x232003, x232004, x235000, x235001, x235002 => if x6 < 120 then (if (wrap64 (x232000 - x235000)) > 60000 then (law37_HoistKeeps.j1 k x6 (mn (wrap64 (Int.tdiv x232001 2)) (wrap64 (Int.tdiv (wrap64 (x232000 - x235000)) 20))) x232000 x232001 x232002 x232003 x232004 x235000 x235001 x235002) else (law37_HoistKeeps.j1 k x6 0 x232000 x232001 x232002 x232003 x232004 x235000 x235001 x235002)) else ((law37_awake.f).bind fun t240 => (some t240))
def law37_HoistKeeps.j1 : Nat → Int → Int → Int → Int → Int → Int → Int → Int → Int → Bool → Option (Bool)
 | 0, _, _, _, _, _, _, _, _, _, _ => none
 | k + 1, x6, x7, x232000, x232001, x232002, x232003, x232004, x235000, x235001, x235002 => (hoist_Tick.f x232000 x232001 x232002 x232003 x232004 x235000 x235001 x235002 (wrap64 (x7 - x235001))).bind fun bt235 => (if bt235.2.2.2 = 0 then (if bt235.2.2.1 = true then (law37_HoistKeeps.j2 k x6 true x232000 x232001 x232002 x232003 x232004 bt235.1 bt235.2.1 bt235.2.2.1) else (if bt235.1 < 0 then (law37_HoistKeeps.j2 k x6 true x232000 x232001 x232002 x232003 x232004 bt235.1 bt235.2.1 bt235.2.2.1) else (if bt235.1 > x232000 then (law37_HoistKeeps.j2 k x6 true x232000 x232001 x232002 x232003 x232004 bt235.1 bt235.2.1 bt235.2.2.1) else (law37_HoistKeeps.j2 k x6 (decide (bt235.2.1 > x232001)) x232000 x232001 x232002 x232003 x232004 bt235.1 bt235.2.1 bt235.2.2.1)))) else (law37_HoistKeeps.j2 k x6 true x232000 x232001 x232002 x232003 x232004 bt235.1 bt235.2.1 bt235.2.2.1))
def law37_HoistKeeps.j2 : Nat → Int → Bool → Int → Int → Int → Int → Int → Int → Int → Bool → Option (Bool)
 | 0, _, _, _, _, _, _, _, _, _, _ => none
 | k + 1, x6, x75, x232000, x232001, x232002, x232003, x232004, x240000, x240001, x240002 => if x75 = true then (none) else (law37_HoistKeeps.l0 k (wrap64 (x6 + 1)) x232000 x232001 x232002 x232003 x232004 x240000 x240001 x240002)
end
def law37_HoistKeeps.f (k : Nat) (l0 : List Int) : Option (Bool) := (made_Light.f l0).bind fun t221 => (if t221 = true then ((made_Roll.f l0).bind fun bt223 => ((law37_shaft.f).bind fun bt226 => ((made_Dice_Next.f bt223.1 bt223.2 (wrap64 (bt226.1 + 1))).bind fun bt232 => (law37_HoistKeeps.l0 k 0 bt226.1 bt226.2.1 bt226.2.2.1 bt226.2.2.2.1 bt226.2.2.2.2 bt232.1 0 false)))) else ((law37_awake.f).bind fun t222 => (some t222)))
theorem law37_HoistKeeps.mono_l : ∀ k, (∀ y0 y1 y2 y3 y4 y5 y6 y7 y8, LeO (law37_HoistKeeps.l0 k y0 y1 y2 y3 y4 y5 y6 y7 y8) (law37_HoistKeeps.l0 (k + 1) y0 y1 y2 y3 y4 y5 y6 y7 y8)) ∧ (∀ y0 y1 y2 y3 y4 y5 y6 y7 y8 y9, LeO (law37_HoistKeeps.j1 k y0 y1 y2 y3 y4 y5 y6 y7 y8 y9) (law37_HoistKeeps.j1 (k + 1) y0 y1 y2 y3 y4 y5 y6 y7 y8 y9)) ∧ (∀ y0 y1 y2 y3 y4 y5 y6 y7 y8 y9, LeO (law37_HoistKeeps.j2 k y0 y1 y2 y3 y4 y5 y6 y7 y8 y9) (law37_HoistKeeps.j2 (k + 1) y0 y1 y2 y3 y4 y5 y6 y7 y8 y9))
 | 0 => ⟨fun _ _ _ _ _ _ _ _ _ r h => by simp [law37_HoistKeeps.l0] at h, fun _ _ _ _ _ _ _ _ _ _ r h => by simp [law37_HoistKeeps.j1] at h, fun _ _ _ _ _ _ _ _ _ _ r h => by simp [law37_HoistKeeps.j2] at h⟩
 | k + 1 => by
  obtain ⟨ih0, ih1, ih2⟩ := law37_HoistKeeps.mono_l k
  refine ⟨?_, ?_, ?_⟩
  ·intro y0 y1 y2 y3 y4 y5 y6 y7 y8
   unfold law37_HoistKeeps.l0
   repeat' first
   | (with_reducible exact ih0 _ _ _ _ _ _ _ _ _)
   | (with_reducible exact ih1 _ _ _ _ _ _ _ _ _ _)
   | (with_reducible exact ih2 _ _ _ _ _ _ _ _ _ _)
   | (with_reducible exact LeO.refl _)
   | (with_reducible exact LeO.none _)
   | (with_reducible refine LeO.ite ?_ ?_)
   | (with_reducible refine LeO.bind ?_ (fun _ => ?_))
   | exact ih0 _ _ _ _ _ _ _ _ _
   | exact ih1 _ _ _ _ _ _ _ _ _ _
   | exact ih2 _ _ _ _ _ _ _ _ _ _
   | exact LeO.none _
   | refine LeO.ite ?_ ?_
   | refine LeO.bind ?_ (fun _ => ?_)
  ·intro y0 y1 y2 y3 y4 y5 y6 y7 y8 y9
   unfold law37_HoistKeeps.j1
   repeat' first
   | (with_reducible exact ih0 _ _ _ _ _ _ _ _ _)
   | (with_reducible exact ih1 _ _ _ _ _ _ _ _ _ _)
   | (with_reducible exact ih2 _ _ _ _ _ _ _ _ _ _)
   | (with_reducible exact LeO.refl _)
   | (with_reducible exact LeO.none _)
   | (with_reducible refine LeO.ite ?_ ?_)
   | (with_reducible refine LeO.bind ?_ (fun _ => ?_))
   | exact ih0 _ _ _ _ _ _ _ _ _
   | exact ih1 _ _ _ _ _ _ _ _ _ _
   | exact ih2 _ _ _ _ _ _ _ _ _ _
   | exact LeO.none _
   | refine LeO.ite ?_ ?_
   | refine LeO.bind ?_ (fun _ => ?_)
  ·intro y0 y1 y2 y3 y4 y5 y6 y7 y8 y9
   unfold law37_HoistKeeps.j2
   repeat' first
   | (with_reducible exact ih0 _ _ _ _ _ _ _ _ _)
   | (with_reducible exact ih1 _ _ _ _ _ _ _ _ _ _)
   | (with_reducible exact ih2 _ _ _ _ _ _ _ _ _ _)
   | (with_reducible exact LeO.refl _)
   | (with_reducible exact LeO.none _)
   | (with_reducible refine LeO.ite ?_ ?_)
   | (with_reducible refine LeO.bind ?_ (fun _ => ?_))
   | exact ih0 _ _ _ _ _ _ _ _ _
   | exact ih1 _ _ _ _ _ _ _ _ _ _
   | exact ih2 _ _ _ _ _ _ _ _ _ _
   | exact LeO.none _
   | refine LeO.ite ?_ ?_
   | refine LeO.bind ?_ (fun _ => ?_)
theorem law37_HoistKeeps.mono : ∀ a0 k, LeO (law37_HoistKeeps.f k a0) (law37_HoistKeeps.f (k + 1) a0) := by
 intro a0 k
 obtain ⟨ih0, ih1, ih2⟩ := law37_HoistKeeps.mono_l k
 unfold law37_HoistKeeps.f
 repeat' first
   | (with_reducible exact ih0 _ _ _ _ _ _ _ _ _)
   | (with_reducible exact ih1 _ _ _ _ _ _ _ _ _ _)
   | (with_reducible exact ih2 _ _ _ _ _ _ _ _ _ _)
   | (with_reducible exact LeO.refl _)
   | (with_reducible exact LeO.none _)
   | (with_reducible refine LeO.ite ?_ ?_)
   | (with_reducible refine LeO.bind ?_ (fun _ => ?_))
   | exact ih0 _ _ _ _ _ _ _ _ _
   | exact ih1 _ _ _ _ _ _ _ _ _ _
   | exact ih2 _ _ _ _ _ _ _ _ _ _
   | exact LeO.none _
   | refine LeO.ite ?_ ?_
   | refine LeO.bind ?_ (fun _ => ?_)
set_option maxHeartbeats 8000000 in
set_option maxRecDepth 100000 in
theorem law37_HoistKeeps.calls (k : Nat) (A0 : Option Addr) (c0 : Nat) (l0 : List Int) (r : Bool) (w : World) (hr0 : Kd.C (Kd.int .i64) w A0 l0.length l0) (hc0 : l0.length ≤ c0) (h : law37_HoistKeeps.f k l0 = some r) :
  Calls Try.prog 8 #[.slice A0 l0.length c0] w fun e w' => e = .returned (.bool r) ∧ Below w.heap.size w w' := by
 have hu45 := Try.underlying45
 have hu50 := Try.underlying50
 have HR0 := Aside0.mk hr0
 have HC0 := Aside0.mk hc0
 clear hr0 hc0
 have HB := Aside0.mk (Below.refl w.heap.size w)
 have H : ((made_Light.f l0).bind fun t221 => (if t221 = true then ((made_Roll.f l0).bind fun bt223 => ((law37_shaft.f).bind fun bt226 => ((made_Dice_Next.f bt223.1 bt223.2 (wrap64 (bt226.1 + 1))).bind fun bt232 => (law37_HoistKeeps.l0 k 0 bt226.1 bt226.2.1 bt226.2.2.1 bt226.2.2.2.1 bt226.2.2.2.2 bt232.1 0 false)))) else ((law37_awake.f).bind fun t222 => (some t222)))) = some r := h
 clear h
 replace H := Option.bind_eq_some_iff.mp H
 obtain ⟨t221, A20, H⟩ := H
 replace H : (if t221 = true then ((made_Roll.f l0).bind fun bt223 => ((law37_shaft.f).bind fun bt226 => ((made_Dice_Next.f bt223.1 bt223.2 (wrap64 (bt226.1 + 1))).bind fun bt232 => (law37_HoistKeeps.l0 k 0 bt226.1 bt226.2.1 bt226.2.2.1 bt226.2.2.2.1 bt226.2.2.2.2 bt232.1 0 false)))) else ((law37_awake.f).bind fun t222 => (some t222))) = some r := H
 have A2 := Aside0.mk A20
 clear A20
 by_cases c3 : t221 = true
 ·subst c3
  have H1 : ((made_Roll.f l0).bind fun bt223 => ((law37_shaft.f).bind fun bt226 => ((made_Dice_Next.f bt223.1 bt223.2 (wrap64 (bt226.1 + 1))).bind fun bt232 => (law37_HoistKeeps.l0 k 0 bt226.1 bt226.2.1 bt226.2.2.1 bt226.2.2.2.1 bt226.2.2.2.2 bt232.1 0 false)))) = some r := by rw [if_pos rfl] at H; exact H
  clear H
  have H := H1
  clear H1
  replace H := Option.bind_eq_some_iff.mp H
  obtain ⟨⟨t223, t224⟩, A40, H⟩ := H
  replace H : ((law37_shaft.f).bind fun bt226 => ((made_Dice_Next.f t223 t224 (wrap64 (bt226.1 + 1))).bind fun bt232 => (law37_HoistKeeps.l0 k 0 bt226.1 bt226.2.1 bt226.2.2.1 bt226.2.2.2.1 bt226.2.2.2.2 bt232.1 0 false))) = some r := H
  have A4 := Aside0.mk A40
  clear A40
  replace H := Option.bind_eq_some_iff.mp H
  obtain ⟨⟨t226, t227, t228, t229, t230⟩, A50, H⟩ := H
  replace H : ((made_Dice_Next.f t223 t224 (wrap64 (t226 + 1))).bind fun bt232 => (law37_HoistKeeps.l0 k 0 t226 t227 t228 t229 t230 bt232.1 0 false)) = some r := H
  have A5 := Aside0.mk A50
  clear A50
  replace H := Option.bind_eq_some_iff.mp H
  obtain ⟨⟨t232, t233⟩, A60, H⟩ := H
  replace H : (law37_HoistKeeps.l0 k 0 t226 t227 t228 t229 t230 t232 0 false) = some r := H
  have A6 := Aside0.mk A60
  clear A60
  have H' := Aside0.mk H
  clear H
  go_enter Try.func8, Try.ntmps8
  go_wp2_with (first | ((with_reducible refine gate_callee (f := 14) rfl ?_); refine goesL_ (some 12) rfl rfl Try.func14 (by kernel_rfl) rfl #[.slice A0 l0.length c0] rfl (by (try simp only [List.map_toArray, List.map_cons, List.map_nil]); first | done | rfl | (simp only [List.length_drop, List.length_take]; rfl)) ?_; (with_reducible refine (made_Light.calls _ _ l0 true _ ?side1 ?side2 A2.out).mono ?_); (case side1 => repeat (first | exact HR0.out | (with_reducible refine Kd.C_alloc ?_ _) | (with_reducible refine Kd.C_drewN ?_ _) | (with_reducible refine Kd.C_drew ?_))); (case side2 => exact HC0.out); rintro e w' ⟨rfl, ⟨nd, rfl⟩⟩; refine ⟨_, rfl, ?_⟩) | ((with_reducible refine gate_callee (f := 15) rfl ?_); refine goesL_ (some 16) rfl rfl Try.func15 (by kernel_rfl) rfl #[.slice A0 l0.length c0] rfl (by (try simp only [List.map_toArray, List.map_cons, List.map_nil]); first | done | rfl | (simp only [List.length_drop, List.length_take]; rfl)) ?_; (with_reducible refine (made_Roll.calls _ _ l0 t223 t224 w _ ?side1 ?side2 ?side3 A4.out).mono ?_); (case side1 => repeat (first | (with_reducible first | exact HB.out | apply below_alloc | apply pw_below_drewN | apply below_drew1) | exact HB.out)); (case side2 => exact HR0.out); (case side3 => exact HC0.out); rintro e w7 ⟨g225, rfl, hi, hb, hb2⟩; refine ⟨_, rfl, ?_⟩; have n0_ := Aside0.mk (hb); have n1_ := Aside0.mk (hi); clear HB; have HB := n0_; have HI225 := n1_; clear n0_ n1_; (try clear hb); (try clear hb2); (try clear hk); (try clear hi)) | ((with_reducible refine gate_callee (f := 31) rfl ?_); refine goesL_ (some 17) rfl rfl Try.func31 (by kernel_rfl) rfl #[] rfl (by (try simp only [List.map_toArray, List.map_cons, List.map_nil]); first | done | rfl | (simp only [List.length_drop, List.length_take]; rfl)) ?_; (with_reducible refine (law37_shaft.calls  t226 t227 t228 t229 t230 _ A5.out).mono ?_); rintro e w8 ⟨rfl, hb⟩; refine ⟨_, rfl, ?_⟩; have n0_ := Aside0.mk (IsS59.below (by repeat (first | (with_reducible first | exact HI225.out | apply IsS59.alloc | apply IsS59.drewN | apply IsS59.drew | apply IsS59.set_1) | exact HI225.out)) hb); have n1_ := Aside0.mk (below_step (by repeat (first | (with_reducible first | exact HB.out | apply below_alloc | apply pw_below_drewN | apply below_drew1 | refine below_set ?_ (IsS59.ge HI225.out)) | exact HB.out)) hb); clear HI225; clear HB; have HI225 := n0_; have HB := n1_; clear n0_ n1_; (try clear hb); (try clear hb2); (try clear hk); (try clear hi)) | ((with_reducible refine gate_dst (N := 4) rfl ?_); refine box_event ?hg (N := 4) ?hd (cs := #[.int .i64 0, .int .i64 0, .int .i64 0, .int .i64 0, .int .i64 0]) (t := 45) ?hr ?_; (case hd => rfl); (case hg => rfl); (case hr => first | (go_simp; done) | (go_simp; rfl)); intro gb231 hg w9 hbox hb; have n0_ := Aside0.mk (IsS59.below (by repeat (first | (with_reducible first | exact HI225.out | apply IsS59.alloc | apply IsS59.drewN | apply IsS59.drew | apply IsS59.set_1) | exact HI225.out)) hb); have n1_ := Aside0.mk (below_step (by repeat (first | (with_reducible first | exact HB.out | apply below_alloc | apply pw_below_drewN | apply below_drew1 | refine below_set ?_ (IsS59.ge HI225.out)) | exact HB.out)) hb); have n2_ := Aside0.mk (hbox); have n3_ := Aside0.mk ((by rw [hg]; exact (below_size (by repeat (first | (with_reducible first | exact HB.out | apply below_alloc | apply pw_below_drewN | apply below_drew1 | refine below_set ?_ (IsS59.ge HI225.out)) | exact HB.out))) : w.heap.size ≤ gb231)); have n4_ := Aside0.mk ((by rw [hg]; exact (below_size (by repeat (first | (with_reducible first | exact HB.out | apply below_alloc | apply pw_below_drewN | apply below_drew1 | refine below_set ?_ (IsS59.ge HI225.out)) | exact HB.out))) : w.heap.size ≤ gb231)); have n5_ := Aside0.mk ((by rw [hg]; exact Nat.ne_of_lt (IsS59.lt (show IsS59 w _ g225 t223 t224 from by repeat (first | (with_reducible first | exact HI225.out | apply IsS59.alloc | apply IsS59.drewN | apply IsS59.drew | apply IsS59.set_1) | exact HI225.out))) : g225 ≠ gb231)); have n6_ := Aside0.mk ((by rw [hg]; exact Nat.ne_of_gt (IsS59.lt (show IsS59 w _ g225 t223 t224 from by repeat (first | (with_reducible first | exact HI225.out | apply IsS59.alloc | apply IsS59.drewN | apply IsS59.drew | apply IsS59.set_1) | exact HI225.out))) : gb231 ≠ g225)); clear HI225; clear HB; have HI225 := n0_; have HB := n1_; have BK231 := n2_; have GW231 := n3_; have GE231 := n4_; have NB225_231 := n5_; have NB231_225 := n6_; clear n0_ n1_ n2_ n3_ n4_ n5_ n6_; clear hb hbox hg; have hnb10 := NB231_225.out; have hnc10 := NB225_231.out; have hcz11_0 : w9.cell? ⟨gb231, 0, none⟩ = some (.int .i64 0) := (blk_cell BK231.out 0).trans rfl; have hcz11_1 : w9.cell? ⟨gb231, 1, none⟩ = some (.int .i64 0) := (blk_cell BK231.out 1).trans rfl; have hcz11_2 : w9.cell? ⟨gb231, 2, none⟩ = some (.int .i64 0) := (blk_cell BK231.out 2).trans rfl; have hcz11_3 : w9.cell? ⟨gb231, 3, none⟩ = some (.int .i64 0) := (blk_cell BK231.out 3).trans rfl; have hcz11_4 : w9.cell? ⟨gb231, 4, none⟩ = some (.int .i64 0) := (blk_cell BK231.out 4).trans rfl; have hfz11_0 := blk_frozen BK231.out 0; have hfz11_1 := blk_frozen BK231.out 1; have hfz11_2 := blk_frozen BK231.out 2; have hfz11_3 := blk_frozen BK231.out 3; have hfz11_4 := blk_frozen BK231.out 4) | ((with_reducible refine gate_callee (f := 17) rfl ?_); refine goesL_ (some 22) rfl rfl Try.func17 (by kernel_rfl) rfl #[.pointer (some ⟨g225, 0, none⟩), .int .i64 (wrap64 (t226 + 1))] rfl (by (try simp only [List.map_toArray, List.map_cons, List.map_nil]); first | done | rfl | (simp only [List.length_drop, List.length_take]; rfl)) ?_; (with_reducible refine (made_Dice_Next.calls g225 t223 t224 (wrap64 (t226 + 1)) t232 t233 w _ ?side1 ?side2 A6.out).mono ?_); (case side1 => repeat (first | (with_reducible first | exact HI225.out | apply IsS59.alloc | apply IsS59.drewN | apply IsS59.drew | apply IsS59.set_1 | refine IsS59.far ?_ NB225_231.out _) | exact HI225.out)); (case side2 => repeat (first | (with_reducible first | exact HB.out | apply below_alloc | apply pw_below_drewN | apply below_drew1 | refine below_set ?_ (IsS59.ge HI225.out) | refine below_set ?_ GE231.out) | exact HB.out)); rintro e w12 ⟨rfl, hi, hb, hk⟩; refine ⟨_, rfl, ?_⟩; have n0_ := Aside0.mk (KeepBut.blk hk (g' := gb231) (o := .cells #[.int .i64 t226, .int .i64 t227, .int .i64 t228, .int .i64 t229, .int .i64 t230] 45 (0, 0)) (by (with_reducible repeat (first | refine blk_drewN ?_ _ | refine blk_drew ?_ | refine blk_alloc ?_ _)); refine blk_put (cs := #[.int .i64 t226, .int .i64 t227, .int .i64 t228, .int .i64 t229, .int .i64 0]) ?_ 4 _ rfl; (with_reducible repeat (first | refine blk_drewN ?_ _ | refine blk_drew ?_ | refine blk_alloc ?_ _)); refine blk_put (cs := #[.int .i64 t226, .int .i64 t227, .int .i64 t228, .int .i64 0, .int .i64 0]) ?_ 3 _ rfl; (with_reducible repeat (first | refine blk_drewN ?_ _ | refine blk_drew ?_ | refine blk_alloc ?_ _)); refine blk_put (cs := #[.int .i64 t226, .int .i64 t227, .int .i64 0, .int .i64 0, .int .i64 0]) ?_ 2 _ rfl; (with_reducible repeat (first | refine blk_drewN ?_ _ | refine blk_drew ?_ | refine blk_alloc ?_ _)); refine blk_put (cs := #[.int .i64 t226, .int .i64 0, .int .i64 0, .int .i64 0, .int .i64 0]) ?_ 1 _ rfl; (with_reducible repeat (first | refine blk_drewN ?_ _ | refine blk_drew ?_ | refine blk_alloc ?_ _)); refine blk_put (cs := #[.int .i64 0, .int .i64 0, .int .i64 0, .int .i64 0, .int .i64 0]) ?_ 0 _ rfl; (with_reducible repeat (first | refine blk_drewN ?_ _ | refine blk_drew ?_ | refine blk_alloc ?_ _)); exact BK231.out) NB231_225.out (by simp)); have n1_ := Aside0.mk (hb); have n2_ := Aside0.mk (hi); clear BK231; clear HB; clear HI225; have BK231 := n0_; have HB := n1_; have HI225 := n2_; clear n0_ n1_ n2_; (try clear hb); (try clear hb2); (try clear hk); (try clear hi)) | ((with_reducible refine gate_dst (N := 5) rfl ?_); refine box_event ?hg (N := 5) ?hd (cs := #[.int .i64 0, .int .i64 0, .bool false]) (t := 50) ?hr ?_; (case hd => rfl); (case hg => rfl); (case hr => first | (go_simp; done) | (go_simp; rfl)); intro gb234 hg w13 hbox hb; have n0_ := Aside0.mk (IsS59.below (by repeat (first | (with_reducible first | exact HI225.out | apply IsS59.alloc | apply IsS59.drewN | apply IsS59.drew | apply IsS59.set_1 | refine IsS59.far ?_ NB225_231.out _) | exact HI225.out)) hb); have n1_ := Aside0.mk (blk_below (g := gb231) (o := .cells #[.int .i64 t226, .int .i64 t227, .int .i64 t228, .int .i64 t229, .int .i64 t230] 45 (0, 0)) (by (with_reducible repeat (first | refine blk_drewN ?_ _ | refine blk_drew ?_ | refine blk_alloc ?_ _)); exact BK231.out) hb); have n2_ := Aside0.mk (below_step (by repeat (first | (with_reducible first | exact HB.out | apply below_alloc | apply pw_below_drewN | apply below_drew1 | refine below_set ?_ (IsS59.ge HI225.out) | refine below_set ?_ GE231.out) | exact HB.out)) hb); have n3_ := Aside0.mk (hbox); have n4_ := Aside0.mk ((by rw [hg]; exact (below_size (by repeat (first | (with_reducible first | exact HB.out | apply below_alloc | apply pw_below_drewN | apply below_drew1 | refine below_set ?_ (IsS59.ge HI225.out) | refine below_set ?_ GE231.out) | exact HB.out))) : w.heap.size ≤ gb234)); have n5_ := Aside0.mk ((by rw [hg]; exact (below_size (by repeat (first | (with_reducible first | exact HB.out | apply below_alloc | apply pw_below_drewN | apply below_drew1 | refine below_set ?_ (IsS59.ge HI225.out) | refine below_set ?_ GE231.out) | exact HB.out))) : w.heap.size ≤ gb234)); have n6_ := Aside0.mk ((by rw [hg]; exact Nat.ne_of_lt (blk_lt (g := gb231) (o := .cells #[.int .i64 t226, .int .i64 t227, .int .i64 t228, .int .i64 t229, .int .i64 t230] 45 (0, 0)) (by (with_reducible repeat (first | refine blk_drewN ?_ _ | refine blk_drew ?_ | refine blk_alloc ?_ _)); exact BK231.out)) : gb231 ≠ gb234)); have n7_ := Aside0.mk ((by rw [hg]; exact Nat.ne_of_gt (blk_lt (g := gb231) (o := .cells #[.int .i64 t226, .int .i64 t227, .int .i64 t228, .int .i64 t229, .int .i64 t230] 45 (0, 0)) (by (with_reducible repeat (first | refine blk_drewN ?_ _ | refine blk_drew ?_ | refine blk_alloc ?_ _)); exact BK231.out)) : gb234 ≠ gb231)); have n8_ := Aside0.mk ((by rw [hg]; exact Nat.ne_of_lt (IsS59.lt (show IsS59 w _ g225 t223 t233 from by repeat (first | (with_reducible first | exact HI225.out | apply IsS59.alloc | apply IsS59.drewN | apply IsS59.drew | apply IsS59.set_1 | refine IsS59.far ?_ NB225_231.out _) | exact HI225.out))) : g225 ≠ gb234)); have n9_ := Aside0.mk ((by rw [hg]; exact Nat.ne_of_gt (IsS59.lt (show IsS59 w _ g225 t223 t233 from by repeat (first | (with_reducible first | exact HI225.out | apply IsS59.alloc | apply IsS59.drewN | apply IsS59.drew | apply IsS59.set_1 | refine IsS59.far ?_ NB225_231.out _) | exact HI225.out))) : gb234 ≠ g225)); clear HI225; clear BK231; clear HB; have HI225 := n0_; have BK231 := n1_; have HB := n2_; have BK234 := n3_; have GW234 := n4_; have GE234 := n5_; have NB231_234 := n6_; have NB234_231 := n7_; have NB225_234 := n8_; have NB234_225 := n9_; clear n0_ n1_ n2_ n3_ n4_ n5_ n6_ n7_ n8_ n9_; clear hb hbox hg; have hnb14 := NB234_231.out; have hnc14 := NB231_234.out; have hnb15 := NB234_225.out; have hnc15 := NB225_234.out; have hcz16_0 : w13.cell? ⟨gb234, 0, none⟩ = some (.int .i64 0) := (blk_cell BK234.out 0).trans rfl; have hcz16_1 : w13.cell? ⟨gb234, 1, none⟩ = some (.int .i64 0) := (blk_cell BK234.out 1).trans rfl; have hcz16_2 : w13.cell? ⟨gb234, 2, none⟩ = some (.bool false) := (blk_cell BK234.out 2).trans rfl; have hfz16_0 := blk_frozen BK234.out 0; have hfz16_1 := blk_frozen BK234.out 1; have hfz16_2 := blk_frozen BK234.out 2))
  go_loopg [6] k (fun kq v6 w' => ∃ (x6_1 : Int) (x235000_1 : Int) (x235001_1 : Int) (x235002_1 : Bool), v6 = .int .i64 x6_1 ∧ Aside0 (law37_HoistKeeps.l0 kq x6_1 t226 t227 t228 t229 t230 x235000_1 x235001_1 x235002_1 = some r) ∧ Aside0 (kq ≤ k) ∧ Aside0 (w'.heap[gb231]? = some (.cells #[.int .i64 t226, .int .i64 t227, .int .i64 t228, .int .i64 t229, .int .i64 t230] 45 (0, 0))) ∧ Aside0 (w'.heap[gb234]? = some (.cells #[.int .i64 x235000_1, .int .i64 x235001_1, .bool x235002_1] 50 (0, 0))) ∧ Aside0 (Below w.heap.size w w'))
  case atStart => exact ⟨(0), (t232), (0), (false), (by first | rfl | (simp; done) | (simp [*]; done)), H', ⟨Nat.le_refl _⟩, ⟨by (with_reducible repeat (first | refine blk_drewN ?_ _ | refine blk_drew ?_ | refine blk_alloc ?_ _)); refine blk_far ?_ NB231_234.out _; (with_reducible repeat (first | refine blk_drewN ?_ _ | refine blk_drew ?_ | refine blk_alloc ?_ _)); refine blk_far ?_ NB231_234.out _; (with_reducible repeat (first | refine blk_drewN ?_ _ | refine blk_drew ?_ | refine blk_alloc ?_ _)); refine blk_far ?_ NB231_234.out _; (with_reducible repeat (first | refine blk_drewN ?_ _ | refine blk_drew ?_ | refine blk_alloc ?_ _)); exact BK231.out⟩, ⟨by (with_reducible repeat (first | refine blk_drewN ?_ _ | refine blk_drew ?_ | refine blk_alloc ?_ _)); refine blk_put (cs := #[.int .i64 t232, .int .i64 0, .bool false]) ?_ 2 _ rfl; (with_reducible repeat (first | refine blk_drewN ?_ _ | refine blk_drew ?_ | refine blk_alloc ?_ _)); refine blk_put (cs := #[.int .i64 t232, .int .i64 0, .bool false]) ?_ 1 _ rfl; (with_reducible repeat (first | refine blk_drewN ?_ _ | refine blk_drew ?_ | refine blk_alloc ?_ _)); refine blk_put (cs := #[.int .i64 0, .int .i64 0, .bool false]) ?_ 0 _ rfl; (with_reducible repeat (first | refine blk_drewN ?_ _ | refine blk_drew ?_ | refine blk_alloc ?_ _)); exact BK234.out⟩, ⟨by repeat (first | (with_reducible first | exact HB.out | apply below_alloc | apply pw_below_drewN | apply below_drew1 | refine below_set ?_ (IsS59.ge HI225.out) | refine below_set ?_ GE231.out | refine below_set ?_ GE234.out) | exact HB.out)⟩⟩
  case round =>
   clear H'; (try clear c1); (try clear p2); (try clear c3); (try clear p6); (try clear c8); (try clear c10); (try clear c14); (try clear c15); (try clear hcz11_0); (try clear hcz11_1); (try clear hcz11_2); (try clear hcz11_3); (try clear hcz11_4); (try clear hcz16_0); (try clear hcz16_1); (try clear hcz16_2); (try clear hfz11_0); (try clear hfz11_1); (try clear hfz11_2); (try clear hfz11_3); (try clear hfz11_4); (try clear hfz16_0); (try clear hfz16_1); (try clear hfz16_2)
   obtain ⟨x6_1, x235000_1, x235001_1, x235002_1, rfl, HA, HK1, BK231, BK234, HB⟩ := hrel
   cases gk with
   | zero => exact absurd HA.out (by simp [law37_HoistKeeps.l0])
   | succ k1 =>
    have H := HA.out
    clear HA
    simp only [law37_HoistKeeps.l0] at H
    by_cases c17 : x6_1 < 120
    ·rw [if_pos c17] at H
     have c17b0 : decide (x6_1 < 120) = true := decide_eq_true c17
     clear c17
     have HC18 := Aside0.mk H
     clear H
     have hnb19 := NB231_234.out
     have hnc19 := NB234_231.out
     have hcz20_0 : wr.cell? ⟨gb231, 0, none⟩ = some (.int .i64 t226) := (blk_cell BK231.out 0).trans rfl
     have hcz20_1 : wr.cell? ⟨gb231, 1, none⟩ = some (.int .i64 t227) := (blk_cell BK231.out 1).trans rfl
     have hcz20_2 : wr.cell? ⟨gb231, 2, none⟩ = some (.int .i64 t228) := (blk_cell BK231.out 2).trans rfl
     have hcz20_3 : wr.cell? ⟨gb231, 3, none⟩ = some (.int .i64 t229) := (blk_cell BK231.out 3).trans rfl
     have hcz20_4 : wr.cell? ⟨gb231, 4, none⟩ = some (.int .i64 t230) := (blk_cell BK231.out 4).trans rfl
     have hfz20_0 := blk_frozen BK231.out 0
     have hfz20_1 := blk_frozen BK231.out 1
     have hfz20_2 := blk_frozen BK231.out 2
     have hfz20_3 := blk_frozen BK231.out 3
     have hfz20_4 := blk_frozen BK231.out 4
     have hcz21_0 : wr.cell? ⟨gb234, 0, none⟩ = some (.int .i64 x235000_1) := (blk_cell BK234.out 0).trans rfl
     have hcz21_1 : wr.cell? ⟨gb234, 1, none⟩ = some (.int .i64 x235001_1) := (blk_cell BK234.out 1).trans rfl
     have hcz21_2 : wr.cell? ⟨gb234, 2, none⟩ = some (.bool x235002_1) := (blk_cell BK234.out 2).trans rfl
     have hfz21_0 := blk_frozen BK234.out 0
     have hfz21_1 := blk_frozen BK234.out 1
     have hfz21_2 := blk_frozen BK234.out 2
     go_upto_if 34 with (fail)
     go_cut [7] (fun v7 wc => ∃ (kq : Nat) (x7_17 : Int), v7 = .int .i64 x7_17 ∧ Aside0 (law37_HoistKeeps.j1 kq x6_1 x7_17 t226 t227 t228 t229 t230 x235000_1 x235001_1 x235002_1 = some r) ∧ Aside0 (kq ≤ k1) ∧ Aside0 (wc.heap[gb231]? = some (.cells #[.int .i64 t226, .int .i64 t227, .int .i64 t228, .int .i64 t229, .int .i64 t230] 45 (0, 0))) ∧ Aside0 (wc.heap[gb234]? = some (.cells #[.int .i64 x235000_1, .int .i64 x235001_1, .bool x235002_1] 50 (0, 0))) ∧ Aside0 (Below w.heap.size w wc))
     case first =>
      have H := HC18.out
      clear HC18
      by_cases c22 : (wrap64 (t226 - x235000_1)) > 60000
      ·rw [if_pos c22] at H
       have c22b0 : decide (60000 < (wrap64 (t226 - x235000_1))) = true := decide_eq_true c22
       clear c22
       (first | rw [c22b0] | (simp only [i64_w, i32_w]; rw [c22b0]) | skip)
       obtain ⟨ji23, hji23⟩ : ∃ j_ : Int, (mn (wrap64 (Int.tdiv t227 2)) (wrap64 (Int.tdiv (wrap64 (t226 - x235000_1)) 20))) = j_ := ⟨_, rfl⟩
       replace H : (law37_HoistKeeps.j1 k1 x6_1 ji23 t226 t227 t228 t229 t230 x235000_1 x235001_1 x235002_1) = some r := by first | (rw [hji23] at H; exact H) | (simp only [hji23] at H ⊢; exact H)
       have hji23_ : (if (wrap64 (Int.tdiv (wrap64 (t226 - x235000_1)) 20)) < (wrap64 (Int.tdiv t227 2)) then (wrap64 (Int.tdiv (wrap64 (t226 - x235000_1)) 20)) else (wrap64 (Int.tdiv t227 2))) = ji23 := hji23
       have H' := Aside0.mk H
       clear H
       have hnb24 := NB231_234.out
       have hnc24 := NB234_231.out
       have hcz25_0 : wr.cell? ⟨gb231, 0, none⟩ = some (.int .i64 t226) := (blk_cell BK231.out 0).trans rfl
       have hcz25_1 : wr.cell? ⟨gb231, 1, none⟩ = some (.int .i64 t227) := (blk_cell BK231.out 1).trans rfl
       have hcz25_2 : wr.cell? ⟨gb231, 2, none⟩ = some (.int .i64 t228) := (blk_cell BK231.out 2).trans rfl
       have hcz25_3 : wr.cell? ⟨gb231, 3, none⟩ = some (.int .i64 t229) := (blk_cell BK231.out 3).trans rfl
       have hcz25_4 : wr.cell? ⟨gb231, 4, none⟩ = some (.int .i64 t230) := (blk_cell BK231.out 4).trans rfl
       have hfz25_0 := blk_frozen BK231.out 0
       have hfz25_1 := blk_frozen BK231.out 1
       have hfz25_2 := blk_frozen BK231.out 2
       have hfz25_3 := blk_frozen BK231.out 3
       have hfz25_4 := blk_frozen BK231.out 4
       go_wp2
       go_meet
       case rel => exact ⟨_, (ji23), (by first | rfl | (simp; done) | (simp only [← hji23] <;> (first | rfl | simp)) | (simp [*]; done)), H', ⟨by have := HK1.out; first | omega | exact Nat.le_refl _⟩, ⟨by (with_reducible repeat (first | refine blk_drewN ?_ _ | refine blk_drew ?_ | refine blk_alloc ?_ _)); exact BK231.out⟩, ⟨by (with_reducible repeat (first | refine blk_drewN ?_ _ | refine blk_drew ?_ | refine blk_alloc ?_ _)); exact BK234.out⟩, ⟨by repeat (first | (with_reducible first | exact HB.out | apply below_alloc | apply pw_below_drewN | apply below_drew1 | refine below_set ?_ GE231.out | refine below_set ?_ GE234.out) | exact HB.out)⟩⟩
      ·rw [if_neg c22] at H
       have c22b0 : decide (60000 < (wrap64 (t226 - x235000_1))) = false := decide_eq_false c22
       clear c22
       (first | rw [c22b0] | (simp only [i64_w, i32_w]; rw [c22b0]) | skip)
       have H' := Aside0.mk H
       clear H
       go_wp2
       go_meet
       case rel => exact ⟨_, (0), (by first | rfl | (simp; done) | (simp [*]; done)), H', ⟨by have := HK1.out; first | omega | exact Nat.le_refl _⟩, ⟨by (with_reducible repeat (first | refine blk_drewN ?_ _ | refine blk_drew ?_ | refine blk_alloc ?_ _)); exact BK231.out⟩, ⟨by (with_reducible repeat (first | refine blk_drewN ?_ _ | refine blk_drew ?_ | refine blk_alloc ?_ _)); exact BK234.out⟩, ⟨by repeat (first | (with_reducible first | exact HB.out | apply below_alloc | apply pw_below_drewN | apply below_drew1 | refine below_set ?_ GE231.out | refine below_set ?_ GE234.out) | exact HB.out)⟩⟩
     case rest =>
      clear HC18; (try clear c1); (try clear c2); (try clear p2); (try clear c3); (try clear p6); (try clear c8); (try clear c10); (try clear c14); (try clear c15); (try clear c17); (try clear c17b0); (try clear c19); (try clear c22); (try clear c22b0); (try clear c24); (try clear hcz11_0); (try clear hcz11_1); (try clear hcz11_2); (try clear hcz11_3); (try clear hcz11_4); (try clear hcz16_0); (try clear hcz16_1); (try clear hcz16_2); (try clear hcz20_0); (try clear hcz20_1); (try clear hcz20_2); (try clear hcz20_3); (try clear hcz20_4); (try clear hcz21_0); (try clear hcz21_1); (try clear hcz21_2)
      (try clear hcz25_0); (try clear hcz25_1); (try clear hcz25_2); (try clear hcz25_3); (try clear hcz25_4); (try clear hfz11_0); (try clear hfz11_1); (try clear hfz11_2); (try clear hfz11_3); (try clear hfz11_4); (try clear hfz16_0); (try clear hfz16_1); (try clear hfz16_2); (try clear hfz20_0); (try clear hfz20_1); (try clear hfz20_2); (try clear hfz20_3); (try clear hfz20_4); (try clear hfz21_0); (try clear hfz21_1); (try clear hfz21_2); (try clear hfz25_0); (try clear hfz25_1); (try clear hfz25_2); (try clear hfz25_3); (try clear hfz25_4); (try clear p2); (try clear p6)
      obtain ⟨kq, x7_17, rfl, HA, HJ17, BK231, BK234, HB⟩ := hcut
      cases kq with
      | zero => exact absurd HA.out (by simp [law37_HoistKeeps.j1])
      | succ kj17 =>
       have H := HA.out
       clear HA
       simp only [law37_HoistKeeps.j1] at H
       replace H := Option.bind_eq_some_iff.mp H
       obtain ⟨⟨t235, t236, t237, t238⟩, A260, H⟩ := H
       replace H : (if t238 = 0 then (if t237 = true then (law37_HoistKeeps.j2 kj17 x6_1 true t226 t227 t228 t229 t230 t235 t236 t237) else (if t235 < 0 then (law37_HoistKeeps.j2 kj17 x6_1 true t226 t227 t228 t229 t230 t235 t236 t237) else (if t235 > t226 then (law37_HoistKeeps.j2 kj17 x6_1 true t226 t227 t228 t229 t230 t235 t236 t237) else (law37_HoistKeeps.j2 kj17 x6_1 (decide (t236 > t227)) t226 t227 t228 t229 t230 t235 t236 t237)))) else (law37_HoistKeeps.j2 kj17 x6_1 true t226 t227 t228 t229 t230 t235 t236 t237)) = some r := H
       have A26 := Aside0.mk A260
       clear A260
       have HC27 := Aside0.mk H
       clear H
       have hnb28 := NB231_234.out
       have hnc28 := NB234_231.out
       have hcz29_0 : wc.cell? ⟨gb231, 0, none⟩ = some (.int .i64 t226) := (blk_cell BK231.out 0).trans rfl
       have hcz29_1 : wc.cell? ⟨gb231, 1, none⟩ = some (.int .i64 t227) := (blk_cell BK231.out 1).trans rfl
       have hcz29_2 : wc.cell? ⟨gb231, 2, none⟩ = some (.int .i64 t228) := (blk_cell BK231.out 2).trans rfl
       have hcz29_3 : wc.cell? ⟨gb231, 3, none⟩ = some (.int .i64 t229) := (blk_cell BK231.out 3).trans rfl
       have hcz29_4 : wc.cell? ⟨gb231, 4, none⟩ = some (.int .i64 t230) := (blk_cell BK231.out 4).trans rfl
       have hfz29_0 := blk_frozen BK231.out 0
       have hfz29_1 := blk_frozen BK231.out 1
       have hfz29_2 := blk_frozen BK231.out 2
       have hfz29_3 := blk_frozen BK231.out 3
       have hfz29_4 := blk_frozen BK231.out 4
       have hcz30_0 : wc.cell? ⟨gb234, 0, none⟩ = some (.int .i64 x235000_1) := (blk_cell BK234.out 0).trans rfl
       have hcz30_1 : wc.cell? ⟨gb234, 1, none⟩ = some (.int .i64 x235001_1) := (blk_cell BK234.out 1).trans rfl
       have hcz30_2 : wc.cell? ⟨gb234, 2, none⟩ = some (.bool x235002_1) := (blk_cell BK234.out 2).trans rfl
       have hfz30_0 := blk_frozen BK234.out 0
       have hfz30_1 := blk_frozen BK234.out 1
       have hfz30_2 := blk_frozen BK234.out 2
       go_upto_region 14 with (first | ((with_reducible refine gate_callee (f := 30) rfl ?_); refine goesL_ (some 48) rfl rfl Try.func30 (by kernel_rfl) rfl #[.agg #[.int .i64 t226, .int .i64 t227, .int .i64 t228, .int .i64 t229, .int .i64 t230], .agg #[.int .i64 x235000_1, .int .i64 x235001_1, .bool x235002_1], .int .i64 (wrap64 (x7_17 - x235001_1))] rfl (by (try simp only [List.map_toArray, List.map_cons, List.map_nil]); first | done | rfl | (simp only [List.length_drop, List.length_take]; rfl)) ?_; (with_reducible refine (hoist_Tick.calls t226 t227 t228 t229 t230 x235000_1 x235001_1 x235002_1 (wrap64 (x7_17 - x235001_1)) t235 t236 t237 t238 _ A26.out).mono ?_); rintro e w31 ⟨rfl, hb⟩; refine ⟨_, rfl, ?_⟩; have n0_ := Aside0.mk (blk_below (g := gb231) (o := .cells #[.int .i64 t226, .int .i64 t227, .int .i64 t228, .int .i64 t229, .int .i64 t230] 45 (0, 0)) (by (with_reducible repeat (first | refine blk_drewN ?_ _ | refine blk_drew ?_ | refine blk_alloc ?_ _)); exact BK231.out) hb); have n1_ := Aside0.mk (blk_below (g := gb234) (o := .cells #[.int .i64 x235000_1, .int .i64 x235001_1, .bool x235002_1] 50 (0, 0)) (by (with_reducible repeat (first | refine blk_drewN ?_ _ | refine blk_drew ?_ | refine blk_alloc ?_ _)); exact BK234.out) hb); have n2_ := Aside0.mk (below_step (by repeat (first | (with_reducible first | exact HB.out | apply below_alloc | apply pw_below_drewN | apply below_drew1 | refine below_set ?_ GE231.out | refine below_set ?_ GE234.out) | exact HB.out)) hb); clear BK231; clear BK234; clear HB; have BK231 := n0_; have BK234 := n1_; have HB := n2_; clear n0_ n1_ n2_; (try clear hb); (try clear hb2); (try clear hk); (try clear hi)) | ((with_reducible refine gate_dst (N := 9) rfl ?_); refine box_event ?hg (N := 9) ?hd (cs := #[.int .i64 0, .int .i64 0, .bool false]) (t := 50) ?hr ?_; (case hd => rfl); (case hg => rfl); (case hr => first | (go_simp; done) | (go_simp; rfl)); intro gb239 hg w32 hbox hb; have n0_ := Aside0.mk (blk_below (g := gb231) (o := .cells #[.int .i64 t226, .int .i64 t227, .int .i64 t228, .int .i64 t229, .int .i64 t230] 45 (0, 0)) (by (with_reducible repeat (first | refine blk_drewN ?_ _ | refine blk_drew ?_ | refine blk_alloc ?_ _)); exact BK231.out) hb); have n1_ := Aside0.mk (blk_below (g := gb234) (o := .cells #[.int .i64 x235000_1, .int .i64 x235001_1, .bool x235002_1] 50 (0, 0)) (by (with_reducible repeat (first | refine blk_drewN ?_ _ | refine blk_drew ?_ | refine blk_alloc ?_ _)); exact BK234.out) hb); have n2_ := Aside0.mk (below_step (by repeat (first | (with_reducible first | exact HB.out | apply below_alloc | apply pw_below_drewN | apply below_drew1 | refine below_set ?_ GE231.out | refine below_set ?_ GE234.out) | exact HB.out)) hb); have n3_ := Aside0.mk (hbox); have n4_ := Aside0.mk ((by rw [hg]; exact (below_size (by repeat (first | (with_reducible first | exact HB.out | apply below_alloc | apply pw_below_drewN | apply below_drew1 | refine below_set ?_ GE231.out | refine below_set ?_ GE234.out) | exact HB.out))) : w.heap.size ≤ gb239)); have n5_ := Aside0.mk ((by rw [hg]; exact (below_size (by repeat (first | (with_reducible first | exact HB.out | apply below_alloc | apply pw_below_drewN | apply below_drew1 | refine below_set ?_ GE231.out | refine below_set ?_ GE234.out) | exact HB.out))) : w.heap.size ≤ gb239)); have n6_ := Aside0.mk ((by rw [hg]; exact Nat.ne_of_lt (blk_lt (g := gb231) (o := .cells #[.int .i64 t226, .int .i64 t227, .int .i64 t228, .int .i64 t229, .int .i64 t230] 45 (0, 0)) (by (with_reducible repeat (first | refine blk_drewN ?_ _ | refine blk_drew ?_ | refine blk_alloc ?_ _)); exact BK231.out)) : gb231 ≠ gb239)); have n7_ := Aside0.mk ((by rw [hg]; exact Nat.ne_of_gt (blk_lt (g := gb231) (o := .cells #[.int .i64 t226, .int .i64 t227, .int .i64 t228, .int .i64 t229, .int .i64 t230] 45 (0, 0)) (by (with_reducible repeat (first | refine blk_drewN ?_ _ | refine blk_drew ?_ | refine blk_alloc ?_ _)); exact BK231.out)) : gb239 ≠ gb231)); have n8_ := Aside0.mk ((by rw [hg]; exact Nat.ne_of_lt (blk_lt (g := gb234) (o := .cells #[.int .i64 x235000_1, .int .i64 x235001_1, .bool x235002_1] 50 (0, 0)) (by (with_reducible repeat (first | refine blk_drewN ?_ _ | refine blk_drew ?_ | refine blk_alloc ?_ _)); exact BK234.out)) : gb234 ≠ gb239)); have n9_ := Aside0.mk ((by rw [hg]; exact Nat.ne_of_gt (blk_lt (g := gb234) (o := .cells #[.int .i64 x235000_1, .int .i64 x235001_1, .bool x235002_1] 50 (0, 0)) (by (with_reducible repeat (first | refine blk_drewN ?_ _ | refine blk_drew ?_ | refine blk_alloc ?_ _)); exact BK234.out)) : gb239 ≠ gb234)); clear BK231; clear BK234; clear HB; have BK231 := n0_; have BK234 := n1_; have HB := n2_; have BK239 := n3_; have GW239 := n4_; have GE239 := n5_; have NB231_239 := n6_; have NB239_231 := n7_; have NB234_239 := n8_; have NB239_234 := n9_; clear n0_ n1_ n2_ n3_ n4_ n5_ n6_ n7_ n8_ n9_; clear hb hbox hg; have hnb33 := NB239_231.out; have hnc33 := NB231_239.out; have hnb34 := NB239_234.out; have hnc34 := NB234_239.out; have hcz35_0 : w32.cell? ⟨gb239, 0, none⟩ = some (.int .i64 0) := (blk_cell BK239.out 0).trans rfl; have hcz35_1 : w32.cell? ⟨gb239, 1, none⟩ = some (.int .i64 0) := (blk_cell BK239.out 1).trans rfl; have hcz35_2 : w32.cell? ⟨gb239, 2, none⟩ = some (.bool false) := (blk_cell BK239.out 2).trans rfl; have hfz35_0 := blk_frozen BK239.out 0; have hfz35_1 := blk_frozen BK239.out 1; have hfz35_2 := blk_frozen BK239.out 2))
       (try simp only [Act.put, List.setIfInBounds_toArray, List.set_cons_zero, List.set_cons_succ])
       go_cut [75] (fun v75 wc => ∃ (kq : Nat) (x75_26 : Bool), v75 = .bool x75_26 ∧ Aside0 (law37_HoistKeeps.j2 kq x6_1 x75_26 t226 t227 t228 t229 t230 t235 t236 t237 = some r) ∧ Aside0 (kq ≤ kj17) ∧ Aside0 (wc.heap[gb231]? = some (.cells #[.int .i64 t226, .int .i64 t227, .int .i64 t228, .int .i64 t229, .int .i64 t230] 45 (0, 0))) ∧ Aside0 (wc.heap[gb234]? = some (.cells #[.int .i64 x235000_1, .int .i64 x235001_1, .bool x235002_1] 50 (0, 0))) ∧ Aside0 (wc.heap[gb239]? = some (.cells #[.int .i64 t235, .int .i64 t236, .bool t237] 50 (0, 0))) ∧ Aside0 (Below w.heap.size w wc))
       case first =>
        have H := HC27.out
        clear HC27
        by_cases c36 : t238 = 0
        ·rw [if_pos c36] at H
         have c36b0 : (t238 == 0) = true := beq_iff_eq.mpr c36
         have c36b1 : (t238 != 0) = false := bne_eq_false_iff_eq.mpr c36
         clear c36
         (first | rw [c36b0] | (simp only [i64_w, i32_w]; rw [c36b0]) | skip)
         by_cases c37 : t237 = true
         ·subst c37
          have H1 : (law37_HoistKeeps.j2 kj17 x6_1 true t226 t227 t228 t229 t230 t235 t236 true) = some r := by rw [if_pos rfl] at H; exact H
          clear H
          have H := H1
          clear H1
          have H' := Aside0.mk H
          clear H
          have hnb38 := NB239_231.out
          have hnc38 := NB231_239.out
          have hnb39 := NB239_234.out
          have hnc39 := NB234_239.out
          have hcz40_0 : w32.cell? ⟨gb239, 0, none⟩ = some (.int .i64 0) := (blk_cell BK239.out 0).trans rfl
          have hcz40_1 : w32.cell? ⟨gb239, 1, none⟩ = some (.int .i64 0) := (blk_cell BK239.out 1).trans rfl
          have hcz40_2 : w32.cell? ⟨gb239, 2, none⟩ = some (.bool false) := (blk_cell BK239.out 2).trans rfl
          have hfz40_0 := blk_frozen BK239.out 0
          have hfz40_1 := blk_frozen BK239.out 1
          have hfz40_2 := blk_frozen BK239.out 2
          go_wp2
          go_meet
          case rel => exact ⟨_, (true), (by first | rfl | (simp; done) | (simp [*]; done)), H', ⟨by have := HK1.out; have := HJ17.out; first | omega | exact Nat.le_refl _⟩, ⟨by (with_reducible repeat (first | refine blk_drewN ?_ _ | refine blk_drew ?_ | refine blk_alloc ?_ _)); refine blk_far ?_ NB231_239.out _; (with_reducible repeat (first | refine blk_drewN ?_ _ | refine blk_drew ?_ | refine blk_alloc ?_ _)); refine blk_far ?_ NB231_239.out _; (with_reducible repeat (first | refine blk_drewN ?_ _ | refine blk_drew ?_ | refine blk_alloc ?_ _)); refine blk_far ?_ NB231_239.out _; (with_reducible repeat (first | refine blk_drewN ?_ _ | refine blk_drew ?_ | refine blk_alloc ?_ _)); exact BK231.out⟩, ⟨by (with_reducible repeat (first | refine blk_drewN ?_ _ | refine blk_drew ?_ | refine blk_alloc ?_ _)); refine blk_far ?_ NB234_239.out _; (with_reducible repeat (first | refine blk_drewN ?_ _ | refine blk_drew ?_ | refine blk_alloc ?_ _)); refine blk_far ?_ NB234_239.out _; (with_reducible repeat (first | refine blk_drewN ?_ _ | refine blk_drew ?_ | refine blk_alloc ?_ _)); refine blk_far ?_ NB234_239.out _; (with_reducible repeat (first | refine blk_drewN ?_ _ | refine blk_drew ?_ | refine blk_alloc ?_ _)); exact BK234.out⟩, ⟨by (with_reducible repeat (first | refine blk_drewN ?_ _ | refine blk_drew ?_ | refine blk_alloc ?_ _)); refine blk_put (cs := #[.int .i64 t235, .int .i64 t236, .bool false]) ?_ 2 _ rfl; (with_reducible repeat (first | refine blk_drewN ?_ _ | refine blk_drew ?_ | refine blk_alloc ?_ _)); refine blk_put (cs := #[.int .i64 t235, .int .i64 0, .bool false]) ?_ 1 _ rfl; (with_reducible repeat (first | refine blk_drewN ?_ _ | refine blk_drew ?_ | refine blk_alloc ?_ _)); refine blk_put (cs := #[.int .i64 0, .int .i64 0, .bool false]) ?_ 0 _ rfl; (with_reducible repeat (first | refine blk_drewN ?_ _ | refine blk_drew ?_ | refine blk_alloc ?_ _)); exact BK239.out⟩, ⟨by repeat (first | (with_reducible first | exact HB.out | apply below_alloc | apply pw_below_drewN | apply below_drew1 | refine below_set ?_ GE231.out | refine below_set ?_ GE234.out | refine below_set ?_ GE239.out) | exact HB.out)⟩⟩
         ·replace c37 := Bool.eq_false_iff.mpr c37
          subst c37
          have H1 : (if t235 < 0 then (law37_HoistKeeps.j2 kj17 x6_1 true t226 t227 t228 t229 t230 t235 t236 false) else (if t235 > t226 then (law37_HoistKeeps.j2 kj17 x6_1 true t226 t227 t228 t229 t230 t235 t236 false) else (law37_HoistKeeps.j2 kj17 x6_1 (decide (t236 > t227)) t226 t227 t228 t229 t230 t235 t236 false))) = some r := by rw [if_neg (show ¬ (false = true) by decide)] at H; exact H
          clear H
          have H := H1
          clear H1
          by_cases c41 : t235 < 0
          ·rw [if_pos c41] at H
           have c41b0 : decide (t235 < 0) = true := decide_eq_true c41
           clear c41
           have H' := Aside0.mk H
           clear H
           have hnb42 := NB239_231.out
           have hnc42 := NB231_239.out
           have hnb43 := NB239_234.out
           have hnc43 := NB234_239.out
           have hcz44_0 : w32.cell? ⟨gb239, 0, none⟩ = some (.int .i64 0) := (blk_cell BK239.out 0).trans rfl
           have hcz44_1 : w32.cell? ⟨gb239, 1, none⟩ = some (.int .i64 0) := (blk_cell BK239.out 1).trans rfl
           have hcz44_2 : w32.cell? ⟨gb239, 2, none⟩ = some (.bool false) := (blk_cell BK239.out 2).trans rfl
           have hfz44_0 := blk_frozen BK239.out 0
           have hfz44_1 := blk_frozen BK239.out 1
           have hfz44_2 := blk_frozen BK239.out 2
           go_wp2
           go_meet
           case rel => exact ⟨_, (true), (by first | rfl | (simp; done) | (simp [*]; done)), H', ⟨by have := HK1.out; have := HJ17.out; first | omega | exact Nat.le_refl _⟩, ⟨by (with_reducible repeat (first | refine blk_drewN ?_ _ | refine blk_drew ?_ | refine blk_alloc ?_ _)); refine blk_far ?_ NB231_239.out _; (with_reducible repeat (first | refine blk_drewN ?_ _ | refine blk_drew ?_ | refine blk_alloc ?_ _)); refine blk_far ?_ NB231_239.out _; (with_reducible repeat (first | refine blk_drewN ?_ _ | refine blk_drew ?_ | refine blk_alloc ?_ _)); refine blk_far ?_ NB231_239.out _; (with_reducible repeat (first | refine blk_drewN ?_ _ | refine blk_drew ?_ | refine blk_alloc ?_ _)); exact BK231.out⟩, ⟨by (with_reducible repeat (first | refine blk_drewN ?_ _ | refine blk_drew ?_ | refine blk_alloc ?_ _)); refine blk_far ?_ NB234_239.out _; (with_reducible repeat (first | refine blk_drewN ?_ _ | refine blk_drew ?_ | refine blk_alloc ?_ _)); refine blk_far ?_ NB234_239.out _; (with_reducible repeat (first | refine blk_drewN ?_ _ | refine blk_drew ?_ | refine blk_alloc ?_ _)); refine blk_far ?_ NB234_239.out _; (with_reducible repeat (first | refine blk_drewN ?_ _ | refine blk_drew ?_ | refine blk_alloc ?_ _)); exact BK234.out⟩, ⟨by (with_reducible repeat (first | refine blk_drewN ?_ _ | refine blk_drew ?_ | refine blk_alloc ?_ _)); refine blk_put (cs := #[.int .i64 t235, .int .i64 t236, .bool false]) ?_ 2 _ rfl; (with_reducible repeat (first | refine blk_drewN ?_ _ | refine blk_drew ?_ | refine blk_alloc ?_ _)); refine blk_put (cs := #[.int .i64 t235, .int .i64 0, .bool false]) ?_ 1 _ rfl; (with_reducible repeat (first | refine blk_drewN ?_ _ | refine blk_drew ?_ | refine blk_alloc ?_ _)); refine blk_put (cs := #[.int .i64 0, .int .i64 0, .bool false]) ?_ 0 _ rfl; (with_reducible repeat (first | refine blk_drewN ?_ _ | refine blk_drew ?_ | refine blk_alloc ?_ _)); exact BK239.out⟩, ⟨by repeat (first | (with_reducible first | exact HB.out | apply below_alloc | apply pw_below_drewN | apply below_drew1 | refine below_set ?_ GE231.out | refine below_set ?_ GE234.out | refine below_set ?_ GE239.out) | exact HB.out)⟩⟩
          ·rw [if_neg c41] at H
           have c41b0 : decide (t235 < 0) = false := decide_eq_false c41
           clear c41
           by_cases c45 : t235 > t226
           ·rw [if_pos c45] at H
            have c45b0 : decide (t226 < t235) = true := decide_eq_true c45
            clear c45
            have H' := Aside0.mk H
            clear H
            have hnb46 := NB239_231.out
            have hnc46 := NB231_239.out
            have hnb47 := NB239_234.out
            have hnc47 := NB234_239.out
            have hcz48_0 : w32.cell? ⟨gb239, 0, none⟩ = some (.int .i64 0) := (blk_cell BK239.out 0).trans rfl
            have hcz48_1 : w32.cell? ⟨gb239, 1, none⟩ = some (.int .i64 0) := (blk_cell BK239.out 1).trans rfl
            have hcz48_2 : w32.cell? ⟨gb239, 2, none⟩ = some (.bool false) := (blk_cell BK239.out 2).trans rfl
            have hfz48_0 := blk_frozen BK239.out 0
            have hfz48_1 := blk_frozen BK239.out 1
            have hfz48_2 := blk_frozen BK239.out 2
            have hnb49 := NB231_234.out
            have hnc49 := NB234_231.out
            have hcz50_0 : w32.cell? ⟨gb231, 0, none⟩ = some (.int .i64 t226) := (blk_cell BK231.out 0).trans rfl
            have hcz50_1 : w32.cell? ⟨gb231, 1, none⟩ = some (.int .i64 t227) := (blk_cell BK231.out 1).trans rfl
            have hcz50_2 : w32.cell? ⟨gb231, 2, none⟩ = some (.int .i64 t228) := (blk_cell BK231.out 2).trans rfl
            have hcz50_3 : w32.cell? ⟨gb231, 3, none⟩ = some (.int .i64 t229) := (blk_cell BK231.out 3).trans rfl
            have hcz50_4 : w32.cell? ⟨gb231, 4, none⟩ = some (.int .i64 t230) := (blk_cell BK231.out 4).trans rfl
            have hfz50_0 := blk_frozen BK231.out 0
            have hfz50_1 := blk_frozen BK231.out 1
            have hfz50_2 := blk_frozen BK231.out 2
            have hfz50_3 := blk_frozen BK231.out 3
            have hfz50_4 := blk_frozen BK231.out 4
            go_wp2
            go_meet
            case rel => exact ⟨_, (true), (by first | rfl | (simp; done) | (simp [*]; done)), H', ⟨by have := HK1.out; have := HJ17.out; first | omega | exact Nat.le_refl _⟩, ⟨by (with_reducible repeat (first | refine blk_drewN ?_ _ | refine blk_drew ?_ | refine blk_alloc ?_ _)); refine blk_far ?_ NB231_239.out _; (with_reducible repeat (first | refine blk_drewN ?_ _ | refine blk_drew ?_ | refine blk_alloc ?_ _)); refine blk_far ?_ NB231_239.out _; (with_reducible repeat (first | refine blk_drewN ?_ _ | refine blk_drew ?_ | refine blk_alloc ?_ _)); refine blk_far ?_ NB231_239.out _; (with_reducible repeat (first | refine blk_drewN ?_ _ | refine blk_drew ?_ | refine blk_alloc ?_ _)); exact BK231.out⟩, ⟨by (with_reducible repeat (first | refine blk_drewN ?_ _ | refine blk_drew ?_ | refine blk_alloc ?_ _)); refine blk_far ?_ NB234_239.out _; (with_reducible repeat (first | refine blk_drewN ?_ _ | refine blk_drew ?_ | refine blk_alloc ?_ _)); refine blk_far ?_ NB234_239.out _; (with_reducible repeat (first | refine blk_drewN ?_ _ | refine blk_drew ?_ | refine blk_alloc ?_ _)); refine blk_far ?_ NB234_239.out _; (with_reducible repeat (first | refine blk_drewN ?_ _ | refine blk_drew ?_ | refine blk_alloc ?_ _)); exact BK234.out⟩, ⟨by (with_reducible repeat (first | refine blk_drewN ?_ _ | refine blk_drew ?_ | refine blk_alloc ?_ _)); refine blk_put (cs := #[.int .i64 t235, .int .i64 t236, .bool false]) ?_ 2 _ rfl; (with_reducible repeat (first | refine blk_drewN ?_ _ | refine blk_drew ?_ | refine blk_alloc ?_ _)); refine blk_put (cs := #[.int .i64 t235, .int .i64 0, .bool false]) ?_ 1 _ rfl; (with_reducible repeat (first | refine blk_drewN ?_ _ | refine blk_drew ?_ | refine blk_alloc ?_ _)); refine blk_put (cs := #[.int .i64 0, .int .i64 0, .bool false]) ?_ 0 _ rfl; (with_reducible repeat (first | refine blk_drewN ?_ _ | refine blk_drew ?_ | refine blk_alloc ?_ _)); exact BK239.out⟩, ⟨by repeat (first | (with_reducible first | exact HB.out | apply below_alloc | apply pw_below_drewN | apply below_drew1 | refine below_set ?_ GE231.out | refine below_set ?_ GE234.out | refine below_set ?_ GE239.out) | exact HB.out)⟩⟩
           ·rw [if_neg c45] at H
            have c45b0 : decide (t226 < t235) = false := decide_eq_false c45
            clear c45
            have H' := Aside0.mk H
            clear H
            have hnb51 := NB239_231.out
            have hnc51 := NB231_239.out
            have hnb52 := NB239_234.out
            have hnc52 := NB234_239.out
            have hcz53_0 : w32.cell? ⟨gb239, 0, none⟩ = some (.int .i64 0) := (blk_cell BK239.out 0).trans rfl
            have hcz53_1 : w32.cell? ⟨gb239, 1, none⟩ = some (.int .i64 0) := (blk_cell BK239.out 1).trans rfl
            have hcz53_2 : w32.cell? ⟨gb239, 2, none⟩ = some (.bool false) := (blk_cell BK239.out 2).trans rfl
            have hfz53_0 := blk_frozen BK239.out 0
            have hfz53_1 := blk_frozen BK239.out 1
            have hfz53_2 := blk_frozen BK239.out 2
            have hnb54 := NB231_234.out
            have hnc54 := NB234_231.out
            have hcz55_0 : w32.cell? ⟨gb231, 0, none⟩ = some (.int .i64 t226) := (blk_cell BK231.out 0).trans rfl
            have hcz55_1 : w32.cell? ⟨gb231, 1, none⟩ = some (.int .i64 t227) := (blk_cell BK231.out 1).trans rfl
            have hcz55_2 : w32.cell? ⟨gb231, 2, none⟩ = some (.int .i64 t228) := (blk_cell BK231.out 2).trans rfl
            have hcz55_3 : w32.cell? ⟨gb231, 3, none⟩ = some (.int .i64 t229) := (blk_cell BK231.out 3).trans rfl
            have hcz55_4 : w32.cell? ⟨gb231, 4, none⟩ = some (.int .i64 t230) := (blk_cell BK231.out 4).trans rfl
            have hfz55_0 := blk_frozen BK231.out 0
            have hfz55_1 := blk_frozen BK231.out 1
            have hfz55_2 := blk_frozen BK231.out 2
            have hfz55_3 := blk_frozen BK231.out 3
            have hfz55_4 := blk_frozen BK231.out 4
            go_wp2
            go_meet
            case rel => exact ⟨_, (decide (t236 > t227)), (by first | rfl | (simp; done) | (simp [*]; done)), H', ⟨by have := HK1.out; have := HJ17.out; first | omega | exact Nat.le_refl _⟩, ⟨by (with_reducible repeat (first | refine blk_drewN ?_ _ | refine blk_drew ?_ | refine blk_alloc ?_ _)); refine blk_far ?_ NB231_239.out _; (with_reducible repeat (first | refine blk_drewN ?_ _ | refine blk_drew ?_ | refine blk_alloc ?_ _)); refine blk_far ?_ NB231_239.out _; (with_reducible repeat (first | refine blk_drewN ?_ _ | refine blk_drew ?_ | refine blk_alloc ?_ _)); refine blk_far ?_ NB231_239.out _; (with_reducible repeat (first | refine blk_drewN ?_ _ | refine blk_drew ?_ | refine blk_alloc ?_ _)); exact BK231.out⟩, ⟨by (with_reducible repeat (first | refine blk_drewN ?_ _ | refine blk_drew ?_ | refine blk_alloc ?_ _)); refine blk_far ?_ NB234_239.out _; (with_reducible repeat (first | refine blk_drewN ?_ _ | refine blk_drew ?_ | refine blk_alloc ?_ _)); refine blk_far ?_ NB234_239.out _; (with_reducible repeat (first | refine blk_drewN ?_ _ | refine blk_drew ?_ | refine blk_alloc ?_ _)); refine blk_far ?_ NB234_239.out _; (with_reducible repeat (first | refine blk_drewN ?_ _ | refine blk_drew ?_ | refine blk_alloc ?_ _)); exact BK234.out⟩, ⟨by (with_reducible repeat (first | refine blk_drewN ?_ _ | refine blk_drew ?_ | refine blk_alloc ?_ _)); refine blk_put (cs := #[.int .i64 t235, .int .i64 t236, .bool false]) ?_ 2 _ rfl; (with_reducible repeat (first | refine blk_drewN ?_ _ | refine blk_drew ?_ | refine blk_alloc ?_ _)); refine blk_put (cs := #[.int .i64 t235, .int .i64 0, .bool false]) ?_ 1 _ rfl; (with_reducible repeat (first | refine blk_drewN ?_ _ | refine blk_drew ?_ | refine blk_alloc ?_ _)); refine blk_put (cs := #[.int .i64 0, .int .i64 0, .bool false]) ?_ 0 _ rfl; (with_reducible repeat (first | refine blk_drewN ?_ _ | refine blk_drew ?_ | refine blk_alloc ?_ _)); exact BK239.out⟩, ⟨by repeat (first | (with_reducible first | exact HB.out | apply below_alloc | apply pw_below_drewN | apply below_drew1 | refine below_set ?_ GE231.out | refine below_set ?_ GE234.out | refine below_set ?_ GE239.out) | exact HB.out)⟩⟩
        ·rw [if_neg c36] at H
         have c36b0 : (t238 == 0) = false := beq_eq_false_iff_ne.mpr c36
         have c36b1 : (t238 != 0) = true := bne_iff_ne.mpr c36
         (first | rw [c36b0] | (simp only [i64_w, i32_w]; rw [c36b0]) | skip)
         have H' := Aside0.mk H
         clear H
         go_wp2
         go_meet
         case rel => exact ⟨_, (true), (by first | rfl | (simp; done) | (simp [*]; done)), H', ⟨by have := HK1.out; have := HJ17.out; first | omega | exact Nat.le_refl _⟩, ⟨by (with_reducible repeat (first | refine blk_drewN ?_ _ | refine blk_drew ?_ | refine blk_alloc ?_ _)); refine blk_far ?_ NB231_239.out _; (with_reducible repeat (first | refine blk_drewN ?_ _ | refine blk_drew ?_ | refine blk_alloc ?_ _)); refine blk_far ?_ NB231_239.out _; (with_reducible repeat (first | refine blk_drewN ?_ _ | refine blk_drew ?_ | refine blk_alloc ?_ _)); refine blk_far ?_ NB231_239.out _; (with_reducible repeat (first | refine blk_drewN ?_ _ | refine blk_drew ?_ | refine blk_alloc ?_ _)); exact BK231.out⟩, ⟨by (with_reducible repeat (first | refine blk_drewN ?_ _ | refine blk_drew ?_ | refine blk_alloc ?_ _)); refine blk_far ?_ NB234_239.out _; (with_reducible repeat (first | refine blk_drewN ?_ _ | refine blk_drew ?_ | refine blk_alloc ?_ _)); refine blk_far ?_ NB234_239.out _; (with_reducible repeat (first | refine blk_drewN ?_ _ | refine blk_drew ?_ | refine blk_alloc ?_ _)); refine blk_far ?_ NB234_239.out _; (with_reducible repeat (first | refine blk_drewN ?_ _ | refine blk_drew ?_ | refine blk_alloc ?_ _)); exact BK234.out⟩, ⟨by (with_reducible repeat (first | refine blk_drewN ?_ _ | refine blk_drew ?_ | refine blk_alloc ?_ _)); refine blk_put (cs := #[.int .i64 t235, .int .i64 t236, .bool false]) ?_ 2 _ rfl; (with_reducible repeat (first | refine blk_drewN ?_ _ | refine blk_drew ?_ | refine blk_alloc ?_ _)); refine blk_put (cs := #[.int .i64 t235, .int .i64 0, .bool false]) ?_ 1 _ rfl; (with_reducible repeat (first | refine blk_drewN ?_ _ | refine blk_drew ?_ | refine blk_alloc ?_ _)); refine blk_put (cs := #[.int .i64 0, .int .i64 0, .bool false]) ?_ 0 _ rfl; (with_reducible repeat (first | refine blk_drewN ?_ _ | refine blk_drew ?_ | refine blk_alloc ?_ _)); exact BK239.out⟩, ⟨by repeat (first | (with_reducible first | exact HB.out | apply below_alloc | apply pw_below_drewN | apply below_drew1 | refine below_set ?_ GE231.out | refine below_set ?_ GE234.out | refine below_set ?_ GE239.out) | exact HB.out)⟩⟩
       case rest =>
        clear HC27; (try clear c1); (try clear c2); (try clear p2); (try clear c3); (try clear c4); (try clear c5); (try clear p6); (try clear c8); (try clear c10); (try clear c14); (try clear c15); (try clear c17); (try clear c17b0); (try clear c19); (try clear c22); (try clear c22b0); (try clear c24); (try clear c28); (try clear c30); (try clear c31); (try clear c33); (try clear c34); (try clear c36); (try clear c36b0); (try clear c36b1); (try clear c37); (try clear c38); (try clear c39); (try clear c41); (try clear c41b0); (try clear c42); (try clear c43); (try clear c45); (try clear c45b0)
        (try clear c46); (try clear c47); (try clear c49); (try clear c51); (try clear c52); (try clear c54); (try clear hcz11_0); (try clear hcz11_1); (try clear hcz11_2); (try clear hcz11_3); (try clear hcz11_4); (try clear hcz16_0); (try clear hcz16_1); (try clear hcz16_2); (try clear hcz20_0); (try clear hcz20_1); (try clear hcz20_2); (try clear hcz20_3); (try clear hcz20_4); (try clear hcz21_0); (try clear hcz21_1); (try clear hcz21_2); (try clear hcz25_0); (try clear hcz25_1); (try clear hcz25_2); (try clear hcz25_3); (try clear hcz25_4); (try clear hcz29_0); (try clear hcz29_1); (try clear hcz29_2)
        (try clear hcz29_3); (try clear hcz29_4); (try clear hcz30_0); (try clear hcz30_1); (try clear hcz30_2); (try clear hcz35_0); (try clear hcz35_1); (try clear hcz35_2); (try clear hcz40_0); (try clear hcz40_1); (try clear hcz40_2); (try clear hcz44_0); (try clear hcz44_1); (try clear hcz44_2); (try clear hcz48_0); (try clear hcz48_1); (try clear hcz48_2); (try clear hcz50_0); (try clear hcz50_1); (try clear hcz50_2); (try clear hcz50_3); (try clear hcz50_4); (try clear hcz53_0); (try clear hcz53_1); (try clear hcz53_2); (try clear hcz55_0); (try clear hcz55_1); (try clear hcz55_2); (try clear hcz55_3)
        (try clear hcz55_4); (try clear hfz11_0); (try clear hfz11_1); (try clear hfz11_2); (try clear hfz11_3); (try clear hfz11_4); (try clear hfz16_0); (try clear hfz16_1); (try clear hfz16_2); (try clear hfz20_0); (try clear hfz20_1); (try clear hfz20_2); (try clear hfz20_3); (try clear hfz20_4); (try clear hfz21_0); (try clear hfz21_1); (try clear hfz21_2); (try clear hfz25_0); (try clear hfz25_1); (try clear hfz25_2); (try clear hfz25_3); (try clear hfz25_4); (try clear hfz29_0); (try clear hfz29_1); (try clear hfz29_2); (try clear hfz29_3); (try clear hfz29_4); (try clear hfz30_0); (try clear hfz30_1)
        (try clear hfz30_2); (try clear hfz35_0); (try clear hfz35_1); (try clear hfz35_2); (try clear hfz40_0); (try clear hfz40_1); (try clear hfz40_2); (try clear hfz44_0); (try clear hfz44_1); (try clear hfz44_2); (try clear hfz48_0); (try clear hfz48_1); (try clear hfz48_2); (try clear hfz50_0); (try clear hfz50_1); (try clear hfz50_2); (try clear hfz50_3); (try clear hfz50_4); (try clear hfz53_0); (try clear hfz53_1); (try clear hfz53_2); (try clear hfz55_0); (try clear hfz55_1); (try clear hfz55_2); (try clear hfz55_3); (try clear hfz55_4); (try clear p2); (try clear p6)
        obtain ⟨kq, x75_26, rfl, HA, HJ26, BK231, BK234, BK239, HB⟩ := hcut
        cases kq with
        | zero => exact absurd HA.out (by simp [law37_HoistKeeps.j2])
        | succ kj26 =>
         have H := HA.out
         clear HA
         simp only [law37_HoistKeeps.j2] at H
         by_cases c56 : x75_26 = true
         ·subst c56
          have H1 : (none) = some r := by rw [if_pos rfl] at H; exact H
          clear H
          have H := H1
          clear H1
          exact absurd H (by simp)
         ·replace c56 := Bool.eq_false_iff.mpr c56
          subst c56
          have H1 : (law37_HoistKeeps.l0 kj26 (wrap64 (x6_1 + 1)) t226 t227 t228 t229 t230 t235 t236 t237) = some r := by rw [if_neg (show ¬ (false = true) by decide)] at H; exact H
          clear H
          have H := H1
          clear H1
          have H' := Aside0.mk H
          clear H
          have hnb57 := NB239_231.out
          have hnc57 := NB231_239.out
          have hnb58 := NB239_234.out
          have hnc58 := NB234_239.out
          have hcz59_0 : wc.cell? ⟨gb239, 0, none⟩ = some (.int .i64 t235) := (blk_cell BK239.out 0).trans rfl
          have hcz59_1 : wc.cell? ⟨gb239, 1, none⟩ = some (.int .i64 t236) := (blk_cell BK239.out 1).trans rfl
          have hcz59_2 : wc.cell? ⟨gb239, 2, none⟩ = some (.bool t237) := (blk_cell BK239.out 2).trans rfl
          have hfz59_0 := blk_frozen BK239.out 0
          have hfz59_1 := blk_frozen BK239.out 1
          have hfz59_2 := blk_frozen BK239.out 2
          have hnb60 := NB234_231.out
          have hnc60 := NB231_234.out
          have hcz61_0 : wc.cell? ⟨gb234, 0, none⟩ = some (.int .i64 x235000_1) := (blk_cell BK234.out 0).trans rfl
          have hcz61_1 : wc.cell? ⟨gb234, 1, none⟩ = some (.int .i64 x235001_1) := (blk_cell BK234.out 1).trans rfl
          have hcz61_2 : wc.cell? ⟨gb234, 2, none⟩ = some (.bool x235002_1) := (blk_cell BK234.out 2).trans rfl
          have hfz61_0 := blk_frozen BK234.out 0
          have hfz61_1 := blk_frozen BK234.out 1
          have hfz61_2 := blk_frozen BK234.out 2
          go_wp2
          go_roundg kj26
          case measure => have := HK1.out; have := HJ17.out; have := HJ26.out; omega
          case rel => exact ⟨(wrap64 (x6_1 + 1)), (t235), (t236), (t237), (by first | rfl | (simp; done) | (simp [*]; done)), H', ⟨by have := HK1.out; have := HJ17.out; have := HJ26.out; omega⟩, ⟨by (with_reducible repeat (first | refine blk_drewN ?_ _ | refine blk_drew ?_ | refine blk_alloc ?_ _)); refine blk_far ?_ NB231_234.out _; (with_reducible repeat (first | refine blk_drewN ?_ _ | refine blk_drew ?_ | refine blk_alloc ?_ _)); refine blk_far ?_ NB231_234.out _; (with_reducible repeat (first | refine blk_drewN ?_ _ | refine blk_drew ?_ | refine blk_alloc ?_ _)); refine blk_far ?_ NB231_234.out _; (with_reducible repeat (first | refine blk_drewN ?_ _ | refine blk_drew ?_ | refine blk_alloc ?_ _)); exact BK231.out⟩, ⟨by (with_reducible repeat (first | refine blk_drewN ?_ _ | refine blk_drew ?_ | refine blk_alloc ?_ _)); refine blk_put (cs := #[.int .i64 t235, .int .i64 t236, .bool x235002_1]) ?_ 2 _ rfl; (with_reducible repeat (first | refine blk_drewN ?_ _ | refine blk_drew ?_ | refine blk_alloc ?_ _)); refine blk_put (cs := #[.int .i64 t235, .int .i64 x235001_1, .bool x235002_1]) ?_ 1 _ rfl; (with_reducible repeat (first | refine blk_drewN ?_ _ | refine blk_drew ?_ | refine blk_alloc ?_ _)); refine blk_put (cs := #[.int .i64 x235000_1, .int .i64 x235001_1, .bool x235002_1]) ?_ 0 _ rfl; (with_reducible repeat (first | refine blk_drewN ?_ _ | refine blk_drew ?_ | refine blk_alloc ?_ _)); exact BK234.out⟩, ⟨by repeat (first | (with_reducible first | exact HB.out | apply below_alloc | apply pw_below_drewN | apply below_drew1 | refine below_set ?_ GE231.out | refine below_set ?_ GE234.out | refine below_set ?_ GE239.out) | exact HB.out)⟩⟩
    ·rw [if_neg c17] at H
     have c17b0 : decide (x6_1 < 120) = false := decide_eq_false c17
     clear c17
     replace H := Option.bind_eq_some_iff.mp H
     obtain ⟨t240, A620, H⟩ := H
     replace H : (some t240) = some r := H
     have A62 := Aside0.mk A620
     clear A620
     obtain rfl := Option.some.inj H
     go_wp2_with (first | ((with_reducible refine gate_callee (f := 25) rfl ?_); refine goesL_ (some 77) rfl rfl Try.func25 (by kernel_rfl) rfl #[] rfl (by (try simp only [List.map_toArray, List.map_cons, List.map_nil]); first | done | rfl | (simp only [List.length_drop, List.length_take]; rfl)) ?_; (with_reducible refine (law37_awake.calls  t240 _ A62.out).mono ?_); rintro e w63 ⟨rfl, hb⟩; refine ⟨_, rfl, ?_⟩; have n0_ := Aside0.mk (blk_below (g := gb231) (o := .cells #[.int .i64 t226, .int .i64 t227, .int .i64 t228, .int .i64 t229, .int .i64 t230] 45 (0, 0)) (by (with_reducible repeat (first | refine blk_drewN ?_ _ | refine blk_drew ?_ | refine blk_alloc ?_ _)); exact BK231.out) hb); have n1_ := Aside0.mk (blk_below (g := gb234) (o := .cells #[.int .i64 x235000_1, .int .i64 x235001_1, .bool x235002_1] 50 (0, 0)) (by (with_reducible repeat (first | refine blk_drewN ?_ _ | refine blk_drew ?_ | refine blk_alloc ?_ _)); exact BK234.out) hb); have n2_ := Aside0.mk (below_step (by repeat (first | (with_reducible first | exact HB.out | apply below_alloc | apply pw_below_drewN | apply below_drew1 | refine below_set ?_ GE231.out | refine below_set ?_ GE234.out) | exact HB.out)) hb); clear BK231; clear BK234; clear HB; have BK231 := n0_; have BK234 := n1_; have HB := n2_; clear n0_ n1_ n2_; (try clear hb); (try clear hb2); (try clear hk); (try clear hi)))
     go_ret
     exact ⟨by first | rfl | (simp [errW_none, errW_some] <;> rfl) | (simp [*, errW_none, errW_some] <;> rfl), by repeat (first | (with_reducible first | exact HB.out | apply below_alloc | apply pw_below_drewN | apply below_drew1 | refine below_set ?_ GE231.out | refine below_set ?_ GE234.out) | exact HB.out)⟩
 ·replace c3 := Bool.eq_false_iff.mpr c3
  subst c3
  have H1 : ((law37_awake.f).bind fun t222 => (some t222)) = some r := by rw [if_neg (show ¬ (false = true) by decide)] at H; exact H
  clear H
  have H := H1
  clear H1
  replace H := Option.bind_eq_some_iff.mp H
  obtain ⟨t222, A640, H⟩ := H
  replace H : (some t222) = some r := H
  have A64 := Aside0.mk A640
  clear A640
  obtain rfl := Option.some.inj H
  go_enter Try.func8, Try.ntmps8
  go_wp2_with (first | ((with_reducible refine gate_callee (f := 14) rfl ?_); refine goesL_ (some 12) rfl rfl Try.func14 (by kernel_rfl) rfl #[.slice A0 l0.length c0] rfl (by (try simp only [List.map_toArray, List.map_cons, List.map_nil]); first | done | rfl | (simp only [List.length_drop, List.length_take]; rfl)) ?_; (with_reducible refine (made_Light.calls _ _ l0 false _ ?side1 ?side2 A2.out).mono ?_); (case side1 => repeat (first | exact HR0.out | (with_reducible refine Kd.C_alloc ?_ _) | (with_reducible refine Kd.C_drewN ?_ _) | (with_reducible refine Kd.C_drew ?_))); (case side2 => exact HC0.out); rintro e w' ⟨rfl, ⟨nd, rfl⟩⟩; refine ⟨_, rfl, ?_⟩) | ((with_reducible refine gate_callee (f := 25) rfl ?_); refine goesL_ (some 14) rfl rfl Try.func25 (by kernel_rfl) rfl #[] rfl (by (try simp only [List.map_toArray, List.map_cons, List.map_nil]); first | done | rfl | (simp only [List.length_drop, List.length_take]; rfl)) ?_; (with_reducible refine (law37_awake.calls  t222 _ A64.out).mono ?_); rintro e w65 ⟨rfl, hb⟩; refine ⟨_, rfl, ?_⟩; have n0_ := Aside0.mk (below_step (by repeat (first | (with_reducible first | exact HB.out | apply below_alloc | apply pw_below_drewN | apply below_drew1) | exact HB.out)) hb); clear HB; have HB := n0_; clear n0_; (try clear hb); (try clear hb2); (try clear hk); (try clear hi)))
  go_ret
  exact ⟨by first | rfl | (simp [errW_none, errW_some] <;> rfl) | (simp [*, errW_none, errW_some] <;> rfl), by repeat (first | (with_reducible first | exact HB.out | apply below_alloc | apply pw_below_drewN | apply below_drew1) | exact HB.out)⟩

/-- THE ONE PURE STATEMENT of law37_HoistKeeps: yours. -/
def law37_HoistKeeps.Pure : Prop := ∀ (l0 : List Int), l0.length ≤ maxLen → l0.length * 8 ≤ 140737488351232 → (∀ x ∈ l0, (Lit.int .i64 x).wf = true) → ∃ k, law37_HoistKeeps.f k l0 = some true
theorem law37_HoistKeeps.walk (P : law37_HoistKeeps.Pure) (a0 : Option Addr) (len0 cap0 : Nat) (z0 : List Int) (w : World) (w0 : (a0 = none ∧ len0 = 0 ∧ cap0 = 0 ∧ z0 = []) ∨ ∃ x, a0 = some x ∧ len0 ≤ cap0 ∧ cap0 ≤ maxLen ∧ z0.length = cap0 ∧ (∀ i, i < z0.length → w.cell? (x.add i) = some (.int .i64 (z0.getD i 0))) ∧ ∀ n ∈ z0, (Lit.int .i64 n).wf = true) (y0 : len0 * 8 ≤ 140737488351232) :
  Calls Try.prog 8 #[.slice a0 len0 cap0] w fun e w' => e = .returned (.bool true) ∧ Below w.heap.size w w' := by
 obtain ⟨l0, rfl, hr0, hm0, hw0, hc0⟩ := ReadsInt.ofRowC w0
 obtain ⟨k, h⟩ := P l0 hm0 y0 hw0
 refine (law37_HoistKeeps.calls k _ _ l0 true w (Kd.C_of_reads (d := (0 : Int)) (h1 := fun _ => rfl) hr0) hc0 h).mono ?_
 rintro e w' ⟨rfl, hd⟩
 exact ⟨rfl, hd⟩

end Go.Proofs.Ytcebojamjllmjaa.PHoist
