import Derived.Test.YtejmjeanhlkenaaCP0
import Derived.Test.YtejmjeanhlkenaaCP24
import Derived.Test.YtejmjeanhlkenaaCP10
-- written by wip/myprint.py (the kit's print over hand-proved contracts)
namespace Go.Proofs.Ytejmjeanhlkenaa.PB
open Go.RowKit Go.Proofs.YtejmjeanhlkenaaW.PrintWords Go.Proofs.YtejmjeanhlkenaaW.PrintLast Go.Proofs.YtejmjeanhlkenaaW.PrintMore
attribute [local go_sem] max2_int min2_int max_two min_two max_three min_three max_four min_four   -- for this text's walks alone
set_option linter.unusedVariables false
set_option linter.unusedSimpArgs false

/-! ### ref39_stop: function 58 -/
def ref39_stop.l0 : Nat → List Int → Int → Int → List Int → List Int → List Bool → List Bool → Option (Int × List Int × List Int × List Bool × List Bool)
 | 0, _, _, _, _, _, _, _ => none
 | k + 1, x7, x8, x425000, x425001, x425002, x425003, x425004 => if x8 < (x7.length : Int) then (if 0 ≤ x8 then (if 0 ≤ (rd x7 x8) then (if (rd x7 x8) < (x425001.length : Int) then (if (rd x425001 (rd x7 x8)) = 0 then (ref39_stop.l0 k x7 (wrap64 (x8 + 1)) x425000 x425001 x425002 x425003 x425004) else (if (rd x7 x8) < (x425002.length : Int) then (ref39_stop.l0 k x7 (wrap64 (x8 + 1)) x425000 (x425001.set ((rd x7 x8) : Int).toNat 0) (x425002.set ((rd x7 x8) : Int).toNat x425000) x425003 x425004) else (none))) else (none)) else (none)) else (none)) else (some (x425000, x425001, x425002, x425003, x425004))
def ref39_stop.f (k : Nat) (l0 : List (S31)) (a1_0 : Int) (l1_1 : List Int) (l1_2 : List Int) (l1_3 : List Bool) (l1_4 : List Bool) (a2 : Int) : Option (Int × List Int × List Int × List Bool × List Bool) := (ref39_Copy.f a1_0 l1_1 l1_2 l1_3 l1_4).bind fun bt426 => ((ref39_Above.f k l0 a2).bind fun t439 => (if t439.length < 17592186044416 then (ref39_stop.l0 k (t439 ++ [a2]) 0 bt426.1 bt426.2.1 bt426.2.2.1 bt426.2.2.2.1 bt426.2.2.2.2) else (none)))
theorem ref39_stop.mono_l : ∀ k, (∀ y0 y1 y2 y3 y4 y5 y6, LeO (ref39_stop.l0 k y0 y1 y2 y3 y4 y5 y6) (ref39_stop.l0 (k + 1) y0 y1 y2 y3 y4 y5 y6))
 | 0 => fun _ _ _ _ _ _ _ r h => by simp [ref39_stop.l0] at h
 | k + 1 => by
  have ih0 := ref39_stop.mono_l k
  ·intro y0 y1 y2 y3 y4 y5 y6
   unfold ref39_stop.l0
   repeat' first
   | (with_reducible exact ih0 _ _ _ _ _ _ _)
   | (with_reducible exact ref39_Above.mono _ _ _)
   | (with_reducible exact LeO.refl _)
   | (with_reducible exact LeO.none _)
   | (with_reducible refine LeO.ite ?_ ?_)
   | (with_reducible refine LeO.bind ?_ (fun _ => ?_))
   | exact ih0 _ _ _ _ _ _ _
   | exact ref39_Above.mono _ _ _
   | exact LeO.none _
   | refine LeO.ite ?_ ?_
   | refine LeO.bind ?_ (fun _ => ?_)
theorem ref39_stop.mono : ∀ a0 a1 a2 a3 a4 a5 a6 k, LeO (ref39_stop.f k a0 a1 a2 a3 a4 a5 a6) (ref39_stop.f (k + 1) a0 a1 a2 a3 a4 a5 a6) := by
 intro a0 a1 a2 a3 a4 a5 a6 k
 have ih0 := ref39_stop.mono_l k
 unfold ref39_stop.f
 repeat' first
   | (with_reducible exact ih0 _ _ _ _ _ _ _)
   | (with_reducible exact ref39_Above.mono _ _ _)
   | (with_reducible exact LeO.refl _)
   | (with_reducible exact LeO.none _)
   | (with_reducible refine LeO.ite ?_ ?_)
   | (with_reducible refine LeO.bind ?_ (fun _ => ?_))
   | exact ih0 _ _ _ _ _ _ _
   | exact ref39_Above.mono _ _ _
   | exact LeO.none _
   | refine LeO.ite ?_ ?_
   | refine LeO.bind ?_ (fun _ => ?_)
def ref39_stop.T6 : Bool × List (List Nat × List Nat) := (true, [([], []), ([0], [0]), ([], []), ([], []), ([2, 3], [2, 3]), ([4], [4]), ([1, 5], [1, 5]), ([6], [6]), ([7], [7])])
def ref39_stop.B6 : List Nat := [0, 1, 0, 0, 12, 28, 63, 127, 255]
theorem ref39_stop.tab6 : rtab .any (opsOf Try.f58 6) = ref39_stop.T6 := by kernel_rfl
theorem ref39_stop.bits6 : waitsOk ref39_stop.T6.2 ref39_stop.B6 = true := by kernel_rfl
def ref39_stop.T7 : Bool × List (List Nat × List Nat) := (true, [([], []), ([0], [0]), ([], []), ([], []), ([2, 3], [2, 3]), ([4], [4]), ([], []), ([6], [6]), ([], []), ([], []), ([8, 9], [8, 9]), ([10], [10]), ([], []), ([12], [12]), ([1, 5, 0, 1, 2, 3, 4, 5, 11], [1, 5]), ([14, 0, 1, 2, 3, 4, 5, 11], [14]), ([7, 11, 0, 1, 2, 3, 4, 5, 6, 7, 8, 9, 10, 11, 12, 13, 14, 15], [7, 11]), ([16, 13, 15, 0, 1, 2, 3, 4, 5, 6, 7, 8, 9, 10, 11, 12, 13, 14, 15], [13, 16])])
def ref39_stop.B7 : List Nat := [0, 1, 0, 0, 12, 28, 0, 64, 0, 0, 768, 1792, 0, 4096, 3903, 20287, 65535, 131071]
theorem ref39_stop.tab7 : rtab .any (opsOf Try.f58 7) = ref39_stop.T7 := by kernel_rfl
theorem ref39_stop.bits7 : waitsOk ref39_stop.T7.2 ref39_stop.B7 = true := by kernel_rfl
set_option maxHeartbeats 8000000 in
set_option maxRecDepth 100000 in
theorem ref39_stop.calls (k : Nat) (A0 : Option Addr) (c0 : Nat) (l0 : List (S31)) (a1_0 : Int) (A1_1 : Option Addr) (c1_1 : Nat) (l1_1 : List Int) (A1_2 : Option Addr) (c1_2 : Nat) (l1_2 : List Int) (A1_3 : Option Addr) (c1_3 : Nat) (l1_3 : List Bool) (A1_4 : Option Addr) (c1_4 : Nat) (l1_4 : List Bool) (a2 : Int) (r1 : Int) (r2 : List Int) (r3 : List Int) (r4 : List Bool) (r5 : List Bool) (w : World) (hr0 : Kd.C k31 w A0 l0.length l0) (hc0 : l0.length ≤ c0) (hr1_1 : Kd.C (Kd.int .i64) w A1_1 l1_1.length l1_1) (hc1_1 : l1_1.length ≤ c1_1) (hr1_2 : Kd.C (Kd.int .i64) w A1_2 l1_2.length l1_2) (hc1_2 : l1_2.length ≤ c1_2) (hr1_3 : Kd.C Kd.bool w A1_3 l1_3.length l1_3) (hc1_3 : l1_3.length ≤ c1_3) (hr1_4 : Kd.C Kd.bool w A1_4 l1_4.length l1_4) (hc1_4 : l1_4.length ≤ c1_4) (h : ref39_stop.f k l0 a1_0 l1_1 l1_2 l1_3 l1_4 a2 = some (r1, r2, r3, r4, r5)) :
  Calls Try.prog 58 #[.slice A0 l0.length c0, .agg #[.int .i64 a1_0, .slice A1_1 l1_1.length c1_1, .slice A1_2 l1_2.length c1_2, .slice A1_3 l1_3.length c1_3, .slice A1_4 l1_4.length c1_4], .int .i64 a2] w fun e w' => ∃ v1_ v2_ v3_ v4_ : Value, e = .returned (.agg #[.int .i64 r1, v1_, v2_, v3_, v4_]) ∧ Kd.R (Kd.int .i64) 3 w' w.heap.size (fun k_ => some k_ ≠ (v2_ : Value).ownBlock) v1_ r2 ∧ Kd.R (Kd.int .i64) 3 w' w.heap.size (fun k_ => some k_ ≠ (v1_ : Value).ownBlock) v2_ r3 ∧ Kd.R Kd.bool 4 w' w.heap.size (fun k_ => some k_ ≠ (v4_ : Value).ownBlock) v3_ r4 ∧ Kd.R Kd.bool 4 w' w.heap.size (fun k_ => some k_ ≠ (v3_ : Value).ownBlock) v4_ r5 ∧ Below w.heap.size w w' := by
 have hu34 := Try.underlying34
 have HR0 := Aside0.mk hr0
 have HC0 := Aside0.mk hc0
 clear hr0 hc0
 have HR1_1 := Aside0.mk hr1_1
 have HC1_1 := Aside0.mk hc1_1
 clear hr1_1 hc1_1
 have HR1_2 := Aside0.mk hr1_2
 have HC1_2 := Aside0.mk hc1_2
 clear hr1_2 hc1_2
 have HR1_3 := Aside0.mk hr1_3
 have HC1_3 := Aside0.mk hc1_3
 clear hr1_3 hc1_3
 have HR1_4 := Aside0.mk hr1_4
 have HC1_4 := Aside0.mk hc1_4
 clear hr1_4 hc1_4
 have HB := Aside0.mk (Below.refl w.heap.size w)
 have H : ((ref39_Copy.f a1_0 l1_1 l1_2 l1_3 l1_4).bind fun bt426 => ((ref39_Above.f k l0 a2).bind fun t439 => (if t439.length < 17592186044416 then (ref39_stop.l0 k (t439 ++ [a2]) 0 bt426.1 bt426.2.1 bt426.2.2.1 bt426.2.2.2.1 bt426.2.2.2.2) else (none)))) = some (r1, r2, r3, r4, r5) := h
 clear h
 replace H := Option.bind_eq_some_iff.mp H
 obtain ⟨⟨t426, t427, t430, t433, t436⟩, A40, H⟩ := H
 replace H : ((ref39_Above.f k l0 a2).bind fun t439 => (if t439.length < 17592186044416 then (ref39_stop.l0 k (t439 ++ [a2]) 0 t426 t427 t430 t433 t436) else (none))) = some (r1, r2, r3, r4, r5) := H
 have A4 := Aside0.mk A40
 clear A40
 replace H := Option.bind_eq_some_iff.mp H
 obtain ⟨t439, A50, H⟩ := H
 replace H : (if t439.length < 17592186044416 then (ref39_stop.l0 k (t439 ++ [a2]) 0 t426 t427 t430 t433 t436) else (none)) = some (r1, r2, r3, r4, r5) := H
 have A5 := Aside0.mk A50
 clear A50
 by_cases c6 : t439.length < 17592186044416
 ·rw [if_pos c6] at H
  have LMc6 := Aside0.mk c6
  clear c6
  obtain ⟨y442, hy442⟩ : ∃ y_ : List Int, y_ = (t439 ++ [a2]) := ⟨_, rfl⟩
  replace H : (ref39_stop.l0 k y442 0 t426 t427 t430 t433 t436) = some (r1, r2, r3, r4, r5) := by first | (rw [hy442]; with_reducible exact H) | (have H2_ := (Option.bind_some _ _).symm.trans H; rw [hy442]; with_reducible exact H2_) | (have H2_ := (Option.bind_some _ _).symm.trans H; with_reducible exact H2_) | with_reducible exact H | (rw [hy442]; exact H) | exact H
  have Ny442 := Aside0.mk hy442
  clear hy442
  have H' := Aside0.mk H
  clear H
  go_enter Try.func58, Try.ntmps58
  go_wp2_with (first | ((with_reducible refine gate_dst (N := 4) rfl ?_); refine box_event ?hg (N := 4) ?hd (cs := #[.int .i64 a1_0, .slice A1_1 l1_1.length c1_1, .slice A1_2 l1_2.length c1_2, .slice A1_3 l1_3.length c1_3, .slice A1_4 l1_4.length c1_4]) (t := 34) ?hr ?_; (case hd => rfl); (case hg => rfl); (case hr => first | (go_simp; done) | (go_simp; rfl)); intro gb424 hg w7 hbox hb; have n0_ := Aside0.mk (below_step (by repeat (first | (with_reducible first | exact HB.out | apply below_alloc | apply pw_below_drewN | apply below_drew1) | exact HB.out)) hb); have n1_ := Aside0.mk (hbox); have n2_ := Aside0.mk ((by rw [hg]; exact (below_size (by repeat (first | (with_reducible first | exact HB.out | apply below_alloc | apply pw_below_drewN | apply below_drew1) | exact HB.out))) : w.heap.size ≤ gb424)); have n3_ := Aside0.mk ((by rw [hg]; exact (below_size (by repeat (first | (with_reducible first | exact HB.out | apply below_alloc | apply pw_below_drewN | apply below_drew1) | exact HB.out))) : w.heap.size ≤ gb424)); clear HB; have HB := n0_; have BK424 := n1_; have GW424 := n2_; have GE424 := n3_; clear n0_ n1_ n2_ n3_; clear hb hbox hg) | ((with_reducible refine gate_dst (N := 6) rfl ?_); refine box_event ?hg (N := 6) ?hd (cs := #[.int .i64 0, .slice none 0 0, .slice none 0 0, .slice none 0 0, .slice none 0 0]) (t := 34) ?hr ?_; (case hd => rfl); (case hg => rfl); (case hr => first | (go_simp; done) | (go_simp; rfl)); intro gb425 hg w8 hbox hb; have n0_ := Aside0.mk (blk_below (g := gb424) (o := .cells #[.int .i64 a1_0, .slice A1_1 l1_1.length c1_1, .slice A1_2 l1_2.length c1_2, .slice A1_3 l1_3.length c1_3, .slice A1_4 l1_4.length c1_4] 34 (0, 0)) (by (with_reducible repeat (first | refine blk_drewN ?_ _ | refine blk_drew ?_ | refine blk_alloc ?_ _)); exact BK424.out) hb); have n1_ := Aside0.mk (below_step (by repeat (first | (with_reducible first | exact HB.out | apply below_alloc | apply pw_below_drewN | apply below_drew1 | refine below_set ?_ GE424.out) | exact HB.out)) hb); have n2_ := Aside0.mk (hbox); have n3_ := Aside0.mk ((by rw [hg]; exact (below_size (by repeat (first | (with_reducible first | exact HB.out | apply below_alloc | apply pw_below_drewN | apply below_drew1 | refine below_set ?_ GE424.out) | exact HB.out))) : w.heap.size ≤ gb425)); have n4_ := Aside0.mk ((by rw [hg]; exact (below_size (by repeat (first | (with_reducible first | exact HB.out | apply below_alloc | apply pw_below_drewN | apply below_drew1 | refine below_set ?_ GE424.out) | exact HB.out))) : w.heap.size ≤ gb425)); have n5_ := Aside0.mk ((by rw [hg]; exact Nat.ne_of_lt (blk_lt (g := gb424) (o := .cells #[.int .i64 a1_0, .slice A1_1 l1_1.length c1_1, .slice A1_2 l1_2.length c1_2, .slice A1_3 l1_3.length c1_3, .slice A1_4 l1_4.length c1_4] 34 (0, 0)) (by (with_reducible repeat (first | refine blk_drewN ?_ _ | refine blk_drew ?_ | refine blk_alloc ?_ _)); exact BK424.out)) : gb424 ≠ gb425)); have n6_ := Aside0.mk ((by rw [hg]; exact Nat.ne_of_gt (blk_lt (g := gb424) (o := .cells #[.int .i64 a1_0, .slice A1_1 l1_1.length c1_1, .slice A1_2 l1_2.length c1_2, .slice A1_3 l1_3.length c1_3, .slice A1_4 l1_4.length c1_4] 34 (0, 0)) (by (with_reducible repeat (first | refine blk_drewN ?_ _ | refine blk_drew ?_ | refine blk_alloc ?_ _)); exact BK424.out)) : gb425 ≠ gb424)); clear BK424; clear HB; have BK424 := n0_; have HB := n1_; have BK425 := n2_; have GW425 := n3_; have GE425 := n4_; have NB424_425 := n5_; have NB425_424 := n6_; clear n0_ n1_ n2_ n3_ n4_ n5_ n6_; clear hb hbox hg; have hnb9 := NB424_425.out; have hnc9 := NB425_424.out; have hcz10_0 : w8.cell? ⟨gb424, 0, none⟩ = some (.int .i64 a1_0) := (blk_cell BK424.out 0).trans rfl; have hcz10_1 : w8.cell? ⟨gb424, 1, none⟩ = some (.slice A1_1 l1_1.length c1_1) := (blk_cell BK424.out 1).trans rfl; have hcz10_2 : w8.cell? ⟨gb424, 2, none⟩ = some (.slice A1_2 l1_2.length c1_2) := (blk_cell BK424.out 2).trans rfl; have hcz10_3 : w8.cell? ⟨gb424, 3, none⟩ = some (.slice A1_3 l1_3.length c1_3) := (blk_cell BK424.out 3).trans rfl; have hcz10_4 : w8.cell? ⟨gb424, 4, none⟩ = some (.slice A1_4 l1_4.length c1_4) := (blk_cell BK424.out 4).trans rfl; have hfz10_0 := blk_frozen BK424.out 0; have hfz10_1 := blk_frozen BK424.out 1; have hfz10_2 := blk_frozen BK424.out 2; have hfz10_3 := blk_frozen BK424.out 3; have hfz10_4 := blk_frozen BK424.out 4) | ((with_reducible refine gate_callee (f := 23) rfl ?_); refine goesL_ (some 10) rfl rfl Try.func23 (by kernel_rfl) rfl #[.agg #[.int .i64 a1_0, .slice A1_1 l1_1.length c1_1, .slice A1_2 l1_2.length c1_2, .slice A1_3 l1_3.length c1_3, .slice A1_4 l1_4.length c1_4]] rfl (by (try simp only [List.map_toArray, List.map_cons, List.map_nil]); first | done | rfl | (simp only [List.length_drop, List.length_take]; rfl)) ?_; (with_reducible refine (ref39_Copy.calls a1_0 _ _ l1_1 _ _ l1_2 _ _ l1_3 _ _ l1_4 t426 t427 t430 t433 t436 _ ?side1 ?side2 ?side3 ?side4 ?side5 ?side6 ?side7 ?side8 A4.out).mono ?_); (case side1 => repeat (first | exact (Kd.C_below HR1_1.out HB.out) | (with_reducible refine Kd.C_alloc ?_ _) | (with_reducible refine Kd.C_drewN ?_ _) | (with_reducible refine Kd.C_drew ?_))); (case side2 => exact HC1_1.out); (case side3 => repeat (first | exact (Kd.C_below HR1_2.out HB.out) | (with_reducible refine Kd.C_alloc ?_ _) | (with_reducible refine Kd.C_drewN ?_ _) | (with_reducible refine Kd.C_drew ?_))); (case side4 => exact HC1_2.out); (case side5 => repeat (first | exact (Kd.C_below HR1_3.out HB.out) | (with_reducible refine Kd.C_alloc ?_ _) | (with_reducible refine Kd.C_drewN ?_ _) | (with_reducible refine Kd.C_drew ?_))); (case side6 => exact HC1_3.out); (case side7 => repeat (first | exact (Kd.C_below HR1_4.out HB.out) | (with_reducible refine Kd.C_alloc ?_ _) | (with_reducible refine Kd.C_drewN ?_ _) | (with_reducible refine Kd.C_drew ?_))); (case side8 => exact HC1_4.out); rintro e w11 ⟨v428, v431, v434, v437, rfl, ho0, ho1, ho2, ho3, hb⟩; refine ⟨_, rfl, ?_⟩; have n0_ := Aside0.mk (Kd.R_lower ho0 (below_size (by repeat (first | (with_reducible first | exact HB.out | apply below_alloc | apply pw_below_drewN | apply below_drew1 | refine below_set ?_ GE424.out | refine below_set ?_ GE425.out) | exact HB.out)))); have n1_ := Aside0.mk (Kd.R_lower ho1 (below_size (by repeat (first | (with_reducible first | exact HB.out | apply below_alloc | apply pw_below_drewN | apply below_drew1 | refine below_set ?_ GE424.out | refine below_set ?_ GE425.out) | exact HB.out)))); have n2_ := Aside0.mk (Kd.R_lower ho2 (below_size (by repeat (first | (with_reducible first | exact HB.out | apply below_alloc | apply pw_below_drewN | apply below_drew1 | refine below_set ?_ GE424.out | refine below_set ?_ GE425.out) | exact HB.out)))); have n3_ := Aside0.mk (Kd.R_lower ho3 (below_size (by repeat (first | (with_reducible first | exact HB.out | apply below_alloc | apply pw_below_drewN | apply below_drew1 | refine below_set ?_ GE424.out | refine below_set ?_ GE425.out) | exact HB.out)))); have n4_ := Aside0.mk (blk_below (g := gb424) (o := .cells #[.int .i64 a1_0, .slice A1_1 l1_1.length c1_1, .slice A1_2 l1_2.length c1_2, .slice A1_3 l1_3.length c1_3, .slice A1_4 l1_4.length c1_4] 34 (0, 0)) (by (with_reducible repeat (first | refine blk_drewN ?_ _ | refine blk_drew ?_ | refine blk_alloc ?_ _)); exact BK424.out) hb); have n5_ := Aside0.mk (blk_below (g := gb425) (o := .cells #[.int .i64 0, .slice none 0 0, .slice none 0 0, .slice none 0 0, .slice none 0 0] 34 (0, 0)) (by (with_reducible repeat (first | refine blk_drewN ?_ _ | refine blk_drew ?_ | refine blk_alloc ?_ _)); exact BK425.out) hb); have n6_ := Aside0.mk (below_step (by repeat (first | (with_reducible first | exact HB.out | apply below_alloc | apply pw_below_drewN | apply below_drew1 | refine below_set ?_ GE424.out | refine below_set ?_ GE425.out) | exact HB.out)) hb); clear BK424; clear BK425; clear HB; have HO429 := n0_; have HO432 := n1_; have HO435 := n2_; have HO438 := n3_; have BK424 := n4_; have BK425 := n5_; have HB := n6_; clear n0_ n1_ n2_ n3_ n4_ n5_ n6_; (try clear hb); (try clear hb2); (try clear hk); (try clear hi); (try clear ho0); (try clear ho1); (try clear ho2); (try clear ho3); have hcz12_0 : w11.cell? ⟨gb424, 0, none⟩ = some (.int .i64 a1_0) := (blk_cell BK424.out 0).trans rfl; have hcz12_1 : w11.cell? ⟨gb424, 1, none⟩ = some (.slice A1_1 l1_1.length c1_1) := (blk_cell BK424.out 1).trans rfl; have hcz12_2 : w11.cell? ⟨gb424, 2, none⟩ = some (.slice A1_2 l1_2.length c1_2) := (blk_cell BK424.out 2).trans rfl; have hcz12_3 : w11.cell? ⟨gb424, 3, none⟩ = some (.slice A1_3 l1_3.length c1_3) := (blk_cell BK424.out 3).trans rfl; have hcz12_4 : w11.cell? ⟨gb424, 4, none⟩ = some (.slice A1_4 l1_4.length c1_4) := (blk_cell BK424.out 4).trans rfl; have hfz12_0 := blk_frozen BK424.out 0; have hfz12_1 := blk_frozen BK424.out 1; have hfz12_2 := blk_frozen BK424.out 2; have hfz12_3 := blk_frozen BK424.out 3; have hfz12_4 := blk_frozen BK424.out 4; obtain ⟨Ao13, co13, eo13⟩ := Kd.R_slice HO429.out; subst eo13; obtain ⟨Ao14, co14, eo14⟩ := Kd.R_slice HO432.out; subst eo14; obtain ⟨Ao15, co15, eo15⟩ := Kd.R_slice HO435.out; subst eo15; obtain ⟨Ao16, co16, eo16⟩ := Kd.R_slice HO438.out; subst eo16) | ((with_reducible refine gate_callee (f := 43) rfl ?_); refine goesL_ (some 13) rfl rfl Try.func43 (by kernel_rfl) rfl #[.slice A0 l0.length c0, .int .i64 a2] rfl (by (try simp only [List.map_toArray, List.map_cons, List.map_nil]); first | done | rfl | (simp only [List.length_drop, List.length_take]; rfl)) ?_; (with_reducible refine (ref39_Above.calls k _ _ l0 a2 t439 _ ?side1 ?side2 A5.out).mono ?_); (case side1 => exact Kd.C_below HR0.out (by repeat (first | (with_reducible first | exact HB.out | apply below_alloc | apply pw_below_drewN | apply below_drew1 | refine below_set ?_ GE424.out | refine below_set ?_ GE425.out) | exact HB.out))); (case side2 => exact HC0.out); rintro e w17 ⟨v440, rfl, ho0, hb⟩; refine ⟨_, rfl, ?_⟩; have n0_ := Aside0.mk (Kd.R_elder' (by (with_reducible repeat (first | apply Kd.R_alloc | apply Kd.R_drewN | apply Kd.R_drew)); exact (Kd.R_mono (Kd.R_far (p := ⟨gb424, 4, none⟩) (Kd.R_far (p := ⟨gb424, 3, none⟩) (Kd.R_far (p := ⟨gb424, 2, none⟩) (Kd.R_far (p := ⟨gb424, 1, none⟩) (Kd.R_far (p := ⟨gb424, 0, none⟩) (Kd.R_types HO429.out BK424.out (by decide)) (fun _ hk => hk.2) (.int .i64 t426)) (fun _ hk => hk.2) (.slice Ao13 t427.length co13)) (fun _ hk => hk.2) (.slice Ao14 t430.length co14)) (fun _ hk => hk.2) (.slice Ao15 t433.length co15)) (fun _ hk => hk.2) (.slice Ao16 t436.length co16)) (fun _ h_ => h_.1))) (Kd.R_base ho0) hb); have n1_ := Aside0.mk (Kd.R_elder' (by (with_reducible repeat (first | apply Kd.R_alloc | apply Kd.R_drewN | apply Kd.R_drew)); exact (Kd.R_mono (Kd.R_far (p := ⟨gb424, 4, none⟩) (Kd.R_far (p := ⟨gb424, 3, none⟩) (Kd.R_far (p := ⟨gb424, 2, none⟩) (Kd.R_far (p := ⟨gb424, 1, none⟩) (Kd.R_far (p := ⟨gb424, 0, none⟩) (Kd.R_types HO432.out BK424.out (by decide)) (fun _ hk => hk.2) (.int .i64 t426)) (fun _ hk => hk.2) (.slice Ao13 t427.length co13)) (fun _ hk => hk.2) (.slice Ao14 t430.length co14)) (fun _ hk => hk.2) (.slice Ao15 t433.length co15)) (fun _ hk => hk.2) (.slice Ao16 t436.length co16)) (fun _ h_ => h_.1))) (Kd.R_base ho0) hb); have n2_ := Aside0.mk (Kd.R_below (by (with_reducible repeat (first | apply Kd.R_alloc | apply Kd.R_drewN | apply Kd.R_drew)); exact (Kd.R_mono (Kd.R_far (p := ⟨gb424, 4, none⟩) (Kd.R_far (p := ⟨gb424, 3, none⟩) (Kd.R_far (p := ⟨gb424, 2, none⟩) (Kd.R_far (p := ⟨gb424, 1, none⟩) (Kd.R_far (p := ⟨gb424, 0, none⟩) (Kd.R_types HO435.out BK424.out (by decide)) (fun _ hk => hk.2) (.int .i64 t426)) (fun _ hk => hk.2) (.slice Ao13 t427.length co13)) (fun _ hk => hk.2) (.slice Ao14 t430.length co14)) (fun _ hk => hk.2) (.slice Ao15 t433.length co15)) (fun _ hk => hk.2) (.slice Ao16 t436.length co16)) (fun _ h_ => h_.1))) hb); have n3_ := Aside0.mk (Kd.R_below (by (with_reducible repeat (first | apply Kd.R_alloc | apply Kd.R_drewN | apply Kd.R_drew)); exact (Kd.R_mono (Kd.R_far (p := ⟨gb424, 4, none⟩) (Kd.R_far (p := ⟨gb424, 3, none⟩) (Kd.R_far (p := ⟨gb424, 2, none⟩) (Kd.R_far (p := ⟨gb424, 1, none⟩) (Kd.R_far (p := ⟨gb424, 0, none⟩) (Kd.R_types HO438.out BK424.out (by decide)) (fun _ hk => hk.2) (.int .i64 t426)) (fun _ hk => hk.2) (.slice Ao13 t427.length co13)) (fun _ hk => hk.2) (.slice Ao14 t430.length co14)) (fun _ hk => hk.2) (.slice Ao15 t433.length co15)) (fun _ hk => hk.2) (.slice Ao16 t436.length co16)) (fun _ h_ => h_.1))) hb); have n4_ := Aside0.mk (Kd.R_lower (Kd.R_new' (Kd.R_new' ho0 (Kd.R_lt (by (with_reducible repeat (first | apply Kd.R_alloc | apply Kd.R_drewN | apply Kd.R_drew)); exact (Kd.R_mono (Kd.R_far (p := ⟨gb424, 4, none⟩) (Kd.R_far (p := ⟨gb424, 3, none⟩) (Kd.R_far (p := ⟨gb424, 2, none⟩) (Kd.R_far (p := ⟨gb424, 1, none⟩) (Kd.R_far (p := ⟨gb424, 0, none⟩) (Kd.R_types HO429.out BK424.out (by decide)) (fun _ hk => hk.2) (.int .i64 t426)) (fun _ hk => hk.2) (.slice Ao13 t427.length co13)) (fun _ hk => hk.2) (.slice Ao14 t430.length co14)) (fun _ hk => hk.2) (.slice Ao15 t433.length co15)) (fun _ hk => hk.2) (.slice Ao16 t436.length co16)) (fun _ h_ => h_.1))))) (Kd.R_lt (by (with_reducible repeat (first | apply Kd.R_alloc | apply Kd.R_drewN | apply Kd.R_drew)); exact (Kd.R_mono (Kd.R_far (p := ⟨gb424, 4, none⟩) (Kd.R_far (p := ⟨gb424, 3, none⟩) (Kd.R_far (p := ⟨gb424, 2, none⟩) (Kd.R_far (p := ⟨gb424, 1, none⟩) (Kd.R_far (p := ⟨gb424, 0, none⟩) (Kd.R_types HO432.out BK424.out (by decide)) (fun _ hk => hk.2) (.int .i64 t426)) (fun _ hk => hk.2) (.slice Ao13 t427.length co13)) (fun _ hk => hk.2) (.slice Ao14 t430.length co14)) (fun _ hk => hk.2) (.slice Ao15 t433.length co15)) (fun _ hk => hk.2) (.slice Ao16 t436.length co16)) (fun _ h_ => h_.1))))) (below_size (by repeat (first | (with_reducible first | exact HB.out | apply below_alloc | apply pw_below_drewN | apply below_drew1 | refine below_set ?_ GE424.out | refine below_set ?_ GE425.out) | exact HB.out)))); have n5_ := Aside0.mk (blk_below (g := gb424) (o := .cells #[.int .i64 t426, .slice Ao13 t427.length co13, .slice Ao14 t430.length co14, .slice Ao15 t433.length co15, .slice Ao16 t436.length co16] 34 (0, 0)) (by (with_reducible repeat (first | refine blk_drewN ?_ _ | refine blk_drew ?_ | refine blk_alloc ?_ _)); refine blk_put (cs := #[.int .i64 t426, .slice Ao13 t427.length co13, .slice Ao14 t430.length co14, .slice Ao15 t433.length co15, .slice A1_4 l1_4.length c1_4]) ?_ 4 _ rfl; (with_reducible repeat (first | refine blk_drewN ?_ _ | refine blk_drew ?_ | refine blk_alloc ?_ _)); refine blk_put (cs := #[.int .i64 t426, .slice Ao13 t427.length co13, .slice Ao14 t430.length co14, .slice A1_3 l1_3.length c1_3, .slice A1_4 l1_4.length c1_4]) ?_ 3 _ rfl; (with_reducible repeat (first | refine blk_drewN ?_ _ | refine blk_drew ?_ | refine blk_alloc ?_ _)); refine blk_put (cs := #[.int .i64 t426, .slice Ao13 t427.length co13, .slice A1_2 l1_2.length c1_2, .slice A1_3 l1_3.length c1_3, .slice A1_4 l1_4.length c1_4]) ?_ 2 _ rfl; (with_reducible repeat (first | refine blk_drewN ?_ _ | refine blk_drew ?_ | refine blk_alloc ?_ _)); refine blk_put (cs := #[.int .i64 t426, .slice A1_1 l1_1.length c1_1, .slice A1_2 l1_2.length c1_2, .slice A1_3 l1_3.length c1_3, .slice A1_4 l1_4.length c1_4]) ?_ 1 _ rfl; (with_reducible repeat (first | refine blk_drewN ?_ _ | refine blk_drew ?_ | refine blk_alloc ?_ _)); refine blk_put (cs := #[.int .i64 a1_0, .slice A1_1 l1_1.length c1_1, .slice A1_2 l1_2.length c1_2, .slice A1_3 l1_3.length c1_3, .slice A1_4 l1_4.length c1_4]) ?_ 0 _ rfl; (with_reducible repeat (first | refine blk_drewN ?_ _ | refine blk_drew ?_ | refine blk_alloc ?_ _)); exact BK424.out) hb); have n6_ := Aside0.mk (blk_below (g := gb425) (o := .cells #[.int .i64 0, .slice none 0 0, .slice none 0 0, .slice none 0 0, .slice none 0 0] 34 (0, 0)) (by (with_reducible repeat (first | refine blk_drewN ?_ _ | refine blk_drew ?_ | refine blk_alloc ?_ _)); refine blk_far ?_ NB425_424.out _; (with_reducible repeat (first | refine blk_drewN ?_ _ | refine blk_drew ?_ | refine blk_alloc ?_ _)); refine blk_far ?_ NB425_424.out _; (with_reducible repeat (first | refine blk_drewN ?_ _ | refine blk_drew ?_ | refine blk_alloc ?_ _)); refine blk_far ?_ NB425_424.out _; (with_reducible repeat (first | refine blk_drewN ?_ _ | refine blk_drew ?_ | refine blk_alloc ?_ _)); refine blk_far ?_ NB425_424.out _; (with_reducible repeat (first | refine blk_drewN ?_ _ | refine blk_drew ?_ | refine blk_alloc ?_ _)); refine blk_far ?_ NB425_424.out _; (with_reducible repeat (first | refine blk_drewN ?_ _ | refine blk_drew ?_ | refine blk_alloc ?_ _)); exact BK425.out) hb); have n7_ := Aside0.mk (below_step (by repeat (first | (with_reducible first | exact HB.out | apply below_alloc | apply pw_below_drewN | apply below_drew1 | refine below_set ?_ GE424.out | refine below_set ?_ GE425.out) | exact HB.out)) hb); clear HO429; clear HO432; clear HO435; clear HO438; clear BK424; clear BK425; clear HB; have HO429 := n0_; have HO432 := n1_; have HO435 := n2_; have HO438 := n3_; have HO441 := n4_; have BK424 := n5_; have BK425 := n6_; have HB := n7_; clear n0_ n1_ n2_ n3_ n4_ n5_ n6_ n7_; (try clear hb); (try clear hb2); (try clear hk); (try clear hi); (try clear ho0)) | ((with_reducible refine gate_builtin (b := .append) (xs := #[.tmp 13, .tmp 15]) rfl ?_); at_builtin; refine Kd.R_append (Kd.int .i64) (w0 := w) w.heap.size rfl (.tmp 13) (.tmp 15) 22 3 (.int .i64 0) 8 rfl Try.underlying22 info3 rfl (by decide) (by omega) v440 t439 a2 [.int .i64 a2] (fun k_ => some k_ ≠ (.slice Ao13 t427.length co13 : Value).ownBlock ∧ some k_ ≠ (.slice Ao14 t430.length co14 : Value).ownBlock) (fun _ => False) rfl rfl ?aP (fun _ hk => hk.elim) ?aF ?aO ?aB ?aS ?aL ?_; (case aP => exact rfl); (case aB => exact (by repeat (first | (with_reducible first | exact HB.out | apply below_alloc | apply pw_below_drewN | apply below_drew1 | refine below_set ?_ GE424.out | refine below_set ?_ GE425.out) | exact HB.out))); (case aF => exact (fun k_ hk => ⟨Kd.fresh' (Kd.R_lt (by (with_reducible repeat (first | apply Kd.R_alloc | apply Kd.R_drewN | apply Kd.R_drew)); exact HO429.out)) k_ hk, Kd.fresh' (Kd.R_lt (by (with_reducible repeat (first | apply Kd.R_alloc | apply Kd.R_drewN | apply Kd.R_drew)); exact HO432.out)) k_ hk⟩)); (case aO => exact (by (with_reducible repeat (first | apply Kd.R_alloc | apply Kd.R_drewN | apply Kd.R_drew)); exact Kd.R_mono HO441.out (fun _ hk => ⟨hk.1.2, hk.2⟩))); (case aS => exact (below_size (by repeat (first | (with_reducible first | exact HB.out | apply below_alloc | apply pw_below_drewN | apply below_drew1 | refine below_set ?_ GE424.out | refine below_set ?_ GE425.out) | exact HB.out)))); (case aL => have := LMc6.out; omega); intro v443 w18 ho hb hg hat; rw [← Ny442.out] at ho; have n0_ := Aside0.mk (blk_grown (g := gb424) (o := .cells #[.int .i64 t426, .slice Ao13 t427.length co13, .slice Ao14 t430.length co14, .slice Ao15 t433.length co15, .slice Ao16 t436.length co16] 34 (0, 0)) (by (with_reducible repeat (first | refine blk_drewN ?_ _ | refine blk_drew ?_ | refine blk_alloc ?_ _)); exact BK424.out) hg (Kd.R_ne HO441.out BK424.out (by decide))); have n1_ := Aside0.mk (blk_grown (g := gb425) (o := .cells #[.int .i64 0, .slice none 0 0, .slice none 0 0, .slice none 0 0, .slice none 0 0] 34 (0, 0)) (by (with_reducible repeat (first | refine blk_drewN ?_ _ | refine blk_drew ?_ | refine blk_alloc ?_ _)); exact BK425.out) hg (Kd.R_ne HO441.out BK425.out (by decide))); have n2_ := Aside0.mk (Kd.R_after (ok := (fun k_ => some k_ ≠ (.slice Ao14 t430.length co14 : Value).ownBlock)) (by (with_reducible repeat (first | apply Kd.R_alloc | apply Kd.R_drewN | apply Kd.R_drew)); exact HO429.out) hg hat); have n3_ := Aside0.mk (Kd.R_after (ok := (fun k_ => some k_ ≠ (.slice Ao13 t427.length co13 : Value).ownBlock)) (by (with_reducible repeat (first | apply Kd.R_alloc | apply Kd.R_drewN | apply Kd.R_drew)); exact HO432.out) hg hat); have n4_ := Aside0.mk (Kd.R_over' (by (with_reducible repeat (first | apply Kd.R_alloc | apply Kd.R_drewN | apply Kd.R_drew)); exact HO435.out) (Kd.R_typed (by (with_reducible repeat (first | apply Kd.R_alloc | apply Kd.R_drewN | apply Kd.R_drew)); exact HO441.out)) (by decide) hg); have n5_ := Aside0.mk (Kd.R_over' (by (with_reducible repeat (first | apply Kd.R_alloc | apply Kd.R_drewN | apply Kd.R_drew)); exact HO438.out) (Kd.R_typed (by (with_reducible repeat (first | apply Kd.R_alloc | apply Kd.R_drewN | apply Kd.R_drew)); exact HO441.out)) (by decide) hg); have n6_ := Aside0.mk (hb); have n7_ := Aside0.mk (ho); clear BK424; clear BK425; clear HO429; clear HO432; clear HO435; clear HO438; clear HB; clear HO441; have BK424 := n0_; have BK425 := n1_; have HO429 := n2_; have HO432 := n3_; have HO435 := n4_; have HO438 := n5_; have HB := n6_; have HO444 := n7_; clear n0_ n1_ n2_ n3_ n4_ n5_ n6_ n7_; clear ho hb hg hat))
  go_loopg [8] k (fun kq v8 w' => ∃ (x7_1 : List Int) (x8_1 : Int) (x425001_1 : List Int) (x425002_1 : List Int) (u425001 : Value) (u425002 : Value), v8 = .int .i64 x8_1 ∧ Aside0 (ref39_stop.l0 kq x7_1 x8_1 t426 x425001_1 x425002_1 t433 t436 = some (r1, r2, r3, r4, r5)) ∧ Aside0 (kq ≤ k) ∧ Aside0 (Kd.R (Kd.int .i64) 3 w' w.heap.size (fun k_ => some k_ ≠ (u425001 : Value).ownBlock ∧ some k_ ≠ (u425002 : Value).ownBlock) v443 x7_1) ∧ Aside0 (Kd.R (Kd.int .i64) 3 w' w.heap.size (fun k_ => some k_ ≠ (v443 : Value).ownBlock ∧ some k_ ≠ (u425002 : Value).ownBlock) u425001 x425001_1) ∧ Aside0 (Kd.R (Kd.int .i64) 3 w' w.heap.size (fun k_ => some k_ ≠ (v443 : Value).ownBlock ∧ some k_ ≠ (u425001 : Value).ownBlock) u425002 x425002_1) ∧ Aside0 (Kd.R Kd.bool 4 w' w.heap.size (fun k_ => some k_ ≠ ((.slice Ao16 t436.length co16) : Value).ownBlock) (.slice Ao15 t433.length co15) t433) ∧ Aside0 (Kd.R Kd.bool 4 w' w.heap.size (fun k_ => some k_ ≠ ((.slice Ao15 t433.length co15) : Value).ownBlock) (.slice Ao16 t436.length co16) t436) ∧ Aside0 (w'.heap[gb424]? = some (.cells #[.int .i64 t426, u425001, u425002, (.slice Ao15 t433.length co15), (.slice Ao16 t436.length co16)] 34 (0, 0))) ∧ Aside0 (w'.heap[gb425]? = some (.cells #[.int .i64 0, (.slice none 0 0), (.slice none 0 0), (.slice none 0 0), (.slice none 0 0)] 34 (0, 0))) ∧ Aside0 (Below w.heap.size w w'))
  case atStart => exact ⟨(y442), (0), (t427), (t430), (.slice Ao13 t427.length co13), (.slice Ao14 t430.length co14), (by first | rfl | (simp; done) | (simp [*]; done)), H', ⟨Nat.le_refl _⟩, ⟨by (with_reducible repeat (first | apply Kd.R_alloc | apply Kd.R_drewN | apply Kd.R_drew)); exact HO444.out⟩, ⟨by (with_reducible repeat (first | apply Kd.R_alloc | apply Kd.R_drewN | apply Kd.R_drew)); exact Kd.R_mono HO429.out (fun _ hk => ⟨hk.2, hk.1⟩)⟩, ⟨by (with_reducible repeat (first | apply Kd.R_alloc | apply Kd.R_drewN | apply Kd.R_drew)); exact Kd.R_mono HO432.out (fun _ hk => ⟨hk.2, hk.1⟩)⟩, ⟨by (with_reducible repeat (first | apply Kd.R_alloc | apply Kd.R_drewN | apply Kd.R_drew)); exact HO435.out⟩, ⟨by (with_reducible repeat (first | apply Kd.R_alloc | apply Kd.R_drewN | apply Kd.R_drew)); exact HO438.out⟩, ⟨by (with_reducible repeat (first | refine blk_drewN ?_ _ | refine blk_drew ?_ | refine blk_alloc ?_ _)); exact BK424.out⟩, ⟨by (with_reducible repeat (first | refine blk_drewN ?_ _ | refine blk_drew ?_ | refine blk_alloc ?_ _)); exact BK425.out⟩, ⟨by repeat (first | (with_reducible first | exact HB.out | apply below_alloc | apply pw_below_drewN | apply below_drew1 | refine below_set ?_ GE424.out | refine below_set ?_ GE425.out) | exact HB.out)⟩⟩
  case round =>
   clear H'; (try clear c1); (try clear c2); (try clear p2); (try clear c4); (try clear c5); (try clear c6); (try clear c9); (try clear hcz10_0); (try clear hcz10_1); (try clear hcz10_2); (try clear hcz10_3); (try clear hcz10_4); (try clear hcz12_0); (try clear hcz12_1); (try clear hcz12_2); (try clear hcz12_3); (try clear hcz12_4); (try clear hfz10_0); (try clear hfz10_1); (try clear hfz10_2); (try clear hfz10_3); (try clear hfz10_4); (try clear hfz12_0); (try clear hfz12_1); (try clear hfz12_2); (try clear hfz12_3); (try clear hfz12_4)
   obtain ⟨x7_1, x8_1, x425001_1, x425002_1, u425001, u425002, rfl, HA, HK1, HO_7, HO_425001, HO_425002, HO_425003, HO_425004, BK424, BK425, HB⟩ := hrel
   cases gk with
   | zero => exact absurd HA.out (by simp [ref39_stop.l0])
   | succ k1 =>
    have H := HA.out
    clear HA
    simp only [ref39_stop.l0] at H
    by_cases c19 : x8_1 < (x7_1.length : Int)
    ·rw [if_pos c19] at H
     have c19b0 : decide (x8_1 < (x7_1.length : Int)) = true := decide_eq_true c19
     clear c19
     by_cases c20 : 0 ≤ x8_1
     ·rw [if_pos c20] at H
      have c20b0 : decide (0 ≤ x8_1) = true := decide_eq_true c20
      clear c20
      by_cases c21 : 0 ≤ (rd x7_1 x8_1)
      ·rw [if_pos c21] at H
       have c21b0 : decide (0 ≤ (rd x7_1 x8_1)) = true := decide_eq_true c21
       clear c21
       by_cases c22 : (rd x7_1 x8_1) < (x425001_1.length : Int)
       ·rw [if_pos c22] at H
        have c22b0 : decide ((rd x7_1 x8_1) < (x425001_1.length : Int)) = true := decide_eq_true c22
        clear c22
        by_cases c23 : (rd x425001_1 (rd x7_1 x8_1)) = 0
        ·rw [if_pos c23] at H
         have c23b0 : ((rd x425001_1 (rd x7_1 x8_1)) == 0) = true := beq_iff_eq.mpr c23
         have c23b1 : ((rd x425001_1 (rd x7_1 x8_1)) != 0) = false := bne_eq_false_iff_eq.mpr c23
         clear c23
         have H' := Aside0.mk H
         clear H
         obtain ⟨Ao24, co24, eo24⟩ := Kd.R_slice HO_7.out
         subst eo24
         try go_wp2
         have n0_ := Aside0.mk (Kd.R_drew HO_7.out)
         have n1_ := Aside0.mk (Kd.R_drew HO_425001.out)
         have n2_ := Aside0.mk (Kd.R_drew HO_425002.out)
         have n3_ := Aside0.mk (Kd.R_drew HO_425003.out)
         have n4_ := Aside0.mk (Kd.R_drew HO_425004.out)
         have n5_ := Aside0.mk (blk_drew BK424.out)
         have n6_ := Aside0.mk (blk_drew BK425.out)
         have n7_ := Aside0.mk (below_drew1 HB.out)
         clear HO_7; clear HO_425001; clear HO_425002; clear HO_425003; clear HO_425004; clear BK424; clear BK425; clear HB; have HO_7 := n0_; have HO_425001 := n1_; have HO_425002 := n2_; have HO_425003 := n3_; have HO_425004 := n4_; have BK424 := n5_; have BK425 := n6_; have HB := n7_
         clear n0_ n1_ n2_ n3_ n4_ n5_ n6_ n7_
         have p445 : 0 ≤ (x8_1 : Int) := of_decide_eq_true (by first | (with_reducible assumption) | assumption)
         have q445 : x8_1 < (x7_1.length : Int) := of_decide_eq_true (by first | (with_reducible assumption) | assumption)
         obtain ⟨ad445, e445, hx445_0⟩ := Kd.at_int (Kd.R_reads' HO_7.out).2.2 x8_1 p445 q445
         cases e445
         replace p445 := eq_true p445
         replace q445 := eq_true q445
         obtain ⟨Ao26, co26, eo26⟩ := Kd.R_slice HO_425001.out
         (first | subst eo26 | (injection eo26 with f1_ f2_ f3_; have f4_ := f1_.symm; have f5_ := f3_.symm; clear f1_ f2_ f3_; subst f4_; subst f5_))
         have p446 : 0 ≤ ((rd x7_1 x8_1) : Int) := of_decide_eq_true (by first | (with_reducible assumption) | assumption)
         have q446 : (rd x7_1 x8_1) < (x425001_1.length : Int) := of_decide_eq_true (by first | (with_reducible assumption) | assumption)
         obtain ⟨ad446, e446, hx446_0⟩ := Kd.at_int (Kd.R_reads' HO_425001.out).2.2 (rd x7_1 x8_1) p446 q446
         cases e446
         replace p446 := eq_true p446
         replace q446 := eq_true q446
         refine start_ (n := 9) (S := fun w' => w'.cell? ⟨gb424, 0, none⟩ = some (.int .i64 t426) ∧ w'.cell? ⟨gb424, 1, none⟩ = some (.slice (some ad446) x425001_1.length co26) ∧ w'.cell? ⟨gb424, 2, none⟩ = some (u425002) ∧ w'.cell? ⟨gb424, 3, none⟩ = some (.slice Ao15 t433.length co15) ∧ w'.cell? ⟨gb424, 4, none⟩ = some (.slice Ao16 t436.length co16) ∧ w'.cell? (ad445.add (x8_1).toNat) = some (.int .i64 (rd x7_1 x8_1)) ∧ w'.cell? (ad446.add ((rd x7_1 x8_1)).toNat) = some (.int .i64 (rd x425001_1 (rd x7_1 x8_1)))) (ds := []) D9m0 (by kernel_rfl) rfl rfl ⟨(blk_cell BK424.out 0).trans rfl, (blk_cell BK424.out 1).trans rfl, (blk_cell BK424.out 2).trans rfl, (blk_cell BK424.out 3).trans rfl, (blk_cell BK424.out 4).trans rfl, hx445_0, hx446_0⟩ (fun hHeld => ?_); refine with_tabW ref39_stop.tab6 ref39_stop.bits6 (fun HT_ HW_ => ?_)
         generalize wr.drew = w25 at HO_7 HO_425001 HO_425002 HO_425003 HO_425004 BK424 BK425 HB hx445_0 hx446_0 hHeld ⊢
         refine pure_ (i := 0) (N := some 23) (v := ?_) (a' := ?_) D9m1 rfl rfl (any_of HT_.out (by kernel_rfl)) (fun _ _ _ h => h) (Or.inl ⟨by rfl, ?_⟩) ?_ ?_
         rotate_left; ·intro w'; go_simp; with_reducible rfl
         rotate_left; ·simp only [Act.put, sZ1, sZ2, sZ3, i64_w, i32_w]; rfl
         refine pure_ (i := 2) (N := some 25) (v := ?_) (a' := ?_) D9m5 rfl rfl (any_of HT_.out (by kernel_rfl)) (fun _ _ _ h => h) (Or.inl ⟨by rfl, ?_⟩) ?_ ?_
         rotate_left; ·intro w'; go_simp; with_reducible rfl
         rotate_left; ·simp only [Act.put, sZ1, sZ2, sZ3, i64_w, i32_w]; rfl
         refine pure_ (i := 3) (N := some 26) (v := ?_) (a' := ?_) D9md rfl rfl (any_of HT_.out (by kernel_rfl)) (fun _ _ _ h => h) (Or.inl ⟨by rfl, ?_⟩) ?_ ?_
         rotate_left; ·intro w'; go_simp; with_reducible rfl
         rotate_left; ·simp only [Act.put, sZ1, sZ2, sZ3, i64_w, i32_w]; rfl
         refine pure_ (i := 4) (N := some 27) (v := ?_) (a' := ?_) D9m1d rfl rfl (any_of HT_.out (by kernel_rfl)) (fun _ _ _ h => h) (Or.inl ⟨by rfl, ?_⟩) ?_ ?_
         rotate_left; ·intro w'; go_simp; with_reducible rfl
         rotate_left; ·simp only [Act.put, sZ1, sZ2, sZ3, i64_w, i32_w]; rfl
         refine take_ (i := 1) (N := some 24) (v := ?_) (a' := ?_) D9m1f rfl rfl (take_ofW HT_.out HW_.out (by kernel_rfl)) (fun _ _ _ h => h) (Or.inl ⟨by rfl, ?_⟩) hHeld ?_ ?_
         rotate_left; ·rintro w' ⟨s0, s1, s2, s3, s4, s5, s6⟩; go_simp; with_reducible rfl
         rotate_left; ·simp only [Act.put, sZ1, sZ2, sZ3, i64_w, i32_w]; rfl
         refine take_ (i := 5) (N := some 28) (v := ?_) (a' := ?_) D9m3f rfl rfl (take_ofW HT_.out HW_.out (by kernel_rfl)) (fun _ _ _ h => h) (Or.inl ⟨by rfl, ?_⟩) hHeld ?_ ?_
         rotate_left; ·rintro w' ⟨s0, s1, s2, s3, s4, s5, s6⟩; go_simp; with_reducible rfl
         rotate_left; ·simp only [Act.put, sZ1, sZ2, sZ3, i64_w, i32_w]; rfl
         refine pure_ (i := 6) (N := some 29) (v := ?_) (a' := ?_) D9m7f rfl rfl (any_of HT_.out (by kernel_rfl)) (fun _ _ _ h => h) (Or.inl ⟨by rfl, ?_⟩) ?_ ?_
         rotate_left; ·intro w'; go_simp; with_reducible rfl
         rotate_left; ·simp only [Act.put, sZ1, sZ2, sZ3, i64_w, i32_w]; rfl
         refine take_ (i := 7) (N := some 30) (v := ?_) (a' := ?_) D9mff rfl rfl (take_ofW HT_.out HW_.out (by kernel_rfl)) (fun _ _ _ h => h) (Or.inl ⟨by rfl, ?_⟩) hHeld ?_ ?_
         rotate_left; ·rintro w' ⟨s0, s1, s2, s3, s4, s5, s6⟩; go_simp; with_reducible rfl
         rotate_left; ·simp only [Act.put, sZ1, sZ2, sZ3, i64_w, i32_w]; rfl
         refine pure_ (i := 8) (N := some 31) (v := ?_) (a' := ?_) D9m1ff rfl rfl (any_of HT_.out (by kernel_rfl)) (fun _ _ _ h => h) (Or.inl ⟨by rfl, ?_⟩) ?_ ?_
         rotate_left; ·intro w'; go_simp; with_reducible rfl
         rotate_left; ·simp only [Act.put, sZ1, sZ2, sZ3, i64_w, i32_w]; rfl
         refine done_ (done_of HT_.out (by kernel_rfl)) ?_
         try go_wp2
         go_roundg k1
         case measure => have := HK1.out; omega
         case rel => exact ⟨(x7_1), (wrap64 (x8_1 + 1)), (x425001_1), (x425002_1), (.slice (some ad446) x425001_1.length co26), (u425002), (by first | rfl | (simp; done) | (simp [*]; done)), H', ⟨by have := HK1.out; omega⟩, ⟨by (with_reducible repeat (first | apply Kd.R_alloc | apply Kd.R_drewN | apply Kd.R_drew)); exact HO_7.out⟩, ⟨by (with_reducible repeat (first | apply Kd.R_alloc | apply Kd.R_drewN | apply Kd.R_drew)); exact HO_425001.out⟩, ⟨by (with_reducible repeat (first | apply Kd.R_alloc | apply Kd.R_drewN | apply Kd.R_drew)); exact HO_425002.out⟩, ⟨by (with_reducible repeat (first | apply Kd.R_alloc | apply Kd.R_drewN | apply Kd.R_drew)); exact HO_425003.out⟩, ⟨by (with_reducible repeat (first | apply Kd.R_alloc | apply Kd.R_drewN | apply Kd.R_drew)); exact HO_425004.out⟩, ⟨by (with_reducible repeat (first | refine blk_drewN ?_ _ | refine blk_drew ?_ | refine blk_alloc ?_ _)); exact BK424.out⟩, ⟨by (with_reducible repeat (first | refine blk_drewN ?_ _ | refine blk_drew ?_ | refine blk_alloc ?_ _)); exact BK425.out⟩, ⟨by repeat (first | (with_reducible first | exact HB.out | apply below_alloc | apply pw_below_drewN | apply below_drew1 | refine below_set ?_ GE424.out | refine below_set ?_ GE425.out) | exact HB.out)⟩⟩
        ·rw [if_neg c23] at H
         have c23b0 : ((rd x425001_1 (rd x7_1 x8_1)) == 0) = false := beq_eq_false_iff_ne.mpr c23
         have c23b1 : ((rd x425001_1 (rd x7_1 x8_1)) != 0) = true := bne_iff_ne.mpr c23
         obtain ⟨y449, hy449⟩ : ∃ y_ : List Int, y_ = (x425001_1.set ((rd x7_1 x8_1) : Int).toNat 0) := ⟨_, rfl⟩
         replace H : (if (rd x7_1 x8_1) < (x425002_1.length : Int) then (ref39_stop.l0 k1 x7_1 (wrap64 (x8_1 + 1)) t426 y449 (x425002_1.set ((rd x7_1 x8_1) : Int).toNat t426) t433 t436) else (none)) = some (r1, r2, r3, r4, r5) := by first | (rw [hy449]; with_reducible exact H) | (have H2_ := (Option.bind_some _ _).symm.trans H; rw [hy449]; with_reducible exact H2_) | (have H2_ := (Option.bind_some _ _).symm.trans H; with_reducible exact H2_) | with_reducible exact H | (rw [hy449]; exact H) | exact H
         have Ny449 := Aside0.mk hy449
         clear hy449
         by_cases c28 : (rd x7_1 x8_1) < (x425002_1.length : Int)
         ·rw [if_pos c28] at H
          have c28b0 : decide ((rd x7_1 x8_1) < (x425002_1.length : Int)) = true := decide_eq_true c28
          clear c28
          obtain ⟨y450, hy450⟩ : ∃ y_ : List Int, y_ = (x425002_1.set ((rd x7_1 x8_1) : Int).toNat t426) := ⟨_, rfl⟩
          replace H : (ref39_stop.l0 k1 x7_1 (wrap64 (x8_1 + 1)) t426 y449 y450 t433 t436) = some (r1, r2, r3, r4, r5) := by first | (rw [hy450]; with_reducible exact H) | (have H2_ := (Option.bind_some _ _).symm.trans H; rw [hy450]; with_reducible exact H2_) | (have H2_ := (Option.bind_some _ _).symm.trans H; with_reducible exact H2_) | with_reducible exact H | (rw [hy450]; exact H) | exact H
          have Ny450 := Aside0.mk hy450
          clear hy450
          have H' := Aside0.mk H
          clear H
          obtain ⟨Ao30, co30, eo30⟩ := Kd.R_slice HO_7.out
          subst eo30
          try go_wp2
          have n0_ := Aside0.mk (Kd.R_drew HO_7.out)
          have n1_ := Aside0.mk (Kd.R_drew HO_425001.out)
          have n2_ := Aside0.mk (Kd.R_drew HO_425002.out)
          have n3_ := Aside0.mk (Kd.R_drew HO_425003.out)
          have n4_ := Aside0.mk (Kd.R_drew HO_425004.out)
          have n5_ := Aside0.mk (blk_drew BK424.out)
          have n6_ := Aside0.mk (blk_drew BK425.out)
          have n7_ := Aside0.mk (below_drew1 HB.out)
          clear HO_7; clear HO_425001; clear HO_425002; clear HO_425003; clear HO_425004; clear BK424; clear BK425; clear HB; have HO_7 := n0_; have HO_425001 := n1_; have HO_425002 := n2_; have HO_425003 := n3_; have HO_425004 := n4_; have BK424 := n5_; have BK425 := n6_; have HB := n7_
          clear n0_ n1_ n2_ n3_ n4_ n5_ n6_ n7_
          have p445 : 0 ≤ (x8_1 : Int) := of_decide_eq_true (by first | (with_reducible assumption) | assumption)
          have q445 : x8_1 < (x7_1.length : Int) := of_decide_eq_true (by first | (with_reducible assumption) | assumption)
          obtain ⟨ad445, e445, hx445_0⟩ := Kd.at_int (Kd.R_reads' HO_7.out).2.2 x8_1 p445 q445
          cases e445
          replace p445 := eq_true p445
          replace q445 := eq_true q445
          obtain ⟨Ao32, co32, eo32⟩ := Kd.R_slice HO_425001.out
          (first | subst eo32 | (injection eo32 with f1_ f2_ f3_; have f4_ := f1_.symm; have f5_ := f3_.symm; clear f1_ f2_ f3_; subst f4_; subst f5_))
          have p446 : 0 ≤ ((rd x7_1 x8_1) : Int) := of_decide_eq_true (by first | (with_reducible assumption) | assumption)
          have q446 : (rd x7_1 x8_1) < (x425001_1.length : Int) := of_decide_eq_true (by first | (with_reducible assumption) | assumption)
          obtain ⟨ad446, e446, hx446_0⟩ := Kd.at_int (Kd.R_reads' HO_425001.out).2.2 (rd x7_1 x8_1) p446 q446
          cases e446
          replace p446 := eq_true p446
          replace q446 := eq_true q446
          refine start_ (n := 9) (S := fun w' => w'.cell? ⟨gb424, 0, none⟩ = some (.int .i64 t426) ∧ w'.cell? ⟨gb424, 1, none⟩ = some (.slice (some ad446) x425001_1.length co32) ∧ w'.cell? ⟨gb424, 2, none⟩ = some (u425002) ∧ w'.cell? ⟨gb424, 3, none⟩ = some (.slice Ao15 t433.length co15) ∧ w'.cell? ⟨gb424, 4, none⟩ = some (.slice Ao16 t436.length co16) ∧ w'.cell? (ad445.add (x8_1).toNat) = some (.int .i64 (rd x7_1 x8_1)) ∧ w'.cell? (ad446.add ((rd x7_1 x8_1)).toNat) = some (.int .i64 (rd x425001_1 (rd x7_1 x8_1)))) (ds := []) D9m0 (by kernel_rfl) rfl rfl ⟨(blk_cell BK424.out 0).trans rfl, (blk_cell BK424.out 1).trans rfl, (blk_cell BK424.out 2).trans rfl, (blk_cell BK424.out 3).trans rfl, (blk_cell BK424.out 4).trans rfl, hx445_0, hx446_0⟩ (fun hHeld => ?_); refine with_tabW ref39_stop.tab6 ref39_stop.bits6 (fun HT_ HW_ => ?_)
          generalize wr.drew = w31 at HO_7 HO_425001 HO_425002 HO_425003 HO_425004 BK424 BK425 HB hx445_0 hx446_0 hHeld ⊢
          refine pure_ (i := 0) (N := some 23) (v := ?_) (a' := ?_) D9m1 rfl rfl (any_of HT_.out (by kernel_rfl)) (fun _ _ _ h => h) (Or.inl ⟨by rfl, ?_⟩) ?_ ?_
          rotate_left; ·intro w'; go_simp; with_reducible rfl
          rotate_left; ·simp only [Act.put, sZ1, sZ2, sZ3, i64_w, i32_w]; rfl
          refine pure_ (i := 2) (N := some 25) (v := ?_) (a' := ?_) D9m5 rfl rfl (any_of HT_.out (by kernel_rfl)) (fun _ _ _ h => h) (Or.inl ⟨by rfl, ?_⟩) ?_ ?_
          rotate_left; ·intro w'; go_simp; with_reducible rfl
          rotate_left; ·simp only [Act.put, sZ1, sZ2, sZ3, i64_w, i32_w]; rfl
          refine pure_ (i := 3) (N := some 26) (v := ?_) (a' := ?_) D9md rfl rfl (any_of HT_.out (by kernel_rfl)) (fun _ _ _ h => h) (Or.inl ⟨by rfl, ?_⟩) ?_ ?_
          rotate_left; ·intro w'; go_simp; with_reducible rfl
          rotate_left; ·simp only [Act.put, sZ1, sZ2, sZ3, i64_w, i32_w]; rfl
          refine pure_ (i := 4) (N := some 27) (v := ?_) (a' := ?_) D9m1d rfl rfl (any_of HT_.out (by kernel_rfl)) (fun _ _ _ h => h) (Or.inl ⟨by rfl, ?_⟩) ?_ ?_
          rotate_left; ·intro w'; go_simp; with_reducible rfl
          rotate_left; ·simp only [Act.put, sZ1, sZ2, sZ3, i64_w, i32_w]; rfl
          refine take_ (i := 1) (N := some 24) (v := ?_) (a' := ?_) D9m1f rfl rfl (take_ofW HT_.out HW_.out (by kernel_rfl)) (fun _ _ _ h => h) (Or.inl ⟨by rfl, ?_⟩) hHeld ?_ ?_
          rotate_left; ·rintro w' ⟨s0, s1, s2, s3, s4, s5, s6⟩; go_simp; with_reducible rfl
          rotate_left; ·simp only [Act.put, sZ1, sZ2, sZ3, i64_w, i32_w]; rfl
          refine take_ (i := 5) (N := some 28) (v := ?_) (a' := ?_) D9m3f rfl rfl (take_ofW HT_.out HW_.out (by kernel_rfl)) (fun _ _ _ h => h) (Or.inl ⟨by rfl, ?_⟩) hHeld ?_ ?_
          rotate_left; ·rintro w' ⟨s0, s1, s2, s3, s4, s5, s6⟩; go_simp; with_reducible rfl
          rotate_left; ·simp only [Act.put, sZ1, sZ2, sZ3, i64_w, i32_w]; rfl
          refine pure_ (i := 6) (N := some 29) (v := ?_) (a' := ?_) D9m7f rfl rfl (any_of HT_.out (by kernel_rfl)) (fun _ _ _ h => h) (Or.inl ⟨by rfl, ?_⟩) ?_ ?_
          rotate_left; ·intro w'; go_simp; with_reducible rfl
          rotate_left; ·simp only [Act.put, sZ1, sZ2, sZ3, i64_w, i32_w]; rfl
          refine take_ (i := 7) (N := some 30) (v := ?_) (a' := ?_) D9mff rfl rfl (take_ofW HT_.out HW_.out (by kernel_rfl)) (fun _ _ _ h => h) (Or.inl ⟨by rfl, ?_⟩) hHeld ?_ ?_
          rotate_left; ·rintro w' ⟨s0, s1, s2, s3, s4, s5, s6⟩; go_simp; with_reducible rfl
          rotate_left; ·simp only [Act.put, sZ1, sZ2, sZ3, i64_w, i32_w]; rfl
          refine pure_ (i := 8) (N := some 31) (v := ?_) (a' := ?_) D9m1ff rfl rfl (any_of HT_.out (by kernel_rfl)) (fun _ _ _ h => h) (Or.inl ⟨by rfl, ?_⟩) ?_ ?_
          rotate_left; ·intro w'; go_simp; with_reducible rfl
          rotate_left; ·simp only [Act.put, sZ1, sZ2, sZ3, i64_w, i32_w]; rfl
          refine done_ (done_of HT_.out (by kernel_rfl)) ?_
          try go_wp2
          have n0_ := Aside0.mk (Kd.R_drew HO_7.out)
          have n1_ := Aside0.mk (Kd.R_drew HO_425001.out)
          have n2_ := Aside0.mk (Kd.R_drew HO_425002.out)
          have n3_ := Aside0.mk (Kd.R_drew HO_425003.out)
          have n4_ := Aside0.mk (Kd.R_drew HO_425004.out)
          have n5_ := Aside0.mk (blk_drew BK424.out)
          have n6_ := Aside0.mk (blk_drew BK425.out)
          have n7_ := Aside0.mk (below_drew1 HB.out)
          clear HO_7; clear HO_425001; clear HO_425002; clear HO_425003; clear HO_425004; clear BK424; clear BK425; clear HB; have HO_7 := n0_; have HO_425001 := n1_; have HO_425002 := n2_; have HO_425003 := n3_; have HO_425004 := n4_; have BK424 := n5_; have BK425 := n6_; have HB := n7_
          clear n0_ n1_ n2_ n3_ n4_ n5_ n6_ n7_
          have p447 : 0 ≤ (x8_1 : Int) := of_decide_eq_true (by first | (with_reducible assumption) | assumption)
          have q447 : x8_1 < (x7_1.length : Int) := of_decide_eq_true (by first | (with_reducible assumption) | assumption)
          obtain ⟨ad447, e447, hx447_0⟩ := Kd.at_int (Kd.R_reads' HO_7.out).2.2 x8_1 p447 q447
          obtain rfl : ad445 = ad447 := (by injection e447)
          replace p447 := eq_true p447
          replace q447 := eq_true q447
          have p448 : 0 ≤ (x8_1 : Int) := of_decide_eq_true (by first | (with_reducible assumption) | assumption)
          have q448 : x8_1 < (x7_1.length : Int) := of_decide_eq_true (by first | (with_reducible assumption) | assumption)
          obtain ⟨ad448, e448, hx448_0⟩ := Kd.at_int (Kd.R_reads' HO_7.out).2.2 x8_1 p448 q448
          obtain rfl : ad445 = ad448 := (by injection e448)
          replace p448 := eq_true p448
          replace q448 := eq_true q448
          have p27 : 0 ≤ ((rd x7_1 x8_1) : Int) := of_decide_eq_true (by first | (with_reducible assumption) | assumption)
          have q27 : ((rd x7_1 x8_1) : Int) < ((x425001_1.length : Int) : Int) := of_decide_eq_true (by first | (with_reducible assumption) | assumption)
          obtain ⟨go27, co27, eo27, gb27, gl27, cl27, HG27⟩ := Kd.R_form HO_425001.out (by omega)
          (first | cases eo27 | (injection eo27 with ea_ en_ ec_; (first | subst ea_ | (injection ea_ with ea_; subst ea_)); subst ec_; clear en_))
          have GB27 := Aside0.mk gb27
          have GG27 := Aside0.mk HG27
          clear gb27 gl27 HG27
          (first | simp only [add_plain] at hx446_0 | skip)
          obtain ⟨hx27_0, hf27_0⟩ := Kd.R_celln 0 HO_425001.out ((rd x7_1 x8_1) : Int) p27 q27
          replace p27 := eq_true p27
          replace q27 := eq_true q27
          have nbr34_424 : gb424 ≠ go27 := fun e_ => by have h1_ := BK424.out; have h2_ := GG27.out; rw [e_] at h1_; rw [h2_] at h1_; simp at h1_
          have nbr34_425 : gb425 ≠ go27 := fun e_ => by have h1_ := BK425.out; have h2_ := GG27.out; rw [e_] at h1_; rw [h2_] at h1_; simp at h1_
          have nrr34_HO_7 : some go27 ≠ (.slice (some ad445) x7_1.length co30 : Value).ownBlock := ((fun hk => hk.1) (HO_425001.out.1 _ rfl))
          have nrr34_HO_425002 : some go27 ≠ (u425002 : Value).ownBlock := ((fun hk => hk.2) (HO_425001.out.1 _ rfl))
          have HP34 := Kd.R_putn HO_425001.out ((rd x7_1 x8_1) : Int) 0
          rw [← Ny449.out] at HP34
          have HQ34 := Aside0.mk HP34
          clear HP34
          have p29 : 0 ≤ ((rd x7_1 x8_1) : Int) := of_decide_eq_true (by first | (with_reducible assumption) | assumption)
          have q29 : ((rd x7_1 x8_1) : Int) < ((x425002_1.length : Int) : Int) := of_decide_eq_true (by first | (with_reducible assumption) | assumption)
          obtain ⟨go29, co29, eo29, gb29, gl29, cl29, HG29⟩ := Kd.R_form HO_425002.out (by omega)
          (first | cases eo29 | (injection eo29 with ea_ en_ ec_; (first | subst ea_ | (injection ea_ with ea_; subst ea_)); subst ec_; clear en_))
          have GB29 := Aside0.mk gb29
          have GG29 := Aside0.mk HG29
          clear gb29 gl29 HG29
          obtain ⟨hx29_0, hf29_0⟩ := Kd.R_celln 0 (Kd.R_far (p := ⟨go27, ((rd x7_1 x8_1) : Int).toNat, none⟩) (Kd.R_mono HO_425002.out (fun k_ hk => (⟨hk, fun e_ => hk.2 (by rw [e_]; rfl)⟩ : _ ∧ k_ ≠ go27))) (fun _ hk => hk.2) (.int .i64 0)) ((rd x7_1 x8_1) : Int) p29 q29
          replace p29 := eq_true p29
          replace q29 := eq_true q29
          have nbr35_424 : gb424 ≠ go29 := fun e_ => by have h1_ := BK424.out; have h2_ := GG29.out; rw [e_] at h1_; rw [h2_] at h1_; simp at h1_
          have nbr35_425 : gb425 ≠ go29 := fun e_ => by have h1_ := BK425.out; have h2_ := GG29.out; rw [e_] at h1_; rw [h2_] at h1_; simp at h1_
          have nrr35_HO_7 : some go29 ≠ (.slice (some ad445) x7_1.length co30 : Value).ownBlock := ((fun hk => hk.1) (HO_425002.out.1 _ rfl))
          have nrr35_HO_425001 : some go29 ≠ (.slice (some ⟨go27, 0, none⟩) x425001_1.length co32 : Value).ownBlock := ((fun hk => hk.2) (HO_425002.out.1 _ rfl))
          have HP35 := Kd.R_putn (Kd.R_far (p := ⟨go27, ((rd x7_1 x8_1) : Int).toNat, none⟩) (Kd.R_mono HO_425002.out (fun k_ hk => (⟨hk, fun e_ => hk.2 (by rw [e_]; rfl)⟩ : _ ∧ k_ ≠ go27))) (fun _ hk => hk.2) (.int .i64 0)) ((rd x7_1 x8_1) : Int) t426
          rw [← Ny450.out] at HP35
          have HQ35 := Aside0.mk HP35
          clear HP35
          refine start_ (n := 18) (S := fun w' => w'.cell? ⟨gb424, 0, none⟩ = some (.int .i64 t426) ∧ w'.cell? ⟨gb424, 1, none⟩ = some (.slice (some ⟨go27, 0, none⟩) x425001_1.length co32) ∧ w'.cell? ⟨gb424, 2, none⟩ = some (.slice (some ⟨go29, 0, none⟩) x425002_1.length co29) ∧ w'.cell? ⟨gb424, 3, none⟩ = some (.slice Ao15 t433.length co15) ∧ w'.cell? ⟨gb424, 4, none⟩ = some (.slice Ao16 t436.length co16) ∧ w'.cell? (ad445.add (x8_1).toNat) = some (.int .i64 (rd x7_1 x8_1)) ∧ w'.cell? (ad445.add (x8_1).toNat) = some (.int .i64 (rd x7_1 x8_1))) (ds := []) D18m0 (by kernel_rfl) rfl rfl ⟨(blk_cell BK424.out 0).trans rfl, (blk_cell BK424.out 1).trans rfl, (blk_cell BK424.out 2).trans rfl, (blk_cell BK424.out 3).trans rfl, (blk_cell BK424.out 4).trans rfl, hx447_0, hx448_0⟩ (fun hHeld => ?_); refine with_tabW ref39_stop.tab7 ref39_stop.bits7 (fun HT_ HW_ => ?_)
          generalize w31.drew = w33 at HO_7 HO_425001 HO_425002 HO_425003 HO_425004 BK424 BK425 HB GG27 GG29 HQ34 HQ35 hf27_0 hf29_0 hx27_0 hx29_0 hx446_0 hx447_0 hx448_0 hHeld ⊢
          refine pure_ (i := 0) (N := some 32) (v := ?_) (a' := ?_) D18m1 rfl rfl (any_of HT_.out (by kernel_rfl)) (fun _ _ _ h => h) (Or.inl ⟨by rfl, ?_⟩) ?_ ?_
          rotate_left; ·intro w'; go_simp; with_reducible rfl
          rotate_left; ·simp only [Act.put, sZ1, sZ2, sZ3, i64_w, i32_w]; rfl
          refine pure_ (i := 2) (N := some 34) (v := ?_) (a' := ?_) D18m5 rfl rfl (any_of HT_.out (by kernel_rfl)) (fun _ _ _ h => h) (Or.inl ⟨by rfl, ?_⟩) ?_ ?_
          rotate_left; ·intro w'; go_simp; with_reducible rfl
          rotate_left; ·simp only [Act.put, sZ1, sZ2, sZ3, i64_w, i32_w]; rfl
          refine pure_ (i := 3) (N := some 35) (v := ?_) (a' := ?_) D18md rfl rfl (any_of HT_.out (by kernel_rfl)) (fun _ _ _ h => h) (Or.inl ⟨by rfl, ?_⟩) ?_ ?_
          rotate_left; ·intro w'; go_simp; with_reducible rfl
          rotate_left; ·simp only [Act.put, sZ1, sZ2, sZ3, i64_w, i32_w]; rfl
          refine pure_ (i := 4) (N := some 36) (v := ?_) (a' := ?_) D18m1d rfl rfl (any_of HT_.out (by kernel_rfl)) (fun _ _ _ h => h) (Or.inl ⟨by rfl, ?_⟩) ?_ ?_
          rotate_left; ·intro w'; go_simp; with_reducible rfl
          rotate_left; ·simp only [Act.put, sZ1, sZ2, sZ3, i64_w, i32_w]; rfl
          refine pure_ (i := 6) (N := some 38) (v := ?_) (a' := ?_) D18m5d rfl rfl (any_of HT_.out (by kernel_rfl)) (fun _ _ _ h => h) (Or.inl ⟨by rfl, ?_⟩) ?_ ?_
          rotate_left; ·intro w'; go_simp; with_reducible rfl
          rotate_left; ·simp only [Act.put, sZ1, sZ2, sZ3, i64_w, i32_w]; rfl
          refine pure_ (i := 8) (N := some 40) (v := ?_) (a' := ?_) D18m15d rfl rfl (any_of HT_.out (by kernel_rfl)) (fun _ _ _ h => h) (Or.inl ⟨by rfl, ?_⟩) ?_ ?_
          rotate_left; ·intro w'; go_simp; with_reducible rfl
          rotate_left; ·simp only [Act.put, sZ1, sZ2, sZ3, i64_w, i32_w]; rfl
          refine pure_ (i := 9) (N := some 41) (v := ?_) (a' := ?_) D18m35d rfl rfl (any_of HT_.out (by kernel_rfl)) (fun _ _ _ h => h) (Or.inl ⟨by rfl, ?_⟩) ?_ ?_
          rotate_left; ·intro w'; go_simp; with_reducible rfl
          rotate_left; ·simp only [Act.put, sZ1, sZ2, sZ3, i64_w, i32_w]; rfl
          refine pure_ (i := 10) (N := some 42) (v := ?_) (a' := ?_) D18m75d rfl rfl (any_of HT_.out (by kernel_rfl)) (fun _ _ _ h => h) (Or.inl ⟨by rfl, ?_⟩) ?_ ?_
          rotate_left; ·intro w'; go_simp; with_reducible rfl
          rotate_left; ·simp only [Act.put, sZ1, sZ2, sZ3, i64_w, i32_w]; rfl
          refine pure_ (i := 12) (N := some 44) (v := ?_) (a' := ?_) D18m175d rfl rfl (any_of HT_.out (by kernel_rfl)) (fun _ _ _ h => h) (Or.inl ⟨by rfl, ?_⟩) ?_ ?_
          rotate_left; ·intro w'; go_simp; with_reducible rfl
          rotate_left; ·simp only [Act.put, sZ1, sZ2, sZ3, i64_w, i32_w]; rfl
          refine take_ (i := 1) (N := some 33) (v := ?_) (a' := ?_) D18m175f rfl rfl (take_ofW HT_.out HW_.out (by kernel_rfl)) (fun _ _ _ h => h) (Or.inl ⟨by rfl, ?_⟩) hHeld ?_ ?_
          rotate_left; ·rintro w' ⟨s0, s1, s2, s3, s4, s5, s6⟩; go_simp; with_reducible rfl
          rotate_left; ·simp only [Act.put, sZ1, sZ2, sZ3, i64_w, i32_w]; rfl
          refine take_ (i := 5) (N := some 37) (v := ?_) (a' := ?_) D18m177f rfl rfl (take_ofW HT_.out HW_.out (by kernel_rfl)) (fun _ _ _ h => h) (Or.inl ⟨by rfl, ?_⟩) hHeld ?_ ?_
          rotate_left; ·rintro w' ⟨s0, s1, s2, s3, s4, s5, s6⟩; go_simp; with_reducible rfl
          rotate_left; ·simp only [Act.put, sZ1, sZ2, sZ3, i64_w, i32_w]; rfl
          refine take_ (i := 7) (N := some 39) (v := ?_) (a' := ?_) D18m17ff rfl rfl (take_ofW HT_.out HW_.out (by kernel_rfl)) (fun _ _ _ h => h) (Or.inl ⟨by rfl, ?_⟩) hHeld ?_ ?_
          rotate_left; ·rintro w' ⟨s0, s1, s2, s3, s4, s5, s6⟩; go_simp; with_reducible rfl
          rotate_left; ·simp only [Act.put, sZ1, sZ2, sZ3, i64_w, i32_w]; rfl
          refine take_ (i := 11) (N := some 43) (v := ?_) (a' := ?_) D18m1fff rfl rfl (take_ofW HT_.out HW_.out (by kernel_rfl)) (fun _ _ _ h => h) (Or.inl ⟨by rfl, ?_⟩) hHeld ?_ ?_
          rotate_left; ·rintro w' ⟨s0, s1, s2, s3, s4, s5, s6⟩; go_simp; with_reducible rfl
          rotate_left; ·simp only [Act.put, sZ1, sZ2, sZ3, i64_w, i32_w]; rfl
          refine pure_ (i := 14) (N := some 46) (v := ?_) (a' := ?_) D18m5fff rfl rfl (any_of HT_.out (by kernel_rfl)) (fun _ _ _ h => h) (Or.inl ⟨by rfl, ?_⟩) ?_ ?_
          rotate_left; ·intro w'; go_simp; with_reducible rfl
          rotate_left; ·simp only [Act.put, sZ1, sZ2, sZ3, i64_w, i32_w]; rfl
          refine take_ (i := 13) (N := some 45) (v := ?_) (a' := ?_) D18m7fff rfl rfl (take_ofW HT_.out HW_.out (by kernel_rfl)) (fun _ _ _ h => h) (Or.inl ⟨by rfl, ?_⟩) hHeld ?_ ?_
          rotate_left; ·rintro w' ⟨s0, s1, s2, s3, s4, s5, s6⟩; go_simp; with_reducible rfl
          rotate_left; ·simp only [Act.put, sZ1, sZ2, sZ3, i64_w, i32_w]; rfl
          refine one_ (i := 15) (N := none) D18mffff rfl rfl (one_of HT_.out (by kernel_rfl)) (by decide) (fun K hK => ?_)
          refine skip_ (w1 := ?_) (by rfl) rfl ?_ ?_
          rotate_left
          ·go_simp
           rfl
          refine hK.out _ _ ⟨((cell_far (p := ⟨go27, _, none⟩) nbr34_424 _).trans (hHeld.1)), ((cell_far (p := ⟨go27, _, none⟩) nbr34_424 _).trans (hHeld.2.1)), ((cell_far (p := ⟨go27, _, none⟩) nbr34_424 _).trans (hHeld.2.2.1)), ((cell_far (p := ⟨go27, _, none⟩) nbr34_424 _).trans (hHeld.2.2.2.1)), ((cell_far (p := ⟨go27, _, none⟩) nbr34_424 _).trans (hHeld.2.2.2.2.1)), ((cell_far (p := ⟨go27, _, none⟩) (by first | exact Kd.own_blk nrr34_HO_7 | (rw [add_block]; exact Kd.own_blk nrr34_HO_7) | (show (Addr.add _ _).block ≠ _; rw [add_block]; exact Kd.own_blk nrr34_HO_7) | (dsimp only; exact Kd.own_blk nrr34_HO_7)) _).trans (hHeld.2.2.2.2.2.1)), ((cell_far (p := ⟨go27, _, none⟩) (by first | exact Kd.own_blk nrr34_HO_7 | (rw [add_block]; exact Kd.own_blk nrr34_HO_7) | (show (Addr.add _ _).block ≠ _; rw [add_block]; exact Kd.own_blk nrr34_HO_7) | (dsimp only; exact Kd.own_blk nrr34_HO_7)) _).trans (hHeld.2.2.2.2.2.2))⟩ (fun hHeld => ?_)
          clear hK K
          refine pure_ (i := 16) (N := some 47) (v := ?_) (a' := ?_) D18m1ffff rfl rfl (any_of HT_.out (by kernel_rfl)) (fun _ _ _ h => h) (Or.inl ⟨by rfl, ?_⟩) ?_ ?_
          rotate_left; ·intro w'; go_simp; with_reducible rfl
          rotate_left; ·simp only [Act.put, sZ1, sZ2, sZ3, i64_w, i32_w]; rfl
          refine one_ (i := 17) (N := none) D18m3ffff rfl rfl (one_of HT_.out (by kernel_rfl)) (by decide) (fun K hK => ?_)
          refine skip_ (w1 := ?_) (by rfl) rfl ?_ ?_
          rotate_left
          ·go_simp
           rfl
          refine hK.out _ _ ⟨((cell_far (p := ⟨go29, _, none⟩) nbr35_424 _).trans (hHeld.1)), ((cell_far (p := ⟨go29, _, none⟩) nbr35_424 _).trans (hHeld.2.1)), ((cell_far (p := ⟨go29, _, none⟩) nbr35_424 _).trans (hHeld.2.2.1)), ((cell_far (p := ⟨go29, _, none⟩) nbr35_424 _).trans (hHeld.2.2.2.1)), ((cell_far (p := ⟨go29, _, none⟩) nbr35_424 _).trans (hHeld.2.2.2.2.1)), ((cell_far (p := ⟨go29, _, none⟩) (by first | exact Kd.own_blk nrr35_HO_7 | (rw [add_block]; exact Kd.own_blk nrr35_HO_7) | (show (Addr.add _ _).block ≠ _; rw [add_block]; exact Kd.own_blk nrr35_HO_7) | (dsimp only; exact Kd.own_blk nrr35_HO_7)) _).trans (hHeld.2.2.2.2.2.1)), ((cell_far (p := ⟨go29, _, none⟩) (by first | exact Kd.own_blk nrr35_HO_7 | (rw [add_block]; exact Kd.own_blk nrr35_HO_7) | (show (Addr.add _ _).block ≠ _; rw [add_block]; exact Kd.own_blk nrr35_HO_7) | (dsimp only; exact Kd.own_blk nrr35_HO_7)) _).trans (hHeld.2.2.2.2.2.2))⟩ (fun hHeld => ?_)
          clear hK K
          refine done_ (done_of HT_.out (by kernel_rfl)) ?_
          try go_wp2
          go_roundg k1
          case measure => have := HK1.out; omega
          case rel => exact ⟨(x7_1), (wrap64 (x8_1 + 1)), (y449), (y450), (.slice (some ⟨go27, 0, none⟩) x425001_1.length co32), (.slice (some ⟨go29, 0, none⟩) x425002_1.length co29), (by first | rfl | (simp; done) | (simp [*]; done)), H', ⟨by have := HK1.out; omega⟩, ⟨by (with_reducible repeat (first | apply Kd.R_alloc | apply Kd.R_drewN | apply Kd.R_drew)); exact Kd.R_mono (Kd.R_far (p := ⟨go29, ((rd x7_1 x8_1) : Int).toNat, none⟩) (Kd.R_far (p := ⟨go27, ((rd x7_1 x8_1) : Int).toNat, none⟩) (Kd.R_mono (Kd.R_mono HO_7.out (fun k_ hk => (⟨hk, fun e_ => hk.1 (by rw [e_]; rfl)⟩ : _ ∧ k_ ≠ go27))) (fun k_ hk => (⟨hk, fun e_ => hk.1.2 (by rw [e_]; rfl)⟩ : _ ∧ k_ ≠ go29))) (fun _ hk => hk.1.2) (.int .i64 0)) (fun _ hk => hk.2) (.int .i64 t426)) (fun _ hk => ⟨hk.1.1.1, hk.1.1.2⟩)⟩, ⟨by (with_reducible repeat (first | apply Kd.R_alloc | apply Kd.R_drewN | apply Kd.R_drew)); exact Kd.R_mono (Kd.R_far (p := ⟨go29, ((rd x7_1 x8_1) : Int).toNat, none⟩) (Kd.R_mono HQ34.out (fun k_ hk => (⟨hk, fun e_ => hk.2 (by rw [e_]; rfl)⟩ : _ ∧ k_ ≠ go29))) (fun _ hk => hk.2) (.int .i64 t426)) (fun _ hk => ⟨hk.1.1, hk.1.2⟩)⟩, ⟨by (with_reducible repeat (first | apply Kd.R_alloc | apply Kd.R_drewN | apply Kd.R_drew)); exact Kd.R_mono HQ35.out (fun _ hk => ⟨hk.1.1, hk.1.2⟩)⟩, ⟨by (with_reducible repeat (first | apply Kd.R_alloc | apply Kd.R_drewN | apply Kd.R_drew)); exact Kd.R_mono (Kd.R_far (p := ⟨go29, ((rd x7_1 x8_1) : Int).toNat, none⟩) (Kd.R_far (p := ⟨go27, ((rd x7_1 x8_1) : Int).toNat, none⟩) (Kd.R_types (Kd.R_types HO_425003.out GG27.out (by decide)) GG29.out (by decide)) (fun _ hk => hk.1.2) (.int .i64 0)) (fun _ hk => hk.2) (.int .i64 t426)) (fun _ hk => hk.1.1)⟩, ⟨by (with_reducible repeat (first | apply Kd.R_alloc | apply Kd.R_drewN | apply Kd.R_drew)); exact Kd.R_mono (Kd.R_far (p := ⟨go29, ((rd x7_1 x8_1) : Int).toNat, none⟩) (Kd.R_far (p := ⟨go27, ((rd x7_1 x8_1) : Int).toNat, none⟩) (Kd.R_types (Kd.R_types HO_425004.out GG27.out (by decide)) GG29.out (by decide)) (fun _ hk => hk.1.2) (.int .i64 0)) (fun _ hk => hk.2) (.int .i64 t426)) (fun _ hk => hk.1.1)⟩, ⟨by (with_reducible repeat (first | refine blk_drewN ?_ _ | refine blk_drew ?_ | refine blk_alloc ?_ _)); refine blk_far ?_ (by have h_ := Kd.R_ne HO_425002.out BK424.out (by decide); intro e_; exact h_ (by rw [e_]; rfl)) _; (with_reducible repeat (first | refine blk_drewN ?_ _ | refine blk_drew ?_ | refine blk_alloc ?_ _)); refine blk_far ?_ (by have h_ := Kd.R_ne HO_425001.out BK424.out (by decide); intro e_; exact h_ (by rw [e_]; rfl)) _; (with_reducible repeat (first | refine blk_drewN ?_ _ | refine blk_drew ?_ | refine blk_alloc ?_ _)); exact BK424.out⟩, ⟨by (with_reducible repeat (first | refine blk_drewN ?_ _ | refine blk_drew ?_ | refine blk_alloc ?_ _)); refine blk_far ?_ (by have h_ := Kd.R_ne HO_425002.out BK425.out (by decide); intro e_; exact h_ (by rw [e_]; rfl)) _; (with_reducible repeat (first | refine blk_drewN ?_ _ | refine blk_drew ?_ | refine blk_alloc ?_ _)); refine blk_far ?_ (by have h_ := Kd.R_ne HO_425001.out BK425.out (by decide); intro e_; exact h_ (by rw [e_]; rfl)) _; (with_reducible repeat (first | refine blk_drewN ?_ _ | refine blk_drew ?_ | refine blk_alloc ?_ _)); exact BK425.out⟩, ⟨by repeat (first | (with_reducible first | exact HB.out | apply below_alloc | apply pw_below_drewN | apply below_drew1 | refine below_set ?_ GB27.out | refine below_set ?_ GB29.out | refine below_set ?_ GE424.out | refine below_set ?_ GE425.out) | exact HB.out)⟩⟩
         ·rw [if_neg c28] at H
          exact absurd H (by simp)
       ·rw [if_neg c22] at H
        exact absurd H (by simp)
      ·rw [if_neg c21] at H
       exact absurd H (by simp)
     ·rw [if_neg c20] at H
      exact absurd H (by simp)
    ·rw [if_neg c19] at H
     have c19b0 : decide (x8_1 < (x7_1.length : Int)) = false := decide_eq_false c19
     clear c19
     simp only [Option.some.injEq, Prod.mk.injEq] at H
     obtain ⟨rfl, rfl, rfl, rfl, rfl⟩ := H
     obtain ⟨Ao36, co36, eo36⟩ := Kd.R_slice HO_7.out
     subst eo36
     have hnb37 := NB424_425.out
     have hnc37 := NB425_424.out
     have hcz38_0 : wr.cell? ⟨gb424, 0, none⟩ = some (.int .i64 t426) := (blk_cell BK424.out 0).trans rfl
     have hcz38_1 : wr.cell? ⟨gb424, 1, none⟩ = some (u425001) := (blk_cell BK424.out 1).trans rfl
     have hcz38_2 : wr.cell? ⟨gb424, 2, none⟩ = some (u425002) := (blk_cell BK424.out 2).trans rfl
     have hcz38_3 : wr.cell? ⟨gb424, 3, none⟩ = some (.slice Ao15 t433.length co15) := (blk_cell BK424.out 3).trans rfl
     have hcz38_4 : wr.cell? ⟨gb424, 4, none⟩ = some (.slice Ao16 t436.length co16) := (blk_cell BK424.out 4).trans rfl
     have hfz38_0 := blk_frozen BK424.out 0
     have hfz38_1 := blk_frozen BK424.out 1
     have hfz38_2 := blk_frozen BK424.out 2
     have hfz38_3 := blk_frozen BK424.out 3
     have hfz38_4 := blk_frozen BK424.out 4
     have hcz39_0 : wr.cell? ⟨gb425, 0, none⟩ = some (.int .i64 0) := (blk_cell BK425.out 0).trans rfl
     have hcz39_1 : wr.cell? ⟨gb425, 1, none⟩ = some (.slice none 0 0) := (blk_cell BK425.out 1).trans rfl
     have hcz39_2 : wr.cell? ⟨gb425, 2, none⟩ = some (.slice none 0 0) := (blk_cell BK425.out 2).trans rfl
     have hcz39_3 : wr.cell? ⟨gb425, 3, none⟩ = some (.slice none 0 0) := (blk_cell BK425.out 3).trans rfl
     have hcz39_4 : wr.cell? ⟨gb425, 4, none⟩ = some (.slice none 0 0) := (blk_cell BK425.out 4).trans rfl
     have hfz39_0 := blk_frozen BK425.out 0
     have hfz39_1 := blk_frozen BK425.out 1
     have hfz39_2 := blk_frozen BK425.out 2
     have hfz39_3 := blk_frozen BK425.out 3
     have hfz39_4 := blk_frozen BK425.out 4
     obtain ⟨Ao40, co40, eo40⟩ := Kd.R_slice HO_425001.out
     subst eo40
     obtain ⟨Ao41, co41, eo41⟩ := Kd.R_slice HO_425002.out
     subst eo41
     go_wp2
     refine bodyPost_ret (results_cell_row rfl _ _ gb425 34 #[.int .i64 t426, .slice Ao40 x425001_1.length co40, .slice Ao41 x425002_1.length co41, .slice Ao15 t433.length co15, .slice Ao16 t436.length co16] (0, 0) _ rfl (by (with_reducible repeat (first | refine blk_drewN ?_ _ | refine blk_drew ?_ | refine blk_alloc ?_ _)); refine blk_put (cs := #[.int .i64 t426, .slice Ao40 x425001_1.length co40, .slice Ao41 x425002_1.length co41, .slice Ao15 t433.length co15, .slice none 0 0]) ?_ 4 _ rfl; (with_reducible repeat (first | refine blk_drewN ?_ _ | refine blk_drew ?_ | refine blk_alloc ?_ _)); refine blk_put (cs := #[.int .i64 t426, .slice Ao40 x425001_1.length co40, .slice Ao41 x425002_1.length co41, .slice none 0 0, .slice none 0 0]) ?_ 3 _ rfl; (with_reducible repeat (first | refine blk_drewN ?_ _ | refine blk_drew ?_ | refine blk_alloc ?_ _)); refine blk_put (cs := #[.int .i64 t426, .slice Ao40 x425001_1.length co40, .slice none 0 0, .slice none 0 0, .slice none 0 0]) ?_ 2 _ rfl; (with_reducible repeat (first | refine blk_drewN ?_ _ | refine blk_drew ?_ | refine blk_alloc ?_ _)); refine blk_put (cs := #[.int .i64 t426, .slice none 0 0, .slice none 0 0, .slice none 0 0, .slice none 0 0]) ?_ 1 _ rfl; (with_reducible repeat (first | refine blk_drewN ?_ _ | refine blk_drew ?_ | refine blk_alloc ?_ _)); refine blk_put (cs := #[.int .i64 0, .slice none 0 0, .slice none 0 0, .slice none 0 0, .slice none 0 0]) ?_ 0 _ rfl; (with_reducible repeat (first | refine blk_drewN ?_ _ | refine blk_drew ?_ | refine blk_alloc ?_ _)); exact BK425.out) Try.underlying34 rfl (by kernel_rfl)) rfl ?_
     exact ⟨_, _, _, _, by first | rfl | (simp [errW_none, errW_some] <;> rfl) | (simp [*, errW_none, errW_some] <;> rfl), by (with_reducible repeat (first | apply Kd.R_alloc | apply Kd.R_drewN | apply Kd.R_drew)); exact Kd.R_mono (Kd.R_far (p := ⟨gb425, 4, none⟩) (Kd.R_far (p := ⟨gb425, 3, none⟩) (Kd.R_far (p := ⟨gb425, 2, none⟩) (Kd.R_far (p := ⟨gb425, 1, none⟩) (Kd.R_far (p := ⟨gb425, 0, none⟩) (Kd.R_types HO_425001.out BK425.out (by decide)) (fun _ hk => hk.2) (.int .i64 t426)) (fun _ hk => hk.2) (.slice Ao40 x425001_1.length co40)) (fun _ hk => hk.2) (.slice Ao41 x425002_1.length co41)) (fun _ hk => hk.2) (.slice Ao15 t433.length co15)) (fun _ hk => hk.2) (.slice Ao16 t436.length co16)) (fun _ hk => hk.1.2), by (with_reducible repeat (first | apply Kd.R_alloc | apply Kd.R_drewN | apply Kd.R_drew)); exact Kd.R_mono (Kd.R_far (p := ⟨gb425, 4, none⟩) (Kd.R_far (p := ⟨gb425, 3, none⟩) (Kd.R_far (p := ⟨gb425, 2, none⟩) (Kd.R_far (p := ⟨gb425, 1, none⟩) (Kd.R_far (p := ⟨gb425, 0, none⟩) (Kd.R_types HO_425002.out BK425.out (by decide)) (fun _ hk => hk.2) (.int .i64 t426)) (fun _ hk => hk.2) (.slice Ao40 x425001_1.length co40)) (fun _ hk => hk.2) (.slice Ao41 x425002_1.length co41)) (fun _ hk => hk.2) (.slice Ao15 t433.length co15)) (fun _ hk => hk.2) (.slice Ao16 t436.length co16)) (fun _ hk => hk.1.2), by (with_reducible repeat (first | apply Kd.R_alloc | apply Kd.R_drewN | apply Kd.R_drew)); exact Kd.R_mono (Kd.R_far (p := ⟨gb425, 4, none⟩) (Kd.R_far (p := ⟨gb425, 3, none⟩) (Kd.R_far (p := ⟨gb425, 2, none⟩) (Kd.R_far (p := ⟨gb425, 1, none⟩) (Kd.R_far (p := ⟨gb425, 0, none⟩) (Kd.R_types HO_425003.out BK425.out (by decide)) (fun _ hk => hk.2) (.int .i64 t426)) (fun _ hk => hk.2) (.slice Ao40 x425001_1.length co40)) (fun _ hk => hk.2) (.slice Ao41 x425002_1.length co41)) (fun _ hk => hk.2) (.slice Ao15 t433.length co15)) (fun _ hk => hk.2) (.slice Ao16 t436.length co16)) (fun _ hk => hk.1), by (with_reducible repeat (first | apply Kd.R_alloc | apply Kd.R_drewN | apply Kd.R_drew)); exact Kd.R_mono (Kd.R_far (p := ⟨gb425, 4, none⟩) (Kd.R_far (p := ⟨gb425, 3, none⟩) (Kd.R_far (p := ⟨gb425, 2, none⟩) (Kd.R_far (p := ⟨gb425, 1, none⟩) (Kd.R_far (p := ⟨gb425, 0, none⟩) (Kd.R_types HO_425004.out BK425.out (by decide)) (fun _ hk => hk.2) (.int .i64 t426)) (fun _ hk => hk.2) (.slice Ao40 x425001_1.length co40)) (fun _ hk => hk.2) (.slice Ao41 x425002_1.length co41)) (fun _ hk => hk.2) (.slice Ao15 t433.length co15)) (fun _ hk => hk.2) (.slice Ao16 t436.length co16)) (fun _ hk => hk.1), by repeat (first | (with_reducible first | exact HB.out | apply below_alloc | apply pw_below_drewN | apply below_drew1 | refine below_set ?_ GE424.out | refine below_set ?_ GE425.out) | exact HB.out)⟩
 ·rw [if_neg c6] at H
  exact absurd H (by simp)

end Go.Proofs.Ytejmjeanhlkenaa.PB
