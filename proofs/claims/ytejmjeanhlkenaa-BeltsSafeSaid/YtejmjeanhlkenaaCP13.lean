import Derived.Test.YtejmjeanhlkenaaCP0
import Derived.Test.YtejmjeanhlkenaaCP10
-- written by wip/myprint.py (the kit's print over hand-proved contracts)
namespace Go.Proofs.Ytejmjeanhlkenaa.PB
open Go.RowKit Go.Proofs.YtejmjeanhlkenaaW.PrintWords Go.Proofs.YtejmjeanhlkenaaW.PrintLast Go.Proofs.YtejmjeanhlkenaaW.PrintMore
attribute [local go_sem] max2_int min2_int max_two min_two max_three min_three max_four min_four   -- for this text's walks alone
set_option linter.unusedVariables false
set_option linter.unusedSimpArgs false

/-! ### ref39_Valid: function 41 -/
mutual
def ref39_Valid.j0 : Nat → List (S31) → Int → Bool → Int → List Int → List Int → List Bool → List Bool → Option (Bool)
 | 0, _, _, _, _, _, _, _, _ => none
 | k + 1, x0, x5, x50, x359000, x359001, x359002, x359003, x359004 => if x50 = true then (some false) else (ref39_Valid.l0 k x0 x5 0 x359000 x359001 x359002 x359003 x359004)
def ref39_Valid.l0 : Nat → List (S31) → Int → Int → Int → List Int → List Int → List Bool → List Bool → Option (Bool)
 | 0, _, _, _, _, _, _, _, _ => none
 | k + 1, x0, x5, x6, x359000, x359001, x359002, x359003, x359004 => if x6 < x5 then (if 0 ≤ x6 then (if x6 < (x359001.length : Int) then (if (rd x359001 x6) < 0 then (ref39_Valid.j2 k x0 x5 x6 (rd x359001 x6) true x359000 x359001 x359002 x359003 x359004) else (if (rd x359001 x6) > 2 then (ref39_Valid.j2 k x0 x5 x6 (rd x359001 x6) true x359000 x359001 x359002 x359003 x359004) else (if x6 < (x359002.length : Int) then (if (rd x359002 x6) < 0 then (ref39_Valid.j2 k x0 x5 x6 (rd x359001 x6) true x359000 x359001 x359002 x359003 x359004) else (ref39_Valid.j2 k x0 x5 x6 (rd x359001 x6) (decide ((rd x359002 x6) > x359000)) x359000 x359001 x359002 x359003 x359004)) else (none)))) else (none)) else (none)) else (some true)
def ref39_Valid.j2 : Nat → List (S31) → Int → Int → Int → Bool → Int → List Int → List Int → List Bool → List Bool → Option (Bool)
 | 0, _, _, _, _, _, _, _, _, _, _ => none
 | k + 1, x0, x5, x6, x7, x84, x359000, x359001, x359002, x359003, x359004 => if x84 = true then (some false) else (if x7 = 0 then (ref39_Valid.j3 k x0 x5 x6 false x359000 x359001 x359002 x359003 x359004) else (if 0 ≤ x6 then (if x6 < (x359003.length : Int) then (if rdOf false x359003 x6 = true then (ref39_Valid.j3 k x0 x5 x6 true x359000 x359001 x359002 x359003 x359004) else (if x6 < (x359004.length : Int) then (if rdOf false x359004 x6 = true then (ref39_Valid.j3 k x0 x5 x6 true x359000 x359001 x359002 x359003 x359004) else (if x6 < (x0.length : Int) then (if ((rd_T31 x0 x6).f0) ≥ 0 then (if 0 ≤ ((rd_T31 x0 x6).f0) then (if ((rd_T31 x0 x6).f0) < (x359001.length : Int) then (ref39_Valid.j3 k x0 x5 x6 ((rd x359001 ((rd_T31 x0 x6).f0)) != 2) x359000 x359001 x359002 x359003 x359004) else (none)) else (none)) else (ref39_Valid.j3 k x0 x5 x6 false x359000 x359001 x359002 x359003 x359004)) else (none))) else (none))) else (none)) else (none)))
def ref39_Valid.j3 : Nat → List (S31) → Int → Int → Bool → Int → List Int → List Int → List Bool → List Bool → Option (Bool)
 | 0, _, _, _, _, _, _, _, _, _ => none
 | k + 1, x0, x5, x6, x120, x359000, x359001, x359002, x359003, x359004 => if x120 = true then (some false) else (ref39_Valid.l0 k x0 x5 (wrap64 (x6 + 1)) x359000 x359001 x359002 x359003 x359004)
end
def ref39_Valid.f (k : Nat) (l0 : List (S31)) (a1_0 : Int) (l1_1 : List Int) (l1_2 : List Int) (l1_3 : List Bool) (l1_4 : List Bool) : Option (Bool) := (ref39_belts.f k l0).bind fun t359 => (if t359 = true then (if (l1_1.length : Int) = (l0.length : Int) then (if (l1_2.length : Int) = (l0.length : Int) then (if (l1_3.length : Int) = (l0.length : Int) then (if (l1_4.length : Int) = (l0.length : Int) then (if a1_0 < 0 then (ref39_Valid.j0 k l0 (l0.length : Int) true a1_0 l1_1 l1_2 l1_3 l1_4) else (ref39_Valid.j0 k l0 (l0.length : Int) (decide (a1_0 > 2147483648)) a1_0 l1_1 l1_2 l1_3 l1_4)) else (ref39_Valid.j0 k l0 (l0.length : Int) true a1_0 l1_1 l1_2 l1_3 l1_4)) else (ref39_Valid.j0 k l0 (l0.length : Int) true a1_0 l1_1 l1_2 l1_3 l1_4)) else (ref39_Valid.j0 k l0 (l0.length : Int) true a1_0 l1_1 l1_2 l1_3 l1_4)) else (ref39_Valid.j0 k l0 (l0.length : Int) true a1_0 l1_1 l1_2 l1_3 l1_4)) else (ref39_Valid.j0 k l0 (l0.length : Int) true a1_0 l1_1 l1_2 l1_3 l1_4))
theorem ref39_Valid.mono_l : ∀ k, (∀ y0 y1 y2 y3 y4 y5 y6 y7, LeO (ref39_Valid.j0 k y0 y1 y2 y3 y4 y5 y6 y7) (ref39_Valid.j0 (k + 1) y0 y1 y2 y3 y4 y5 y6 y7)) ∧ (∀ y0 y1 y2 y3 y4 y5 y6 y7, LeO (ref39_Valid.l0 k y0 y1 y2 y3 y4 y5 y6 y7) (ref39_Valid.l0 (k + 1) y0 y1 y2 y3 y4 y5 y6 y7)) ∧ (∀ y0 y1 y2 y3 y4 y5 y6 y7 y8 y9, LeO (ref39_Valid.j2 k y0 y1 y2 y3 y4 y5 y6 y7 y8 y9) (ref39_Valid.j2 (k + 1) y0 y1 y2 y3 y4 y5 y6 y7 y8 y9)) ∧ (∀ y0 y1 y2 y3 y4 y5 y6 y7 y8, LeO (ref39_Valid.j3 k y0 y1 y2 y3 y4 y5 y6 y7 y8) (ref39_Valid.j3 (k + 1) y0 y1 y2 y3 y4 y5 y6 y7 y8))
 | 0 => ⟨fun _ _ _ _ _ _ _ _ r h => by simp [ref39_Valid.j0] at h, fun _ _ _ _ _ _ _ _ r h => by simp [ref39_Valid.l0] at h, fun _ _ _ _ _ _ _ _ _ _ r h => by simp [ref39_Valid.j2] at h, fun _ _ _ _ _ _ _ _ _ r h => by simp [ref39_Valid.j3] at h⟩
 | k + 1 => by
  obtain ⟨ih0, ih1, ih2, ih3⟩ := ref39_Valid.mono_l k
  refine ⟨?_, ?_, ?_, ?_⟩
  ·intro y0 y1 y2 y3 y4 y5 y6 y7
   unfold ref39_Valid.j0
   repeat' first
   | (with_reducible exact ih0 _ _ _ _ _ _ _ _)
   | (with_reducible exact ih1 _ _ _ _ _ _ _ _)
   | (with_reducible exact ih2 _ _ _ _ _ _ _ _ _ _)
   | (with_reducible exact ih3 _ _ _ _ _ _ _ _ _)
   | (with_reducible exact ref39_belts.mono _ _)
   | (with_reducible exact LeO.refl _)
   | (with_reducible exact LeO.none _)
   | (with_reducible refine LeO.ite ?_ ?_)
   | (with_reducible refine LeO.bind ?_ (fun _ => ?_))
   | exact ih0 _ _ _ _ _ _ _ _
   | exact ih1 _ _ _ _ _ _ _ _
   | exact ih2 _ _ _ _ _ _ _ _ _ _
   | exact ih3 _ _ _ _ _ _ _ _ _
   | exact ref39_belts.mono _ _
   | exact LeO.none _
   | refine LeO.ite ?_ ?_
   | refine LeO.bind ?_ (fun _ => ?_)
  ·intro y0 y1 y2 y3 y4 y5 y6 y7
   unfold ref39_Valid.l0
   repeat' first
   | (with_reducible exact ih0 _ _ _ _ _ _ _ _)
   | (with_reducible exact ih1 _ _ _ _ _ _ _ _)
   | (with_reducible exact ih2 _ _ _ _ _ _ _ _ _ _)
   | (with_reducible exact ih3 _ _ _ _ _ _ _ _ _)
   | (with_reducible exact ref39_belts.mono _ _)
   | (with_reducible exact LeO.refl _)
   | (with_reducible exact LeO.none _)
   | (with_reducible refine LeO.ite ?_ ?_)
   | (with_reducible refine LeO.bind ?_ (fun _ => ?_))
   | exact ih0 _ _ _ _ _ _ _ _
   | exact ih1 _ _ _ _ _ _ _ _
   | exact ih2 _ _ _ _ _ _ _ _ _ _
   | exact ih3 _ _ _ _ _ _ _ _ _
   | exact ref39_belts.mono _ _
   | exact LeO.none _
   | refine LeO.ite ?_ ?_
   | refine LeO.bind ?_ (fun _ => ?_)
  ·intro y0 y1 y2 y3 y4 y5 y6 y7 y8 y9
   unfold ref39_Valid.j2
   repeat' first
   | (with_reducible exact ih0 _ _ _ _ _ _ _ _)
   | (with_reducible exact ih1 _ _ _ _ _ _ _ _)
   | (with_reducible exact ih2 _ _ _ _ _ _ _ _ _ _)
   | (with_reducible exact ih3 _ _ _ _ _ _ _ _ _)
   | (with_reducible exact ref39_belts.mono _ _)
   | (with_reducible exact LeO.refl _)
   | (with_reducible exact LeO.none _)
   | (with_reducible refine LeO.ite ?_ ?_)
   | (with_reducible refine LeO.bind ?_ (fun _ => ?_))
   | exact ih0 _ _ _ _ _ _ _ _
   | exact ih1 _ _ _ _ _ _ _ _
   | exact ih2 _ _ _ _ _ _ _ _ _ _
   | exact ih3 _ _ _ _ _ _ _ _ _
   | exact ref39_belts.mono _ _
   | exact LeO.none _
   | refine LeO.ite ?_ ?_
   | refine LeO.bind ?_ (fun _ => ?_)
  ·intro y0 y1 y2 y3 y4 y5 y6 y7 y8
   unfold ref39_Valid.j3
   repeat' first
   | (with_reducible exact ih0 _ _ _ _ _ _ _ _)
   | (with_reducible exact ih1 _ _ _ _ _ _ _ _)
   | (with_reducible exact ih2 _ _ _ _ _ _ _ _ _ _)
   | (with_reducible exact ih3 _ _ _ _ _ _ _ _ _)
   | (with_reducible exact ref39_belts.mono _ _)
   | (with_reducible exact LeO.refl _)
   | (with_reducible exact LeO.none _)
   | (with_reducible refine LeO.ite ?_ ?_)
   | (with_reducible refine LeO.bind ?_ (fun _ => ?_))
   | exact ih0 _ _ _ _ _ _ _ _
   | exact ih1 _ _ _ _ _ _ _ _
   | exact ih2 _ _ _ _ _ _ _ _ _ _
   | exact ih3 _ _ _ _ _ _ _ _ _
   | exact ref39_belts.mono _ _
   | exact LeO.none _
   | refine LeO.ite ?_ ?_
   | refine LeO.bind ?_ (fun _ => ?_)
theorem ref39_Valid.mono : ∀ a0 a1 a2 a3 a4 a5 k, LeO (ref39_Valid.f k a0 a1 a2 a3 a4 a5) (ref39_Valid.f (k + 1) a0 a1 a2 a3 a4 a5) := by
 intro a0 a1 a2 a3 a4 a5 k
 obtain ⟨ih0, ih1, ih2, ih3⟩ := ref39_Valid.mono_l k
 unfold ref39_Valid.f
 repeat' first
   | (with_reducible exact ih0 _ _ _ _ _ _ _ _)
   | (with_reducible exact ih1 _ _ _ _ _ _ _ _)
   | (with_reducible exact ih2 _ _ _ _ _ _ _ _ _ _)
   | (with_reducible exact ih3 _ _ _ _ _ _ _ _ _)
   | (with_reducible exact ref39_belts.mono _ _)
   | (with_reducible exact LeO.refl _)
   | (with_reducible exact LeO.none _)
   | (with_reducible refine LeO.ite ?_ ?_)
   | (with_reducible refine LeO.bind ?_ (fun _ => ?_))
   | exact ih0 _ _ _ _ _ _ _ _
   | exact ih1 _ _ _ _ _ _ _ _
   | exact ih2 _ _ _ _ _ _ _ _ _ _
   | exact ih3 _ _ _ _ _ _ _ _ _
   | exact ref39_belts.mono _ _
   | exact LeO.none _
   | refine LeO.ite ?_ ?_
   | refine LeO.bind ?_ (fun _ => ?_)
set_option maxHeartbeats 8000000 in
set_option maxRecDepth 100000 in
theorem ref39_Valid.calls (k : Nat) (A0 : Option Addr) (c0 : Nat) (l0 : List (S31)) (a1_0 : Int) (A1_1 : Option Addr) (c1_1 : Nat) (l1_1 : List Int) (A1_2 : Option Addr) (c1_2 : Nat) (l1_2 : List Int) (A1_3 : Option Addr) (c1_3 : Nat) (l1_3 : List Bool) (A1_4 : Option Addr) (c1_4 : Nat) (l1_4 : List Bool) (r : Bool) (w : World) (hr0 : Kd.C k31 w A0 l0.length l0) (hc0 : l0.length ≤ c0) (hr1_1 : Kd.C (Kd.int .i64) w A1_1 l1_1.length l1_1) (hc1_1 : l1_1.length ≤ c1_1) (hr1_2 : Kd.C (Kd.int .i64) w A1_2 l1_2.length l1_2) (hc1_2 : l1_2.length ≤ c1_2) (hr1_3 : Kd.C Kd.bool w A1_3 l1_3.length l1_3) (hc1_3 : l1_3.length ≤ c1_3) (hr1_4 : Kd.C Kd.bool w A1_4 l1_4.length l1_4) (hc1_4 : l1_4.length ≤ c1_4) (h : ref39_Valid.f k l0 a1_0 l1_1 l1_2 l1_3 l1_4 = some r) :
  Calls Try.prog 41 #[.slice A0 l0.length c0, .agg #[.int .i64 a1_0, .slice A1_1 l1_1.length c1_1, .slice A1_2 l1_2.length c1_2, .slice A1_3 l1_3.length c1_3, .slice A1_4 l1_4.length c1_4]] w fun e w' => e = .returned (.bool r) ∧ Below w.heap.size w w' := by
 have hu34 := Try.underlying34
 have HR0 := Aside0.mk hr0
 have HC0 := Aside0.mk hc0
 clear hr0 hc0
 have HR1_1 := Aside0.mk hr1_1
 have HC1_1 := Aside0.mk hc1_1
 clear hr1_1 hc1_1
 have HR1_2 := Aside0.mk hr1_2
 have HC1_2 := Aside0.mk hc1_2
 clear hr1_2 hc1_2
 have HR1_3 := Aside0.mk hr1_3
 have HC1_3 := Aside0.mk hc1_3
 clear hr1_3 hc1_3
 have HR1_4 := Aside0.mk hr1_4
 have HC1_4 := Aside0.mk hc1_4
 clear hr1_4 hc1_4
 have HB := Aside0.mk (Below.refl w.heap.size w)
 have H : ((ref39_belts.f k l0).bind fun t359 => (if t359 = true then (if (l1_1.length : Int) = (l0.length : Int) then (if (l1_2.length : Int) = (l0.length : Int) then (if (l1_3.length : Int) = (l0.length : Int) then (if (l1_4.length : Int) = (l0.length : Int) then (if a1_0 < 0 then (ref39_Valid.j0 k l0 (l0.length : Int) true a1_0 l1_1 l1_2 l1_3 l1_4) else (ref39_Valid.j0 k l0 (l0.length : Int) (decide (a1_0 > 2147483648)) a1_0 l1_1 l1_2 l1_3 l1_4)) else (ref39_Valid.j0 k l0 (l0.length : Int) true a1_0 l1_1 l1_2 l1_3 l1_4)) else (ref39_Valid.j0 k l0 (l0.length : Int) true a1_0 l1_1 l1_2 l1_3 l1_4)) else (ref39_Valid.j0 k l0 (l0.length : Int) true a1_0 l1_1 l1_2 l1_3 l1_4)) else (ref39_Valid.j0 k l0 (l0.length : Int) true a1_0 l1_1 l1_2 l1_3 l1_4)) else (ref39_Valid.j0 k l0 (l0.length : Int) true a1_0 l1_1 l1_2 l1_3 l1_4))) = some r := h
 clear h
 have HC3 := Aside0.mk H
 clear H
 go_enter Try.func41, Try.ntmps41
 go_upto_region 2 with (first | ((with_reducible refine gate_dst (N := 3) rfl ?_); (try (refine gate_guard (by rfl) ?_; dsimp only)); refine box_event ?hg (N := 3) ?hd (cs := #[.int .i64 a1_0, .slice A1_1 l1_1.length c1_1, .slice A1_2 l1_2.length c1_2, .slice A1_3 l1_3.length c1_3, .slice A1_4 l1_4.length c1_4]) (t := 34) ?hr ?_; (case hd => rfl); (case hg => rfl); (case hr => first | (go_simp; done) | (go_simp; rfl)); intro gb358 hg w4 hbox hb; have n0_ := Aside0.mk (below_step (by repeat (first | (with_reducible first | exact HB.out | apply below_alloc | apply pw_below_drewN | apply below_drew1) | exact HB.out)) hb); have n1_ := Aside0.mk (hbox); have n2_ := Aside0.mk ((by rw [hg]; exact (below_size (by repeat (first | (with_reducible first | exact HB.out | apply below_alloc | apply pw_below_drewN | apply below_drew1) | exact HB.out))) : w.heap.size ≤ gb358)); have n3_ := Aside0.mk ((by rw [hg]; exact (below_size (by repeat (first | (with_reducible first | exact HB.out | apply below_alloc | apply pw_below_drewN | apply below_drew1) | exact HB.out))) : w.heap.size ≤ gb358)); clear HB; have HB := n0_; have BK358 := n1_; have GW358 := n2_; have GE358 := n3_; clear n0_ n1_ n2_ n3_; clear hb hbox hg))
 repeat (go_quiet (first | ((with_reducible refine gate_dst (N := 3) rfl ?_); (try (refine gate_guard (by rfl) ?_; dsimp only)); refine box_event ?hg (N := 3) ?hd (cs := #[.int .i64 a1_0, .slice A1_1 l1_1.length c1_1, .slice A1_2 l1_2.length c1_2, .slice A1_3 l1_3.length c1_3, .slice A1_4 l1_4.length c1_4]) (t := 34) ?hr ?_; (case hd => rfl); (case hg => rfl); (case hr => first | (go_simp; done) | (go_simp; rfl)); intro gb358 hg w4 hbox hb; have n0_ := Aside0.mk (below_step (by repeat (first | (with_reducible first | exact HB.out | apply below_alloc | apply pw_below_drewN | apply below_drew1) | exact HB.out)) hb); have n1_ := Aside0.mk (hbox); have n2_ := Aside0.mk ((by rw [hg]; exact (below_size (by repeat (first | (with_reducible first | exact HB.out | apply below_alloc | apply pw_below_drewN | apply below_drew1) | exact HB.out))) : w.heap.size ≤ gb358)); have n3_ := Aside0.mk ((by rw [hg]; exact (below_size (by repeat (first | (with_reducible first | exact HB.out | apply below_alloc | apply pw_below_drewN | apply below_drew1) | exact HB.out))) : w.heap.size ≤ gb358)); clear HB; have HB := n0_; have BK358 := n1_; have GW358 := n2_; have GE358 := n3_; clear n0_ n1_ n2_ n3_; clear hb hbox hg)); go_upto_region 2 with (first | ((with_reducible refine gate_dst (N := 3) rfl ?_); (try (refine gate_guard (by rfl) ?_; dsimp only)); refine box_event ?hg (N := 3) ?hd (cs := #[.int .i64 a1_0, .slice A1_1 l1_1.length c1_1, .slice A1_2 l1_2.length c1_2, .slice A1_3 l1_3.length c1_3, .slice A1_4 l1_4.length c1_4]) (t := 34) ?hr ?_; (case hd => rfl); (case hg => rfl); (case hr => first | (go_simp; done) | (go_simp; rfl)); intro gb358 hg w4 hbox hb; have n0_ := Aside0.mk (below_step (by repeat (first | (with_reducible first | exact HB.out | apply below_alloc | apply pw_below_drewN | apply below_drew1) | exact HB.out)) hb); have n1_ := Aside0.mk (hbox); have n2_ := Aside0.mk ((by rw [hg]; exact (below_size (by repeat (first | (with_reducible first | exact HB.out | apply below_alloc | apply pw_below_drewN | apply below_drew1) | exact HB.out))) : w.heap.size ≤ gb358)); have n3_ := Aside0.mk ((by rw [hg]; exact (below_size (by repeat (first | (with_reducible first | exact HB.out | apply below_alloc | apply pw_below_drewN | apply below_drew1) | exact HB.out))) : w.heap.size ≤ gb358)); clear HB; have HB := n0_; have BK358 := n1_; have GW358 := n2_; have GE358 := n3_; clear n0_ n1_ n2_ n3_; clear hb hbox hg)))
 (try simp only [Act.put, List.setIfInBounds_toArray, List.set_cons_zero, List.set_cons_succ])
 go_cut [50] (fun v50 wc => ∃ (kq : Nat) (x50_2 : Bool), v50 = .bool x50_2 ∧ Aside0 (ref39_Valid.j0 kq l0 (l0.length : Int) x50_2 a1_0 l1_1 l1_2 l1_3 l1_4 = some r) ∧ Aside0 (kq ≤ k) ∧ Aside0 (wc.heap[gb358]? = some (.cells #[.int .i64 a1_0, (.slice A1_1 l1_1.length c1_1), (.slice A1_2 l1_2.length c1_2), (.slice A1_3 l1_3.length c1_3), (.slice A1_4 l1_4.length c1_4)] 34 (0, 0))) ∧ Aside0 (Below w.heap.size w wc))
 case first =>
  have H := HC3.out
  clear HC3
  replace H := Option.bind_eq_some_iff.mp H
  obtain ⟨t359, A50, H⟩ := H
  replace H : (if t359 = true then (if (l1_1.length : Int) = (l0.length : Int) then (if (l1_2.length : Int) = (l0.length : Int) then (if (l1_3.length : Int) = (l0.length : Int) then (if (l1_4.length : Int) = (l0.length : Int) then (if a1_0 < 0 then (ref39_Valid.j0 k l0 (l0.length : Int) true a1_0 l1_1 l1_2 l1_3 l1_4) else (ref39_Valid.j0 k l0 (l0.length : Int) (decide (a1_0 > 2147483648)) a1_0 l1_1 l1_2 l1_3 l1_4)) else (ref39_Valid.j0 k l0 (l0.length : Int) true a1_0 l1_1 l1_2 l1_3 l1_4)) else (ref39_Valid.j0 k l0 (l0.length : Int) true a1_0 l1_1 l1_2 l1_3 l1_4)) else (ref39_Valid.j0 k l0 (l0.length : Int) true a1_0 l1_1 l1_2 l1_3 l1_4)) else (ref39_Valid.j0 k l0 (l0.length : Int) true a1_0 l1_1 l1_2 l1_3 l1_4)) else (ref39_Valid.j0 k l0 (l0.length : Int) true a1_0 l1_1 l1_2 l1_3 l1_4)) = some r := H
  have A5 := Aside0.mk A50
  clear A50
  by_cases c6 : t359 = true
  ·subst c6
   have H1 : (if (l1_1.length : Int) = (l0.length : Int) then (if (l1_2.length : Int) = (l0.length : Int) then (if (l1_3.length : Int) = (l0.length : Int) then (if (l1_4.length : Int) = (l0.length : Int) then (if a1_0 < 0 then (ref39_Valid.j0 k l0 (l0.length : Int) true a1_0 l1_1 l1_2 l1_3 l1_4) else (ref39_Valid.j0 k l0 (l0.length : Int) (decide (a1_0 > 2147483648)) a1_0 l1_1 l1_2 l1_3 l1_4)) else (ref39_Valid.j0 k l0 (l0.length : Int) true a1_0 l1_1 l1_2 l1_3 l1_4)) else (ref39_Valid.j0 k l0 (l0.length : Int) true a1_0 l1_1 l1_2 l1_3 l1_4)) else (ref39_Valid.j0 k l0 (l0.length : Int) true a1_0 l1_1 l1_2 l1_3 l1_4)) else (ref39_Valid.j0 k l0 (l0.length : Int) true a1_0 l1_1 l1_2 l1_3 l1_4)) = some r := by rw [if_pos rfl] at H; exact H
   clear H
   have H := H1
   clear H1
   by_cases c7 : (l1_1.length : Int) = (l0.length : Int)
   ·rw [if_pos c7] at H
    have c7b0 : ((l1_1.length : Int) == (l0.length : Int)) = true := beq_iff_eq.mpr c7
    have c7b1 : ((l1_1.length : Int) != (l0.length : Int)) = false := bne_eq_false_iff_eq.mpr c7
    have c7b2 : (l1_1.length == l0.length) = true := by first | simpa using c7 | (simp at c7 ⊢; omega)
    clear c7
    (first | rw [c7b0] | (simp only [i64_w, i32_w]; rw [c7b0]) | skip)
    by_cases c8 : (l1_2.length : Int) = (l0.length : Int)
    ·rw [if_pos c8] at H
     have c8b0 : ((l1_2.length : Int) == (l0.length : Int)) = true := beq_iff_eq.mpr c8
     have c8b1 : ((l1_2.length : Int) != (l0.length : Int)) = false := bne_eq_false_iff_eq.mpr c8
     have c8b2 : (l1_2.length == l0.length) = true := by first | simpa using c8 | (simp at c8 ⊢; omega)
     clear c8
     by_cases c9 : (l1_3.length : Int) = (l0.length : Int)
     ·rw [if_pos c9] at H
      have c9b0 : ((l1_3.length : Int) == (l0.length : Int)) = true := beq_iff_eq.mpr c9
      have c9b1 : ((l1_3.length : Int) != (l0.length : Int)) = false := bne_eq_false_iff_eq.mpr c9
      have c9b2 : (l1_3.length == l0.length) = true := by first | simpa using c9 | (simp at c9 ⊢; omega)
      clear c9
      by_cases c10 : (l1_4.length : Int) = (l0.length : Int)
      ·rw [if_pos c10] at H
       have c10b0 : ((l1_4.length : Int) == (l0.length : Int)) = true := beq_iff_eq.mpr c10
       have c10b1 : ((l1_4.length : Int) != (l0.length : Int)) = false := bne_eq_false_iff_eq.mpr c10
       have c10b2 : (l1_4.length == l0.length) = true := by first | simpa using c10 | (simp at c10 ⊢; omega)
       clear c10
       by_cases c11 : a1_0 < 0
       ·rw [if_pos c11] at H
        have c11b0 : decide (a1_0 < 0) = true := decide_eq_true c11
        clear c11
        have H' := Aside0.mk H
        clear H
        go_wp2_with (first | (go_at_call 44; (with_reducible refine (ref39_belts.calls k _ _ l0 true _ ?side1 ?side2 A5.out).mono ?_); (case side1 => repeat (first | exact (Kd.C_below HR0.out HB.out) | (with_reducible refine Kd.C_alloc ?_ _) | (with_reducible refine Kd.C_drewN ?_ _) | (with_reducible refine Kd.C_drew ?_))); (case side2 => exact HC0.out); rintro e w' ⟨rfl, ⟨nd, rfl⟩⟩; (try first | exact ⟨rfl, _, World.drewN_drewN _ _ _⟩ | exact ⟨rfl, _, Eq.trans (World.drewN_drewN _ _ _) (congrArg (World.drewN _) (Nat.add_assoc _ _ _))⟩); have hcz12_0 : w4.cell? ⟨gb358, 0, none⟩ = some (.int .i64 a1_0) := (blk_cell BK358.out 0).trans rfl; have hcz12_1 : w4.cell? ⟨gb358, 1, none⟩ = some (.slice A1_1 l1_1.length c1_1) := (blk_cell BK358.out 1).trans rfl; have hcz12_2 : w4.cell? ⟨gb358, 2, none⟩ = some (.slice A1_2 l1_2.length c1_2) := (blk_cell BK358.out 2).trans rfl; have hcz12_3 : w4.cell? ⟨gb358, 3, none⟩ = some (.slice A1_3 l1_3.length c1_3) := (blk_cell BK358.out 3).trans rfl; have hcz12_4 : w4.cell? ⟨gb358, 4, none⟩ = some (.slice A1_4 l1_4.length c1_4) := (blk_cell BK358.out 4).trans rfl; have hfz12_0 := blk_frozen BK358.out 0; have hfz12_1 := blk_frozen BK358.out 1; have hfz12_2 := blk_frozen BK358.out 2; have hfz12_3 := blk_frozen BK358.out 3; have hfz12_4 := blk_frozen BK358.out 4))
        repeat (go_quiet (first | (go_at_call 44; (with_reducible refine (ref39_belts.calls k _ _ l0 true _ ?side1 ?side2 A5.out).mono ?_); (case side1 => repeat (first | exact (Kd.C_below HR0.out HB.out) | (with_reducible refine Kd.C_alloc ?_ _) | (with_reducible refine Kd.C_drewN ?_ _) | (with_reducible refine Kd.C_drew ?_))); (case side2 => exact HC0.out); rintro e w' ⟨rfl, ⟨nd, rfl⟩⟩; (try first | exact ⟨rfl, _, World.drewN_drewN _ _ _⟩ | exact ⟨rfl, _, Eq.trans (World.drewN_drewN _ _ _) (congrArg (World.drewN _) (Nat.add_assoc _ _ _))⟩); have hcz12_0 : w4.cell? ⟨gb358, 0, none⟩ = some (.int .i64 a1_0) := (blk_cell BK358.out 0).trans rfl; have hcz12_1 : w4.cell? ⟨gb358, 1, none⟩ = some (.slice A1_1 l1_1.length c1_1) := (blk_cell BK358.out 1).trans rfl; have hcz12_2 : w4.cell? ⟨gb358, 2, none⟩ = some (.slice A1_2 l1_2.length c1_2) := (blk_cell BK358.out 2).trans rfl; have hcz12_3 : w4.cell? ⟨gb358, 3, none⟩ = some (.slice A1_3 l1_3.length c1_3) := (blk_cell BK358.out 3).trans rfl; have hcz12_4 : w4.cell? ⟨gb358, 4, none⟩ = some (.slice A1_4 l1_4.length c1_4) := (blk_cell BK358.out 4).trans rfl; have hfz12_0 := blk_frozen BK358.out 0; have hfz12_1 := blk_frozen BK358.out 1; have hfz12_2 := blk_frozen BK358.out 2; have hfz12_3 := blk_frozen BK358.out 3; have hfz12_4 := blk_frozen BK358.out 4)); try go_wp2_with (first | (go_at_call 44; (with_reducible refine (ref39_belts.calls k _ _ l0 true _ ?side1 ?side2 A5.out).mono ?_); (case side1 => repeat (first | exact (Kd.C_below HR0.out HB.out) | (with_reducible refine Kd.C_alloc ?_ _) | (with_reducible refine Kd.C_drewN ?_ _) | (with_reducible refine Kd.C_drew ?_))); (case side2 => exact HC0.out); rintro e w' ⟨rfl, ⟨nd, rfl⟩⟩; (try first | exact ⟨rfl, _, World.drewN_drewN _ _ _⟩ | exact ⟨rfl, _, Eq.trans (World.drewN_drewN _ _ _) (congrArg (World.drewN _) (Nat.add_assoc _ _ _))⟩); have hcz12_0 : w4.cell? ⟨gb358, 0, none⟩ = some (.int .i64 a1_0) := (blk_cell BK358.out 0).trans rfl; have hcz12_1 : w4.cell? ⟨gb358, 1, none⟩ = some (.slice A1_1 l1_1.length c1_1) := (blk_cell BK358.out 1).trans rfl; have hcz12_2 : w4.cell? ⟨gb358, 2, none⟩ = some (.slice A1_2 l1_2.length c1_2) := (blk_cell BK358.out 2).trans rfl; have hcz12_3 : w4.cell? ⟨gb358, 3, none⟩ = some (.slice A1_3 l1_3.length c1_3) := (blk_cell BK358.out 3).trans rfl; have hcz12_4 : w4.cell? ⟨gb358, 4, none⟩ = some (.slice A1_4 l1_4.length c1_4) := (blk_cell BK358.out 4).trans rfl; have hfz12_0 := blk_frozen BK358.out 0; have hfz12_1 := blk_frozen BK358.out 1; have hfz12_2 := blk_frozen BK358.out 2; have hfz12_3 := blk_frozen BK358.out 3; have hfz12_4 := blk_frozen BK358.out 4)))
        go_meet
        case rel => exact ⟨_, (true), (by first | rfl | (simp; done) | (simp [*]; done)), H', ⟨by first | omega | exact Nat.le_refl _⟩, ⟨by (with_reducible repeat (first | refine blk_drewN ?_ _ | refine blk_drew ?_ | refine blk_alloc ?_ _)); exact BK358.out⟩, ⟨by repeat (first | (with_reducible first | exact HB.out | apply below_alloc | apply pw_below_drewN | apply below_drew1 | refine below_set ?_ GE358.out) | exact HB.out)⟩⟩
       ·rw [if_neg c11] at H
        have c11b0 : decide (a1_0 < 0) = false := decide_eq_false c11
        clear c11
        have H' := Aside0.mk H
        clear H
        go_wp2_with (first | (go_at_call 44; (with_reducible refine (ref39_belts.calls k _ _ l0 true _ ?side1 ?side2 A5.out).mono ?_); (case side1 => repeat (first | exact (Kd.C_below HR0.out HB.out) | (with_reducible refine Kd.C_alloc ?_ _) | (with_reducible refine Kd.C_drewN ?_ _) | (with_reducible refine Kd.C_drew ?_))); (case side2 => exact HC0.out); rintro e w' ⟨rfl, ⟨nd, rfl⟩⟩; (try first | exact ⟨rfl, _, World.drewN_drewN _ _ _⟩ | exact ⟨rfl, _, Eq.trans (World.drewN_drewN _ _ _) (congrArg (World.drewN _) (Nat.add_assoc _ _ _))⟩); have hcz13_0 : w4.cell? ⟨gb358, 0, none⟩ = some (.int .i64 a1_0) := (blk_cell BK358.out 0).trans rfl; have hcz13_1 : w4.cell? ⟨gb358, 1, none⟩ = some (.slice A1_1 l1_1.length c1_1) := (blk_cell BK358.out 1).trans rfl; have hcz13_2 : w4.cell? ⟨gb358, 2, none⟩ = some (.slice A1_2 l1_2.length c1_2) := (blk_cell BK358.out 2).trans rfl; have hcz13_3 : w4.cell? ⟨gb358, 3, none⟩ = some (.slice A1_3 l1_3.length c1_3) := (blk_cell BK358.out 3).trans rfl; have hcz13_4 : w4.cell? ⟨gb358, 4, none⟩ = some (.slice A1_4 l1_4.length c1_4) := (blk_cell BK358.out 4).trans rfl; have hfz13_0 := blk_frozen BK358.out 0; have hfz13_1 := blk_frozen BK358.out 1; have hfz13_2 := blk_frozen BK358.out 2; have hfz13_3 := blk_frozen BK358.out 3; have hfz13_4 := blk_frozen BK358.out 4))
        repeat (go_quiet (first | (go_at_call 44; (with_reducible refine (ref39_belts.calls k _ _ l0 true _ ?side1 ?side2 A5.out).mono ?_); (case side1 => repeat (first | exact (Kd.C_below HR0.out HB.out) | (with_reducible refine Kd.C_alloc ?_ _) | (with_reducible refine Kd.C_drewN ?_ _) | (with_reducible refine Kd.C_drew ?_))); (case side2 => exact HC0.out); rintro e w' ⟨rfl, ⟨nd, rfl⟩⟩; (try first | exact ⟨rfl, _, World.drewN_drewN _ _ _⟩ | exact ⟨rfl, _, Eq.trans (World.drewN_drewN _ _ _) (congrArg (World.drewN _) (Nat.add_assoc _ _ _))⟩); have hcz13_0 : w4.cell? ⟨gb358, 0, none⟩ = some (.int .i64 a1_0) := (blk_cell BK358.out 0).trans rfl; have hcz13_1 : w4.cell? ⟨gb358, 1, none⟩ = some (.slice A1_1 l1_1.length c1_1) := (blk_cell BK358.out 1).trans rfl; have hcz13_2 : w4.cell? ⟨gb358, 2, none⟩ = some (.slice A1_2 l1_2.length c1_2) := (blk_cell BK358.out 2).trans rfl; have hcz13_3 : w4.cell? ⟨gb358, 3, none⟩ = some (.slice A1_3 l1_3.length c1_3) := (blk_cell BK358.out 3).trans rfl; have hcz13_4 : w4.cell? ⟨gb358, 4, none⟩ = some (.slice A1_4 l1_4.length c1_4) := (blk_cell BK358.out 4).trans rfl; have hfz13_0 := blk_frozen BK358.out 0; have hfz13_1 := blk_frozen BK358.out 1; have hfz13_2 := blk_frozen BK358.out 2; have hfz13_3 := blk_frozen BK358.out 3; have hfz13_4 := blk_frozen BK358.out 4)); try go_wp2_with (first | (go_at_call 44; (with_reducible refine (ref39_belts.calls k _ _ l0 true _ ?side1 ?side2 A5.out).mono ?_); (case side1 => repeat (first | exact (Kd.C_below HR0.out HB.out) | (with_reducible refine Kd.C_alloc ?_ _) | (with_reducible refine Kd.C_drewN ?_ _) | (with_reducible refine Kd.C_drew ?_))); (case side2 => exact HC0.out); rintro e w' ⟨rfl, ⟨nd, rfl⟩⟩; (try first | exact ⟨rfl, _, World.drewN_drewN _ _ _⟩ | exact ⟨rfl, _, Eq.trans (World.drewN_drewN _ _ _) (congrArg (World.drewN _) (Nat.add_assoc _ _ _))⟩); have hcz13_0 : w4.cell? ⟨gb358, 0, none⟩ = some (.int .i64 a1_0) := (blk_cell BK358.out 0).trans rfl; have hcz13_1 : w4.cell? ⟨gb358, 1, none⟩ = some (.slice A1_1 l1_1.length c1_1) := (blk_cell BK358.out 1).trans rfl; have hcz13_2 : w4.cell? ⟨gb358, 2, none⟩ = some (.slice A1_2 l1_2.length c1_2) := (blk_cell BK358.out 2).trans rfl; have hcz13_3 : w4.cell? ⟨gb358, 3, none⟩ = some (.slice A1_3 l1_3.length c1_3) := (blk_cell BK358.out 3).trans rfl; have hcz13_4 : w4.cell? ⟨gb358, 4, none⟩ = some (.slice A1_4 l1_4.length c1_4) := (blk_cell BK358.out 4).trans rfl; have hfz13_0 := blk_frozen BK358.out 0; have hfz13_1 := blk_frozen BK358.out 1; have hfz13_2 := blk_frozen BK358.out 2; have hfz13_3 := blk_frozen BK358.out 3; have hfz13_4 := blk_frozen BK358.out 4)))
        go_meet
        case rel => exact ⟨_, (decide (a1_0 > 2147483648)), (by first | rfl | (simp; done) | (simp [*]; done)), H', ⟨by first | omega | exact Nat.le_refl _⟩, ⟨by (with_reducible repeat (first | refine blk_drewN ?_ _ | refine blk_drew ?_ | refine blk_alloc ?_ _)); exact BK358.out⟩, ⟨by repeat (first | (with_reducible first | exact HB.out | apply below_alloc | apply pw_below_drewN | apply below_drew1 | refine below_set ?_ GE358.out) | exact HB.out)⟩⟩
      ·rw [if_neg c10] at H
       have c10b0 : ((l1_4.length : Int) == (l0.length : Int)) = false := beq_eq_false_iff_ne.mpr c10
       have c10b1 : ((l1_4.length : Int) != (l0.length : Int)) = true := bne_iff_ne.mpr c10
       have c10b2 : (l1_4.length == l0.length) = false := by first | simpa using c10 | (simp at c10 ⊢; omega)
       have H' := Aside0.mk H
       clear H
       go_wp2_with (first | (go_at_call 44; (with_reducible refine (ref39_belts.calls k _ _ l0 true _ ?side1 ?side2 A5.out).mono ?_); (case side1 => repeat (first | exact (Kd.C_below HR0.out HB.out) | (with_reducible refine Kd.C_alloc ?_ _) | (with_reducible refine Kd.C_drewN ?_ _) | (with_reducible refine Kd.C_drew ?_))); (case side2 => exact HC0.out); rintro e w' ⟨rfl, ⟨nd, rfl⟩⟩; (try first | exact ⟨rfl, _, World.drewN_drewN _ _ _⟩ | exact ⟨rfl, _, Eq.trans (World.drewN_drewN _ _ _) (congrArg (World.drewN _) (Nat.add_assoc _ _ _))⟩); have hcz14_0 : w4.cell? ⟨gb358, 0, none⟩ = some (.int .i64 a1_0) := (blk_cell BK358.out 0).trans rfl; have hcz14_1 : w4.cell? ⟨gb358, 1, none⟩ = some (.slice A1_1 l1_1.length c1_1) := (blk_cell BK358.out 1).trans rfl; have hcz14_2 : w4.cell? ⟨gb358, 2, none⟩ = some (.slice A1_2 l1_2.length c1_2) := (blk_cell BK358.out 2).trans rfl; have hcz14_3 : w4.cell? ⟨gb358, 3, none⟩ = some (.slice A1_3 l1_3.length c1_3) := (blk_cell BK358.out 3).trans rfl; have hcz14_4 : w4.cell? ⟨gb358, 4, none⟩ = some (.slice A1_4 l1_4.length c1_4) := (blk_cell BK358.out 4).trans rfl; have hfz14_0 := blk_frozen BK358.out 0; have hfz14_1 := blk_frozen BK358.out 1; have hfz14_2 := blk_frozen BK358.out 2; have hfz14_3 := blk_frozen BK358.out 3; have hfz14_4 := blk_frozen BK358.out 4))
       repeat (go_quiet (first | (go_at_call 44; (with_reducible refine (ref39_belts.calls k _ _ l0 true _ ?side1 ?side2 A5.out).mono ?_); (case side1 => repeat (first | exact (Kd.C_below HR0.out HB.out) | (with_reducible refine Kd.C_alloc ?_ _) | (with_reducible refine Kd.C_drewN ?_ _) | (with_reducible refine Kd.C_drew ?_))); (case side2 => exact HC0.out); rintro e w' ⟨rfl, ⟨nd, rfl⟩⟩; (try first | exact ⟨rfl, _, World.drewN_drewN _ _ _⟩ | exact ⟨rfl, _, Eq.trans (World.drewN_drewN _ _ _) (congrArg (World.drewN _) (Nat.add_assoc _ _ _))⟩); have hcz14_0 : w4.cell? ⟨gb358, 0, none⟩ = some (.int .i64 a1_0) := (blk_cell BK358.out 0).trans rfl; have hcz14_1 : w4.cell? ⟨gb358, 1, none⟩ = some (.slice A1_1 l1_1.length c1_1) := (blk_cell BK358.out 1).trans rfl; have hcz14_2 : w4.cell? ⟨gb358, 2, none⟩ = some (.slice A1_2 l1_2.length c1_2) := (blk_cell BK358.out 2).trans rfl; have hcz14_3 : w4.cell? ⟨gb358, 3, none⟩ = some (.slice A1_3 l1_3.length c1_3) := (blk_cell BK358.out 3).trans rfl; have hcz14_4 : w4.cell? ⟨gb358, 4, none⟩ = some (.slice A1_4 l1_4.length c1_4) := (blk_cell BK358.out 4).trans rfl; have hfz14_0 := blk_frozen BK358.out 0; have hfz14_1 := blk_frozen BK358.out 1; have hfz14_2 := blk_frozen BK358.out 2; have hfz14_3 := blk_frozen BK358.out 3; have hfz14_4 := blk_frozen BK358.out 4)); try go_wp2_with (first | (go_at_call 44; (with_reducible refine (ref39_belts.calls k _ _ l0 true _ ?side1 ?side2 A5.out).mono ?_); (case side1 => repeat (first | exact (Kd.C_below HR0.out HB.out) | (with_reducible refine Kd.C_alloc ?_ _) | (with_reducible refine Kd.C_drewN ?_ _) | (with_reducible refine Kd.C_drew ?_))); (case side2 => exact HC0.out); rintro e w' ⟨rfl, ⟨nd, rfl⟩⟩; (try first | exact ⟨rfl, _, World.drewN_drewN _ _ _⟩ | exact ⟨rfl, _, Eq.trans (World.drewN_drewN _ _ _) (congrArg (World.drewN _) (Nat.add_assoc _ _ _))⟩); have hcz14_0 : w4.cell? ⟨gb358, 0, none⟩ = some (.int .i64 a1_0) := (blk_cell BK358.out 0).trans rfl; have hcz14_1 : w4.cell? ⟨gb358, 1, none⟩ = some (.slice A1_1 l1_1.length c1_1) := (blk_cell BK358.out 1).trans rfl; have hcz14_2 : w4.cell? ⟨gb358, 2, none⟩ = some (.slice A1_2 l1_2.length c1_2) := (blk_cell BK358.out 2).trans rfl; have hcz14_3 : w4.cell? ⟨gb358, 3, none⟩ = some (.slice A1_3 l1_3.length c1_3) := (blk_cell BK358.out 3).trans rfl; have hcz14_4 : w4.cell? ⟨gb358, 4, none⟩ = some (.slice A1_4 l1_4.length c1_4) := (blk_cell BK358.out 4).trans rfl; have hfz14_0 := blk_frozen BK358.out 0; have hfz14_1 := blk_frozen BK358.out 1; have hfz14_2 := blk_frozen BK358.out 2; have hfz14_3 := blk_frozen BK358.out 3; have hfz14_4 := blk_frozen BK358.out 4)))
       go_meet
       case rel => exact ⟨_, (true), (by first | rfl | (simp; done) | (simp [*]; done)), H', ⟨by first | omega | exact Nat.le_refl _⟩, ⟨by (with_reducible repeat (first | refine blk_drewN ?_ _ | refine blk_drew ?_ | refine blk_alloc ?_ _)); exact BK358.out⟩, ⟨by repeat (first | (with_reducible first | exact HB.out | apply below_alloc | apply pw_below_drewN | apply below_drew1 | refine below_set ?_ GE358.out) | exact HB.out)⟩⟩
     ·rw [if_neg c9] at H
      have c9b0 : ((l1_3.length : Int) == (l0.length : Int)) = false := beq_eq_false_iff_ne.mpr c9
      have c9b1 : ((l1_3.length : Int) != (l0.length : Int)) = true := bne_iff_ne.mpr c9
      have c9b2 : (l1_3.length == l0.length) = false := by first | simpa using c9 | (simp at c9 ⊢; omega)
      have H' := Aside0.mk H
      clear H
      go_wp2_with (first | (go_at_call 44; (with_reducible refine (ref39_belts.calls k _ _ l0 true _ ?side1 ?side2 A5.out).mono ?_); (case side1 => repeat (first | exact (Kd.C_below HR0.out HB.out) | (with_reducible refine Kd.C_alloc ?_ _) | (with_reducible refine Kd.C_drewN ?_ _) | (with_reducible refine Kd.C_drew ?_))); (case side2 => exact HC0.out); rintro e w' ⟨rfl, ⟨nd, rfl⟩⟩; (try first | exact ⟨rfl, _, World.drewN_drewN _ _ _⟩ | exact ⟨rfl, _, Eq.trans (World.drewN_drewN _ _ _) (congrArg (World.drewN _) (Nat.add_assoc _ _ _))⟩); have hcz15_0 : w4.cell? ⟨gb358, 0, none⟩ = some (.int .i64 a1_0) := (blk_cell BK358.out 0).trans rfl; have hcz15_1 : w4.cell? ⟨gb358, 1, none⟩ = some (.slice A1_1 l1_1.length c1_1) := (blk_cell BK358.out 1).trans rfl; have hcz15_2 : w4.cell? ⟨gb358, 2, none⟩ = some (.slice A1_2 l1_2.length c1_2) := (blk_cell BK358.out 2).trans rfl; have hcz15_3 : w4.cell? ⟨gb358, 3, none⟩ = some (.slice A1_3 l1_3.length c1_3) := (blk_cell BK358.out 3).trans rfl; have hcz15_4 : w4.cell? ⟨gb358, 4, none⟩ = some (.slice A1_4 l1_4.length c1_4) := (blk_cell BK358.out 4).trans rfl; have hfz15_0 := blk_frozen BK358.out 0; have hfz15_1 := blk_frozen BK358.out 1; have hfz15_2 := blk_frozen BK358.out 2; have hfz15_3 := blk_frozen BK358.out 3; have hfz15_4 := blk_frozen BK358.out 4))
      repeat (go_quiet (first | (go_at_call 44; (with_reducible refine (ref39_belts.calls k _ _ l0 true _ ?side1 ?side2 A5.out).mono ?_); (case side1 => repeat (first | exact (Kd.C_below HR0.out HB.out) | (with_reducible refine Kd.C_alloc ?_ _) | (with_reducible refine Kd.C_drewN ?_ _) | (with_reducible refine Kd.C_drew ?_))); (case side2 => exact HC0.out); rintro e w' ⟨rfl, ⟨nd, rfl⟩⟩; (try first | exact ⟨rfl, _, World.drewN_drewN _ _ _⟩ | exact ⟨rfl, _, Eq.trans (World.drewN_drewN _ _ _) (congrArg (World.drewN _) (Nat.add_assoc _ _ _))⟩); have hcz15_0 : w4.cell? ⟨gb358, 0, none⟩ = some (.int .i64 a1_0) := (blk_cell BK358.out 0).trans rfl; have hcz15_1 : w4.cell? ⟨gb358, 1, none⟩ = some (.slice A1_1 l1_1.length c1_1) := (blk_cell BK358.out 1).trans rfl; have hcz15_2 : w4.cell? ⟨gb358, 2, none⟩ = some (.slice A1_2 l1_2.length c1_2) := (blk_cell BK358.out 2).trans rfl; have hcz15_3 : w4.cell? ⟨gb358, 3, none⟩ = some (.slice A1_3 l1_3.length c1_3) := (blk_cell BK358.out 3).trans rfl; have hcz15_4 : w4.cell? ⟨gb358, 4, none⟩ = some (.slice A1_4 l1_4.length c1_4) := (blk_cell BK358.out 4).trans rfl; have hfz15_0 := blk_frozen BK358.out 0; have hfz15_1 := blk_frozen BK358.out 1; have hfz15_2 := blk_frozen BK358.out 2; have hfz15_3 := blk_frozen BK358.out 3; have hfz15_4 := blk_frozen BK358.out 4)); try go_wp2_with (first | (go_at_call 44; (with_reducible refine (ref39_belts.calls k _ _ l0 true _ ?side1 ?side2 A5.out).mono ?_); (case side1 => repeat (first | exact (Kd.C_below HR0.out HB.out) | (with_reducible refine Kd.C_alloc ?_ _) | (with_reducible refine Kd.C_drewN ?_ _) | (with_reducible refine Kd.C_drew ?_))); (case side2 => exact HC0.out); rintro e w' ⟨rfl, ⟨nd, rfl⟩⟩; (try first | exact ⟨rfl, _, World.drewN_drewN _ _ _⟩ | exact ⟨rfl, _, Eq.trans (World.drewN_drewN _ _ _) (congrArg (World.drewN _) (Nat.add_assoc _ _ _))⟩); have hcz15_0 : w4.cell? ⟨gb358, 0, none⟩ = some (.int .i64 a1_0) := (blk_cell BK358.out 0).trans rfl; have hcz15_1 : w4.cell? ⟨gb358, 1, none⟩ = some (.slice A1_1 l1_1.length c1_1) := (blk_cell BK358.out 1).trans rfl; have hcz15_2 : w4.cell? ⟨gb358, 2, none⟩ = some (.slice A1_2 l1_2.length c1_2) := (blk_cell BK358.out 2).trans rfl; have hcz15_3 : w4.cell? ⟨gb358, 3, none⟩ = some (.slice A1_3 l1_3.length c1_3) := (blk_cell BK358.out 3).trans rfl; have hcz15_4 : w4.cell? ⟨gb358, 4, none⟩ = some (.slice A1_4 l1_4.length c1_4) := (blk_cell BK358.out 4).trans rfl; have hfz15_0 := blk_frozen BK358.out 0; have hfz15_1 := blk_frozen BK358.out 1; have hfz15_2 := blk_frozen BK358.out 2; have hfz15_3 := blk_frozen BK358.out 3; have hfz15_4 := blk_frozen BK358.out 4)))
      go_meet
      case rel => exact ⟨_, (true), (by first | rfl | (simp; done) | (simp [*]; done)), H', ⟨by first | omega | exact Nat.le_refl _⟩, ⟨by (with_reducible repeat (first | refine blk_drewN ?_ _ | refine blk_drew ?_ | refine blk_alloc ?_ _)); exact BK358.out⟩, ⟨by repeat (first | (with_reducible first | exact HB.out | apply below_alloc | apply pw_below_drewN | apply below_drew1 | refine below_set ?_ GE358.out) | exact HB.out)⟩⟩
    ·rw [if_neg c8] at H
     have c8b0 : ((l1_2.length : Int) == (l0.length : Int)) = false := beq_eq_false_iff_ne.mpr c8
     have c8b1 : ((l1_2.length : Int) != (l0.length : Int)) = true := bne_iff_ne.mpr c8
     have c8b2 : (l1_2.length == l0.length) = false := by first | simpa using c8 | (simp at c8 ⊢; omega)
     have H' := Aside0.mk H
     clear H
     go_wp2_with (first | (go_at_call 44; (with_reducible refine (ref39_belts.calls k _ _ l0 true _ ?side1 ?side2 A5.out).mono ?_); (case side1 => repeat (first | exact (Kd.C_below HR0.out HB.out) | (with_reducible refine Kd.C_alloc ?_ _) | (with_reducible refine Kd.C_drewN ?_ _) | (with_reducible refine Kd.C_drew ?_))); (case side2 => exact HC0.out); rintro e w' ⟨rfl, ⟨nd, rfl⟩⟩; (try first | exact ⟨rfl, _, World.drewN_drewN _ _ _⟩ | exact ⟨rfl, _, Eq.trans (World.drewN_drewN _ _ _) (congrArg (World.drewN _) (Nat.add_assoc _ _ _))⟩); have hcz16_0 : w4.cell? ⟨gb358, 0, none⟩ = some (.int .i64 a1_0) := (blk_cell BK358.out 0).trans rfl; have hcz16_1 : w4.cell? ⟨gb358, 1, none⟩ = some (.slice A1_1 l1_1.length c1_1) := (blk_cell BK358.out 1).trans rfl; have hcz16_2 : w4.cell? ⟨gb358, 2, none⟩ = some (.slice A1_2 l1_2.length c1_2) := (blk_cell BK358.out 2).trans rfl; have hcz16_3 : w4.cell? ⟨gb358, 3, none⟩ = some (.slice A1_3 l1_3.length c1_3) := (blk_cell BK358.out 3).trans rfl; have hcz16_4 : w4.cell? ⟨gb358, 4, none⟩ = some (.slice A1_4 l1_4.length c1_4) := (blk_cell BK358.out 4).trans rfl; have hfz16_0 := blk_frozen BK358.out 0; have hfz16_1 := blk_frozen BK358.out 1; have hfz16_2 := blk_frozen BK358.out 2; have hfz16_3 := blk_frozen BK358.out 3; have hfz16_4 := blk_frozen BK358.out 4))
     repeat (go_quiet (first | (go_at_call 44; (with_reducible refine (ref39_belts.calls k _ _ l0 true _ ?side1 ?side2 A5.out).mono ?_); (case side1 => repeat (first | exact (Kd.C_below HR0.out HB.out) | (with_reducible refine Kd.C_alloc ?_ _) | (with_reducible refine Kd.C_drewN ?_ _) | (with_reducible refine Kd.C_drew ?_))); (case side2 => exact HC0.out); rintro e w' ⟨rfl, ⟨nd, rfl⟩⟩; (try first | exact ⟨rfl, _, World.drewN_drewN _ _ _⟩ | exact ⟨rfl, _, Eq.trans (World.drewN_drewN _ _ _) (congrArg (World.drewN _) (Nat.add_assoc _ _ _))⟩); have hcz16_0 : w4.cell? ⟨gb358, 0, none⟩ = some (.int .i64 a1_0) := (blk_cell BK358.out 0).trans rfl; have hcz16_1 : w4.cell? ⟨gb358, 1, none⟩ = some (.slice A1_1 l1_1.length c1_1) := (blk_cell BK358.out 1).trans rfl; have hcz16_2 : w4.cell? ⟨gb358, 2, none⟩ = some (.slice A1_2 l1_2.length c1_2) := (blk_cell BK358.out 2).trans rfl; have hcz16_3 : w4.cell? ⟨gb358, 3, none⟩ = some (.slice A1_3 l1_3.length c1_3) := (blk_cell BK358.out 3).trans rfl; have hcz16_4 : w4.cell? ⟨gb358, 4, none⟩ = some (.slice A1_4 l1_4.length c1_4) := (blk_cell BK358.out 4).trans rfl; have hfz16_0 := blk_frozen BK358.out 0; have hfz16_1 := blk_frozen BK358.out 1; have hfz16_2 := blk_frozen BK358.out 2; have hfz16_3 := blk_frozen BK358.out 3; have hfz16_4 := blk_frozen BK358.out 4)); try go_wp2_with (first | (go_at_call 44; (with_reducible refine (ref39_belts.calls k _ _ l0 true _ ?side1 ?side2 A5.out).mono ?_); (case side1 => repeat (first | exact (Kd.C_below HR0.out HB.out) | (with_reducible refine Kd.C_alloc ?_ _) | (with_reducible refine Kd.C_drewN ?_ _) | (with_reducible refine Kd.C_drew ?_))); (case side2 => exact HC0.out); rintro e w' ⟨rfl, ⟨nd, rfl⟩⟩; (try first | exact ⟨rfl, _, World.drewN_drewN _ _ _⟩ | exact ⟨rfl, _, Eq.trans (World.drewN_drewN _ _ _) (congrArg (World.drewN _) (Nat.add_assoc _ _ _))⟩); have hcz16_0 : w4.cell? ⟨gb358, 0, none⟩ = some (.int .i64 a1_0) := (blk_cell BK358.out 0).trans rfl; have hcz16_1 : w4.cell? ⟨gb358, 1, none⟩ = some (.slice A1_1 l1_1.length c1_1) := (blk_cell BK358.out 1).trans rfl; have hcz16_2 : w4.cell? ⟨gb358, 2, none⟩ = some (.slice A1_2 l1_2.length c1_2) := (blk_cell BK358.out 2).trans rfl; have hcz16_3 : w4.cell? ⟨gb358, 3, none⟩ = some (.slice A1_3 l1_3.length c1_3) := (blk_cell BK358.out 3).trans rfl; have hcz16_4 : w4.cell? ⟨gb358, 4, none⟩ = some (.slice A1_4 l1_4.length c1_4) := (blk_cell BK358.out 4).trans rfl; have hfz16_0 := blk_frozen BK358.out 0; have hfz16_1 := blk_frozen BK358.out 1; have hfz16_2 := blk_frozen BK358.out 2; have hfz16_3 := blk_frozen BK358.out 3; have hfz16_4 := blk_frozen BK358.out 4)))
     go_meet
     case rel => exact ⟨_, (true), (by first | rfl | (simp; done) | (simp [*]; done)), H', ⟨by first | omega | exact Nat.le_refl _⟩, ⟨by (with_reducible repeat (first | refine blk_drewN ?_ _ | refine blk_drew ?_ | refine blk_alloc ?_ _)); exact BK358.out⟩, ⟨by repeat (first | (with_reducible first | exact HB.out | apply below_alloc | apply pw_below_drewN | apply below_drew1 | refine below_set ?_ GE358.out) | exact HB.out)⟩⟩
   ·rw [if_neg c7] at H
    have c7b0 : ((l1_1.length : Int) == (l0.length : Int)) = false := beq_eq_false_iff_ne.mpr c7
    have c7b1 : ((l1_1.length : Int) != (l0.length : Int)) = true := bne_iff_ne.mpr c7
    have c7b2 : (l1_1.length == l0.length) = false := by first | simpa using c7 | (simp at c7 ⊢; omega)
    (first | rw [c7b0] | (simp only [i64_w, i32_w]; rw [c7b0]) | skip)
    have H' := Aside0.mk H
    clear H
    go_wp2_with (first | (go_at_call 44; (with_reducible refine (ref39_belts.calls k _ _ l0 true _ ?side1 ?side2 A5.out).mono ?_); (case side1 => repeat (first | exact (Kd.C_below HR0.out HB.out) | (with_reducible refine Kd.C_alloc ?_ _) | (with_reducible refine Kd.C_drewN ?_ _) | (with_reducible refine Kd.C_drew ?_))); (case side2 => exact HC0.out); rintro e w' ⟨rfl, ⟨nd, rfl⟩⟩; (try first | exact ⟨rfl, _, World.drewN_drewN _ _ _⟩ | exact ⟨rfl, _, Eq.trans (World.drewN_drewN _ _ _) (congrArg (World.drewN _) (Nat.add_assoc _ _ _))⟩); have hcz17_0 : w4.cell? ⟨gb358, 0, none⟩ = some (.int .i64 a1_0) := (blk_cell BK358.out 0).trans rfl; have hcz17_1 : w4.cell? ⟨gb358, 1, none⟩ = some (.slice A1_1 l1_1.length c1_1) := (blk_cell BK358.out 1).trans rfl; have hcz17_2 : w4.cell? ⟨gb358, 2, none⟩ = some (.slice A1_2 l1_2.length c1_2) := (blk_cell BK358.out 2).trans rfl; have hcz17_3 : w4.cell? ⟨gb358, 3, none⟩ = some (.slice A1_3 l1_3.length c1_3) := (blk_cell BK358.out 3).trans rfl; have hcz17_4 : w4.cell? ⟨gb358, 4, none⟩ = some (.slice A1_4 l1_4.length c1_4) := (blk_cell BK358.out 4).trans rfl; have hfz17_0 := blk_frozen BK358.out 0; have hfz17_1 := blk_frozen BK358.out 1; have hfz17_2 := blk_frozen BK358.out 2; have hfz17_3 := blk_frozen BK358.out 3; have hfz17_4 := blk_frozen BK358.out 4))
    repeat (go_quiet (first | (go_at_call 44; (with_reducible refine (ref39_belts.calls k _ _ l0 true _ ?side1 ?side2 A5.out).mono ?_); (case side1 => repeat (first | exact (Kd.C_below HR0.out HB.out) | (with_reducible refine Kd.C_alloc ?_ _) | (with_reducible refine Kd.C_drewN ?_ _) | (with_reducible refine Kd.C_drew ?_))); (case side2 => exact HC0.out); rintro e w' ⟨rfl, ⟨nd, rfl⟩⟩; (try first | exact ⟨rfl, _, World.drewN_drewN _ _ _⟩ | exact ⟨rfl, _, Eq.trans (World.drewN_drewN _ _ _) (congrArg (World.drewN _) (Nat.add_assoc _ _ _))⟩); have hcz17_0 : w4.cell? ⟨gb358, 0, none⟩ = some (.int .i64 a1_0) := (blk_cell BK358.out 0).trans rfl; have hcz17_1 : w4.cell? ⟨gb358, 1, none⟩ = some (.slice A1_1 l1_1.length c1_1) := (blk_cell BK358.out 1).trans rfl; have hcz17_2 : w4.cell? ⟨gb358, 2, none⟩ = some (.slice A1_2 l1_2.length c1_2) := (blk_cell BK358.out 2).trans rfl; have hcz17_3 : w4.cell? ⟨gb358, 3, none⟩ = some (.slice A1_3 l1_3.length c1_3) := (blk_cell BK358.out 3).trans rfl; have hcz17_4 : w4.cell? ⟨gb358, 4, none⟩ = some (.slice A1_4 l1_4.length c1_4) := (blk_cell BK358.out 4).trans rfl; have hfz17_0 := blk_frozen BK358.out 0; have hfz17_1 := blk_frozen BK358.out 1; have hfz17_2 := blk_frozen BK358.out 2; have hfz17_3 := blk_frozen BK358.out 3; have hfz17_4 := blk_frozen BK358.out 4)); try go_wp2_with (first | (go_at_call 44; (with_reducible refine (ref39_belts.calls k _ _ l0 true _ ?side1 ?side2 A5.out).mono ?_); (case side1 => repeat (first | exact (Kd.C_below HR0.out HB.out) | (with_reducible refine Kd.C_alloc ?_ _) | (with_reducible refine Kd.C_drewN ?_ _) | (with_reducible refine Kd.C_drew ?_))); (case side2 => exact HC0.out); rintro e w' ⟨rfl, ⟨nd, rfl⟩⟩; (try first | exact ⟨rfl, _, World.drewN_drewN _ _ _⟩ | exact ⟨rfl, _, Eq.trans (World.drewN_drewN _ _ _) (congrArg (World.drewN _) (Nat.add_assoc _ _ _))⟩); have hcz17_0 : w4.cell? ⟨gb358, 0, none⟩ = some (.int .i64 a1_0) := (blk_cell BK358.out 0).trans rfl; have hcz17_1 : w4.cell? ⟨gb358, 1, none⟩ = some (.slice A1_1 l1_1.length c1_1) := (blk_cell BK358.out 1).trans rfl; have hcz17_2 : w4.cell? ⟨gb358, 2, none⟩ = some (.slice A1_2 l1_2.length c1_2) := (blk_cell BK358.out 2).trans rfl; have hcz17_3 : w4.cell? ⟨gb358, 3, none⟩ = some (.slice A1_3 l1_3.length c1_3) := (blk_cell BK358.out 3).trans rfl; have hcz17_4 : w4.cell? ⟨gb358, 4, none⟩ = some (.slice A1_4 l1_4.length c1_4) := (blk_cell BK358.out 4).trans rfl; have hfz17_0 := blk_frozen BK358.out 0; have hfz17_1 := blk_frozen BK358.out 1; have hfz17_2 := blk_frozen BK358.out 2; have hfz17_3 := blk_frozen BK358.out 3; have hfz17_4 := blk_frozen BK358.out 4)))
    go_meet
    case rel => exact ⟨_, (true), (by first | rfl | (simp; done) | (simp [*]; done)), H', ⟨by first | omega | exact Nat.le_refl _⟩, ⟨by (with_reducible repeat (first | refine blk_drewN ?_ _ | refine blk_drew ?_ | refine blk_alloc ?_ _)); exact BK358.out⟩, ⟨by repeat (first | (with_reducible first | exact HB.out | apply below_alloc | apply pw_below_drewN | apply below_drew1 | refine below_set ?_ GE358.out) | exact HB.out)⟩⟩
  ·replace c6 := Bool.eq_false_iff.mpr c6
   subst c6
   have H1 : (ref39_Valid.j0 k l0 (l0.length : Int) true a1_0 l1_1 l1_2 l1_3 l1_4) = some r := by rw [if_neg (show ¬ (false = true) by decide)] at H; exact H
   clear H
   have H := H1
   clear H1
   have H' := Aside0.mk H
   clear H
   go_wp2_with (first | (go_at_call 44; (with_reducible refine (ref39_belts.calls k _ _ l0 false _ ?side1 ?side2 A5.out).mono ?_); (case side1 => repeat (first | exact (Kd.C_below HR0.out HB.out) | (with_reducible refine Kd.C_alloc ?_ _) | (with_reducible refine Kd.C_drewN ?_ _) | (with_reducible refine Kd.C_drew ?_))); (case side2 => exact HC0.out); rintro e w' ⟨rfl, ⟨nd, rfl⟩⟩; (try first | exact ⟨rfl, _, World.drewN_drewN _ _ _⟩ | exact ⟨rfl, _, Eq.trans (World.drewN_drewN _ _ _) (congrArg (World.drewN _) (Nat.add_assoc _ _ _))⟩)))
   repeat (go_quiet (first | (go_at_call 44; (with_reducible refine (ref39_belts.calls k _ _ l0 false _ ?side1 ?side2 A5.out).mono ?_); (case side1 => repeat (first | exact (Kd.C_below HR0.out HB.out) | (with_reducible refine Kd.C_alloc ?_ _) | (with_reducible refine Kd.C_drewN ?_ _) | (with_reducible refine Kd.C_drew ?_))); (case side2 => exact HC0.out); rintro e w' ⟨rfl, ⟨nd, rfl⟩⟩; (try first | exact ⟨rfl, _, World.drewN_drewN _ _ _⟩ | exact ⟨rfl, _, Eq.trans (World.drewN_drewN _ _ _) (congrArg (World.drewN _) (Nat.add_assoc _ _ _))⟩))); try go_wp2_with (first | (go_at_call 44; (with_reducible refine (ref39_belts.calls k _ _ l0 false _ ?side1 ?side2 A5.out).mono ?_); (case side1 => repeat (first | exact (Kd.C_below HR0.out HB.out) | (with_reducible refine Kd.C_alloc ?_ _) | (with_reducible refine Kd.C_drewN ?_ _) | (with_reducible refine Kd.C_drew ?_))); (case side2 => exact HC0.out); rintro e w' ⟨rfl, ⟨nd, rfl⟩⟩; (try first | exact ⟨rfl, _, World.drewN_drewN _ _ _⟩ | exact ⟨rfl, _, Eq.trans (World.drewN_drewN _ _ _) (congrArg (World.drewN _) (Nat.add_assoc _ _ _))⟩))))
   go_meet
   case rel => exact ⟨_, (true), (by first | rfl | (simp; done) | (simp [*]; done)), H', ⟨by first | omega | exact Nat.le_refl _⟩, ⟨by (with_reducible repeat (first | refine blk_drewN ?_ _ | refine blk_drew ?_ | refine blk_alloc ?_ _)); exact BK358.out⟩, ⟨by repeat (first | (with_reducible first | exact HB.out | apply below_alloc | apply pw_below_drewN | apply below_drew1 | refine below_set ?_ GE358.out) | exact HB.out)⟩⟩
 case rest =>
  clear HC3; (try clear c1); (try clear p2); (try clear c4); (try clear c6); (try clear c7); (try clear c7b0); (try clear c7b1); (try clear c7b2); (try clear c8); (try clear c8b0); (try clear c8b1); (try clear c8b2); (try clear c9); (try clear c9b0); (try clear c9b1); (try clear c9b2); (try clear c10); (try clear c10b0); (try clear c10b1); (try clear c10b2); (try clear c11); (try clear c11b0); (try clear hcz12_0); (try clear hcz12_1); (try clear hcz12_2); (try clear hcz12_3); (try clear hcz12_4); (try clear hcz13_0); (try clear hcz13_1); (try clear hcz13_2); (try clear hcz13_3); (try clear hcz13_4)
  (try clear hcz14_0); (try clear hcz14_1); (try clear hcz14_2); (try clear hcz14_3); (try clear hcz14_4); (try clear hcz15_0); (try clear hcz15_1); (try clear hcz15_2); (try clear hcz15_3); (try clear hcz15_4); (try clear hcz16_0); (try clear hcz16_1); (try clear hcz16_2); (try clear hcz16_3); (try clear hcz16_4); (try clear hcz17_0); (try clear hcz17_1); (try clear hcz17_2); (try clear hcz17_3); (try clear hcz17_4); (try clear hfz12_0); (try clear hfz12_1); (try clear hfz12_2); (try clear hfz12_3); (try clear hfz12_4); (try clear hfz13_0); (try clear hfz13_1); (try clear hfz13_2); (try clear hfz13_3)
  (try clear hfz13_4); (try clear hfz14_0); (try clear hfz14_1); (try clear hfz14_2); (try clear hfz14_3); (try clear hfz14_4); (try clear hfz15_0); (try clear hfz15_1); (try clear hfz15_2); (try clear hfz15_3); (try clear hfz15_4); (try clear hfz16_0); (try clear hfz16_1); (try clear hfz16_2); (try clear hfz16_3); (try clear hfz16_4); (try clear hfz17_0); (try clear hfz17_1); (try clear hfz17_2); (try clear hfz17_3); (try clear hfz17_4)
  obtain ⟨kq, x50_2, rfl, HA, HJ2, BK358, HB⟩ := hcut
  cases kq with
  | zero => exact absurd HA.out (by simp [ref39_Valid.j0])
  | succ kj2 =>
   have H := HA.out
   clear HA
   simp only [ref39_Valid.j0] at H
   by_cases c18 : x50_2 = true
   ·subst c18
    have H1 : (some false) = some r := by rw [if_pos rfl] at H; exact H
    clear H
    have H := H1
    clear H1
    obtain rfl := Option.some.inj H
    go_wp2
    repeat (go_quiet (fail); try go_wp2)
    go_ret
    exact ⟨by first | rfl | (simp [errW_none, errW_some] <;> rfl) | (simp [*, errW_none, errW_some] <;> rfl), by repeat (first | (with_reducible first | exact HB.out | apply below_alloc | apply pw_below_drewN | apply below_drew1 | refine below_set ?_ GE358.out) | exact HB.out)⟩
   ·replace c18 := Bool.eq_false_iff.mpr c18
    subst c18
    have H1 : (ref39_Valid.l0 kj2 l0 (l0.length : Int) 0 a1_0 l1_1 l1_2 l1_3 l1_4) = some r := by rw [if_neg (show ¬ (false = true) by decide)] at H; exact H
    clear H
    have H := H1
    clear H1
    have H' := Aside0.mk H
    clear H
    go_wp2
    repeat (go_quiet (fail); try go_wp2)
    go_loopg [6] kj2 (fun kq v6 w' => ∃ (x6_2 : Int), v6 = .int .i64 x6_2 ∧ Aside0 (ref39_Valid.l0 kq l0 (l0.length : Int) x6_2 a1_0 l1_1 l1_2 l1_3 l1_4 = some r) ∧ Aside0 (kq ≤ kj2) ∧ Aside0 (w'.heap[gb358]? = some (.cells #[.int .i64 a1_0, (.slice A1_1 l1_1.length c1_1), (.slice A1_2 l1_2.length c1_2), (.slice A1_3 l1_3.length c1_3), (.slice A1_4 l1_4.length c1_4)] 34 (0, 0))) ∧ Aside0 (Below w.heap.size w w'))
    case atStart => exact ⟨(0), (by first | rfl | (simp; done) | (simp [*]; done)), H', ⟨Nat.le_refl _⟩, ⟨by (with_reducible repeat (first | refine blk_drewN ?_ _ | refine blk_drew ?_ | refine blk_alloc ?_ _)); exact BK358.out⟩, ⟨by repeat (first | (with_reducible first | exact HB.out | apply below_alloc | apply pw_below_drewN | apply below_drew1 | refine below_set ?_ GE358.out) | exact HB.out)⟩⟩
    case round =>
     clear H'; (try clear c1); (try clear p2); (try clear c4); (try clear c6); (try clear c7); (try clear c7b0); (try clear c7b1); (try clear c7b2); (try clear c8); (try clear c8b0); (try clear c8b1); (try clear c8b2); (try clear c9); (try clear c9b0); (try clear c9b1); (try clear c9b2); (try clear c10); (try clear c10b0); (try clear c10b1); (try clear c10b2); (try clear c11); (try clear c11b0); (try clear c18); (try clear hcz12_0); (try clear hcz12_1); (try clear hcz12_2); (try clear hcz12_3); (try clear hcz12_4); (try clear hcz13_0); (try clear hcz13_1); (try clear hcz13_2); (try clear hcz13_3)
     (try clear hcz13_4); (try clear hcz14_0); (try clear hcz14_1); (try clear hcz14_2); (try clear hcz14_3); (try clear hcz14_4); (try clear hcz15_0); (try clear hcz15_1); (try clear hcz15_2); (try clear hcz15_3); (try clear hcz15_4); (try clear hcz16_0); (try clear hcz16_1); (try clear hcz16_2); (try clear hcz16_3); (try clear hcz16_4); (try clear hcz17_0); (try clear hcz17_1); (try clear hcz17_2); (try clear hcz17_3); (try clear hcz17_4); (try clear hfz12_0); (try clear hfz12_1); (try clear hfz12_2); (try clear hfz12_3); (try clear hfz12_4); (try clear hfz13_0); (try clear hfz13_1); (try clear hfz13_2)
     (try clear hfz13_3); (try clear hfz13_4); (try clear hfz14_0); (try clear hfz14_1); (try clear hfz14_2); (try clear hfz14_3); (try clear hfz14_4); (try clear hfz15_0); (try clear hfz15_1); (try clear hfz15_2); (try clear hfz15_3); (try clear hfz15_4); (try clear hfz16_0); (try clear hfz16_1); (try clear hfz16_2); (try clear hfz16_3); (try clear hfz16_4); (try clear hfz17_0); (try clear hfz17_1); (try clear hfz17_2); (try clear hfz17_3); (try clear hfz17_4); (try clear p2)
     obtain ⟨x6_2, rfl, HA, HK2, BK358, HB⟩ := hrel
     cases gk with
     | zero => exact absurd HA.out (by simp [ref39_Valid.l0])
     | succ k2 =>
      have H := HA.out
      clear HA
      simp only [ref39_Valid.l0] at H
      by_cases c19 : x6_2 < (l0.length : Int)
      ·rw [if_pos c19] at H
       have c19b0 : decide (x6_2 < (l0.length : Int)) = true := decide_eq_true c19
       clear c19
       by_cases c20 : 0 ≤ x6_2
       ·rw [if_pos c20] at H
        have c20b0 : decide (0 ≤ x6_2) = true := decide_eq_true c20
        clear c20
        by_cases c21 : x6_2 < (l1_1.length : Int)
        ·rw [if_pos c21] at H
         have c21b0 : decide (x6_2 < (l1_1.length : Int)) = true := decide_eq_true c21
         clear c21
         have HC22 := Aside0.mk H
         clear H
         have hcz23_0 : wr.cell? ⟨gb358, 0, none⟩ = some (.int .i64 a1_0) := (blk_cell BK358.out 0).trans rfl
         have hcz23_1 : wr.cell? ⟨gb358, 1, none⟩ = some (.slice A1_1 l1_1.length c1_1) := (blk_cell BK358.out 1).trans rfl
         have hcz23_2 : wr.cell? ⟨gb358, 2, none⟩ = some (.slice A1_2 l1_2.length c1_2) := (blk_cell BK358.out 2).trans rfl
         have hcz23_3 : wr.cell? ⟨gb358, 3, none⟩ = some (.slice A1_3 l1_3.length c1_3) := (blk_cell BK358.out 3).trans rfl
         have hcz23_4 : wr.cell? ⟨gb358, 4, none⟩ = some (.slice A1_4 l1_4.length c1_4) := (blk_cell BK358.out 4).trans rfl
         have hfz23_0 := blk_frozen BK358.out 0
         have hfz23_1 := blk_frozen BK358.out 1
         have hfz23_2 := blk_frozen BK358.out 2
         have hfz23_3 := blk_frozen BK358.out 3
         have hfz23_4 := blk_frozen BK358.out 4
         have p360 : 0 ≤ (x6_2 : Int) := of_decide_eq_true (by first | (with_reducible assumption) | assumption)
         have q360 : x6_2 < (l1_1.length : Int) := of_decide_eq_true (by first | (with_reducible assumption) | assumption)
         obtain ⟨ad360, e360, hx360_0⟩ := Kd.at_int HR1_1.out x6_2 p360 q360
         cases e360
         replace hx360_0 := (HB.out.cell (World.block_lt_of_cell? w _ hx360_0)).trans hx360_0
         replace p360 := eq_true p360
         replace q360 := eq_true q360
         go_upto_region 8 with (fail)
         repeat (go_quiet (fail); go_upto_region 8 with (fail))
         go_cut [84] (fun v84 wc => ∃ (kq : Nat) (x84_21 : Bool), v84 = .bool x84_21 ∧ Aside0 (ref39_Valid.j2 kq l0 (l0.length : Int) x6_2 (rd l1_1 x6_2) x84_21 a1_0 l1_1 l1_2 l1_3 l1_4 = some r) ∧ Aside0 (kq ≤ k2) ∧ Aside0 (wc.heap[gb358]? = some (.cells #[.int .i64 a1_0, (.slice (some ad360) l1_1.length c1_1), (.slice A1_2 l1_2.length c1_2), (.slice A1_3 l1_3.length c1_3), (.slice A1_4 l1_4.length c1_4)] 34 (0, 0))) ∧ Aside0 (Below w.heap.size w wc))
         case first =>
          have H := HC22.out
          clear HC22
          by_cases c24 : (rd l1_1 x6_2) < 0
          ·rw [if_pos c24] at H
           have c24b0 : decide ((rd l1_1 x6_2) < 0) = true := decide_eq_true c24
           clear c24
           (first | rw [c24b0] | (simp only [i64_w, i32_w]; rw [c24b0]) | skip)
           have H' := Aside0.mk H
           clear H
           go_wp2
           repeat (go_quiet (fail); try go_wp2)
           go_meet
           case rel => exact ⟨_, (true), (by first | rfl | (simp; done) | (simp [*]; done)), H', ⟨by have := HJ2.out; have := HK2.out; first | omega | exact Nat.le_refl _⟩, ⟨by (with_reducible repeat (first | refine blk_drewN ?_ _ | refine blk_drew ?_ | refine blk_alloc ?_ _)); exact BK358.out⟩, ⟨by repeat (first | (with_reducible first | exact HB.out | apply below_alloc | apply pw_below_drewN | apply below_drew1 | refine below_set ?_ GE358.out) | exact HB.out)⟩⟩
          ·rw [if_neg c24] at H
           have c24b0 : decide ((rd l1_1 x6_2) < 0) = false := decide_eq_false c24
           clear c24
           (first | rw [c24b0] | (simp only [i64_w, i32_w]; rw [c24b0]) | skip)
           by_cases c25 : (rd l1_1 x6_2) > 2
           ·rw [if_pos c25] at H
            have c25b0 : decide (2 < (rd l1_1 x6_2)) = true := decide_eq_true c25
            clear c25
            have H' := Aside0.mk H
            clear H
            go_wp2
            repeat (go_quiet (fail); try go_wp2)
            go_meet
            case rel => exact ⟨_, (true), (by first | rfl | (simp; done) | (simp [*]; done)), H', ⟨by have := HJ2.out; have := HK2.out; first | omega | exact Nat.le_refl _⟩, ⟨by (with_reducible repeat (first | refine blk_drewN ?_ _ | refine blk_drew ?_ | refine blk_alloc ?_ _)); exact BK358.out⟩, ⟨by repeat (first | (with_reducible first | exact HB.out | apply below_alloc | apply pw_below_drewN | apply below_drew1 | refine below_set ?_ GE358.out) | exact HB.out)⟩⟩
           ·rw [if_neg c25] at H
            have c25b0 : decide (2 < (rd l1_1 x6_2)) = false := decide_eq_false c25
            clear c25
            by_cases c26 : x6_2 < (l1_2.length : Int)
            ·rw [if_pos c26] at H
             have c26b0 : decide (x6_2 < (l1_2.length : Int)) = true := decide_eq_true c26
             clear c26
             by_cases c27 : (rd l1_2 x6_2) < 0
             ·rw [if_pos c27] at H
              have c27b0 : decide ((rd l1_2 x6_2) < 0) = true := decide_eq_true c27
              clear c27
              have H' := Aside0.mk H
              clear H
              have hcz28_0 : wr.cell? ⟨gb358, 0, none⟩ = some (.int .i64 a1_0) := (blk_cell BK358.out 0).trans rfl
              have hcz28_1 : wr.cell? ⟨gb358, 1, none⟩ = some (.slice (some ad360) l1_1.length c1_1) := (blk_cell BK358.out 1).trans rfl
              have hcz28_2 : wr.cell? ⟨gb358, 2, none⟩ = some (.slice A1_2 l1_2.length c1_2) := (blk_cell BK358.out 2).trans rfl
              have hcz28_3 : wr.cell? ⟨gb358, 3, none⟩ = some (.slice A1_3 l1_3.length c1_3) := (blk_cell BK358.out 3).trans rfl
              have hcz28_4 : wr.cell? ⟨gb358, 4, none⟩ = some (.slice A1_4 l1_4.length c1_4) := (blk_cell BK358.out 4).trans rfl
              have hfz28_0 := blk_frozen BK358.out 0
              have hfz28_1 := blk_frozen BK358.out 1
              have hfz28_2 := blk_frozen BK358.out 2
              have hfz28_3 := blk_frozen BK358.out 3
              have hfz28_4 := blk_frozen BK358.out 4
              have p361 : 0 ≤ (x6_2 : Int) := of_decide_eq_true (by first | (with_reducible assumption) | assumption)
              have q361 : x6_2 < (l1_2.length : Int) := of_decide_eq_true (by first | (with_reducible assumption) | assumption)
              obtain ⟨ad361, e361, hx361_0⟩ := Kd.at_int HR1_2.out x6_2 p361 q361
              cases e361
              replace hx361_0 := (HB.out.cell (World.block_lt_of_cell? w _ hx361_0)).trans hx361_0
              replace p361 := eq_true p361
              replace q361 := eq_true q361
              go_wp2
              repeat (go_quiet (fail); try go_wp2)
              go_meet
              case rel => exact ⟨_, (true), (by first | rfl | (simp; done) | (simp [*]; done)), H', ⟨by have := HJ2.out; have := HK2.out; first | omega | exact Nat.le_refl _⟩, ⟨by (with_reducible repeat (first | refine blk_drewN ?_ _ | refine blk_drew ?_ | refine blk_alloc ?_ _)); exact BK358.out⟩, ⟨by repeat (first | (with_reducible first | exact HB.out | apply below_alloc | apply pw_below_drewN | apply below_drew1 | refine below_set ?_ GE358.out) | exact HB.out)⟩⟩
             ·rw [if_neg c27] at H
              have c27b0 : decide ((rd l1_2 x6_2) < 0) = false := decide_eq_false c27
              clear c27
              have H' := Aside0.mk H
              clear H
              have hcz29_0 : wr.cell? ⟨gb358, 0, none⟩ = some (.int .i64 a1_0) := (blk_cell BK358.out 0).trans rfl
              have hcz29_1 : wr.cell? ⟨gb358, 1, none⟩ = some (.slice (some ad360) l1_1.length c1_1) := (blk_cell BK358.out 1).trans rfl
              have hcz29_2 : wr.cell? ⟨gb358, 2, none⟩ = some (.slice A1_2 l1_2.length c1_2) := (blk_cell BK358.out 2).trans rfl
              have hcz29_3 : wr.cell? ⟨gb358, 3, none⟩ = some (.slice A1_3 l1_3.length c1_3) := (blk_cell BK358.out 3).trans rfl
              have hcz29_4 : wr.cell? ⟨gb358, 4, none⟩ = some (.slice A1_4 l1_4.length c1_4) := (blk_cell BK358.out 4).trans rfl
              have hfz29_0 := blk_frozen BK358.out 0
              have hfz29_1 := blk_frozen BK358.out 1
              have hfz29_2 := blk_frozen BK358.out 2
              have hfz29_3 := blk_frozen BK358.out 3
              have hfz29_4 := blk_frozen BK358.out 4
              have p361 : 0 ≤ (x6_2 : Int) := of_decide_eq_true (by first | (with_reducible assumption) | assumption)
              have q361 : x6_2 < (l1_2.length : Int) := of_decide_eq_true (by first | (with_reducible assumption) | assumption)
              obtain ⟨ad361, e361, hx361_0⟩ := Kd.at_int HR1_2.out x6_2 p361 q361
              cases e361
              replace hx361_0 := (HB.out.cell (World.block_lt_of_cell? w _ hx361_0)).trans hx361_0
              replace p361 := eq_true p361
              replace q361 := eq_true q361
              have p362 : 0 ≤ (x6_2 : Int) := of_decide_eq_true (by first | (with_reducible assumption) | assumption)
              have q362 : x6_2 < (l1_2.length : Int) := of_decide_eq_true (by first | (with_reducible assumption) | assumption)
              obtain ⟨ad362, e362, hx362_0⟩ := Kd.at_int HR1_2.out x6_2 p362 q362
              obtain rfl : ad361 = ad362 := (by injection e362)
              replace hx362_0 := (HB.out.cell (World.block_lt_of_cell? w _ hx362_0)).trans hx362_0
              replace p362 := eq_true p362
              replace q362 := eq_true q362
              go_wp2
              repeat (go_quiet (fail); try go_wp2)
              go_meet
              case rel => exact ⟨_, (decide ((rd l1_2 x6_2) > a1_0)), (by first | rfl | (simp; done) | (simp [*]; done)), H', ⟨by have := HJ2.out; have := HK2.out; first | omega | exact Nat.le_refl _⟩, ⟨by (with_reducible repeat (first | refine blk_drewN ?_ _ | refine blk_drew ?_ | refine blk_alloc ?_ _)); exact BK358.out⟩, ⟨by repeat (first | (with_reducible first | exact HB.out | apply below_alloc | apply pw_below_drewN | apply below_drew1 | refine below_set ?_ GE358.out) | exact HB.out)⟩⟩
            ·rw [if_neg c26] at H
             exact absurd H (by simp)
         case rest =>
          clear HC22; (try clear c1); (try clear c2); (try clear p2); (try clear p3); (try clear q3); (try clear hx3); (try clear c4); (try clear c6); (try clear c7); (try clear c7b0); (try clear c7b1); (try clear c7b2); (try clear c8); (try clear c8b0); (try clear c8b1); (try clear c8b2); (try clear c9); (try clear c9b0); (try clear c9b1); (try clear c9b2); (try clear c10); (try clear c10b0); (try clear c10b1); (try clear c10b2); (try clear c11); (try clear c11b0); (try clear c18); (try clear c19); (try clear c19b0); (try clear c20); (try clear c20b0); (try clear c21); (try clear c21b0); (try clear c24)
          (try clear c24b0); (try clear c25); (try clear c25b0); (try clear c26); (try clear c26b0); (try clear c27); (try clear c27b0); (try clear hcz12_0); (try clear hcz12_1); (try clear hcz12_2); (try clear hcz12_3); (try clear hcz12_4); (try clear hcz13_0); (try clear hcz13_1); (try clear hcz13_2); (try clear hcz13_3); (try clear hcz13_4); (try clear hcz14_0); (try clear hcz14_1); (try clear hcz14_2); (try clear hcz14_3); (try clear hcz14_4); (try clear hcz15_0); (try clear hcz15_1); (try clear hcz15_2); (try clear hcz15_3); (try clear hcz15_4); (try clear hcz16_0); (try clear hcz16_1); (try clear hcz16_2)
          (try clear hcz16_3); (try clear hcz16_4); (try clear hcz17_0); (try clear hcz17_1); (try clear hcz17_2); (try clear hcz17_3); (try clear hcz17_4); (try clear hcz23_0); (try clear hcz23_1); (try clear hcz23_2); (try clear hcz23_3); (try clear hcz23_4); (try clear hcz28_0); (try clear hcz28_1); (try clear hcz28_2); (try clear hcz28_3); (try clear hcz28_4); (try clear hcz29_0); (try clear hcz29_1); (try clear hcz29_2); (try clear hcz29_3); (try clear hcz29_4); (try clear hfz12_0); (try clear hfz12_1); (try clear hfz12_2); (try clear hfz12_3); (try clear hfz12_4); (try clear hfz13_0); (try clear hfz13_1)
          (try clear hfz13_2); (try clear hfz13_3); (try clear hfz13_4); (try clear hfz14_0); (try clear hfz14_1); (try clear hfz14_2); (try clear hfz14_3); (try clear hfz14_4); (try clear hfz15_0); (try clear hfz15_1); (try clear hfz15_2); (try clear hfz15_3); (try clear hfz15_4); (try clear hfz16_0); (try clear hfz16_1); (try clear hfz16_2); (try clear hfz16_3); (try clear hfz16_4); (try clear hfz17_0); (try clear hfz17_1); (try clear hfz17_2); (try clear hfz17_3); (try clear hfz17_4); (try clear hfz23_0); (try clear hfz23_1); (try clear hfz23_2); (try clear hfz23_3); (try clear hfz23_4); (try clear hfz28_0)
          (try clear hfz28_1); (try clear hfz28_2); (try clear hfz28_3); (try clear hfz28_4); (try clear hfz29_0); (try clear hfz29_1); (try clear hfz29_2); (try clear hfz29_3); (try clear hfz29_4); (try clear hx360_0); (try clear hx361_0); (try clear hx362_0); (try clear p2); (try clear p360); (try clear p361); (try clear p362); (try clear q360); (try clear q361); (try clear q362)
          obtain ⟨kq, x84_21, rfl, HA, HJ21, BK358, HB⟩ := hcut
          cases kq with
          | zero => exact absurd HA.out (by simp [ref39_Valid.j2])
          | succ kj21 =>
           have H := HA.out
           clear HA
           simp only [ref39_Valid.j2] at H
           by_cases c30 : x84_21 = true
           ·subst c30
            have H1 : (some false) = some r := by rw [if_pos rfl] at H; exact H
            clear H
            have H := H1
            clear H1
            obtain rfl := Option.some.inj H
            go_wp2
            repeat (go_quiet (fail); try go_wp2)
            go_ret
            exact ⟨by first | rfl | (simp [errW_none, errW_some] <;> rfl) | (simp [*, errW_none, errW_some] <;> rfl), by repeat (first | (with_reducible first | exact HB.out | apply below_alloc | apply pw_below_drewN | apply below_drew1 | refine below_set ?_ GE358.out) | exact HB.out)⟩
           ·replace c30 := Bool.eq_false_iff.mpr c30
            subst c30
            have H1 : (if (rd l1_1 x6_2) = 0 then (ref39_Valid.j3 kj21 l0 (l0.length : Int) x6_2 false a1_0 l1_1 l1_2 l1_3 l1_4) else (if 0 ≤ x6_2 then (if x6_2 < (l1_3.length : Int) then (if rdOf false l1_3 x6_2 = true then (ref39_Valid.j3 kj21 l0 (l0.length : Int) x6_2 true a1_0 l1_1 l1_2 l1_3 l1_4) else (if x6_2 < (l1_4.length : Int) then (if rdOf false l1_4 x6_2 = true then (ref39_Valid.j3 kj21 l0 (l0.length : Int) x6_2 true a1_0 l1_1 l1_2 l1_3 l1_4) else (if x6_2 < (l0.length : Int) then (if ((rd_T31 l0 x6_2).f0) ≥ 0 then (if 0 ≤ ((rd_T31 l0 x6_2).f0) then (if ((rd_T31 l0 x6_2).f0) < (l1_1.length : Int) then (ref39_Valid.j3 kj21 l0 (l0.length : Int) x6_2 ((rd l1_1 ((rd_T31 l0 x6_2).f0)) != 2) a1_0 l1_1 l1_2 l1_3 l1_4) else (none)) else (none)) else (ref39_Valid.j3 kj21 l0 (l0.length : Int) x6_2 false a1_0 l1_1 l1_2 l1_3 l1_4)) else (none))) else (none))) else (none)) else (none))) = some r := by rw [if_neg (show ¬ (false = true) by decide)] at H; exact H
            clear H
            have H := H1
            clear H1
            have HC31 := Aside0.mk H
            clear H
            go_upto_region 10 with (fail)
            repeat (go_quiet (fail); go_upto_region 10 with (fail))
            go_cut [120] (fun v120 wc => ∃ (kq : Nat) (x120_30 : Bool), v120 = .bool x120_30 ∧ Aside0 (ref39_Valid.j3 kq l0 (l0.length : Int) x6_2 x120_30 a1_0 l1_1 l1_2 l1_3 l1_4 = some r) ∧ Aside0 (kq ≤ kj21) ∧ Aside0 (wc.heap[gb358]? = some (.cells #[.int .i64 a1_0, (.slice (some ad360) l1_1.length c1_1), (.slice A1_2 l1_2.length c1_2), (.slice A1_3 l1_3.length c1_3), (.slice A1_4 l1_4.length c1_4)] 34 (0, 0))) ∧ Aside0 (Below w.heap.size w wc))
            case first =>
             have H := HC31.out
             clear HC31
             by_cases c32 : (rd l1_1 x6_2) = 0
             ·rw [if_pos c32] at H
              have c32b0 : ((rd l1_1 x6_2) == 0) = true := beq_iff_eq.mpr c32
              have c32b1 : ((rd l1_1 x6_2) != 0) = false := bne_eq_false_iff_eq.mpr c32
              clear c32
              (first | rw [c32b0] | (simp only [i64_w, i32_w]; rw [c32b0]) | skip)
              have H' := Aside0.mk H
              clear H
              go_wp2
              repeat (go_quiet (fail); try go_wp2)
              go_meet
              case rel => exact ⟨_, (false), (by first | rfl | (simp; done) | (simp [*]; done)), H', ⟨by have := HJ2.out; have := HK2.out; have := HJ21.out; first | omega | exact Nat.le_refl _⟩, ⟨by (with_reducible repeat (first | refine blk_drewN ?_ _ | refine blk_drew ?_ | refine blk_alloc ?_ _)); exact BK358.out⟩, ⟨by repeat (first | (with_reducible first | exact HB.out | apply below_alloc | apply pw_below_drewN | apply below_drew1 | refine below_set ?_ GE358.out) | exact HB.out)⟩⟩
             ·rw [if_neg c32] at H
              have c32b0 : ((rd l1_1 x6_2) == 0) = false := beq_eq_false_iff_ne.mpr c32
              have c32b1 : ((rd l1_1 x6_2) != 0) = true := bne_iff_ne.mpr c32
              (first | rw [c32b0] | (simp only [i64_w, i32_w]; rw [c32b0]) | skip)
              by_cases c33 : 0 ≤ x6_2
              ·rw [if_pos c33] at H
               have c33b0 : decide (0 ≤ x6_2) = true := decide_eq_true c33
               clear c33
               by_cases c34 : x6_2 < (l1_3.length : Int)
               ·rw [if_pos c34] at H
                have c34b0 : decide (x6_2 < (l1_3.length : Int)) = true := decide_eq_true c34
                clear c34
                obtain ⟨bq35, hbq35⟩ : ∃ b_ : Bool, b_ = (rdOf false l1_3 x6_2) := ⟨_, rfl⟩
                replace H : (if bq35 = true then (ref39_Valid.j3 kj21 l0 (l0.length : Int) x6_2 true a1_0 l1_1 l1_2 l1_3 l1_4) else (if x6_2 < (l1_4.length : Int) then (if rdOf false l1_4 x6_2 = true then (ref39_Valid.j3 kj21 l0 (l0.length : Int) x6_2 true a1_0 l1_1 l1_2 l1_3 l1_4) else (if x6_2 < (l0.length : Int) then (if ((rd_T31 l0 x6_2).f0) ≥ 0 then (if 0 ≤ ((rd_T31 l0 x6_2).f0) then (if ((rd_T31 l0 x6_2).f0) < (l1_1.length : Int) then (ref39_Valid.j3 kj21 l0 (l0.length : Int) x6_2 ((rd l1_1 ((rd_T31 l0 x6_2).f0)) != 2) a1_0 l1_1 l1_2 l1_3 l1_4) else (none)) else (none)) else (ref39_Valid.j3 kj21 l0 (l0.length : Int) x6_2 false a1_0 l1_1 l1_2 l1_3 l1_4)) else (none))) else (none))) = some r := by rw [← hbq35] at H; exact H
                have Nbq35 := Aside0.mk hbq35
                clear hbq35
                by_cases c36 : bq35 = true
                ·subst c36
                 have H1 : (ref39_Valid.j3 kj21 l0 (l0.length : Int) x6_2 true a1_0 l1_1 l1_2 l1_3 l1_4) = some r := by rw [if_pos rfl] at H; exact H
                 clear H
                 have H := H1
                 clear H1
                 have H' := Aside0.mk H
                 clear H
                 have hcz37_0 : wc.cell? ⟨gb358, 0, none⟩ = some (.int .i64 a1_0) := (blk_cell BK358.out 0).trans rfl
                 have hcz37_1 : wc.cell? ⟨gb358, 1, none⟩ = some (.slice (some ad360) l1_1.length c1_1) := (blk_cell BK358.out 1).trans rfl
                 have hcz37_2 : wc.cell? ⟨gb358, 2, none⟩ = some (.slice A1_2 l1_2.length c1_2) := (blk_cell BK358.out 2).trans rfl
                 have hcz37_3 : wc.cell? ⟨gb358, 3, none⟩ = some (.slice A1_3 l1_3.length c1_3) := (blk_cell BK358.out 3).trans rfl
                 have hcz37_4 : wc.cell? ⟨gb358, 4, none⟩ = some (.slice A1_4 l1_4.length c1_4) := (blk_cell BK358.out 4).trans rfl
                 have hfz37_0 := blk_frozen BK358.out 0
                 have hfz37_1 := blk_frozen BK358.out 1
                 have hfz37_2 := blk_frozen BK358.out 2
                 have hfz37_3 := blk_frozen BK358.out 3
                 have hfz37_4 := blk_frozen BK358.out 4
                 have p363 : 0 ≤ (x6_2 : Int) := of_decide_eq_true (by first | (with_reducible assumption) | assumption)
                 have q363 : x6_2 < (l1_3.length : Int) := of_decide_eq_true (by first | (with_reducible assumption) | assumption)
                 obtain ⟨ad363, e363, hx363_0⟩ := Kd.at_bool HR1_3.out x6_2 p363 q363
                 (try rw [← Nbq35.out] at hx363_0)
                 cases e363
                 replace hx363_0 := (HB.out.cell (World.block_lt_of_cell? w _ hx363_0)).trans hx363_0
                 replace p363 := eq_true p363
                 replace q363 := eq_true q363
                 go_wp2
                 repeat (go_quiet (fail); try go_wp2)
                 go_meet
                 case rel => exact ⟨_, (true), (by first | rfl | (simp; done) | (simp [*]; done)), H', ⟨by have := HJ2.out; have := HK2.out; have := HJ21.out; first | omega | exact Nat.le_refl _⟩, ⟨by (with_reducible repeat (first | refine blk_drewN ?_ _ | refine blk_drew ?_ | refine blk_alloc ?_ _)); exact BK358.out⟩, ⟨by repeat (first | (with_reducible first | exact HB.out | apply below_alloc | apply pw_below_drewN | apply below_drew1 | refine below_set ?_ GE358.out) | exact HB.out)⟩⟩
                ·replace c36 := Bool.eq_false_iff.mpr c36
                 subst c36
                 have H1 : (if x6_2 < (l1_4.length : Int) then (if rdOf false l1_4 x6_2 = true then (ref39_Valid.j3 kj21 l0 (l0.length : Int) x6_2 true a1_0 l1_1 l1_2 l1_3 l1_4) else (if x6_2 < (l0.length : Int) then (if ((rd_T31 l0 x6_2).f0) ≥ 0 then (if 0 ≤ ((rd_T31 l0 x6_2).f0) then (if ((rd_T31 l0 x6_2).f0) < (l1_1.length : Int) then (ref39_Valid.j3 kj21 l0 (l0.length : Int) x6_2 ((rd l1_1 ((rd_T31 l0 x6_2).f0)) != 2) a1_0 l1_1 l1_2 l1_3 l1_4) else (none)) else (none)) else (ref39_Valid.j3 kj21 l0 (l0.length : Int) x6_2 false a1_0 l1_1 l1_2 l1_3 l1_4)) else (none))) else (none)) = some r := by rw [if_neg (show ¬ (false = true) by decide)] at H; exact H
                 clear H
                 have H := H1
                 clear H1
                 by_cases c38 : x6_2 < (l1_4.length : Int)
                 ·rw [if_pos c38] at H
                  have c38b0 : decide (x6_2 < (l1_4.length : Int)) = true := decide_eq_true c38
                  clear c38
                  obtain ⟨bq39, hbq39⟩ : ∃ b_ : Bool, b_ = (rdOf false l1_4 x6_2) := ⟨_, rfl⟩
                  replace H : (if bq39 = true then (ref39_Valid.j3 kj21 l0 (l0.length : Int) x6_2 true a1_0 l1_1 l1_2 l1_3 l1_4) else (if x6_2 < (l0.length : Int) then (if ((rd_T31 l0 x6_2).f0) ≥ 0 then (if 0 ≤ ((rd_T31 l0 x6_2).f0) then (if ((rd_T31 l0 x6_2).f0) < (l1_1.length : Int) then (ref39_Valid.j3 kj21 l0 (l0.length : Int) x6_2 ((rd l1_1 ((rd_T31 l0 x6_2).f0)) != 2) a1_0 l1_1 l1_2 l1_3 l1_4) else (none)) else (none)) else (ref39_Valid.j3 kj21 l0 (l0.length : Int) x6_2 false a1_0 l1_1 l1_2 l1_3 l1_4)) else (none))) = some r := by rw [← hbq39] at H; exact H
                  have Nbq39 := Aside0.mk hbq39
                  clear hbq39
                  by_cases c40 : bq39 = true
                  ·subst c40
                   have H1 : (ref39_Valid.j3 kj21 l0 (l0.length : Int) x6_2 true a1_0 l1_1 l1_2 l1_3 l1_4) = some r := by rw [if_pos rfl] at H; exact H
                   clear H
                   have H := H1
                   clear H1
                   have H' := Aside0.mk H
                   clear H
                   have hcz41_0 : wc.cell? ⟨gb358, 0, none⟩ = some (.int .i64 a1_0) := (blk_cell BK358.out 0).trans rfl
                   have hcz41_1 : wc.cell? ⟨gb358, 1, none⟩ = some (.slice (some ad360) l1_1.length c1_1) := (blk_cell BK358.out 1).trans rfl
                   have hcz41_2 : wc.cell? ⟨gb358, 2, none⟩ = some (.slice A1_2 l1_2.length c1_2) := (blk_cell BK358.out 2).trans rfl
                   have hcz41_3 : wc.cell? ⟨gb358, 3, none⟩ = some (.slice A1_3 l1_3.length c1_3) := (blk_cell BK358.out 3).trans rfl
                   have hcz41_4 : wc.cell? ⟨gb358, 4, none⟩ = some (.slice A1_4 l1_4.length c1_4) := (blk_cell BK358.out 4).trans rfl
                   have hfz41_0 := blk_frozen BK358.out 0
                   have hfz41_1 := blk_frozen BK358.out 1
                   have hfz41_2 := blk_frozen BK358.out 2
                   have hfz41_3 := blk_frozen BK358.out 3
                   have hfz41_4 := blk_frozen BK358.out 4
                   have p363 : 0 ≤ (x6_2 : Int) := of_decide_eq_true (by first | (with_reducible assumption) | assumption)
                   have q363 : x6_2 < (l1_3.length : Int) := of_decide_eq_true (by first | (with_reducible assumption) | assumption)
                   obtain ⟨ad363, e363, hx363_0⟩ := Kd.at_bool HR1_3.out x6_2 p363 q363
                   (try rw [← Nbq35.out] at hx363_0)
                   (try rw [← Nbq39.out] at hx363_0)
                   cases e363
                   replace hx363_0 := (HB.out.cell (World.block_lt_of_cell? w _ hx363_0)).trans hx363_0
                   replace p363 := eq_true p363
                   replace q363 := eq_true q363
                   have p364 : 0 ≤ (x6_2 : Int) := of_decide_eq_true (by first | (with_reducible assumption) | assumption)
                   have q364 : x6_2 < (l1_4.length : Int) := of_decide_eq_true (by first | (with_reducible assumption) | assumption)
                   obtain ⟨ad364, e364, hx364_0⟩ := Kd.at_bool HR1_4.out x6_2 p364 q364
                   (try rw [← Nbq35.out] at hx364_0)
                   (try rw [← Nbq39.out] at hx364_0)
                   cases e364
                   replace hx364_0 := (HB.out.cell (World.block_lt_of_cell? w _ hx364_0)).trans hx364_0
                   replace p364 := eq_true p364
                   replace q364 := eq_true q364
                   go_wp2
                   repeat (go_quiet (fail); try go_wp2)
                   go_meet
                   case rel => exact ⟨_, (true), (by first | rfl | (simp; done) | (simp [*]; done)), H', ⟨by have := HJ2.out; have := HK2.out; have := HJ21.out; first | omega | exact Nat.le_refl _⟩, ⟨by (with_reducible repeat (first | refine blk_drewN ?_ _ | refine blk_drew ?_ | refine blk_alloc ?_ _)); exact BK358.out⟩, ⟨by repeat (first | (with_reducible first | exact HB.out | apply below_alloc | apply pw_below_drewN | apply below_drew1 | refine below_set ?_ GE358.out) | exact HB.out)⟩⟩
                  ·replace c40 := Bool.eq_false_iff.mpr c40
                   subst c40
                   have H1 : (if x6_2 < (l0.length : Int) then (if ((rd_T31 l0 x6_2).f0) ≥ 0 then (if 0 ≤ ((rd_T31 l0 x6_2).f0) then (if ((rd_T31 l0 x6_2).f0) < (l1_1.length : Int) then (ref39_Valid.j3 kj21 l0 (l0.length : Int) x6_2 ((rd l1_1 ((rd_T31 l0 x6_2).f0)) != 2) a1_0 l1_1 l1_2 l1_3 l1_4) else (none)) else (none)) else (ref39_Valid.j3 kj21 l0 (l0.length : Int) x6_2 false a1_0 l1_1 l1_2 l1_3 l1_4)) else (none)) = some r := by rw [if_neg (show ¬ (false = true) by decide)] at H; exact H
                   clear H
                   have H := H1
                   clear H1
                   by_cases c42 : x6_2 < (l0.length : Int)
                   ·rw [if_pos c42] at H
                    have c42b0 : decide (x6_2 < (l0.length : Int)) = true := decide_eq_true c42
                    clear c42
                    by_cases c43 : ((rd_T31 l0 x6_2).f0) ≥ 0
                    ·rw [if_pos c43] at H
                     have c43b0 : decide (0 ≤ ((rd_T31 l0 x6_2).f0)) = true := decide_eq_true c43
                     clear c43
                     by_cases c44 : 0 ≤ ((rd_T31 l0 x6_2).f0)
                     ·rw [if_pos c44] at H
                      have c44b0 : decide (0 ≤ ((rd_T31 l0 x6_2).f0)) = true := decide_eq_true c44
                      clear c44
                      by_cases c45 : ((rd_T31 l0 x6_2).f0) < (l1_1.length : Int)
                      ·rw [if_pos c45] at H
                       have c45b0 : decide (((rd_T31 l0 x6_2).f0) < (l1_1.length : Int)) = true := decide_eq_true c45
                       clear c45
                       have H' := Aside0.mk H
                       clear H
                       have hcz46_0 : wc.cell? ⟨gb358, 0, none⟩ = some (.int .i64 a1_0) := (blk_cell BK358.out 0).trans rfl
                       have hcz46_1 : wc.cell? ⟨gb358, 1, none⟩ = some (.slice (some ad360) l1_1.length c1_1) := (blk_cell BK358.out 1).trans rfl
                       have hcz46_2 : wc.cell? ⟨gb358, 2, none⟩ = some (.slice A1_2 l1_2.length c1_2) := (blk_cell BK358.out 2).trans rfl
                       have hcz46_3 : wc.cell? ⟨gb358, 3, none⟩ = some (.slice A1_3 l1_3.length c1_3) := (blk_cell BK358.out 3).trans rfl
                       have hcz46_4 : wc.cell? ⟨gb358, 4, none⟩ = some (.slice A1_4 l1_4.length c1_4) := (blk_cell BK358.out 4).trans rfl
                       have hfz46_0 := blk_frozen BK358.out 0
                       have hfz46_1 := blk_frozen BK358.out 1
                       have hfz46_2 := blk_frozen BK358.out 2
                       have hfz46_3 := blk_frozen BK358.out 3
                       have hfz46_4 := blk_frozen BK358.out 4
                       have p363 : 0 ≤ (x6_2 : Int) := of_decide_eq_true (by first | (with_reducible assumption) | assumption)
                       have q363 : x6_2 < (l1_3.length : Int) := of_decide_eq_true (by first | (with_reducible assumption) | assumption)
                       obtain ⟨ad363, e363, hx363_0⟩ := Kd.at_bool HR1_3.out x6_2 p363 q363
                       (try rw [← Nbq35.out] at hx363_0)
                       (try rw [← Nbq39.out] at hx363_0)
                       cases e363
                       replace hx363_0 := (HB.out.cell (World.block_lt_of_cell? w _ hx363_0)).trans hx363_0
                       replace p363 := eq_true p363
                       replace q363 := eq_true q363
                       have p364 : 0 ≤ (x6_2 : Int) := of_decide_eq_true (by first | (with_reducible assumption) | assumption)
                       have q364 : x6_2 < (l1_4.length : Int) := of_decide_eq_true (by first | (with_reducible assumption) | assumption)
                       obtain ⟨ad364, e364, hx364_0⟩ := Kd.at_bool HR1_4.out x6_2 p364 q364
                       (try rw [← Nbq35.out] at hx364_0)
                       (try rw [← Nbq39.out] at hx364_0)
                       cases e364
                       replace hx364_0 := (HB.out.cell (World.block_lt_of_cell? w _ hx364_0)).trans hx364_0
                       replace p364 := eq_true p364
                       replace q364 := eq_true q364
                       have p365 : 0 ≤ (x6_2 : Int) := of_decide_eq_true (by first | (with_reducible assumption) | assumption)
                       have q365 : x6_2 < (l0.length : Int) := of_decide_eq_true (by first | (with_reducible assumption) | assumption)
                       obtain ⟨ad365, e365, hx365_0, hx365_1⟩ := at_T31 HR0.out x6_2 p365 q365
                       cases e365
                       replace hx365_0 := (HB.out.cell (World.block_lt_of_cell? w _ hx365_0)).trans hx365_0
                       replace hx365_1 := (HB.out.cell (World.block_lt_of_cell? w _ hx365_1)).trans hx365_1
                       replace p365 := eq_true p365
                       replace q365 := eq_true q365
                       have p366 : 0 ≤ (x6_2 : Int) := of_decide_eq_true (by first | (with_reducible assumption) | assumption)
                       have q366 : x6_2 < (l0.length : Int) := of_decide_eq_true (by first | (with_reducible assumption) | assumption)
                       obtain ⟨ad366, e366, hx366_0, hx366_1⟩ := at_T31 HR0.out x6_2 p366 q366
                       obtain rfl : ad365 = ad366 := (by injection e366)
                       replace hx366_0 := (HB.out.cell (World.block_lt_of_cell? w _ hx366_0)).trans hx366_0
                       replace hx366_1 := (HB.out.cell (World.block_lt_of_cell? w _ hx366_1)).trans hx366_1
                       replace p366 := eq_true p366
                       replace q366 := eq_true q366
                       have p367 : 0 ≤ (((rd_T31 l0 x6_2).f0) : Int) := of_decide_eq_true (by first | (with_reducible assumption) | assumption)
                       have q367 : ((rd_T31 l0 x6_2).f0) < (l1_1.length : Int) := of_decide_eq_true (by first | (with_reducible assumption) | assumption)
                       obtain ⟨ad367, e367, hx367_0⟩ := Kd.at_int HR1_1.out ((rd_T31 l0 x6_2).f0) p367 q367
                       obtain rfl : ad360 = ad367 := (by injection e367)
                       replace hx367_0 := (HB.out.cell (World.block_lt_of_cell? w _ hx367_0)).trans hx367_0
                       replace p367 := eq_true p367
                       replace q367 := eq_true q367
                       go_wp2
                       repeat (go_quiet (fail); try go_wp2)
                       go_meet
                       case rel => exact ⟨_, (((rd l1_1 ((rd_T31 l0 x6_2).f0)) != 2)), (by first | rfl | (simp; done) | (simp [*]; done)), H', ⟨by have := HJ2.out; have := HK2.out; have := HJ21.out; first | omega | exact Nat.le_refl _⟩, ⟨by (with_reducible repeat (first | refine blk_drewN ?_ _ | refine blk_drew ?_ | refine blk_alloc ?_ _)); exact BK358.out⟩, ⟨by repeat (first | (with_reducible first | exact HB.out | apply below_alloc | apply pw_below_drewN | apply below_drew1 | refine below_set ?_ GE358.out) | exact HB.out)⟩⟩
                      ·rw [if_neg c45] at H
                       exact absurd H (by simp)
                     ·rw [if_neg c44] at H
                      exact absurd H (by simp)
                    ·rw [if_neg c43] at H
                     have c43b0 : decide (0 ≤ ((rd_T31 l0 x6_2).f0)) = false := decide_eq_false c43
                     clear c43
                     have H' := Aside0.mk H
                     clear H
                     have hcz47_0 : wc.cell? ⟨gb358, 0, none⟩ = some (.int .i64 a1_0) := (blk_cell BK358.out 0).trans rfl
                     have hcz47_1 : wc.cell? ⟨gb358, 1, none⟩ = some (.slice (some ad360) l1_1.length c1_1) := (blk_cell BK358.out 1).trans rfl
                     have hcz47_2 : wc.cell? ⟨gb358, 2, none⟩ = some (.slice A1_2 l1_2.length c1_2) := (blk_cell BK358.out 2).trans rfl
                     have hcz47_3 : wc.cell? ⟨gb358, 3, none⟩ = some (.slice A1_3 l1_3.length c1_3) := (blk_cell BK358.out 3).trans rfl
                     have hcz47_4 : wc.cell? ⟨gb358, 4, none⟩ = some (.slice A1_4 l1_4.length c1_4) := (blk_cell BK358.out 4).trans rfl
                     have hfz47_0 := blk_frozen BK358.out 0
                     have hfz47_1 := blk_frozen BK358.out 1
                     have hfz47_2 := blk_frozen BK358.out 2
                     have hfz47_3 := blk_frozen BK358.out 3
                     have hfz47_4 := blk_frozen BK358.out 4
                     have p363 : 0 ≤ (x6_2 : Int) := of_decide_eq_true (by first | (with_reducible assumption) | assumption)
                     have q363 : x6_2 < (l1_3.length : Int) := of_decide_eq_true (by first | (with_reducible assumption) | assumption)
                     obtain ⟨ad363, e363, hx363_0⟩ := Kd.at_bool HR1_3.out x6_2 p363 q363
                     (try rw [← Nbq35.out] at hx363_0)
                     (try rw [← Nbq39.out] at hx363_0)
                     cases e363
                     replace hx363_0 := (HB.out.cell (World.block_lt_of_cell? w _ hx363_0)).trans hx363_0
                     replace p363 := eq_true p363
                     replace q363 := eq_true q363
                     have p364 : 0 ≤ (x6_2 : Int) := of_decide_eq_true (by first | (with_reducible assumption) | assumption)
                     have q364 : x6_2 < (l1_4.length : Int) := of_decide_eq_true (by first | (with_reducible assumption) | assumption)
                     obtain ⟨ad364, e364, hx364_0⟩ := Kd.at_bool HR1_4.out x6_2 p364 q364
                     (try rw [← Nbq35.out] at hx364_0)
                     (try rw [← Nbq39.out] at hx364_0)
                     cases e364
                     replace hx364_0 := (HB.out.cell (World.block_lt_of_cell? w _ hx364_0)).trans hx364_0
                     replace p364 := eq_true p364
                     replace q364 := eq_true q364
                     have p365 : 0 ≤ (x6_2 : Int) := of_decide_eq_true (by first | (with_reducible assumption) | assumption)
                     have q365 : x6_2 < (l0.length : Int) := of_decide_eq_true (by first | (with_reducible assumption) | assumption)
                     obtain ⟨ad365, e365, hx365_0, hx365_1⟩ := at_T31 HR0.out x6_2 p365 q365
                     cases e365
                     replace hx365_0 := (HB.out.cell (World.block_lt_of_cell? w _ hx365_0)).trans hx365_0
                     replace hx365_1 := (HB.out.cell (World.block_lt_of_cell? w _ hx365_1)).trans hx365_1
                     replace p365 := eq_true p365
                     replace q365 := eq_true q365
                     go_wp2
                     repeat (go_quiet (fail); try go_wp2)
                     go_meet
                     case rel => exact ⟨_, (false), (by first | rfl | (simp; done) | (simp [*]; done)), H', ⟨by have := HJ2.out; have := HK2.out; have := HJ21.out; first | omega | exact Nat.le_refl _⟩, ⟨by (with_reducible repeat (first | refine blk_drewN ?_ _ | refine blk_drew ?_ | refine blk_alloc ?_ _)); exact BK358.out⟩, ⟨by repeat (first | (with_reducible first | exact HB.out | apply below_alloc | apply pw_below_drewN | apply below_drew1 | refine below_set ?_ GE358.out) | exact HB.out)⟩⟩
                   ·rw [if_neg c42] at H
                    exact absurd H (by simp)
                 ·rw [if_neg c38] at H
                  exact absurd H (by simp)
               ·rw [if_neg c34] at H
                exact absurd H (by simp)
              ·rw [if_neg c33] at H
               exact absurd H (by simp)
            case rest =>
             clear HC31; (try clear c1); (try clear c2); (try clear p2); (try clear c3); (try clear p3); (try clear q3); (try clear hx3); (try clear c4); (try clear c6); (try clear c7); (try clear c7b0); (try clear c7b1); (try clear c7b2); (try clear c8); (try clear c8b0); (try clear c8b1); (try clear c8b2); (try clear c9); (try clear c9b0); (try clear c9b1); (try clear c9b2); (try clear c10); (try clear c10b0); (try clear c10b1); (try clear c10b2); (try clear c11); (try clear c11b0); (try clear c18); (try clear c19); (try clear c19b0); (try clear c20); (try clear c20b0); (try clear c21); (try clear c21b0)
             (try clear c24); (try clear c24b0); (try clear c25); (try clear c25b0); (try clear c26); (try clear c26b0); (try clear c27); (try clear c27b0); (try clear c30); (try clear c32); (try clear c32b0); (try clear c32b1); (try clear c33); (try clear c33b0); (try clear c34); (try clear c34b0); (try clear q35); (try clear c36); (try clear p36); (try clear q36); (try clear hx36); (try clear c38); (try clear c38b0); (try clear q39); (try clear c40); (try clear c42); (try clear c42b0); (try clear c43); (try clear c43b0); (try clear c44); (try clear c44b0); (try clear c45); (try clear c45b0); (try clear hcz12_0)
             (try clear hcz12_1); (try clear hcz12_2); (try clear hcz12_3); (try clear hcz12_4); (try clear hcz13_0); (try clear hcz13_1); (try clear hcz13_2); (try clear hcz13_3); (try clear hcz13_4); (try clear hcz14_0); (try clear hcz14_1); (try clear hcz14_2); (try clear hcz14_3); (try clear hcz14_4); (try clear hcz15_0); (try clear hcz15_1); (try clear hcz15_2); (try clear hcz15_3); (try clear hcz15_4); (try clear hcz16_0); (try clear hcz16_1); (try clear hcz16_2); (try clear hcz16_3); (try clear hcz16_4); (try clear hcz17_0); (try clear hcz17_1); (try clear hcz17_2); (try clear hcz17_3); (try clear hcz17_4)
             (try clear hcz23_0); (try clear hcz23_1); (try clear hcz23_2); (try clear hcz23_3); (try clear hcz23_4); (try clear hcz28_0); (try clear hcz28_1); (try clear hcz28_2); (try clear hcz28_3); (try clear hcz28_4); (try clear hcz29_0); (try clear hcz29_1); (try clear hcz29_2); (try clear hcz29_3); (try clear hcz29_4); (try clear hcz37_0); (try clear hcz37_1); (try clear hcz37_2); (try clear hcz37_3); (try clear hcz37_4); (try clear hcz41_0); (try clear hcz41_1); (try clear hcz41_2); (try clear hcz41_3); (try clear hcz41_4); (try clear hcz46_0); (try clear hcz46_1); (try clear hcz46_2); (try clear hcz46_3)
             (try clear hcz46_4); (try clear hcz47_0); (try clear hcz47_1); (try clear hcz47_2); (try clear hcz47_3); (try clear hcz47_4); (try clear hfz12_0); (try clear hfz12_1); (try clear hfz12_2); (try clear hfz12_3); (try clear hfz12_4); (try clear hfz13_0); (try clear hfz13_1); (try clear hfz13_2); (try clear hfz13_3); (try clear hfz13_4); (try clear hfz14_0); (try clear hfz14_1); (try clear hfz14_2); (try clear hfz14_3); (try clear hfz14_4); (try clear hfz15_0); (try clear hfz15_1); (try clear hfz15_2); (try clear hfz15_3); (try clear hfz15_4); (try clear hfz16_0); (try clear hfz16_1); (try clear hfz16_2)
             (try clear hfz16_3); (try clear hfz16_4); (try clear hfz17_0); (try clear hfz17_1); (try clear hfz17_2); (try clear hfz17_3); (try clear hfz17_4); (try clear hfz23_0); (try clear hfz23_1); (try clear hfz23_2); (try clear hfz23_3); (try clear hfz23_4); (try clear hfz28_0); (try clear hfz28_1); (try clear hfz28_2); (try clear hfz28_3); (try clear hfz28_4); (try clear hfz29_0); (try clear hfz29_1); (try clear hfz29_2); (try clear hfz29_3); (try clear hfz29_4); (try clear hfz37_0); (try clear hfz37_1); (try clear hfz37_2); (try clear hfz37_3); (try clear hfz37_4); (try clear hfz41_0); (try clear hfz41_1)
             (try clear hfz41_2); (try clear hfz41_3); (try clear hfz41_4); (try clear hfz46_0); (try clear hfz46_1); (try clear hfz46_2); (try clear hfz46_3); (try clear hfz46_4); (try clear hfz47_0); (try clear hfz47_1); (try clear hfz47_2); (try clear hfz47_3); (try clear hfz47_4); (try clear hx360_0); (try clear hx361_0); (try clear hx362_0); (try clear hx363_0); (try clear hx364_0); (try clear hx365_0); (try clear hx365_1); (try clear hx366_0); (try clear hx366_1); (try clear hx367_0); (try clear p2); (try clear p3); (try clear p360); (try clear p361); (try clear p362); (try clear p363); (try clear p364)
             (try clear p365); (try clear p366); (try clear p367); (try clear q3); (try clear q360); (try clear q361); (try clear q362); (try clear q363); (try clear q364); (try clear q365); (try clear q366); (try clear q367)
             obtain ⟨kq, x120_30, rfl, HA, HJ30, BK358, HB⟩ := hcut
             cases kq with
             | zero => exact absurd HA.out (by simp [ref39_Valid.j3])
             | succ kj30 =>
              have H := HA.out
              clear HA
              simp only [ref39_Valid.j3] at H
              by_cases c48 : x120_30 = true
              ·subst c48
               have H1 : (some false) = some r := by rw [if_pos rfl] at H; exact H
               clear H
               have H := H1
               clear H1
               obtain rfl := Option.some.inj H
               go_wp2
               repeat (go_quiet (fail); try go_wp2)
               go_ret
               exact ⟨by first | rfl | (simp [errW_none, errW_some] <;> rfl) | (simp [*, errW_none, errW_some] <;> rfl), by repeat (first | (with_reducible first | exact HB.out | apply below_alloc | apply pw_below_drewN | apply below_drew1 | refine below_set ?_ GE358.out) | exact HB.out)⟩
              ·replace c48 := Bool.eq_false_iff.mpr c48
               subst c48
               have H1 : (ref39_Valid.l0 kj30 l0 (l0.length : Int) (wrap64 (x6_2 + 1)) a1_0 l1_1 l1_2 l1_3 l1_4) = some r := by rw [if_neg (show ¬ (false = true) by decide)] at H; exact H
               clear H
               have H := H1
               clear H1
               have H' := Aside0.mk H
               clear H
               go_wp2
               repeat (go_quiet (fail); try go_wp2)
               go_roundg kj30
               case measure => have := HJ2.out; have := HK2.out; have := HJ21.out; have := HJ30.out; omega
               case rel => exact ⟨(wrap64 (x6_2 + 1)), (by first | rfl | (simp; done) | (simp [*]; done)), H', ⟨by have := HJ2.out; have := HK2.out; have := HJ21.out; have := HJ30.out; omega⟩, ⟨by (with_reducible repeat (first | refine blk_drewN ?_ _ | refine blk_drew ?_ | refine blk_alloc ?_ _)); exact BK358.out⟩, ⟨by repeat (first | (with_reducible first | exact HB.out | apply below_alloc | apply pw_below_drewN | apply below_drew1 | refine below_set ?_ GE358.out) | exact HB.out)⟩⟩
        ·rw [if_neg c21] at H
         exact absurd H (by simp)
       ·rw [if_neg c20] at H
        exact absurd H (by simp)
      ·rw [if_neg c19] at H
       have c19b0 : decide (x6_2 < (l0.length : Int)) = false := decide_eq_false c19
       clear c19
       obtain rfl := Option.some.inj H
       go_wp2
       repeat (go_quiet (fail); try go_wp2)
       go_ret
       exact ⟨by first | rfl | (simp [errW_none, errW_some] <;> rfl) | (simp [*, errW_none, errW_some] <;> rfl), by repeat (first | (with_reducible first | exact HB.out | apply below_alloc | apply pw_below_drewN | apply below_drew1 | refine below_set ?_ GE358.out) | exact HB.out)⟩

end Go.Proofs.Ytejmjeanhlkenaa.PB

-- written by wip/myprint.py (the kit's print over hand-proved contracts)
namespace Go.Proofs.Ytejmjeanhlkenaa.PB
open Go.RowKit Go.Proofs.YtejmjeanhlkenaaW.PrintWords Go.Proofs.YtejmjeanhlkenaaW.PrintLast Go.Proofs.YtejmjeanhlkenaaW.PrintMore
attribute [local go_sem] max2_int min2_int max_two min_two max_three min_three max_four min_four   -- for this text's walks alone
set_option linter.unusedVariables false
set_option linter.unusedSimpArgs false

/-! ### ref39_check: function 57 -/
def ref39_check.j0 : Nat → Bool → Option (Int)
 | 0, _ => none
 | k + 1, x18 => if x18 = true then (some 52) else (some 0)
def ref39_check.f (k : Nat) (l0 : List (S31)) (a1_0 : Int) (l1_1 : List Int) (l1_2 : List Int) (l1_3 : List Bool) (l1_4 : List Bool) (a2 : Int) : Option (Int) := (ref39_Valid.f k l0 a1_0 l1_1 l1_2 l1_3 l1_4).bind fun t369 => (if t369 = true then (if a2 < 0 then (ref39_check.j0 k true) else (ref39_check.j0 k (decide (a2 ≥ (l0.length : Int))))) else (some 6))
theorem ref39_check.mono_l : ∀ k, (∀ y0, LeO (ref39_check.j0 k y0) (ref39_check.j0 (k + 1) y0))
 | 0 => fun _ r h => by simp [ref39_check.j0] at h
 | k + 1 => by
  have ih0 := ref39_check.mono_l k
  ·intro y0
   unfold ref39_check.j0
   repeat' first
   | (with_reducible exact ih0 _)
   | (with_reducible exact ref39_Valid.mono _ _ _ _ _ _ _)
   | (with_reducible exact LeO.refl _)
   | (with_reducible exact LeO.none _)
   | (with_reducible refine LeO.ite ?_ ?_)
   | (with_reducible refine LeO.bind ?_ (fun _ => ?_))
   | exact ih0 _
   | exact ref39_Valid.mono _ _ _ _ _ _ _
   | exact LeO.none _
   | refine LeO.ite ?_ ?_
   | refine LeO.bind ?_ (fun _ => ?_)
theorem ref39_check.mono : ∀ a0 a1 a2 a3 a4 a5 a6 k, LeO (ref39_check.f k a0 a1 a2 a3 a4 a5 a6) (ref39_check.f (k + 1) a0 a1 a2 a3 a4 a5 a6) := by
 intro a0 a1 a2 a3 a4 a5 a6 k
 have ih0 := ref39_check.mono_l k
 unfold ref39_check.f
 repeat' first
   | (with_reducible exact ih0 _)
   | (with_reducible exact ref39_Valid.mono _ _ _ _ _ _ _)
   | (with_reducible exact LeO.refl _)
   | (with_reducible exact LeO.none _)
   | (with_reducible refine LeO.ite ?_ ?_)
   | (with_reducible refine LeO.bind ?_ (fun _ => ?_))
   | exact ih0 _
   | exact ref39_Valid.mono _ _ _ _ _ _ _
   | exact LeO.none _
   | refine LeO.ite ?_ ?_
   | refine LeO.bind ?_ (fun _ => ?_)
set_option maxHeartbeats 8000000 in
set_option maxRecDepth 100000 in
theorem ref39_check.calls (k : Nat) (A0 : Option Addr) (c0 : Nat) (l0 : List (S31)) (a1_0 : Int) (A1_1 : Option Addr) (c1_1 : Nat) (l1_1 : List Int) (A1_2 : Option Addr) (c1_2 : Nat) (l1_2 : List Int) (A1_3 : Option Addr) (c1_3 : Nat) (l1_3 : List Bool) (A1_4 : Option Addr) (c1_4 : Nat) (l1_4 : List Bool) (a2 : Int) (r : Int) (w : World) (hr0 : Kd.C k31 w A0 l0.length l0) (hc0 : l0.length ≤ c0) (hr1_1 : Kd.C (Kd.int .i64) w A1_1 l1_1.length l1_1) (hc1_1 : l1_1.length ≤ c1_1) (hr1_2 : Kd.C (Kd.int .i64) w A1_2 l1_2.length l1_2) (hc1_2 : l1_2.length ≤ c1_2) (hr1_3 : Kd.C Kd.bool w A1_3 l1_3.length l1_3) (hc1_3 : l1_3.length ≤ c1_3) (hr1_4 : Kd.C Kd.bool w A1_4 l1_4.length l1_4) (hc1_4 : l1_4.length ≤ c1_4) (h : ref39_check.f k l0 a1_0 l1_1 l1_2 l1_3 l1_4 a2 = some r) :
  Calls Try.prog 57 #[.slice A0 l0.length c0, .agg #[.int .i64 a1_0, .slice A1_1 l1_1.length c1_1, .slice A1_2 l1_2.length c1_2, .slice A1_3 l1_3.length c1_3, .slice A1_4 l1_4.length c1_4], .int .i64 a2] w fun e w' => e = .returned (.int .i64 r) ∧ Below w.heap.size w w' := by
 have hu34 := Try.underlying34
 have HR0 := Aside0.mk hr0
 have HC0 := Aside0.mk hc0
 clear hr0 hc0
 have HR1_1 := Aside0.mk hr1_1
 have HC1_1 := Aside0.mk hc1_1
 clear hr1_1 hc1_1
 have HR1_2 := Aside0.mk hr1_2
 have HC1_2 := Aside0.mk hc1_2
 clear hr1_2 hc1_2
 have HR1_3 := Aside0.mk hr1_3
 have HC1_3 := Aside0.mk hc1_3
 clear hr1_3 hc1_3
 have HR1_4 := Aside0.mk hr1_4
 have HC1_4 := Aside0.mk hc1_4
 clear hr1_4 hc1_4
 have HB := Aside0.mk (Below.refl w.heap.size w)
 have H : ((ref39_Valid.f k l0 a1_0 l1_1 l1_2 l1_3 l1_4).bind fun t369 => (if t369 = true then (if a2 < 0 then (ref39_check.j0 k true) else (ref39_check.j0 k (decide (a2 ≥ (l0.length : Int))))) else (some 6))) = some r := h
 clear h
 replace H := Option.bind_eq_some_iff.mp H
 obtain ⟨t369, A40, H⟩ := H
 replace H : (if t369 = true then (if a2 < 0 then (ref39_check.j0 k true) else (ref39_check.j0 k (decide (a2 ≥ (l0.length : Int))))) else (some 6)) = some r := H
 have A4 := Aside0.mk A40
 clear A40
 by_cases c5 : t369 = true
 ·subst c5
  have H1 : (if a2 < 0 then (ref39_check.j0 k true) else (ref39_check.j0 k (decide (a2 ≥ (l0.length : Int))))) = some r := by rw [if_pos rfl] at H; exact H
  clear H
  have H := H1
  clear H1
  have HC6 := Aside0.mk H
  clear H
  go_enter Try.func57, Try.ntmps57
  go_upto_region 3 with (first | ((with_reducible refine gate_dst (N := 4) rfl ?_); (try (refine gate_guard (by rfl) ?_; dsimp only)); refine box_event ?hg (N := 4) ?hd (cs := #[.int .i64 a1_0, .slice A1_1 l1_1.length c1_1, .slice A1_2 l1_2.length c1_2, .slice A1_3 l1_3.length c1_3, .slice A1_4 l1_4.length c1_4]) (t := 34) ?hr ?_; (case hd => rfl); (case hg => rfl); (case hr => first | (go_simp; done) | (go_simp; rfl)); intro gb368 hg w7 hbox hb; have n0_ := Aside0.mk (below_step (by repeat (first | (with_reducible first | exact HB.out | apply below_alloc | apply pw_below_drewN | apply below_drew1) | exact HB.out)) hb); have n1_ := Aside0.mk (hbox); have n2_ := Aside0.mk ((by rw [hg]; exact (below_size (by repeat (first | (with_reducible first | exact HB.out | apply below_alloc | apply pw_below_drewN | apply below_drew1) | exact HB.out))) : w.heap.size ≤ gb368)); have n3_ := Aside0.mk ((by rw [hg]; exact (below_size (by repeat (first | (with_reducible first | exact HB.out | apply below_alloc | apply pw_below_drewN | apply below_drew1) | exact HB.out))) : w.heap.size ≤ gb368)); clear HB; have HB := n0_; have BK368 := n1_; have GW368 := n2_; have GE368 := n3_; clear n0_ n1_ n2_ n3_; clear hb hbox hg; have hcz8_0 : w7.cell? ⟨gb368, 0, none⟩ = some (.int .i64 a1_0) := (blk_cell BK368.out 0).trans rfl; have hcz8_1 : w7.cell? ⟨gb368, 1, none⟩ = some (.slice A1_1 l1_1.length c1_1) := (blk_cell BK368.out 1).trans rfl; have hcz8_2 : w7.cell? ⟨gb368, 2, none⟩ = some (.slice A1_2 l1_2.length c1_2) := (blk_cell BK368.out 2).trans rfl; have hcz8_3 : w7.cell? ⟨gb368, 3, none⟩ = some (.slice A1_3 l1_3.length c1_3) := (blk_cell BK368.out 3).trans rfl; have hcz8_4 : w7.cell? ⟨gb368, 4, none⟩ = some (.slice A1_4 l1_4.length c1_4) := (blk_cell BK368.out 4).trans rfl; have hfz8_0 := blk_frozen BK368.out 0; have hfz8_1 := blk_frozen BK368.out 1; have hfz8_2 := blk_frozen BK368.out 2; have hfz8_3 := blk_frozen BK368.out 3; have hfz8_4 := blk_frozen BK368.out 4) | ((with_reducible refine gate_callee (f := 41) rfl ?_); refine goesL_ (some 9) rfl rfl Try.func41 (by kernel_rfl) rfl #[.slice A0 l0.length c0, .agg #[.int .i64 a1_0, .slice A1_1 l1_1.length c1_1, .slice A1_2 l1_2.length c1_2, .slice A1_3 l1_3.length c1_3, .slice A1_4 l1_4.length c1_4]] rfl (by (try simp only [List.map_toArray, List.map_cons, List.map_nil]); first | done | rfl | (simp only [List.length_drop, List.length_take]; rfl)) ?_; (with_reducible refine (ref39_Valid.calls k _ _ l0 a1_0 _ _ l1_1 _ _ l1_2 _ _ l1_3 _ _ l1_4 true _ ?side1 ?side2 ?side3 ?side4 ?side5 ?side6 ?side7 ?side8 ?side9 ?side10 A4.out).mono ?_); (case side1 => repeat (first | exact (Kd.C_below HR0.out HB.out) | (with_reducible refine Kd.C_alloc ?_ _) | (with_reducible refine Kd.C_drewN ?_ _) | (with_reducible refine Kd.C_drew ?_))); (case side2 => exact HC0.out); (case side3 => repeat (first | exact (Kd.C_below HR1_1.out HB.out) | (with_reducible refine Kd.C_alloc ?_ _) | (with_reducible refine Kd.C_drewN ?_ _) | (with_reducible refine Kd.C_drew ?_))); (case side4 => exact HC1_1.out); (case side5 => repeat (first | exact (Kd.C_below HR1_2.out HB.out) | (with_reducible refine Kd.C_alloc ?_ _) | (with_reducible refine Kd.C_drewN ?_ _) | (with_reducible refine Kd.C_drew ?_))); (case side6 => exact HC1_2.out); (case side7 => repeat (first | exact (Kd.C_below HR1_3.out HB.out) | (with_reducible refine Kd.C_alloc ?_ _) | (with_reducible refine Kd.C_drewN ?_ _) | (with_reducible refine Kd.C_drew ?_))); (case side8 => exact HC1_3.out); (case side9 => repeat (first | exact (Kd.C_below HR1_4.out HB.out) | (with_reducible refine Kd.C_alloc ?_ _) | (with_reducible refine Kd.C_drewN ?_ _) | (with_reducible refine Kd.C_drew ?_))); (case side10 => exact HC1_4.out); rintro e w9 ⟨rfl, hb⟩; refine ⟨_, rfl, ?_⟩; have n0_ := Aside0.mk (blk_below (g := gb368) (o := .cells #[.int .i64 a1_0, .slice A1_1 l1_1.length c1_1, .slice A1_2 l1_2.length c1_2, .slice A1_3 l1_3.length c1_3, .slice A1_4 l1_4.length c1_4] 34 (0, 0)) (by (with_reducible repeat (first | refine blk_drewN ?_ _ | refine blk_drew ?_ | refine blk_alloc ?_ _)); exact BK368.out) hb); have n1_ := Aside0.mk (below_step (by repeat (first | (with_reducible first | exact HB.out | apply below_alloc | apply pw_below_drewN | apply below_drew1 | refine below_set ?_ GE368.out) | exact HB.out)) hb); clear BK368; clear HB; have BK368 := n0_; have HB := n1_; clear n0_ n1_; (try clear hb); (try clear hb2); (try clear hk); (try clear hi)))
  (try simp only [Act.put, List.setIfInBounds_toArray, List.set_cons_zero, List.set_cons_succ])
  go_cut [18] (fun v18 wc => ∃ (kq : Nat) (x18_5 : Bool), v18 = .bool x18_5 ∧ Aside0 (ref39_check.j0 kq x18_5 = some r) ∧ Aside0 (kq ≤ k) ∧ Aside0 (wc.heap[gb368]? = some (.cells #[.int .i64 a1_0, (.slice A1_1 l1_1.length c1_1), (.slice A1_2 l1_2.length c1_2), (.slice A1_3 l1_3.length c1_3), (.slice A1_4 l1_4.length c1_4)] 34 (0, 0))) ∧ Aside0 (Below w.heap.size w wc))
  case first =>
   have H := HC6.out
   clear HC6
   by_cases c10 : a2 < 0
   ·rw [if_pos c10] at H
    have c10b0 : decide (a2 < 0) = true := decide_eq_true c10
    clear c10
    (first | rw [c10b0] | (simp only [i64_w, i32_w]; rw [c10b0]) | skip)
    have H' := Aside0.mk H
    clear H
    go_wp2
    go_meet
    case rel => exact ⟨_, (true), (by first | rfl | (simp; done) | (simp [*]; done)), H', ⟨by first | omega | exact Nat.le_refl _⟩, ⟨by (with_reducible repeat (first | refine blk_drewN ?_ _ | refine blk_drew ?_ | refine blk_alloc ?_ _)); exact BK368.out⟩, ⟨by repeat (first | (with_reducible first | exact HB.out | apply below_alloc | apply pw_below_drewN | apply below_drew1 | refine below_set ?_ GE368.out) | exact HB.out)⟩⟩
   ·rw [if_neg c10] at H
    have c10b0 : decide (a2 < 0) = false := decide_eq_false c10
    clear c10
    (first | rw [c10b0] | (simp only [i64_w, i32_w]; rw [c10b0]) | skip)
    have H' := Aside0.mk H
    clear H
    go_wp2
    go_meet
    case rel => exact ⟨_, (decide (a2 ≥ (l0.length : Int))), (by first | rfl | (simp; done) | (simp [*]; done)), H', ⟨by first | omega | exact Nat.le_refl _⟩, ⟨by (with_reducible repeat (first | refine blk_drewN ?_ _ | refine blk_drew ?_ | refine blk_alloc ?_ _)); exact BK368.out⟩, ⟨by repeat (first | (with_reducible first | exact HB.out | apply below_alloc | apply pw_below_drewN | apply below_drew1 | refine below_set ?_ GE368.out) | exact HB.out)⟩⟩
  case rest =>
   clear HC6; (try clear c1); (try clear p2); (try clear c4); (try clear c5); (try clear c10); (try clear c10b0); (try clear hcz8_0); (try clear hcz8_1); (try clear hcz8_2); (try clear hcz8_3); (try clear hcz8_4); (try clear hfz8_0); (try clear hfz8_1); (try clear hfz8_2); (try clear hfz8_3); (try clear hfz8_4)
   obtain ⟨kq, x18_5, rfl, HA, HJ5, BK368, HB⟩ := hcut
   cases kq with
   | zero => exact absurd HA.out (by simp [ref39_check.j0])
   | succ kj5 =>
    have H := HA.out
    clear HA
    simp only [ref39_check.j0] at H
    by_cases c11 : x18_5 = true
    ·subst c11
     have H1 : (some 52) = some r := by rw [if_pos rfl] at H; exact H
     clear H
     have H := H1
     clear H1
     obtain rfl := Option.some.inj H
     go_wp2
     go_ret
     exact ⟨by first | rfl | (simp [errW_none, errW_some] <;> rfl) | (simp [*, errW_none, errW_some] <;> rfl), by repeat (first | (with_reducible first | exact HB.out | apply below_alloc | apply pw_below_drewN | apply below_drew1 | refine below_set ?_ GE368.out) | exact HB.out)⟩
    ·replace c11 := Bool.eq_false_iff.mpr c11
     subst c11
     have H1 : (some 0) = some r := by rw [if_neg (show ¬ (false = true) by decide)] at H; exact H
     clear H
     have H := H1
     clear H1
     obtain rfl := Option.some.inj H
     go_wp2
     go_ret
     exact ⟨by first | rfl | (simp [errW_none, errW_some] <;> rfl) | (simp [*, errW_none, errW_some] <;> rfl), by repeat (first | (with_reducible first | exact HB.out | apply below_alloc | apply pw_below_drewN | apply below_drew1 | refine below_set ?_ GE368.out) | exact HB.out)⟩
 ·replace c5 := Bool.eq_false_iff.mpr c5
  subst c5
  have H1 : (some 6) = some r := by rw [if_neg (show ¬ (false = true) by decide)] at H; exact H
  clear H
  have H := H1
  clear H1
  obtain rfl := Option.some.inj H
  go_enter Try.func57, Try.ntmps57
  go_wp2_with (first | ((with_reducible refine gate_dst (N := 4) rfl ?_); (try (refine gate_guard (by rfl) ?_; dsimp only)); refine box_event ?hg (N := 4) ?hd (cs := #[.int .i64 a1_0, .slice A1_1 l1_1.length c1_1, .slice A1_2 l1_2.length c1_2, .slice A1_3 l1_3.length c1_3, .slice A1_4 l1_4.length c1_4]) (t := 34) ?hr ?_; (case hd => rfl); (case hg => rfl); (case hr => first | (go_simp; done) | (go_simp; rfl)); intro gb368 hg w12 hbox hb; have n0_ := Aside0.mk (below_step (by repeat (first | (with_reducible first | exact HB.out | apply below_alloc | apply pw_below_drewN | apply below_drew1) | exact HB.out)) hb); have n1_ := Aside0.mk (hbox); have n2_ := Aside0.mk ((by rw [hg]; exact (below_size (by repeat (first | (with_reducible first | exact HB.out | apply below_alloc | apply pw_below_drewN | apply below_drew1) | exact HB.out))) : w.heap.size ≤ gb368)); have n3_ := Aside0.mk ((by rw [hg]; exact (below_size (by repeat (first | (with_reducible first | exact HB.out | apply below_alloc | apply pw_below_drewN | apply below_drew1) | exact HB.out))) : w.heap.size ≤ gb368)); clear HB; have HB := n0_; have BK368 := n1_; have GW368 := n2_; have GE368 := n3_; clear n0_ n1_ n2_ n3_; clear hb hbox hg; have hcz13_0 : w12.cell? ⟨gb368, 0, none⟩ = some (.int .i64 a1_0) := (blk_cell BK368.out 0).trans rfl; have hcz13_1 : w12.cell? ⟨gb368, 1, none⟩ = some (.slice A1_1 l1_1.length c1_1) := (blk_cell BK368.out 1).trans rfl; have hcz13_2 : w12.cell? ⟨gb368, 2, none⟩ = some (.slice A1_2 l1_2.length c1_2) := (blk_cell BK368.out 2).trans rfl; have hcz13_3 : w12.cell? ⟨gb368, 3, none⟩ = some (.slice A1_3 l1_3.length c1_3) := (blk_cell BK368.out 3).trans rfl; have hcz13_4 : w12.cell? ⟨gb368, 4, none⟩ = some (.slice A1_4 l1_4.length c1_4) := (blk_cell BK368.out 4).trans rfl; have hfz13_0 := blk_frozen BK368.out 0; have hfz13_1 := blk_frozen BK368.out 1; have hfz13_2 := blk_frozen BK368.out 2; have hfz13_3 := blk_frozen BK368.out 3; have hfz13_4 := blk_frozen BK368.out 4) | ((with_reducible refine gate_callee (f := 41) rfl ?_); refine goesL_ (some 9) rfl rfl Try.func41 (by kernel_rfl) rfl #[.slice A0 l0.length c0, .agg #[.int .i64 a1_0, .slice A1_1 l1_1.length c1_1, .slice A1_2 l1_2.length c1_2, .slice A1_3 l1_3.length c1_3, .slice A1_4 l1_4.length c1_4]] rfl (by (try simp only [List.map_toArray, List.map_cons, List.map_nil]); first | done | rfl | (simp only [List.length_drop, List.length_take]; rfl)) ?_; (with_reducible refine (ref39_Valid.calls k _ _ l0 a1_0 _ _ l1_1 _ _ l1_2 _ _ l1_3 _ _ l1_4 false _ ?side1 ?side2 ?side3 ?side4 ?side5 ?side6 ?side7 ?side8 ?side9 ?side10 A4.out).mono ?_); (case side1 => repeat (first | exact (Kd.C_below HR0.out HB.out) | (with_reducible refine Kd.C_alloc ?_ _) | (with_reducible refine Kd.C_drewN ?_ _) | (with_reducible refine Kd.C_drew ?_))); (case side2 => exact HC0.out); (case side3 => repeat (first | exact (Kd.C_below HR1_1.out HB.out) | (with_reducible refine Kd.C_alloc ?_ _) | (with_reducible refine Kd.C_drewN ?_ _) | (with_reducible refine Kd.C_drew ?_))); (case side4 => exact HC1_1.out); (case side5 => repeat (first | exact (Kd.C_below HR1_2.out HB.out) | (with_reducible refine Kd.C_alloc ?_ _) | (with_reducible refine Kd.C_drewN ?_ _) | (with_reducible refine Kd.C_drew ?_))); (case side6 => exact HC1_2.out); (case side7 => repeat (first | exact (Kd.C_below HR1_3.out HB.out) | (with_reducible refine Kd.C_alloc ?_ _) | (with_reducible refine Kd.C_drewN ?_ _) | (with_reducible refine Kd.C_drew ?_))); (case side8 => exact HC1_3.out); (case side9 => repeat (first | exact (Kd.C_below HR1_4.out HB.out) | (with_reducible refine Kd.C_alloc ?_ _) | (with_reducible refine Kd.C_drewN ?_ _) | (with_reducible refine Kd.C_drew ?_))); (case side10 => exact HC1_4.out); rintro e w14 ⟨rfl, hb⟩; refine ⟨_, rfl, ?_⟩; have n0_ := Aside0.mk (blk_below (g := gb368) (o := .cells #[.int .i64 a1_0, .slice A1_1 l1_1.length c1_1, .slice A1_2 l1_2.length c1_2, .slice A1_3 l1_3.length c1_3, .slice A1_4 l1_4.length c1_4] 34 (0, 0)) (by (with_reducible repeat (first | refine blk_drewN ?_ _ | refine blk_drew ?_ | refine blk_alloc ?_ _)); exact BK368.out) hb); have n1_ := Aside0.mk (below_step (by repeat (first | (with_reducible first | exact HB.out | apply below_alloc | apply pw_below_drewN | apply below_drew1 | refine below_set ?_ GE368.out) | exact HB.out)) hb); clear BK368; clear HB; have BK368 := n0_; have HB := n1_; clear n0_ n1_; (try clear hb); (try clear hb2); (try clear hk); (try clear hi)))
  go_ret
  exact ⟨by first | rfl | (simp [errW_none, errW_some] <;> rfl) | (simp [*, errW_none, errW_some] <;> rfl), by repeat (first | (with_reducible first | exact HB.out | apply below_alloc | apply pw_below_drewN | apply below_drew1 | refine below_set ?_ GE368.out) | exact HB.out)⟩

end Go.Proofs.Ytejmjeanhlkenaa.PB
